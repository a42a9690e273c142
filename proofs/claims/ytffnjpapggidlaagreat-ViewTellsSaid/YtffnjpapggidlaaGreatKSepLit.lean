/- SepLit SepRef Umod -/
import Derived.Test.YtffnjpapggidlaaGreatKMem
import Derived.Test.YtffnjpapggidlaaGreatKRefSpan3
import Derived.Test.YtffnjpapggidlaaGreatKClass
import Derived.WalkKit
namespace Go.Proofs.YtffnjpapggidlaaGreat
open Go.RowKit
set_option linter.unusedVariables false
theorem St.lit {w0 w:World} {F0:List Nat} {ps:List Piece} (hs:St w0 F0 ps w) (L:List Int) (hl:L.length≤maxLen) :
    St w0 F0 (RowP (.slice (some ⟨w.heap.size,0,none⟩) L.length L.length) L::ps) (w.alloc (.cells (iV L).toArray 3)) :=
  hs.push (p:=RowP _ L) ((Below.refl _ _).alloc (Nat.le_refl _) _) ⟨_,⟨⟨by simp [iV],.inr ⟨w.heap.size,L.length,_,rfl,Nat.zero_le _,Blk.new _ _ _,Nat.le_refl _,hl,by simp [iV],by rw [List.take_of_length_le (by simp [iV])]⟩⟩,rfl⟩,by simp [Value.ownBlock]⟩
theorem St.lit1 {w0 w:World} {F0:List Nat} {ps:List Piece} (hs:St w0 F0 ps w) (x:Int) :
    St w0 F0 (RowP (.slice (some ⟨w.heap.size,0,none⟩) 1 1) [x]::ps) (w.alloc (.cells #[.int .i64 x] 3)):=hs.lit [x] (by unfold maxLen; simp)
theorem St.lit3 {w0 w:World} {F0:List Nat} {ps:List Piece} (hs:St w0 F0 ps w) (x y z:Int) :
    St w0 F0 (RowP (.slice (some ⟨w.heap.size,0,none⟩) 3 3) [x,y,z]::ps) (w.alloc (.cells #[.int .i64 x,.int .i64 y,.int .i64 z] 3)):=hs.lit [x,y,z] (by unfold maxLen; simp)
end Go.Proofs.YtffnjpapggidlaaGreat
namespace Go.Proofs.YtffnjpapggidlaaGreat
open Go.RowKit
set_option linter.unusedVariables false
def RSpanP (b:Nat) (l:List SRow):Piece where
  at' w F:=RSpanAt w b l F
  keep h k hd:=h.keep k hd
  lt h:=h.lt
section
variable {w0 w:World} {F0:List Nat} {ps:List Piece} {b:Nat} {l:List SRow}
theorem St.rspan (h:St w0 F0 ps w) (k:Nat) (hk:ps[k]?=some (RSpanP b l)):(∀ r ∈ l,RowOk r)∧l.length≤128:=by
  obtain ⟨G,g1,c1,g2,c2,h1,h2,h3,m1,m2,_,h128,hok,_⟩:=h.get k hk
  exact ⟨hok,h128⟩
theorem St.rclass (h:St w0 F0 ps w) (k:Nat) (hk:ps[k]?=some (RSpanP b l)):∃ g c,w.cell? ⟨b,0,none⟩=some (.slice (some ⟨g,0,none⟩) l.length c)∧∀ i (hi:i<l.length),w.cell? ⟨g,i,none⟩=some (.int .i64 l[i].1):=by
  obtain ⟨G,g1,c1,g2,c2,h1,h2,h3,m1,m2,_,h128,hok,_⟩:=h.get k hk
  have e0:=h1.cell 0
  simp at e0
  exact ⟨g1,c1,e0,fun i hi=>(h2.cell i hi).1⟩
theorem rs_Used (h:St w0 F0 ps w) (k:Nat) (hk:ps[k]?=some (RSpanP b l)) (a s:Int) :
    Calls Tryz.prog 197 #[.pointer (some ⟨b,0,none⟩),.int .i64 a,.int .i64 s] w fun e w'=>e=.returned (.bool (sUsed l a s))∧w=w':=by
  obtain ⟨F,h1⟩:=h.get k hk; exact rspan_Used _ _ _ _ _ _ h1
theorem rs_Free (h:St w0 F0 (RSpanP b l::ps) w) (a s:Int) :
    Calls Tryz.prog 229 #[.pointer (some ⟨b,0,none⟩),.int .i64 a,.int .i64 s] w fun e w'=>e=.returned (.bool (sUsed l a s))∧St w0 F0 (RSpanP b (sFree l a s)::ps) w' :=
  h.call (p':=RSpanP b (sFree l a s)) fun F h1=>(rspan_Free _ _ _ _ _ _ h1).mono fun e w' ⟨he,a,k⟩=>⟨he,F,a,k,fun i hi=>.inl hi⟩
theorem rs_Alloc (h:St w0 F0 (RSpanP b l::ps) w) (k:Int) :
    Calls Tryz.prog 220 #[.pointer (some ⟨b,0,none⟩),.int .i64 k] w fun e w'=>e=.returned (sAllocV k l)∧St w0 F0 (RSpanP b (sAllocL k l)::ps) w' :=
  h.call (p':=RSpanP b (sAllocL k l)) fun F h1=>(rspan_Alloc _ _ _ _ _ h1).mono fun e w' ⟨he,a,k⟩=>⟨he,F,a,k,fun i hi=>.inl hi⟩
end
end Go.Proofs.YtffnjpapggidlaaGreat
namespace Go.Proofs.YtffnjpapggidlaaGreat
open Go.RowKit
theorem u64_range (a:Int):0≤IntKind.u64.wrap a∧IntKind.u64.wrap a<18446744073709551616:=by
  have h:IntKind.u64.wrap a=a % 18446744073709551616:=by rfl
  rw [h]; omega
theorem u_mod (a:Int) (m:Nat) (h0:0<m):∃ n:Nat,n<m∧Int.tmod (IntKind.u64.wrap a) m=n:=by
  obtain ⟨h1,h2⟩:=u64_range a
  refine ⟨(Int.tmod (IntKind.u64.wrap a) m).toNat,?_,?_⟩
  · rw [Int.tmod_eq_emod_of_nonneg h1]
    have:=Int.emod_lt_of_pos (IntKind.u64.wrap a) (b:=(m:Int)) (by omega)
    have:=Int.emod_nonneg (IntKind.u64.wrap a) (b:=(m:Int)) (by omega)
    omega
  · rw [Int.tmod_eq_emod_of_nonneg h1]
    have:=Int.emod_nonneg (IntKind.u64.wrap a) (b:=(m:Int)) (by omega)
    omega
theorem u_same (n m:Nat) (h:n<m) (hm:m<18446744073709551616):Int.tmod (IntKind.u64.wrap (n:Int)) m=n:=by
  have h1:IntKind.u64.wrap (n:Int)=(n:Int) % 18446744073709551616:=rfl
  rw [h1,Int.emod_eq_of_lt (by omega) (by omega),Int.tmod_eq_emod_of_nonneg (by omega),Int.emod_eq_of_lt (by omega) (by omega)]
end Go.Proofs.YtffnjpapggidlaaGreat
