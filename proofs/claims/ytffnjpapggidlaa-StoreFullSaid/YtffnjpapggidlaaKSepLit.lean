/- SepLit Umod -/
import Derived.Test.YtffnjpapggidlaaKMem
import Derived.WalkKit
namespace Go.Proofs.Ytffnjpapggidlaa
open Go.RowKit
set_option linter.unusedVariables false
theorem St.lit {w0 w:World} {F0:List Nat} {ps:List Piece} (hs:St w0 F0 ps w) (L:List Int) (hl:L.length≤maxLen) :
    St w0 F0 (RowP (.slice (some ⟨w.heap.size,0,none⟩) L.length L.length) L::ps) (w.alloc (.cells (iV L).toArray 3)) :=
  hs.push (p:=RowP _ L) ((Below.refl _ _).alloc (Nat.le_refl _) _) ⟨_,⟨⟨by simp [iV],.inr ⟨w.heap.size,L.length,_,rfl,Nat.zero_le _,Blk.new _ _ _,Nat.le_refl _,hl,by simp [iV],by rw [List.take_of_length_le (by simp [iV])]⟩⟩,rfl⟩,by simp [Value.ownBlock]⟩
theorem St.lit1 {w0 w:World} {F0:List Nat} {ps:List Piece} (hs:St w0 F0 ps w) (x:Int) :
    St w0 F0 (RowP (.slice (some ⟨w.heap.size,0,none⟩) 1 1) [x]::ps) (w.alloc (.cells #[.int .i64 x] 3)):=hs.lit [x] (by unfold maxLen; simp)
theorem St.lit3 {w0 w:World} {F0:List Nat} {ps:List Piece} (hs:St w0 F0 ps w) (x y z:Int) :
    St w0 F0 (RowP (.slice (some ⟨w.heap.size,0,none⟩) 3 3) [x,y,z]::ps) (w.alloc (.cells #[.int .i64 x,.int .i64 y,.int .i64 z] 3)):=hs.lit [x,y,z] (by unfold maxLen; simp)
end Go.Proofs.Ytffnjpapggidlaa
namespace Go.Proofs.Ytffnjpapggidlaa
open Go.RowKit
theorem u64_range (a:Int):0≤IntKind.u64.wrap a∧IntKind.u64.wrap a<18446744073709551616:=by
  have h:IntKind.u64.wrap a=a % 18446744073709551616:=by rfl
  rw [h]; omega
theorem u_mod (a:Int) (m:Nat) (h0:0<m):∃ n:Nat,n<m∧Int.tmod (IntKind.u64.wrap a) m=n:=by
  obtain ⟨h1,h2⟩:=u64_range a
  refine ⟨(Int.tmod (IntKind.u64.wrap a) m).toNat,?_,?_⟩
  · rw [Int.tmod_eq_emod_of_nonneg h1]
    have:=Int.emod_lt_of_pos (IntKind.u64.wrap a) (b:=(m:Int)) (by omega)
    have:=Int.emod_nonneg (IntKind.u64.wrap a) (b:=(m:Int)) (by omega)
    omega
  · rw [Int.tmod_eq_emod_of_nonneg h1]
    have:=Int.emod_nonneg (IntKind.u64.wrap a) (b:=(m:Int)) (by omega)
    omega
theorem u_same (n m:Nat) (h:n<m) (hm:m<18446744073709551616):Int.tmod (IntKind.u64.wrap (n:Int)) m=n:=by
  have h1:IntKind.u64.wrap (n:Int)=(n:Int) % 18446744073709551616:=rfl
  rw [h1,Int.emod_eq_of_lt (by omega) (by omega),Int.tmod_eq_emod_of_nonneg (by omega),Int.emod_eq_of_lt (by omega) (by omega)]
end Go.Proofs.Ytffnjpapggidlaa
