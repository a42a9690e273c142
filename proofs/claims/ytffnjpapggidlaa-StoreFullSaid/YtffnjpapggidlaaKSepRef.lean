/- SepRef -/
import Derived.Test.YtffnjpapggidlaaKMem
import Derived.Test.YtffnjpapggidlaaKRefSpan3
import Derived.Test.YtffnjpapggidlaaKClass
namespace Go.Proofs.Ytffnjpapggidlaa
open Go.RowKit
set_option linter.unusedVariables false
def RSpanP (b:Nat) (l:List SRow):Piece where
  at' w F:=RSpanAt w b l F
  keep h k hd:=h.keep k hd
  lt h:=h.lt
section
variable {w0 w:World} {F0:List Nat} {ps:List Piece} {b:Nat} {l:List SRow}
theorem St.rspan (h:St w0 F0 ps w) (k:Nat) (hk:ps[k]?=some (RSpanP b l)):(∀ r ∈ l,RowOk r)∧l.length≤128:=by
  obtain ⟨G,g1,c1,g2,c2,h1,h2,h3,m1,m2,_,h128,hok,_⟩:=h.get k hk
  exact ⟨hok,h128⟩
theorem St.rclass (h:St w0 F0 ps w) (k:Nat) (hk:ps[k]?=some (RSpanP b l)):∃ g c,w.cell? ⟨b,0,none⟩=some (.slice (some ⟨g,0,none⟩) l.length c)∧∀ i (hi:i<l.length),w.cell? ⟨g,i,none⟩=some (.int .i64 l[i].1):=by
  obtain ⟨G,g1,c1,g2,c2,h1,h2,h3,m1,m2,_,h128,hok,_⟩:=h.get k hk
  have e0:=h1.cell 0
  simp at e0
  exact ⟨g1,c1,e0,fun i hi=>(h2.cell i hi).1⟩
theorem rs_Used (h:St w0 F0 ps w) (k:Nat) (hk:ps[k]?=some (RSpanP b l)) (a s:Int) :
    Calls Try.prog 87 #[.pointer (some ⟨b,0,none⟩),.int .i64 a,.int .i64 s] w fun e w'=>e=.returned (.bool (sUsed l a s))∧w=w':=by
  obtain ⟨F,h1⟩:=h.get k hk; exact rspan_Used _ _ _ _ _ _ h1
theorem rs_Free (h:St w0 F0 (RSpanP b l::ps) w) (a s:Int) :
    Calls Try.prog 61 #[.pointer (some ⟨b,0,none⟩),.int .i64 a,.int .i64 s] w fun e w'=>e=.returned (.bool (sUsed l a s))∧St w0 F0 (RSpanP b (sFree l a s)::ps) w' :=
  h.call (p':=RSpanP b (sFree l a s)) fun F h1=>(rspan_Free _ _ _ _ _ _ h1).mono fun e w' ⟨he,a,k⟩=>⟨he,F,a,k,fun i hi=>.inl hi⟩
theorem rs_Alloc (h:St w0 F0 (RSpanP b l::ps) w) (k:Int) :
    Calls Try.prog 64 #[.pointer (some ⟨b,0,none⟩),.int .i64 k] w fun e w'=>e=.returned (sAllocV k l)∧St w0 F0 (RSpanP b (sAllocL k l)::ps) w' :=
  h.call (p':=RSpanP b (sAllocL k l)) fun F h1=>(rspan_Alloc _ _ _ _ _ h1).mono fun e w' ⟨he,a,k⟩=>⟨he,F,a,k,fun i hi=>.inl hi⟩
end
end Go.Proofs.Ytffnjpapggidlaa
