/- AppM -/
import Derived.Test.YtgejcjcpchofiaaGreatKEvMap
import Derived.Test.YtgejcjcpchofiaaGreatKRowB
namespace Go.Proofs.YtgejcjcpchofiaaGreat
open Go.RowKit
set_option linter.unusedVariables false
set_option linter.unusedSimpArgs false
section
variable {ops:Array Oper} {rest:List Oper} {o:Oper} {n:Nat} {a:Act} {l l':Asc} {w0:World} {F0:List Nat} {ps:List Piece} {w:World}
end
theorem St.arrAt {w0 w:World} {F0:List Nat} {ps:List Piece} {g:Nat} {T:TypeId} {cs:Array Value} (h:St w0 F0 ps w) (k:Nat) (hk:ps[k]?=some (BlkP g T cs)) (off:Nat) (L:List Int) (he:(cs.toList.drop off).take (iV L).length=iV L) {i:Int} (hi:inR i L.length=true):w.cell? ⟨g,off+i.toNat,none⟩=some (.int .i64 (Go.Proofs.YtgejcjcpchofiaaGreat.atI L i)):=by
  obtain ⟨h0,h1⟩:=inR_spec hi
  have h2:=blk_cells h k hk he i.toNat (by simp [iV]; omega)
  rw [h2]
  unfold Go.Proofs.YtgejcjcpchofiaaGreat.atI
  rw [List.getD_eq_getElem?_getD,List.getElem?_eq_getElem (by omega)]
  simp [iV]
theorem any_three {P:Program} {ops:Array Oper} {Q:Exit→Act→World→Prop} {a:Act} {w:World} {S:World→Prop} {listed:Array Bool} {fuel:Nat} (i j l:Nat) (hr:Region.ready .any ops listed=[i,j,l]) (h1:wpOp P ops Q i (fun a' w'=>S w'∧wpAnyH P .any ops Q S fuel (listed.setIfInBounds i true) a' w') a w) (h2:wpOp P ops Q j (fun a' w'=>S w'∧wpAnyH P .any ops Q S fuel (listed.setIfInBounds j true) a' w') a w) (h3:wpOp P ops Q l (fun a' w'=>S w'∧wpAnyH P .any ops Q S fuel (listed.setIfInBounds l true) a' w') a w):wpAnyH P .any ops Q S (fuel+1) listed a w:=by
  refine wpAnyH_all hr (by simp) ?_
  intro k hk
  simp only [List.mem_cons,List.not_mem_nil,or_false] at hk
  rcases hk with rfl | rfl | rfl
  · exact h1
  · exact h2
  · exact h3
end Go.Proofs.YtgejcjcpchofiaaGreat
