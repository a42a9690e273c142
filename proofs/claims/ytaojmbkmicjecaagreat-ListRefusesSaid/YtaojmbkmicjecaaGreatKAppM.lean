/- AppM -/
import Derived.Test.YtaojmbkmicjecaaGreatKEvMap
import Derived.Test.YtaojmbkmicjecaaGreatKRowB
namespace Go.Proofs.YtaojmbkmicjecaaGreat
open Go.RowKit
set_option linter.unusedVariables false
set_option linter.unusedSimpArgs false
section
variable {ops:Array Oper} {rest:List Oper} {o:Oper} {n:Nat} {a:Act} {l l':Asc} {w0:World} {F0:List Nat} {ps:List Piece} {w:World}
end
theorem St.arrAt {w0 w:World} {F0:List Nat} {ps:List Piece} {g:Nat} {T:TypeId} {cs:Array Value} (h:St w0 F0 ps w) (k:Nat) (hk:ps[k]?=some (BlkP g T cs)) (off:Nat) (L:List Int) (he:(cs.toList.drop off).take (iV L).length=iV L) {i:Int} (hi:inR i L.length=true):w.cell? ⟨g,off+i.toNat,none⟩=some (.int .i64 (Go.Proofs.YtaojmbkmicjecaaGreat.atI L i)):=by
  obtain ⟨h0,h1⟩:=inR_spec hi
  have h2:=blk_cells h k hk he i.toNat (by simp [iV]; omega)
  rw [h2]
  unfold Go.Proofs.YtaojmbkmicjecaaGreat.atI
  rw [List.getD_eq_getElem?_getD,List.getElem?_eq_getElem (by omega)]
  simp [iV]
end Go.Proofs.YtaojmbkmicjecaaGreat
