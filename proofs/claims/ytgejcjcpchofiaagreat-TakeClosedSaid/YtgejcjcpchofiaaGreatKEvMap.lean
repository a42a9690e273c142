/- EvMap -/
import Derived.Test.YtgejcjcpchofiaaGreatKEv2
import Derived.Test.YtgejcjcpchofiaaGreatKSepMap
import Derived.Test.YtgejcjcpchofiaaGreatKStepAt
/- A map of a function's own, looked into and set, where the slots are known; append in a region that draws its order. -/
namespace Go.Proofs.YtgejcjcpchofiaaGreat
open Go.RowKit
set_option linter.unusedVariables false
def wdR (x : Int) : Bool := decide (-9223372036854775808 ≤ x) && decide (x ≤ 9223372036854775807)
def keyR (x : Int) : Bool := decide (0 ≤ x) && decide (x < 4096)
theorem wdR_spec {x : Int} (h : wdR x = true) : Wd x := by simp [wdR] at h; unfold Wd; omega
theorem keyR_spec {x : Int} (h : keyR x = true) : 0 ≤ x ∧ x < 4096 := by simpa [keyR] using h
section
variable {ops : Array Oper} {rest : List Oper} {o : Oper} {n : Nat} {a : Act} {l l' : Asc} {Q : Exit → Act → World → Prop} {w0 : World} {F0 : List Nat} {ps : List Piece} {w : World} {mb : Nat} {f : Int → Int}
theorem ev_colGet (d k : Nat) (m x : Operand) (y : Int) (hF : Fr n a l) (hS : St w0 F0 ps w) (hk : ps[k]? = some (ColP mb f)) (hg : o.guard = none) (hd : o.dst = some d) (hn : Nat.blt d n = true) (hop : o.op = Op.lookup 146 m x false)
    (hm1 : hasO l m = true) (hx1 : hasO l x = true) (hm : lk l m = .map (some mb)) (hx : lk l x = .int .i64 y) (hy : wdR y = true)
    (hK : ∀ a', Fr n a' ((d, .int .i64 (f y)) :: del d l) → wpList Tryz.prog ops Q rest a' w) : wpList Tryz.prog ops Q (o :: rest) a w := by
  refine wpList_colGet hg m x hop hS k hk ((hF.eval hm1).trans hm) y (wdR_spec hy) ((hF.eval hx1).trans hx) ?_
  rw [hd]
  exact hK _ (hF.put (Nat.le_of_ble_eq_true hn) _)
theorem ev_colSet (m x v : Operand) (y z : Int) (hF : Fr n a l) (hS : St w0 F0 (ColP mb f :: ps) w) (hg : o.guard = none) (hop : o.op = Op.mapUpdate 146 m x v)
    (hm1 : hasO l m = true) (hx1 : hasO l x = true) (hv1 : hasO l v = true) (hm : lk l m = .map (some mb)) (hx : lk l x = .int .i64 y) (hv : lk l v = .int .i64 z) (hy : keyR y = true) (hz : wdR z = true) (hp : putO n o undef l = some l')
    (hK : ∀ w' a', St w0 F0 (ColP mb (updM f y z) :: ps) w' → Fr n a' l' → wpList Tryz.prog ops Q rest a' w') : wpList Tryz.prog ops Q (o :: rest) a w :=
  wpList_colSet hg m x v hop hS ((hF.eval hm1).trans hm) y z (keyR_spec hy).1 (keyR_spec hy).2 (wdR_spec hz) ((hF.eval hx1).trans hx) ((hF.eval hv1).trans hv) fun w' hS' => hK w' _ hS' (putO_fr hF hp)
end
end Go.Proofs.YtgejcjcpchofiaaGreat
