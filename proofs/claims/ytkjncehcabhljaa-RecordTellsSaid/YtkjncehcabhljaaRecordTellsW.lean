/-
  The walk of 'dormouselaw10.RecordTells': the call returns true, in a world with at most new blocks.
-/
import Derived.Test.YtkjncehcabhljaaRows
import Derived.Test.YtkjncehcabhljaaInStr
import Derived.WalkKit
import Derived.WalkSpells
import Derived.WalkLawsBesides
namespace Go.Proofs.Ytkjncehcabhljaa.recordTells
open Go.RowKit
set_option linter.unusedVariables false

theorem walk (a0 : Int) (a1 : Int) (w0 : (Lit.int .i64 a0).wf = true) (w1 : (Lit.int .i64 a1).wf = true) (w : World) :
    Calls Try.prog 9 #[.int .i64 a0, .int .i64 a1] w fun e w' => e = .returned (.bool true) ∧ Below w.heap.size w w' := by
  clear w0 w1
  go_enter Try.func9, Try.ntmps9
  go_wp2_with fail
  refine (rec_need _ _ _).mono ?_
  rintro e w1 ⟨rfl, hb1⟩
  go_wp2_with fail
  refine (refr_need _ _ _).mono ?_
  rintro e w2 ⟨rfl, hb2⟩
  go_wp2_with fail
  refine (awake10 _).mono ?_
  rintro e w3 ⟨rfl, hb3⟩
  go_wp2_with fail
  refine (rec_fields _ _).mono ?_
  rintro e w4 ⟨v4, rfl, hb4, hown4⟩
  go_wp2_with fail
  refine (refr_fields _ _).mono ?_
  rintro e w5 ⟨v5, rfl, hb5, hown5⟩
  have r4 := row_later hown4 hb5
  have r5 := Row.of_own hown5
  clear hown4 hown5
  go_wp2_with (go_at_call 36; refine (plain_str _ _ (rNames a0) (rNames a0) _ r4 r5).mono ?_; rintro e w6 ⟨rfl, n, rfl⟩)
  go_ret
  exact ⟨ret_b (by simp), below_drewN (by repeat (first | exact Below.refl _ _ | (refine below_next ?_ (by assumption) (Nat.le_refl _)))) n⟩

end Go.Proofs.Ytkjncehcabhljaa.recordTells
