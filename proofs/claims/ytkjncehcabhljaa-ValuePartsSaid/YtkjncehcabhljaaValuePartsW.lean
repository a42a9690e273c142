/-
  The walk of 'dormouselaw04.ValueParts': the call returns true, in a world with at most new blocks.
-/
import Derived.Test.YtkjncehcabhljaaRows
import Derived.Test.YtkjncehcabhljaaValueIn
import Derived.Test.YtkjncehcabhljaaValueAwake
import Derived.WalkKit
import Derived.WalkSpells
import Derived.WalkLawsBesides
namespace Go.Proofs.Ytkjncehcabhljaa.valueParts
open Go.RowKit
set_option linter.unusedVariables false

theorem walk (a0 : Int) (a1 : Int) (w0 : (Lit.int .i64 a0).wf = true) (w1 : (Lit.int .i64 a1).wf = true) (w : World) :
    Calls Try.prog 5 #[.int .i64 a0, .int .i64 a1] w fun e w' => e = .returned (.bool true) ∧ Below w.heap.size w w' := by
  have h0 := wd_of_wf w0
  have h1 := wd_of_wf w1
  clear w0 w1
  go_enter Try.func5, Try.ntmps5
  go_wp2_with fail
  have b0 := tmod_le a0 288230376151711744 (by decide)
  have b1 := tmod_le a1 288230376151711744 (by decide)
  generalize a0.tmod 288230376151711744 = a at *
  generalize a1.tmod 288230376151711744 = b at *
  have sa : Sm a := by unfold Sm; omega
  have sb : Sm b := by unfold Sm; omega
  have sab : Sm (a + b) := by unfold Sm; omega
  have s0 : Sm 0 := by unfold Sm; omega
  have e1 : (2 * a + 2 * b == 2 * (a + b)) = true := by rw [beq_iff_eq]; omega
  have e2 : vNum (2 * a - 2 * b) = a - b := by unfold vNum; rw [if_neg (by omega)]; omega
  have e3 : Wd (2 * a - 2 * b) := by unfold Wd; omega
  clear h0 h1
  refine (awake04 _).mono ?_
  rintro e w' ⟨rfl, rfl⟩
  go_wp2_with (first
    | (go_at_call 16; refine (value_Int_in _ (by assumption) _).mono ?_; rintro e w' ⟨rfl, rfl⟩)
    | (go_at_call 18; refine (value_Ptr_in _ sa _).mono ?_; rintro e w' ⟨rfl, rfl⟩)
    | (go_at_call 22; refine (value_Num _ (by assumption) _).mono ?_; rintro e w' ⟨rfl, rfl⟩))
  go_ret
  exact ⟨rfl, Below.refl _ _⟩

end Go.Proofs.Ytkjncehcabhljaa.valueParts
