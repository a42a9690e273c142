/-
  The walk of 'dormouselaw04.ValueBack': the call returns true, in a world with at most new blocks.
-/
import Derived.Test.YtkjncehcabhljaaRows
import Derived.Test.YtkjncehcabhljaaValueIn
import Derived.Test.YtkjncehcabhljaaValueAwake
import Derived.WalkKit
import Derived.WalkSpells
import Derived.WalkLawsBesides
namespace Go.Proofs.Ytkjncehcabhljaa.valueBack
open Go.RowKit
set_option linter.unusedVariables false

theorem walk (a0 : Int) (a1 : Int) (w0 : (Lit.int .i64 a0).wf = true) (w1 : (Lit.int .i64 a1).wf = true) (w : World) :
    Calls Try.prog 4 #[.int .i64 a0, .int .i64 a1] w fun e w' => e = .returned (.bool true) ∧ Below w.heap.size w w' := by
  have h0 := wd_of_wf w0
  have h1 := wd_of_wf w1
  clear w0 w1
  go_enter Try.func4, Try.ntmps4
  go_wp2_with fail
  have b0 := tmod_le a0 1152921504606846976 (by decide)
  have b1 := tmod_le a1 1152921504606846976 (by decide)
  generalize a0.tmod 1152921504606846976 = v at *
  generalize a1.tmod 1152921504606846976 = p at *
  have sv : Sm v := by unfold Sm; omega
  have sp : Sm p := by unfold Sm; omega
  have e1 := vIsPtr_two v
  have e2 := vNum_two v
  have e3 := vAt_two v
  have e4 := vIsPtr_two1 p
  have e5 := vNum_two1 p
  have e6 := vAt_two1 p
  have e7 : (2 * v != 2 * p + 1) = true := by rw [bne_iff_ne]; omega
  have wv := wd_two sv
  have wp := wd_two1 sp
  clear h0 h1 b0 b1
  refine (value_Int_in _ sv _).mono ?_
  rintro e w' ⟨rfl, rfl⟩
  go_wp2_with (first
    | (go_at_call 15; refine (awake04 _).mono ?_; rintro e w' ⟨rfl, rfl⟩)
    | (go_at_call 18; refine (value_Ptr_in _ sp _).mono ?_; rintro e w' ⟨rfl, rfl⟩)
    | (go_at_call 20; refine (value_IsPtr _ _).mono ?_; rintro e w' ⟨rfl, rfl⟩)
    | (go_at_call 22; refine (value_Num _ (by assumption) _).mono ?_; rintro e w' ⟨rfl, rfl⟩)
    | (go_at_call 24; refine (value_At _ (by assumption) _).mono ?_; rintro e w' ⟨rfl, rfl⟩))
  go_ret
  exact ⟨rfl, Below.refl _ _⟩

end Go.Proofs.Ytkjncehcabhljaa.valueBack
