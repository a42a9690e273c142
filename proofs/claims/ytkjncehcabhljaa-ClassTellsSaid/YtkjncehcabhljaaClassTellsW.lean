/-
  The walk of 'dormouselaw05.ClassTells': the call returns true, in a world with at most new blocks.
-/
import Derived.Test.YtkjncehcabhljaaRows
import Derived.Test.YtkjncehcabhljaaClassAwake
import Derived.WalkKit
import Derived.WalkSpells
import Derived.WalkLawsBesides
namespace Go.Proofs.Ytkjncehcabhljaa.classTells
open Go.RowKit
set_option linter.unusedVariables false

theorem walk (a0 : Int) (a1 : Int) (w0 : (Lit.int .i64 a0).wf = true) (w1 : (Lit.int .i64 a1).wf = true) (w : World) :
    Calls Try.prog 6 #[.int .i64 a0, .int .i64 a1] w fun e w' => e = .returned (.bool true) ∧ Below w.heap.size w w' := by
  clear w0 w1
  go_enter Try.func6, Try.ntmps6
  go_wp2_with (first
    | (go_at_call 26; refine (class_Of _ _).mono ?_; rintro e w1 ⟨rfl, hb1⟩)
    | (go_at_call 27; refine (refc_ClassOf _ _).mono ?_; rintro e w1 ⟨rfl, hb1⟩)
    | (go_at_call 28; refine (awake05 _).mono ?_; rintro e w1 ⟨rfl, hb1⟩)
    | (go_at_call 29; refine (class_Words _ _).mono ?_; rintro e w1 ⟨rfl, hb1⟩)
    | (go_at_call 30; refine (refc_Words _ _).mono ?_; rintro e w1 ⟨rfl, hb1⟩)
    | (go_at_call 31; refine (class_Slots _ _).mono ?_; rintro e w1 ⟨rfl, hb1⟩)
    | (go_at_call 32; refine (refc_Slots _ _).mono ?_; rintro e w1 ⟨rfl, hb1⟩))
  go_ret
  exact ⟨rfl, by repeat (first | exact Below.refl _ _ | (refine below_next ?_ (by assumption) (Nat.le_refl _)))⟩

end Go.Proofs.Ytkjncehcabhljaa.classTells
