/-
  The walk of 'dormouselaw04.ValueTells': the call returns true, in a world with at most new blocks.
-/
import Derived.Test.YtkjncehcabhljaaRows
import Derived.Test.YtkjncehcabhljaaValue
import Derived.Test.YtkjncehcabhljaaValueAwake
import Derived.WalkKit
import Derived.WalkSpells
import Derived.WalkLawsBesides
namespace Go.Proofs.Ytkjncehcabhljaa.valueTells
open Go.RowKit
set_option linter.unusedVariables false

theorem walk (a0 : Int) (a1 : Int) (w0 : (Lit.int .i64 a0).wf = true) (w1 : (Lit.int .i64 a1).wf = true) (w : World) :
    Calls Try.prog 3 #[.int .i64 a0, .int .i64 a1] w fun e w' => e = .returned (.bool true) ∧ Below w.heap.size w w' := by
  have h0 := wd_of_wf w0
  have h1 := wd_of_wf w1
  have e1 : (wrap64 (2 * a0) == wrap64 (a0 * 2)) = true := by rw [Int.mul_comm]; simp
  have e2 : (wrap64 (wrap64 (2 * a0) + 1) == wrap64 (wrap64 (a0 * 2) + 1)) = true := by rw [Int.mul_comm]; simp
  clear w0 w1
  go_enter Try.func3, Try.ntmps3
  go_wp2_with (first
    | (go_at_call 15; refine (awake04 _).mono ?_; rintro e w' ⟨rfl, rfl⟩)
    | (go_at_call 16; refine (value_Int _ _).mono ?_; rintro e w' ⟨rfl, rfl⟩)
    | (go_at_call 17; refine (ref_Int _ _).mono ?_; rintro e w' ⟨rfl, rfl⟩)
    | (go_at_call 18; refine (value_Ptr _ _).mono ?_; rintro e w' ⟨rfl, rfl⟩)
    | (go_at_call 19; refine (ref_Ptr _ _).mono ?_; rintro e w' ⟨rfl, rfl⟩)
    | (go_at_call 20; refine (value_IsPtr _ _).mono ?_; rintro e w' ⟨rfl, rfl⟩)
    | (go_at_call 21; refine (ref_IsPtr _ _).mono ?_; rintro e w' ⟨rfl, rfl⟩)
    | (go_at_call 22; refine (value_Num _ h1 _).mono ?_; rintro e w' ⟨rfl, rfl⟩)
    | (go_at_call 23; refine (ref_Num _ h1 _).mono ?_; rintro e w' ⟨rfl, rfl⟩)
    | (go_at_call 24; refine (value_At _ h1 _).mono ?_; rintro e w' ⟨rfl, rfl⟩)
    | (go_at_call 25; refine (ref_At _ h1 _).mono ?_; rintro e w' ⟨rfl, rfl⟩))
  go_ret
  exact ⟨rfl, Below.refl _ _⟩

end Go.Proofs.Ytkjncehcabhljaa.valueTells
