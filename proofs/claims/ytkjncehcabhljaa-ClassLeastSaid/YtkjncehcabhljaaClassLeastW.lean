/-
  The walk of 'dormouselaw05.ClassLeast': the call returns true, in a world with at most new blocks.
-/
import Derived.Test.YtkjncehcabhljaaRows
import Derived.Test.YtkjncehcabhljaaClassAwake
import Derived.WalkKit
import Derived.WalkSpells
import Derived.WalkLawsBesides
namespace Go.Proofs.Ytkjncehcabhljaa.classLeast
open Go.RowKit
set_option linter.unusedVariables false

theorem fits_yes {n : Int} (h0 : 0 ≤ n) (h1 : n ≤ 31) : cFits n = true := by unfold cFits; simp; omega
theorem fits_no {n : Int} (h : ¬ (0 ≤ n ∧ n ≤ 31)) : cFits n = false := by unfold cFits; simp; omega
theorem walk (a0 : Int) (a1 : Int) (w0 : (Lit.int .i64 a0).wf = true) (w1 : (Lit.int .i64 a1).wf = true) (w : World) :
    Calls Try.prog 8 #[.int .i64 a0, .int .i64 a1] w fun e w' => e = .returned (.bool true) ∧ Below w.heap.size w w' := by
  clear w0 w1
  have hn : (0 ≤ a1 ∧ a1 ≤ 31 ∧ cFits a1 = true) ∨ (a1 < 0 ∧ cFits a1 = false) ∨ (0 ≤ a1 ∧ decide (a1 ≤ 31) = false ∧ cFits a1 = false) := by
    by_cases h : 0 ≤ a1 ∧ a1 ≤ 31
    · exact .inl ⟨h.1, h.2, fits_yes h.1 h.2⟩
    · have e := fits_no h
      by_cases h0 : 0 ≤ a1
      · exact .inr (.inr ⟨h0, by simp; omega, e⟩)
      · exact .inr (.inl ⟨by omega, e⟩)
  have hc : a0 = 0 ∨ a0 = 1 ∨ a0 = 2 ∨ a0 = 3 ∨ (a0 < 0 ∧ cWords a0 = 0 ∧ cSlots a0 = 0) ∨ (0 ≤ a0 ∧ 3 < a0 ∧ cWords a0 = 0 ∧ cSlots a0 = 0) := by
    obtain h | h | h | h | h := class_cases a0
    · exact .inl h
    · exact .inr (.inl h)
    · exact .inr (.inr (.inl h))
    · exact .inr (.inr (.inr (.inl h)))
    · have e := cWords_none h
      have f := cSlots_none h
      by_cases h0 : 0 ≤ a0
      · exact .inr (.inr (.inr (.inr (.inr ⟨h0, by omega, e, f⟩))))
      · exact .inr (.inr (.inr (.inr (.inl ⟨by omega, e, f⟩))))
  have k0 : cWords 0 = 4 := rfl
  have k1 : cWords 1 = 8 := rfl
  have k2 : cWords 2 = 16 := rfl
  have k3 : cWords 3 = 32 := rfl
  have l0 : cSlots 0 = 8 := rfl
  have l1 : cSlots 1 = 4 := rfl
  have l2 : cSlots 2 = 2 := rfl
  have l3 : cSlots 3 = 1 := rfl
  rcases hn with ⟨n0, n1, nf⟩ | ⟨n0, nf⟩ | ⟨n0, n1, nf⟩
  all_goals
    rcases hc with rfl | rfl | rfl | rfl | ⟨c0, c1, c2⟩ | ⟨c0, c1, c2, c3⟩
    all_goals
      go_enter Try.func8, Try.ntmps8
      go_wp2_with (first
        | (go_at_call 26; refine (class_Of _ _).mono ?_; rintro e w1 ⟨rfl, hb1⟩)
        | (go_at_call 28; refine (awake05 _).mono ?_; rintro e w1 ⟨rfl, hb1⟩)
        | (go_at_call 29; refine (class_Words _ _).mono ?_; rintro e w1 ⟨rfl, hb1⟩)
        | (go_at_call 31; refine (class_Slots _ _).mono ?_; rintro e w1 ⟨rfl, hb1⟩))
      go_ret
      exact ⟨rfl, by repeat (first | exact Below.refl _ _ | (refine below_next ?_ (by assumption) (Nat.le_refl _)))⟩

end Go.Proofs.Ytkjncehcabhljaa.classLeast
