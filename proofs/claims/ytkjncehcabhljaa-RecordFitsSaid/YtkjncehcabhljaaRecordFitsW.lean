/-
  The walk of 'dormouselaw10.RecordFits': the call returns true, in a world with at most new blocks.
-/
import Derived.Test.YtkjncehcabhljaaRows
import Derived.Test.YtkjncehcabhljaaInStr
import Derived.WalkKit
import Derived.WalkSpells
import Derived.WalkLawsBesides
namespace Go.Proofs.Ytkjncehcabhljaa.recordFits
open Go.RowKit
set_option linter.unusedVariables false

theorem fits_facts (k n : Int) : 0 ≤ rNeed k n ∧ rNeed k n ≤ 31 ∧ (rKnown k n = false → (rNeed k n == 0) = true) ∧ (¬ (1 ≤ k ∧ k ≤ 6) → rKnown k n = false ∧ (rNames k).length = 0) ∧ ((k == 2) = false → rKnown k n = decide (1 ≤ k ∧ k ≤ 6)) := by
  have hl := names_len k
  unfold rNeed rKnown
  refine ⟨?_, ?_, ?_, ?_, ?_⟩
  · repeat' split
    all_goals omega
  · repeat' split
    all_goals omega
  · intro h
    rw [beq_iff_eq]
    by_cases h2 : k = 2
    · rw [if_pos h2] at h ⊢; simp at h; split <;> omega
    · rw [if_neg h2] at h ⊢; simp at h
      repeat' split
      all_goals omega
  · intro h
    refine ⟨by rw [if_neg (by omega)]; simp; omega, ?_⟩
    repeat (rw [if_neg (by omega)] at hl)
    omega
  · intro h
    rw [beq_eq_false_iff_ne] at h
    rw [if_neg h]
theorem known_cases (k n : Int) : (k < 1 ∧ (k == 2) = false ∧ rKnown k n = false ∧ (rNeed k n == 0) = true ∧ (rNames k).length = 0) ∨ (decide (k ≤ 6) = false ∧ 1 ≤ k ∧ (k == 2) = false ∧ rKnown k n = false ∧ (rNeed k n == 0) = true ∧ (rNames k).length = 0) ∨
    (1 ≤ k ∧ k ≤ 6 ∧ (k == 2) = false ∧ rKnown k n = true) ∨ (1 ≤ k ∧ k ≤ 6 ∧ (k == 2) = true ∧ rKnown k n = true) ∨ (1 ≤ k ∧ k ≤ 6 ∧ (k == 2) = true ∧ rKnown k n = false ∧ (rNeed k n == 0) = true) := by
  obtain ⟨f1, f2, f3, f4, f5⟩ := fits_facts k n
  by_cases hk : 1 ≤ k ∧ k ≤ 6
  · cases e : (k == 2) with
    | false => exact .inr (.inr (.inl ⟨hk.1, hk.2, rfl, by rw [f5 e]; simpa using hk⟩))
    | true =>
      cases r : rKnown k n with
      | true => exact .inr (.inr (.inr (.inl ⟨hk.1, hk.2, rfl, rfl⟩)))
      | false => exact .inr (.inr (.inr (.inr ⟨hk.1, hk.2, rfl, rfl, f3 r⟩)))
  · obtain ⟨a, b⟩ := f4 hk
    have e2 : (k == 2) = false := by rw [beq_eq_false_iff_ne]; omega
    by_cases h1 : k < 1
    · exact .inl ⟨h1, e2, a, f3 a, b⟩
    · exact .inr (.inl ⟨by simp; omega, by omega, e2, a, f3 a, b⟩)
theorem walk (a0 : Int) (a1 : Int) (w0 : (Lit.int .i64 a0).wf = true) (w1 : (Lit.int .i64 a1).wf = true) (w : World) :
    Calls Try.prog 11 #[.int .i64 a0, .int .i64 a1] w fun e w' => e = .returned (.bool true) ∧ Below w.heap.size w w' := by
  clear w0 w1
  obtain ⟨f1, f2, -, -, -⟩ := fits_facts a0 a1
  rcases known_cases a0 a1 with ⟨c1, c2, c3, c4, c5⟩ | ⟨c1, c0, c2, c3, c4, c5⟩ | ⟨c1, c0, c2, c3⟩ | ⟨c1, c0, c2, c3⟩ | ⟨c1, c0, c2, c3, c4⟩
  all_goals
    go_enter Try.func11, Try.ntmps11
    go_wp2_with fail
    refine (rec_need _ _ _).mono ?_
    rintro e w1 ⟨rfl, hb1⟩
    go_wp2_with fail
    refine (rec_fields _ _).mono ?_
    rintro e w2 ⟨v, rfl, hb2, hown⟩
    obtain ⟨p, cap, rfl, hm⟩ := own_val hown
    clear hown
    unfold maxLen at hm
    go_wp2_with (go_at_call 35; refine (awake10 _).mono ?_; rintro e w3 ⟨rfl, hb3⟩)
    go_ret
    exact ⟨rfl, by repeat (first | exact Below.refl _ _ | (refine below_next ?_ (by assumption) (Nat.le_refl _)))⟩

end Go.Proofs.Ytkjncehcabhljaa.recordFits
