/-
  The walk of 'dormouselaw05.ClassFits': the call returns true, in a world with at most new blocks.
-/
import Derived.Test.YtkjncehcabhljaaRows
import Derived.Test.YtkjncehcabhljaaClassAwake
import Derived.WalkKit
import Derived.WalkSpells
import Derived.WalkLawsBesides
import Derived.Lib.Hide
namespace Go.Proofs.Ytkjncehcabhljaa.classFits
open Go.RowKit
set_option linter.unusedVariables false

theorem fits_cases (n : Int) (h0 : 0 ≤ n) : (∃ c : Int, (0 ≤ c ∧ c ≤ 3) ∧ cOf n = c ∧ cFits n = true ∧ n ≤ 31 ∧ (∀ i : Int, 0 ≤ i → i ≤ 3 → (n < cWords i ↔ c ≤ i))) ∨ (31 < n ∧ cOf n = 0 ∧ cFits n = false) := by
  by_cases h : n ≤ 31
  · refine .inl ⟨cOf n, ?_, rfl, by unfold cFits; simp; omega, h, ?_⟩
    · unfold cOf; repeat' split
      all_goals omega
    · intro i i0 i3
      obtain rfl | rfl | rfl | rfl : i = 0 ∨ i = 1 ∨ i = 2 ∨ i = 3 := by omega
      all_goals (unfold cOf cWords; repeat' split) <;> omega
  · exact .inr ⟨by omega, by unfold cOf; repeat (first | rw [if_pos (by omega)] | rw [if_neg (by omega)]), by unfold cFits; simp; omega⟩
theorem span_of (i : Int) (h0 : 0 ≤ i) (h3 : i ≤ 3) : (cWords i * cSlots i != 32) = false := by
  obtain rfl | rfl | rfl | rfl : i = 0 ∨ i = 1 ∨ i = 2 ∨ i = 3 := by omega
  all_goals decide
theorem wrap_span (i : Int) (h0 : 0 ≤ i) (h3 : i ≤ 3) : 0 ≤ cWords i * cSlots i ∧ cWords i * cSlots i ≤ 32 := by
  obtain rfl | rfl | rfl | rfl : i = 0 ∨ i = 1 ∨ i = 2 ∨ i = 3 := by omega
  all_goals decide
set_option maxHeartbeats 1000000 in
theorem walk (a0 : Int) (w0 : (Lit.int .i64 a0).wf = true) (w : World) :
    Calls Try.prog 7 #[.int .i64 a0] w fun e w' => e = .returned (.bool true) ∧ Below w.heap.size w w' := by
  clear w0
  go_enter Try.func7, Try.ntmps7
  go_wp2_with fail
  obtain ⟨n, n0, n1, hn⟩ := umod a0 40 (by decide) (by decide)
  rw [hn]; clear hn
  obtain ⟨c, c03, hc, hf, hd, hall⟩ | ⟨h31, hc, hf⟩ := fits_cases n n0
  · obtain rfl : cOf n = c := hc
    have H := Lib.hid hall
    clear hall
    refine (class_Of _ _).mono ?_
    rintro e w1 ⟨rfl, hb1⟩
    go_wp2
    go_loopw [5] (fun c w' => ∃ pos : Nat, pos ≤ 4 ∧ c = .int .i64 pos ∧ Below w.heap.size w w') (fun c _ => 4 - (intOf c).toNat)
    case atStart => exact ⟨0, by omega, rfl, hb1⟩
    case round =>
      obtain ⟨pos, hp, rfl, hb⟩ := hrel
      by_cases hlt : pos < 4
      · have s1 := H.out pos (by omega) (by omega)
        have s2 := span_of pos (by omega) (by omega)
        have s3 := wrap_span pos (by omega) (by omega)
        clear hb1
        go_wp2_with (first
          | (go_at_call 29; refine (class_Words _ _).mono ?_; rintro e w1 ⟨rfl, hb1⟩)
          | (go_at_call 31; refine (class_Slots _ _).mono ?_; rintro e w1 ⟨rfl, hb1⟩))
        go_roundw
        case rel => exact ⟨pos + 1, by omega, by go_num, by repeat (first | assumption | (refine below_next ?_ (by assumption) (Nat.le_refl _)))⟩
        case measure => simp [intOf]; omega
      · have hp4 : pos = 4 := by omega
        clear hb1
        subst hp4
        go_wp2_with (first
          | (go_at_call 28; refine (awake05 _).mono ?_; rintro e w1 ⟨rfl, hb1⟩))
        go_ret
        exact ⟨rfl, below_next hb (by assumption) (Nat.le_refl _)⟩
  · refine (class_Of _ _).mono ?_
    rintro e w1 ⟨rfl, hb1⟩
    go_wp2_with (first
      | (go_at_call 28; refine (awake05 _).mono ?_; rintro e w1 ⟨rfl, hb1⟩))
    go_ret
    exact ⟨rfl, by repeat (first | exact Below.refl _ _ | (refine below_next ?_ (by assumption) (Nat.le_refl _)))⟩

end Go.Proofs.Ytkjncehcabhljaa.classFits
