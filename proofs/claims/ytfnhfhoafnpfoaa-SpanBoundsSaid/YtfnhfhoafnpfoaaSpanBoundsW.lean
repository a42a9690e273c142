/-
  The walk of 'dormouselaw06.SpanBounds': the call returns true, in a world with at most new blocks.
-/
import Derived.Test.YtfnhfhoafnpfoaaRows
import Derived.Test.YtfnhfhoafnpfoaaSpanAwake
import Derived.WalkKit
import Derived.WalkSpells
import Derived.WalkLawsBesides
namespace Go.Proofs.Ytfnhfhoafnpfoaa.spanBounds
open Go.RowKit
set_option linter.unusedVariables false

theorem alloc_first (k : Int) : sAllocV k (sNew 2) = .tuple #[.int .i64 0, .int .i64 0, .bool (decide (0 ≤ k ∧ k ≤ 3))] := by
  obtain rfl | rfl | rfl | rfl | h := class_cases k
  · rfl
  · rfl
  · rfl
  · rfl
  · have e : decide (0 ≤ k ∧ k ≤ 3) = false := by simp; omega
    rw [e]
    unfold sAllocV sAlloc
    rw [if_pos (cSlots_none h)]
set_option maxHeartbeats 2000000 in
theorem walk (a0 : Int) (a1 : Int) (w0 : (Lit.int .i64 a0).wf = true) (w1 : (Lit.int .i64 a1).wf = true) (w : World) :
    Calls Try.prog 5 #[.int .i64 a0, .int .i64 a1] w fun e w' => e = .returned (.bool true) ∧ Below w.heap.size w w' := by
  clear w0 w1
  have hk : (0 ≤ a1 ∧ a1 ≤ 3 ∧ decide (0 ≤ a1 ∧ a1 ≤ 3) = true) ∨ (a1 < 0 ∧ decide (0 ≤ a1 ∧ a1 ≤ 3) = false) ∨ (0 ≤ a1 ∧ decide (a1 ≤ 3) = false ∧ decide (0 ≤ a1 ∧ a1 ≤ 3) = false) := by
    by_cases h0 : 0 ≤ a1
    · by_cases h3 : a1 ≤ 3
      · exact .inl ⟨h0, h3, by simp; omega⟩
      · exact .inr (.inr ⟨h0, by simpa using h3, by simp; omega⟩)
    · exact .inr (.inl ⟨by omega, by simp; omega⟩)
  have hal := alloc_first a1
  have HAL := Lib.hid hal
  clear hal
  have hn : (∃ m : Nat, a0 = m ∧ 2 ≤ m ∧ m ≤ 128) ∨ (a0 < 2) ∨ (2 ≤ a0 ∧ 128 < a0 ∧ decide (a0 ≤ 128) = false) := by
    by_cases h2 : 2 ≤ a0
    · by_cases h128 : a0 ≤ 128
      · exact .inl ⟨a0.toNat, by omega, by omega, by omega⟩
      · exact .inr (.inr ⟨h2, by omega, by simpa using h128⟩)
    · exact .inr (.inl (by omega))
  generalize hdk : decide (0 ≤ a1 ∧ a1 ≤ 3) = dk at *
  rcases hn with ⟨m, rfl, m2, m128⟩ | hn | ⟨hn2, hn, hnd⟩
  · rcases hk with ⟨c0, c1, rfl⟩ | ⟨c0, rfl⟩ | ⟨c0, c1, rfl⟩
    all_goals
      have HDK := Lib.hid hdk
      clear hdk
      go_enter Try.func5, Try.ntmps5
      go_wp2_with fail
      refine (span_New m m2 m128 _).mono ?_
      intro e w1 h1
      obtain ⟨rfl, s1⟩ := h1.inn
      have hB1 : Below w.heap.size w w1 := s1.out.old
      clear h1 s1
      go_wp2_with fail
      refine (span_New 2 (by omega) (by omega) _).mono ?_
      intro e w2 h2
      obtain ⟨rfl, s2⟩ := h2.inn
      clear h2
      go_wp2_with fail
      refine (spanI_Alloc s2 _).mono ?_
      rintro e w3 ⟨rfl, s3⟩
      rw [HAL.out]
      clear s2
      go_wp2_with fail
      refine (span_Alloc_nil _ _).mono ?_
      rintro e w4 ⟨rfl, hb4⟩
      have hB4 : Below w.heap.size w w4 := below_next (below_next hB1 s3.out.old (Nat.le_refl _)) hb4 (Nat.le_refl _)
      clear s3 hb4 hB1
      go_wp2_with (first
        | (go_at_call 17; refine (awake06 _).mono ?_; rintro e w5 ⟨rfl, hb5⟩)
        | (go_at_call 18; refine (span_Free_nil _ _ _).mono ?_; rintro e w6 ⟨rfl, rfl⟩)
        | (go_at_call 25; refine (span_Class_nil _ _).mono ?_; rintro e w6 ⟨rfl, rfl⟩)
        | (go_at_call 27; refine (span_Used_nil _ _ _).mono ?_; rintro e w6 ⟨rfl, rfl⟩)
        | (go_at_call 22; refine (span_Words_nil _).mono ?_; rintro e w6 ⟨rfl, rfl⟩)
        | (go_at_call 24; refine (span_Len_nil _).mono ?_; rintro e w6 ⟨rfl, rfl⟩))
      go_ret
      exact ⟨rfl, below_next hB4 (by assumption) (Nat.le_refl _)⟩
  · rcases hk with ⟨c0, c1, rfl⟩ | ⟨c0, rfl⟩ | ⟨c0, c1, rfl⟩
    all_goals
      have HDK := Lib.hid hdk
      clear hdk
      go_enter Try.func5, Try.ntmps5
      go_wp2_with fail
      refine (span_New_no _ (Or.inl hn) _).mono ?_
      rintro e w1 ⟨rfl, rfl⟩
      have hB1 : Below w.heap.size w w := Below.refl _ _
      go_wp2_with fail
      refine (span_New 2 (by omega) (by omega) _).mono ?_
      intro e w2 h2
      obtain ⟨rfl, s2⟩ := h2.inn
      clear h2
      go_wp2_with fail
      refine (spanI_Alloc s2 _).mono ?_
      rintro e w3 ⟨rfl, s3⟩
      rw [HAL.out]
      clear s2
      go_wp2_with fail
      refine (span_Alloc_nil _ _).mono ?_
      rintro e w4 ⟨rfl, hb4⟩
      have hB4 : Below w.heap.size w w4 := below_next (below_next hB1 s3.out.old (Nat.le_refl _)) hb4 (Nat.le_refl _)
      clear s3 hb4 hB1
      go_wp2_with (first
        | (go_at_call 17; refine (awake06 _).mono ?_; rintro e w5 ⟨rfl, hb5⟩)
        | (go_at_call 18; refine (span_Free_nil _ _ _).mono ?_; rintro e w6 ⟨rfl, rfl⟩)
        | (go_at_call 25; refine (span_Class_nil _ _).mono ?_; rintro e w6 ⟨rfl, rfl⟩)
        | (go_at_call 27; refine (span_Used_nil _ _ _).mono ?_; rintro e w6 ⟨rfl, rfl⟩)
        | (go_at_call 22; refine (span_Words_nil _).mono ?_; rintro e w6 ⟨rfl, rfl⟩)
        | (go_at_call 24; refine (span_Len_nil _).mono ?_; rintro e w6 ⟨rfl, rfl⟩))
      go_ret
      exact ⟨rfl, below_next hB4 (by assumption) (Nat.le_refl _)⟩
  · rcases hk with ⟨c0, c1, rfl⟩ | ⟨c0, rfl⟩ | ⟨c0, c1, rfl⟩
    all_goals
      have HDK := Lib.hid hdk
      clear hdk
      go_enter Try.func5, Try.ntmps5
      go_wp2_with fail
      refine (span_New_no _ (Or.inr hn) _).mono ?_
      rintro e w1 ⟨rfl, rfl⟩
      have hB1 : Below w.heap.size w w := Below.refl _ _
      go_wp2_with fail
      refine (span_New 2 (by omega) (by omega) _).mono ?_
      intro e w2 h2
      obtain ⟨rfl, s2⟩ := h2.inn
      clear h2
      go_wp2_with fail
      refine (spanI_Alloc s2 _).mono ?_
      rintro e w3 ⟨rfl, s3⟩
      rw [HAL.out]
      clear s2
      go_wp2_with fail
      refine (span_Alloc_nil _ _).mono ?_
      rintro e w4 ⟨rfl, hb4⟩
      have hB4 : Below w.heap.size w w4 := below_next (below_next hB1 s3.out.old (Nat.le_refl _)) hb4 (Nat.le_refl _)
      clear s3 hb4 hB1
      go_wp2_with (first
        | (go_at_call 17; refine (awake06 _).mono ?_; rintro e w5 ⟨rfl, hb5⟩)
        | (go_at_call 18; refine (span_Free_nil _ _ _).mono ?_; rintro e w6 ⟨rfl, rfl⟩)
        | (go_at_call 25; refine (span_Class_nil _ _).mono ?_; rintro e w6 ⟨rfl, rfl⟩)
        | (go_at_call 27; refine (span_Used_nil _ _ _).mono ?_; rintro e w6 ⟨rfl, rfl⟩)
        | (go_at_call 22; refine (span_Words_nil _).mono ?_; rintro e w6 ⟨rfl, rfl⟩)
        | (go_at_call 24; refine (span_Len_nil _).mono ?_; rintro e w6 ⟨rfl, rfl⟩))
      go_ret
      exact ⟨rfl, below_next hB4 (by assumption) (Nat.le_refl _)⟩

end Go.Proofs.Ytfnhfhoafnpfoaa.spanBounds
