/-
  The walk of 'dormouselaw07.ArenaRefuses': the call returns true, in a world with at most new blocks.
-/
import Derived.Test.YtfnhfhoafnpfoaaRows
import Derived.Test.YtfnhfhoafnpfoaaArenaAwake
import Derived.WalkKit
import Derived.WalkSpells
import Derived.WalkLawsBesides
namespace Go.Proofs.Ytfnhfhoafnpfoaa.arenaRefuses
open Go.RowKit
set_option linter.unusedVariables false

theorem new_head (n : Nat) (a : Int) : aHead (aNew n).c a = none := by
  rcases cell_cases (aNew n).c a with ⟨_, e⟩ | ⟨_, e⟩ | ⟨p, rfl, hp, ⟨_, e⟩ | ⟨k, m, h, _⟩ | ⟨x, h, _⟩⟩
  · exact e
  · exact e
  · exact e
  · simp only [aNew, List.getElem?_replicate] at h
    split at h <;> simp at h
  · simp only [aNew, List.getElem?_replicate] at h
    split at h <;> simp at h
theorem first_ok {kind n : Int} (h : aBad kind n = false) : aAllocV kind n (aNew 2) = .tuple #[.int .i64 0, .int .i64 0] := by
  obtain ⟨_, _, hf⟩ := aBad_no h
  obtain ⟨n0, n32, c0, c3, _⟩ := cOf_fits hf
  unfold aAllocV aAlloc
  rw [h]
  have hc : cOf n = 0 ∨ cOf n = 1 ∨ cOf n = 2 ∨ cOf n = 3 := by omega
  rcases hc with hc | hc | hc | hc <;> rw [hc] <;> rfl
theorem first_bad {kind n : Int} (h : aBad kind n = true) : aAllocV kind n (aNew 2) = .tuple #[.int .i64 0, .int .i64 1] := by unfold aAllocV; rw [h]; rfl
set_option maxRecDepth 100000 in
set_option maxHeartbeats 4000000 in
theorem walk (a0 : Int) (a1 : Int) (a2 : Int) (w0 : (Lit.int .i64 a0).wf = true) (w1 : (Lit.int .i64 a1).wf = true) (w2 : (Lit.int .i64 a2).wf = true) (w : World) :
    Calls Try.prog 9 #[.int .i64 a0, .int .i64 a1, .int .i64 a2] w fun e w' => e = .returned (.bool true) ∧ Below w.heap.size w w' := by
  clear w0 w1 w2
  have hk : (∃ f : Int, aAllocV a0 a1 (aNew 2) = .tuple #[.int .i64 0, .int .i64 f] ∧ (1 ≤ a0 ∧ decide (a0 ≤ 6) = true ∧ decide (0 ≤ a1) = true ∧ decide (a1 ≤ 31) = true ∧ f = 0 ∨ a0 < 1 ∧ f = 1 ∨ 1 ≤ a0 ∧ decide (a0 ≤ 6) = false ∧ f = 1 ∨ 1 ≤ a0 ∧ decide (a0 ≤ 6) = true ∧ decide (0 ≤ a1) = false ∧ f = 1 ∨ 1 ≤ a0 ∧ decide (a0 ≤ 6) = true ∧ decide (0 ≤ a1) = true ∧ decide (a1 ≤ 31) = false ∧ f = 1)) := by
    cases hb : aBad a0 a1 with
    | false =>
      obtain ⟨h1, h2, h3⟩ := aBad_no hb
      obtain ⟨n0, n32, _⟩ := cOf_fits h3
      exact ⟨0, first_ok hb, .inl ⟨h1, by simp; omega, by simp; omega, by simp; omega, rfl⟩⟩
    | true =>
      refine ⟨1, first_bad hb, .inr ?_⟩
      unfold aBad cFits at hb
      simp at hb
      by_cases h1 : a0 < 1
      · exact .inl ⟨h1, rfl⟩
      · by_cases h2 : a0 ≤ 6
        · by_cases h3 : 0 ≤ a1
          · exact .inr (.inr (.inr ⟨by omega, by simp; omega, by simp; omega, by simp; omega, rfl⟩))
          · exact .inr (.inr (.inl ⟨by omega, by simp; omega, by simp; omega, rfl⟩))
        · exact .inr (.inl ⟨by omega, by simp; omega, rfl⟩)
  obtain ⟨f, hal, hk⟩ := hk
  have HAL := Lib.hid hal
  have hfe : aFreeE a2 (aNew 2) = 8 := by unfold aFreeE; rw [new_head]; rfl
  have her : aErr a2 0 (aNew 2) = 8 := by unfold aErr; rw [new_head]
  have HFE := Lib.hid hfe
  have HER := Lib.hid her
  clear hal hfe her
  rcases hk with ⟨c0, c1, c2, c3, rfl⟩ | ⟨c0, rfl⟩ | ⟨c0, c1, rfl⟩ | ⟨c0, c1, c2, rfl⟩ | ⟨c0, c1, c2, c3, rfl⟩
  all_goals
    go_enter Try.func9, Try.ntmps9
    go_wp2_with fail
    refine (arena_New 2 (by omega) (by omega) _).mono ?_
    intro e w1 h1
    obtain ⟨b1, rfl, i1⟩ := h1.inn
    clear h1
    go_wp2_with fail
    refine (awake07 _).mono ?_
    rintro e w2 ⟨rfl, hb2⟩
    have i2 : Hid (ArenaIn w b1 (aNew 2) w2) := i1.out.below hb2
    clear i1 hb2
    go_wp2_with fail
    refine (arenaI_Alloc i2 _ _).mono ?_
    rintro e w3 ⟨rfl, i3⟩
    rw [HAL.out]
    have hB3 := i3.out.old
    clear i2 i3
    go_wp2_with fail
    refine (arena_New_no 1 (by omega) _).mono ?_
    rintro e w4 ⟨rfl, rfl⟩
    go_wp2_with fail
    refine (arena_Alloc_nil _ _ _).mono ?_
    rintro e w5 ⟨rfl, hb5⟩
    have hB5 := below_next hB3 hb5 (Nat.le_refl _)
    clear hB3 hb5
    go_wp2_with fail
    refine (arena_Load_nil _ _ _).mono ?_
    rintro e w6 ⟨rfl, hb6⟩
    have hB6 := below_next hB5 hb6 (Nat.le_refl _)
    clear hB5 hb6
    go_wp2_with fail
    refine (arena_New 2 (by omega) (by omega) _).mono ?_
    intro e w7 h7
    obtain ⟨b7, rfl, i7⟩ := h7.inn
    have j7 := ArenaIn.from i7 hB6
    clear h7 i7 hB6
    go_wp2_with fail
    refine (arena_Free_nil _ _).mono ?_
    rintro e w8 ⟨rfl, hb8⟩
    have j8 : Hid (ArenaIn w b7 (aNew 2) w8) := j7.out.below hb8
    clear j7 hb8
    go_wp2_with fail
    refine (arena_Store_nil _ _ _ _).mono ?_
    rintro e w9 ⟨rfl, hb9⟩
    have j9 : Hid (ArenaIn w b7 (aNew 2) w9) := j8.out.below hb9
    clear j8 hb9
    go_wp2_with fail
    refine (arena_Kind_nil _ _).mono ?_
    rintro e w10 ⟨rfl, hb10⟩
    have j10 : Hid (ArenaIn w b7 (aNew 2) w10) := j9.out.below hb10
    clear j9 hb10
    go_wp2_with fail
    refine (arena_Len_nil _ _).mono ?_
    rintro e w11 ⟨rfl, hb11⟩
    have j11 : Hid (ArenaIn w b7 (aNew 2) w11) := j10.out.below hb11
    clear j10 hb11
    go_wp2_with fail
    refine (arena_Objects_nil _).mono ?_
    rintro e w12 ⟨rfl, rfl⟩
    go_wp2_with fail
    refine (arena_Used_nil _).mono ?_
    rintro e w12 ⟨rfl, rfl⟩
    go_wp2_with fail
    refine (arena_Words_nil _).mono ?_
    rintro e w12 ⟨rfl, rfl⟩
    go_wp2_with fail
    refine (arenaI_Free j11 _).mono ?_
    rintro e w12 ⟨rfl, j12⟩
    rw [HFE.out]
    rw [show aFreeS a2 (aNew 2) = aNew 2 by unfold aFreeS; rw [new_head]] at j12
    clear j11
    go_wp2_with fail
    refine (arenaI_Store j12 _ _ _).mono ?_
    rintro e w13 ⟨rfl, j13⟩
    rw [HER.out]
    clear j12
    go_wp2
    go_ret
    exact ⟨rfl, j13.out.old⟩

end Go.Proofs.Ytfnhfhoafnpfoaa.arenaRefuses
