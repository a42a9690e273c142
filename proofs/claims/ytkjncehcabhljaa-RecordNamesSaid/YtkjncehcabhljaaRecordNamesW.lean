/-
  The walk of 'dormouselaw10.RecordNames': the call returns true, in a world with at most new blocks.
-/
import Derived.Test.YtkjncehcabhljaaRows
import Derived.Test.YtkjncehcabhljaaInStr
import Derived.WalkKit
import Derived.WalkSpells
import Derived.WalkLawsBesides
namespace Go.Proofs.Ytkjncehcabhljaa.recordNames
open Go.RowKit
set_option linter.unusedVariables false

theorem names_good (k : Int) (h1 : 1 ≤ k) (h2 : k ≤ 6) : ∀ i (h : i < (rNames k).length), (((rNames k)[i]'h).toList.isEmpty = false) ∧ memB ((rNames k)[i]'h) ((rNames k).take i) = false := by
  have e : ∀ i (h : i < (rNames k).length), (((rNames k)[i]'h).data.toList.isEmpty = false) ∧ memB ((rNames k)[i]'h) ((rNames k).take i) = false := by
    obtain rfl | rfl | rfl | rfl | rfl | h := kind_cases k
    · decide +kernel
    · decide +kernel
    · decide +kernel
    · decide +kernel
    · decide +kernel
    · have : rNames k = [] := by unfold rNames; rw [rText_none h]; rfl
      rw [this]; intro i hi; cases hi
  intro i hi
  obtain ⟨a, b⟩ := e i hi
  exact ⟨by rw [ByteArray.toList_eq]; exact a, b⟩
theorem known_named (k n : Int) (h1 : 1 ≤ k) (h2 : k ≤ 6) (h : (k == 2) = false) : rKnown k n = true ∧ rNeed k n = (rNames k).length := by
  rw [beq_eq_false_iff_ne] at h
  obtain ⟨a, b⟩ := need_eq k n h
  refine ⟨?_, a⟩
  unfold rKnown; rw [if_neg h]; simp; omega
theorem names_two : rNames 2 = [] := by decide +kernel
theorem own_full {w : World} {B e : Nat} {v : Value} {n : Nat} {xs : List Value} (h : w.ownsRow B e 1 v n xs) : (v = .slice none 0 0 ∧ n = 0) ∨ ∃ g cap, v = .slice (some ⟨g, 0, none⟩) n cap ∧ n ≤ cap ∧ cap ≤ maxLen := by
  obtain ⟨_, h | ⟨g, cap, cur, rfl, _, _, hn, hm, _⟩⟩ := h
  · exact .inl h
  · exact .inr ⟨g, cap, rfl, hn, hm⟩
theorem row_drewN {w : World} {v : Value} {xs : List Value} (h : Row w v xs) (n : Nat) : Row (w.drewN n) v xs := h
set_option maxRecDepth 100000 in
set_option maxHeartbeats 1000000 in
theorem walk (a0 : Int) (a1 : Int) (w0 : (Lit.int .i64 a0).wf = true) (w1 : (Lit.int .i64 a1).wf = true) (w : World) :
    Calls Try.prog 10 #[.int .i64 a0, .int .i64 a1] w fun e w' => e = .returned (.bool true) ∧ Below w.heap.size w w' := by
  clear w0 w1
  go_enter Try.func10, Try.ntmps10
  go_wp2_with fail
  obtain ⟨u, u0, u6, hu⟩ := umod a0 6 (by decide) (by decide)
  rw [hu]; clear hu
  have hk1 : wrap64 (1 + u) = 1 + u := IntWalk.wrap64_in _ (by omega)
  rw [hk1]; clear hk1
  obtain ⟨k, k1, k6, hk⟩ : ∃ k : Int, 1 ≤ k ∧ k ≤ 6 ∧ 1 + u = k := ⟨1 + u, by omega, by omega, rfl⟩
  rw [hk]; clear hk u0 u6
  have G := names_good k k1 k6
  by_cases h2 : k = 2
  · subst h2
    obtain ⟨A, B, C⟩ := need_buf a1
    have hcase : (a1 < 0 ∧ rKnown 2 a1 = false) ∨ (0 ≤ a1 ∧ decide (a1 ≤ 3) = false ∧ rKnown 2 a1 = false) ∨ (0 ≤ a1 ∧ a1 ≤ 3 ∧ rKnown 2 a1 = true ∧ (rNeed 2 a1 == a1) = true) := by
      by_cases c0 : a1 < 0
      · exact .inl ⟨c0, (A c0).2⟩
      · by_cases c3 : 3 < a1
        · exact .inr (.inl ⟨by omega, by simp; omega, (B c3).2⟩)
        · obtain ⟨x, y⟩ := C (by omega) (by omega)
          exact .inr (.inr ⟨by omega, by omega, y, by rw [x]; simp⟩)
    clear A B C G k1 k6
    refine (rec_fields _ _).mono ?_
    rintro e w1 ⟨v, rfl, hb1, hown⟩
    rw [names_two] at hown
    obtain ⟨p, cap, rfl, hm⟩ := own_val hown
    clear hown hm
    rcases hcase with ⟨c0, c1⟩ | ⟨c0, c1, c2⟩ | ⟨c0, c1, c2, c3⟩
    all_goals
      go_wp2_with (first
        | (go_at_call 33; refine (rec_need _ _ _).mono ?_; rintro e w2 ⟨rfl, hb2⟩)
        | (go_at_call 35; refine (awake10 _).mono ?_; rintro e w3 ⟨rfl, hb3⟩))
      go_ret
      exact ⟨rfl, by repeat (first | exact Below.refl _ _ | (refine below_next ?_ (by assumption) (Nat.le_refl _)))⟩
  · have e2 : (k == 2) = false := by rw [beq_eq_false_iff_ne]; exact h2
    obtain ⟨n1, n2⟩ := known_named k a1 k1 k6 e2
    refine (rec_fields _ _).mono ?_
    rintro e w1 ⟨v, rfl, hb1, hown⟩
    go_wp2_with fail
    refine (rec_need _ _ _).mono ?_
    rintro e w2 ⟨rfl, hb2⟩
    rw [n1, n2]
    clear n1 n2
    have hrow := row_later hown hb2
    have hfull := own_full hown
    have hl := names_len k
    have hlen : (rNames k).length ≤ 10 := by revert hl; repeat' split
                                             all_goals omega
    have hb12 : Below w.heap.size w w2 := below_next hb1 hb2 (Nat.le_refl _)
    have hall : ∀ g cap, v = .slice (some ⟨g, 0, none⟩) (rNames k).length cap → ∀ i (h : i < (rNames k).length), w2.cell? ⟨g, i, none⟩ = some (.string ((rNames k)[i]'h)) := by
      intro g cap hv i h
      obtain ⟨-, p, c, hv2, hr⟩ := hrow
      rw [hv] at hv2
      injection hv2 with e1 e2 e3
      rcases hr with h0 | ⟨b, o, hp, hc⟩
      · simp at h0; rw [h0] at h; simp at h
      · rw [hp] at e1
        injection e1 with e1
        injection e1 with e4 e5
        have := hc i (.string ((rNames k)[i]'h)) (by simp)
        rw [← e4, ← e5] at this
        simpa using this
    generalize rNames k = xs at *
    clear hown hrow hb1 hb2 hl h2 k1 k6
    have G' := Lib.hid G
    have A' := Lib.hid hall
    clear G hall
    rcases hfull with ⟨rfl, hn⟩ | ⟨g, cap, rfl, hnc, hcm⟩
    · have hx : xs = [] := List.eq_nil_of_length_eq_zero hn
      subst hx
      clear A' G'
      go_wp2
      refine wp_loop_rounds 1 ?_
      rw [rounds_succ]
      go_wp2_with (go_at_call 35; refine (awake10 _).mono ?_; rintro e w3 ⟨rfl, hb3⟩)
      go_ret
      exact ⟨rfl, below_next hb12 (by assumption) (Nat.le_refl _)⟩
    · have cc := A'.out g cap rfl
      have C' := Lib.hid cc
      clear cc A'
      unfold maxLen at hcm
      go_wp2
      go_loopw [9] (fun i wr => ∃ k n : Nat, k ≤ xs.length ∧ i = .int .i64 k ∧ wr = w2.drewN n) (fun i _ => xs.length - (intOf i).toNat)
      case atStart => exact ⟨0, 0, by omega, rfl, rfl⟩
      case round =>
        obtain ⟨i, n, hi, rfl, rfl⟩ := hrel
        by_cases hlt : i < xs.length
        · have d1 := C'.out i hlt
          obtain ⟨g1, g2⟩ := G'.out i hlt
          have i0 : (0 : Int) ≤ i := by omega
          have i1 : (i : Int) < xs.length := by omega
          have i2 : (i : Int) ≤ cap := by omega
          have row : Row w2 (.slice (some ⟨g, 0, none⟩) i cap) ((xs.take i).map .string) := by
            have hl : ((xs.take i).map Value.string).length = i := by simp; omega
            refine ⟨by rw [hl]; unfold maxLen; omega, some ⟨g, 0, none⟩, cap, by rw [hl], .inr ⟨g, 0, rfl, fun j u hj => ?_⟩⟩
            obtain ⟨hj1, hj2⟩ := List.getElem?_eq_some_iff.1 hj
            simp at hj1 hj2
            have := C'.out j (by omega)
            rw [hj2] at this
            simpa using this
          have ROW := Lib.hid row
          clear row
          go_wp2
          go_quiet ((go_at_call 39; exact quiet_add (in_str _ (xs.take i) _ _ (row_drewN ROW.out _))))
          go_wp2
          go_roundw
          case rel => exact ⟨i + 1, _, by omega, by go_num, rfl⟩
          case measure => simp [intOf]; omega
        · have hi' : i = xs.length := by omega
          have HI := Lib.hid hi'
          clear hi'
          go_wp2_with (go_at_call 35; refine (awake10 _).mono ?_; rintro e w3 ⟨rfl, hb3⟩)
          go_ret
          exact ⟨rfl, (below_drewN hb12 n).trans (Below.mono (by assumption) (by have := hb12.size; simpa using this))⟩

end Go.Proofs.Ytkjncehcabhljaa.recordNames
