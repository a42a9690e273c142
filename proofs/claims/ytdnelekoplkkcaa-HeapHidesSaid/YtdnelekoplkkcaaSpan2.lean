/- Package span: Len, Class, Used, Words. -/
import Derived.Test.YtdnelekoplkkcaaSpan
import Derived.Deep.RegionHeld3
namespace Go.Proofs.Ytdnelekoplkkcaa
open Go.RowKit

theorem int_cases (a : Int) (n : Nat) : a < 0 ∨ (0 ≤ a ∧ (n : Int) ≤ a) ∨ ∃ i : Nat, a = i ∧ i < n := by
  by_cases h : a < 0
  · exact .inl h
  · by_cases h2 : (n : Int) ≤ a
    · exact .inr (.inl ⟨by omega, h2⟩)
    · exact .inr (.inr ⟨a.toNat, by omega, by omega⟩)

theorem RowOk.len {r : SRow} (h : RowOk r) : r.2.length ≤ 8 := by
  rcases h with ⟨_, h⟩ | ⟨h0, h3, h, _⟩
  · rw [h]; simp
  · unfold cSlots at h; repeat' split at h
    all_goals omega

theorem span_Class (b : Nat) (l : List SRow) (F : List Nat) (a : Int) (w : World) (hS : SpanAt w b l F) :
    Calls Try.prog 99 #[.pointer (some ⟨b, 0, none⟩), .int .i64 a] w fun e w' => e = .returned (.int .i64 (sClass l a)) ∧ w = w' := by
  obtain ⟨g, cap, hb, hr, hcap, hF, hn⟩ := hS
  have c0 := hb.cell 0
  simp at c0
  clear hF
  rcases int_cases a l.length with h | ⟨h0, h⟩ | ⟨i, rfl, hi⟩
  · have e : sClass l a = -1 := by unfold sClass; rw [if_neg (by omega)]
    rw [e]; clear e
    go_enter Try.func99, Try.ntmps99
    go_wp2
    go_ret
    exact ⟨rfl, rfl⟩
  · have e : sClass l a = -1 := by unfold sClass; rw [if_pos h0, List.getElem?_eq_none (by omega)]
    rw [e]; clear e
    go_enter Try.func99, Try.ntmps99
    go_wp2
    go_ret
    exact ⟨rfl, rfl⟩
  · have e : sClass l i = (l[i]'hi).1 := by unfold sClass; rw [if_pos (by omega)]; simp [hi]
    rw [e]; clear e
    obtain ⟨d0, -, -, -⟩ := hr.cells i hi
    generalize (l[i]'hi).1 = c at *
    have i1 : (i : Int) < l.length := by omega
    clear hr hn
    go_enter Try.func99, Try.ntmps99
    go_wp2
    go_ret
    exact ⟨rfl, rfl⟩

set_option maxRecDepth 100000 in
theorem span_Used (b : Nat) (l : List SRow) (F : List Nat) (a s : Int) (w : World) (hS : SpanAt w b l F) :
    Calls Try.prog 109 #[.pointer (some ⟨b, 0, none⟩), .int .i64 a, .int .i64 s] w fun e w' => e = .returned (.bool (sUsed l a s)) ∧ Below w.heap.size w w' := by
  have HS := Lib.hid hS
  obtain ⟨g, cap, hb, hr, hcap, hF, hn, hn2, hok⟩ := hS
  have c0 := hb.cell 0
  simp at c0
  clear hF
  by_cases hcl : sClass l a = -1
  · have e : sUsed l a s = false := by
      unfold sUsed
      rcases int_cases a l.length with h | ⟨h0, h⟩ | ⟨i, rfl, hi⟩
      · rw [decide_eq_false (by omega)]; rfl
      · rw [List.getElem?_eq_none (by omega)]; simp
      · have e : sClass l i = (l[i]'hi).1 := by unfold sClass; rw [if_pos (by omega)]; simp [hi]
        rw [e] at hcl
        rcases hok _ (List.getElem_mem hi) with ⟨_, h2⟩ | ⟨h2, _⟩
        · simp [hi, h2]
        · omega
    rw [e]; clear e
    have CL := Lib.hid hcl
    clear hcl
    go_enter Try.func109, Try.ntmps109
    go_wp2_with (go_at_call 99; refine (span_Class _ _ _ _ _ HS.out).mono ?_; rintro e w' ⟨rfl, rfl⟩; rw [CL.out])
    go_ret
    exact ⟨rfl, Below.refl _ _⟩
  · by_cases hs : s < 0
    · have e : sUsed l a s = false := by unfold sUsed; rw [decide_eq_false (by omega)]; rfl
      rw [e]; clear e
      have hc2 : (sClass l a == -1) = false := by rw [beq_eq_false_iff_ne]; exact hcl
      clear hcl
      go_enter Try.func109, Try.ntmps109
      go_wp2_with (go_at_call 99; refine (span_Class _ _ _ _ _ HS.out).mono ?_; rintro e w' ⟨rfl, rfl⟩)
      go_ret
      exact ⟨rfl, Below.refl _ _⟩
    · obtain ⟨i, rfl, hi⟩ : ∃ i : Nat, a = i ∧ i < l.length := by
        rcases int_cases a l.length with h | ⟨h0, h⟩ | h
        · exact absurd (by unfold sClass; rw [if_neg (by omega)]) hcl
        · exact absurd (by unfold sClass; rw [if_pos h0, List.getElem?_eq_none (by omega)]) hcl
        · exact h
      obtain ⟨k, rfl⟩ := Int.eq_ofNat_of_zero_le (show 0 ≤ s by omega)
      have hc2 : (sClass l i == -1) = false := by rw [beq_eq_false_iff_ne]; exact hcl
      obtain ⟨-, d1, -, -⟩ := hr.cells i hi
      have e : sUsed l i k = ((l[i]'hi).2[k]? == some true) := by unfold sUsed; simp [hi]
      have hm := (hok _ (List.getElem_mem hi)).len
      rw [e]; clear e
      generalize (l[i]'hi).2 = m at *
      have i1 : (i : Int) < l.length := by omega
      have k0 : (0 : Int) ≤ k := by omega
      clear hcl hr hok hs
      go_enter Try.func109, Try.ntmps109
      go_wp2_with (go_at_call 99; refine (span_Class _ _ _ _ _ HS.out).mono ?_; rintro e w' ⟨rfl, rfl⟩)
      go_loopw [] (fun w' => ∃ pos : Nat, pos ≤ m.length ∧ w' = w.iter (marks m) pos ∧ pos ≤ k) (fun w' => m.length - w'.iterPos w.heap.size)
      case atStart => exact ⟨0, by omega, rfl, by omega⟩
      case round =>
        obtain ⟨pos, hp, rfl, hpk⟩ := hrel
        by_cases hlt : pos < m.length
        · have hnx := next_mark w m pos hlt
          by_cases hk : pos = k
          · subst hk
            have hu : (m[pos]? == some true) = m[pos] := by rw [List.getElem?_eq_getElem hlt]; cases m[pos] <;> rfl
            have HU := Lib.hid hu
            cases hbv : m[pos] with
            | true =>
              simp only [hbv, if_true] at hnx
              have HBt := Lib.hid hbv
              clear hu hbv
              go_wp2
              go_ret
              exact ⟨ret_b (by rw [HU.out, HBt.out]), iter_belowM _ _ _⟩
            | false =>
              simp only [hbv] at hnx
              have HBt := Lib.hid hbv
              clear hu hbv
              go_wp2
              go_ret
              exact ⟨ret_b (by rw [HU.out, HBt.out]), iter_belowM _ _ _⟩
          · have hne : ((pos : Int) == k) = false := by rw [beq_eq_false_iff_ne]; omega
            generalize (if m[pos] then (120 : Int) else 45) = c at *
            go_wp2
            go_roundw
            case rel => exact ⟨pos + 1, by omega, rfl, by omega⟩
            case measure => simp; omega
        · have hnx := next_marks_end (w := w) m pos hlt
          have hu : (m[k]? == some true) = false := by rw [List.getElem?_eq_none (by omega)]; rfl
          have HU := Lib.hid hu
          clear hu
          go_wp2
          go_ret
          exact ⟨ret_b HU.out.symm, iter_belowM _ _ _⟩
end Go.Proofs.Ytdnelekoplkkcaa
