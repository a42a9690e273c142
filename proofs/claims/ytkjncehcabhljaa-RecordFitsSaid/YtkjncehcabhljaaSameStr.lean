/- Two lists of strings held against each other. -/
import Derived.Test.YtkjncehcabhljaaRows
import Derived.Test.YtkjncehcabhljaaPlain
import Derived.Test.YtkjncehcabhljaaRowOf
import Derived.Test.YtkjncehcabhljaaQuietAdd
import Derived.WalkKit
import Derived.WalkSpells
import Derived.WalkLawsBesides
import Derived.Deep.QuietTactic
import Derived.BigQuiet
import Derived.Lib.Hide
namespace Go.Proofs.Ytkjncehcabhljaa
open Go.RowKit

theorem bytes_beq (a b : ByteArray) : (a.toList == b.toList) = decide (a = b) := by
  by_cases h : a = b
  · subst h; simp
  · have : a.toList ≠ b.toList := fun e => h (by
      rw [ByteArray.toList_eq, ByteArray.toList_eq] at e
      exact ByteArray.ext (Array.toList_inj.mp e))
    simp [h, this]

theorem same_one (a b : ByteArray) (w : World) :
    Calls Try.prog 51 #[.string a, .string b] w fun e w' => e = .returned (.bool (decide (a = b))) ∧ w = w' := by
  go_enter Try.func51, Try.ntmps51
  go_wp2
  go_ret
  exact ⟨ret_b (bytes_beq a b), rfl⟩

theorem same_str (v1 v2 : Value) (xs ys : List ByteArray) (w : World) (h1 : Row w v1 (xs.map .string)) (h2 : Row w v2 (ys.map .string)) :
    Calls Try.prog 50 #[v1, v2, .func (.func 51) #[] #[]] w fun e w' => e = .returned (.bool (decide (xs = ys))) ∧ ∃ n, w' = w.drewN n := by
  obtain ⟨l1, p1, c1, rfl, h1⟩ := h1
  obtain ⟨l2, p2, c2, rfl, h2⟩ := h2
  simp only [List.length_map] at *
  unfold maxLen at l1 l2
  by_cases hl : xs.length = ys.length
  · have HL := Lib.hid hl
    have H1 := Lib.hid h1
    have H2 := Lib.hid h2
    have hne : ((xs.length : Int) != ys.length) = false := by rw [hl]; simp
    clear hl h1 h2
    go_enter Try.func50, Try.ntmps50
    go_wp2
    go_loopw [7] (fun i wr => ∃ k n : Nat, k ≤ xs.length ∧ i = .int .i64 k ∧ wr = w.drewN n ∧ xs.take k = ys.take k) (fun i _ => xs.length - (intOf i).toNat)
    case atStart => exact ⟨0, 0, by omega, rfl, rfl, rfl⟩
    case round =>
      obtain ⟨k, n, hk, rfl, rfl, ht⟩ := hrel
      by_cases hlt : k < xs.length
      · obtain ⟨b1, o1, rfl, hc1⟩ := H1.out.resolve_left (by omega)
        obtain ⟨b2, o2, rfl, hc2⟩ := H2.out.resolve_left (by have := HL.out; omega)
        have d1 := hc1 k (.string xs[k]) (by simp)
        have d2 := hc2 k (.string (ys[k]'(by have := HL.out; omega))) (by simp)
        have HT := Lib.hid ht
        clear hc1 hc2 ht
        have i0 : (0 : Int) ≤ k := by omega
        have i1 : (k : Int) < xs.length := by omega
        have i2 : (k : Int) < ys.length := by have := HL.out; omega
        go_wp2
        go_quiet ((go_at_call 51; exact quiet_add_left (same_one _ _ _)))
        go_wp2
        · have hd : (!decide (xs[k] = ys[k]'(by have := HL.out; omega))) = true := by assumption
          go_ret
          refine ⟨ret_b ?_, n + nq, by simp⟩
          symm; rw [decide_eq_false_iff_not]
          intro e
          subst e
          simp at hd
        · have hd : (!decide (xs[k] = ys[k]'(by have := HL.out; omega))) = false := by assumption
          refine ⟨⟨k + 1, n + nq, by omega, by go_num, by simp, ?_⟩, by simp [intOf]; omega⟩
          rw [List.take_succ_eq_append_getElem hlt, List.take_succ_eq_append_getElem (by have := HL.out; omega), HT.out]
          simp at hd
          rw [hd]
      · go_wp2
        go_ret
        refine ⟨ret_b ?_, n, rfl⟩
        have hk' : k = xs.length := by omega
        have hl := HL.out
        subst hk'
        rw [List.take_length, hl, List.take_length] at ht
        simp [ht]
  · go_enter Try.func50, Try.ntmps50
    go_wp2
    go_ret
    exact ⟨ret_b (by simp; intro e; exact hl (by rw [e])), 0, rfl⟩

theorem plain_str (v1 v2 : Value) (xs ys : List ByteArray) (w : World) (h1 : Row w v1 (xs.map .string)) (h2 : Row w v2 (ys.map .string)) :
    Calls Try.prog 36 #[v1, v2] w fun e w' => e = .returned (.bool (decide (xs = ys))) ∧ ∃ n, w' = w.drewN n := by
  go_enter Try.func36, Try.ntmps36
  go_wp2_with (go_at_call 50; refine (same_str _ _ xs ys _ h1 h2).mono ?_; rintro e w' ⟨rfl, n, rfl⟩)
  go_ret
  exact ⟨rfl, _, rfl⟩
end Go.Proofs.Ytkjncehcabhljaa
