/- Package record's Need, and the reference's Fields and Need. -/
import Derived.Test.YtkjncehcabhljaaRecord
namespace Go.Proofs.Ytkjncehcabhljaa
open Go.RowKit

theorem names_len (k : Int) : ((rNames k).length : Int) = if k = 1 then 9 else if k = 3 then 7 else if k = 4 then 10 else if k = 5 then 2 else if k = 6 then 2 else 0 := by
  obtain rfl | rfl | rfl | rfl | rfl | h := kind_cases k
  · decide +kernel
  · decide +kernel
  · decide +kernel
  · decide +kernel
  · decide +kernel
  · have : rNames k = [] := by unfold rNames; rw [rText_none h]; rfl
    rw [this]; repeat (rw [if_neg (by omega)])
    rfl

theorem need_eq (k n : Int) (h : k ≠ 2) : rNeed k n = (rNames k).length ∧ rKnown k n = decide (0 < (rNames k).length) := by
  have e : decide (0 < (rNames k).length) = decide (0 < ((rNames k).length : Int)) := by rw [decide_eq_decide]; omega
  rw [e, names_len]
  unfold rNeed rKnown
  rw [if_neg h, if_neg h]
  refine ⟨rfl, ?_⟩
  rw [decide_eq_decide]
  repeat' split
  all_goals omega

theorem need_buf (n : Int) : (n < 0 → rNeed 2 n = 0 ∧ rKnown 2 n = false) ∧ (3 < n → rNeed 2 n = 0 ∧ rKnown 2 n = false) ∧ (0 ≤ n → n ≤ 3 → rNeed 2 n = n ∧ rKnown 2 n = true) := by
  unfold rNeed rKnown
  refine ⟨fun h => ?_, fun h => ?_, fun h h' => ?_⟩
  · exact ⟨by simp [h], by simp; omega⟩
  · exact ⟨by simp [h], by simp; omega⟩
  · exact ⟨by simp; omega, by simp; omega⟩

theorem own_new (w : World) (c : Array Value) (e : Nat) (hc : c.size ≤ 1000) : (w.alloc (.cells c e)).ownsRow w.heap.size e 1 (.slice (some ⟨w.heap.size, 0, none⟩) c.size c.size) c.size c.toList :=
  ⟨by simp, .inr ⟨w.heap.size, c.size, c, rfl, Nat.le_refl _, by show (w.heap.push _)[w.heap.size]? = _; simp, Nat.le_refl _, by unfold maxLen; omega, by simp, by simp [List.take_of_length_le]⟩⟩

def refNeedPost (k n : Int) (w : World) (e : Ending) (w' : World) : Prop := e = .returned (.tuple #[.int .i64 (rNeed k n), .bool (rKnown k n)]) ∧ Below w.heap.size w w'

theorem own_val {w : World} {B e : Nat} {v : Value} {n : Nat} {xs : List Value} (h : w.ownsRow B e 1 v n xs) : ∃ p cap, v = .slice p n cap ∧ n ≤ maxLen := by
  obtain ⟨_, ⟨rfl, rfl⟩ | ⟨g, cap, cur, rfl, _, _, hn, hm, _⟩⟩ := h
  · exact ⟨_, _, rfl, by simp⟩
  · exact ⟨_, _, rfl, by omega⟩

theorem rec_need (k n : Int) (w : World) : Calls Try.prog 33 #[.int .i64 k, .int .i64 n] w (refNeedPost k n w) := by
  by_cases hk : k = 2
  · subst hk
    obtain ⟨a, b, c⟩ := need_buf n
    by_cases h0 : n < 0
    · obtain ⟨a1, a2⟩ := a h0
      have A := Lib.hid a1; have B := Lib.hid a2; clear a b c a1 a2
      go_enter Try.func33, Try.ntmps33
      go_wp2
      go_ret2
      exact ⟨ret_ib A.out.symm B.out.symm, Below.refl _ _⟩
    · by_cases h3 : 3 < n
      · obtain ⟨a1, a2⟩ := b h3
        have A := Lib.hid a1; have B := Lib.hid a2; clear a b c a1 a2
        go_enter Try.func33, Try.ntmps33
        go_wp2
        go_ret2
        exact ⟨ret_ib A.out.symm B.out.symm, Below.refl _ _⟩
      · obtain ⟨a1, a2⟩ := c (by omega) (by omega)
        have A := Lib.hid a1; have B := Lib.hid a2; clear a b c a1 a2
        go_enter Try.func33, Try.ntmps33
        go_wp2
        go_ret2
        exact ⟨ret_ib A.out.symm B.out.symm, Below.refl _ _⟩
  · obtain ⟨a1, a2⟩ := need_eq k n hk
    have A := Lib.hid a1; have B := Lib.hid a2; clear a1 a2
    have e2 : (k == 2) = false := by rw [beq_eq_false_iff_ne]; exact hk
    have F := Lib.hid (rec_fields k w)
    clear hk
    go_enter Try.func33, Try.ntmps33
    go_wp2_with fail
    refine F.out.mono ?_
    rintro e w' ⟨v, rfl, hb, hown⟩
    obtain ⟨p, cap, rfl, hm⟩ := own_val hown
    unfold maxLen at hm
    generalize (rNames k).length = m at *
    clear hown F
    go_wp2
    go_ret2
    exact ⟨ret_ib A.out.symm B.out.symm, hb⟩

theorem refr_fields (k : Int) (w : World) : Calls Try.prog 38 #[.int .i64 k] w (GivesStrs (rNames k) w) := by
  obtain rfl | rfl | rfl | rfl | rfl | h := kind_cases k
  · have e : rNames 1 = [bs [99, 97, 112], bs [99, 108, 111, 115, 101, 100], bs [99, 111, 117, 110, 116], bs [115, 116, 97, 114, 116], bs [98, 117, 102], bs [116, 97, 107, 101, 104, 101, 97, 100], bs [116, 97, 107, 101, 116, 97, 105, 108], bs [115, 101, 110, 100, 104, 101, 97, 100], bs [115, 101, 110, 100, 116, 97, 105, 108]] := by decide +kernel
    rw [e]; clear e
    go_enter Try.func38, Try.ntmps38
    go_wp2
    go_ret
    exact ⟨_, rfl, (Below.refl _ _).alloc (Nat.le_refl _) _, own_new _ _ _ (by decide)⟩
  · have e : rNames 3 = [bs [103, 111, 114], bs [99, 104, 97, 110], bs [118, 97, 108, 117, 101], bs [110, 101, 120, 116], bs [116, 111], bs [114, 101, 103], bs [109, 111, 114, 101]] := by decide +kernel
    rw [e]; clear e
    go_enter Try.func38, Try.ntmps38
    go_wp2
    go_ret
    exact ⟨_, rfl, (Below.refl _ _).alloc (Nat.le_refl _) _, own_new _ _ _ (by decide)⟩
  · have e : rNames 4 = [bs [105, 100], bs [115, 116, 97, 116, 117, 115], bs [112, 99], bs [97], bs [98], bs [99], bs [100], bs [101], bs [102], bs [115, 117, 100, 111, 103, 115]] := by decide +kernel
    rw [e]; clear e
    go_enter Try.func38, Try.ntmps38
    go_wp2
    go_ret
    exact ⟨_, rfl, (Below.refl _ _).alloc (Nat.le_refl _) _, own_new _ _ _ (by decide)⟩
  · have e : rNames 5 = [bs [118, 97, 108, 117, 101], bs [102, 105, 110, 97, 108]] := by decide +kernel
    rw [e]; clear e
    go_enter Try.func38, Try.ntmps38
    go_wp2
    go_ret
    exact ⟨_, rfl, (Below.refl _ _).alloc (Nat.le_refl _) _, own_new _ _ _ (by decide)⟩
  · have e : rNames 6 = [bs [119, 104, 101, 110], bs [99, 104, 97, 110]] := by decide +kernel
    rw [e]; clear e
    go_enter Try.func38, Try.ntmps38
    go_wp2
    go_ret
    exact ⟨_, rfl, (Below.refl _ _).alloc (Nat.le_refl _) _, own_new _ _ _ (by decide)⟩
  · have : rNames k = [] := by unfold rNames; rw [rText_none h]; rfl
    rw [this]; clear this
    have h1 : (k == 1) = false := by rw [beq_eq_false_iff_ne]; omega
    have h3 : (k == 3) = false := by rw [beq_eq_false_iff_ne]; omega
    have h4 : (k == 4) = false := by rw [beq_eq_false_iff_ne]; omega
    have h5 : (k == 5) = false := by rw [beq_eq_false_iff_ne]; omega
    have h6 : (k == 6) = false := by rw [beq_eq_false_iff_ne]; omega
    clear h
    go_enter Try.func38, Try.ntmps38
    go_wp2
    go_ret
    exact ⟨_, rfl, Below.refl _ _, World.ownsRow_nil _ _ _ _⟩
theorem refr_need (k n : Int) (w : World) : Calls Try.prog 34 #[.int .i64 k, .int .i64 n] w (refNeedPost k n w) := by
  by_cases hk : k = 2
  · subst hk
    obtain ⟨a, b, c⟩ := need_buf n
    by_cases h0 : n < 0
    · obtain ⟨a1, a2⟩ := a h0
      have A := Lib.hid a1; have B := Lib.hid a2; clear a b c a1 a2
      go_enter Try.func34, Try.ntmps34
      go_wp2
      go_ret2
      exact ⟨ret_ib A.out.symm B.out.symm, Below.refl _ _⟩
    · by_cases h3 : 3 < n
      · obtain ⟨a1, a2⟩ := b h3
        have A := Lib.hid a1; have B := Lib.hid a2; clear a b c a1 a2
        go_enter Try.func34, Try.ntmps34
        go_wp2
        go_ret2
        exact ⟨ret_ib A.out.symm B.out.symm, Below.refl _ _⟩
      · obtain ⟨a1, a2⟩ := c (by omega) (by omega)
        have A := Lib.hid a1; have B := Lib.hid a2; clear a b c a1 a2
        go_enter Try.func34, Try.ntmps34
        go_wp2
        go_ret2
        exact ⟨ret_ib A.out.symm B.out.symm, Below.refl _ _⟩
  · obtain ⟨a1, a2⟩ := need_eq k n hk
    have A := Lib.hid a1; have B := Lib.hid a2; clear a1 a2
    have e2 : (k == 2) = false := by rw [beq_eq_false_iff_ne]; exact hk
    have F := Lib.hid (refr_fields k w)
    clear hk
    go_enter Try.func34, Try.ntmps34
    go_wp2_with fail
    refine F.out.mono ?_
    rintro e w' ⟨v, rfl, hb, hown⟩
    obtain ⟨p, cap, rfl, hm⟩ := own_val hown
    unfold maxLen at hm
    generalize (rNames k).length = m at *
    clear hown F
    go_wp2
    go_ret2
    exact ⟨ret_ib A.out.symm B.out.symm, hb⟩


end Go.Proofs.Ytkjncehcabhljaa
