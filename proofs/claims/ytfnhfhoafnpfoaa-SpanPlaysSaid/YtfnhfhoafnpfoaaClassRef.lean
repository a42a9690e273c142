/- Classes in the reference: what each call answers. -/
import Derived.Test.YtfnhfhoafnpfoaaClass
namespace Go.Proofs.Ytfnhfhoafnpfoaa
open Go.RowKit

set_option maxHeartbeats 1000000 in
theorem refc_Words (a : Int) (w : World) :
    Calls Try.prog 30 #[.int .i64 a] w fun e w' => e = .returned (.int .i64 (cWords a)) ∧ Below w.heap.size w w' := by
  obtain rfl | rfl | rfl | rfl | h := class_cases a
  · go_enter Try.func30, Try.ntmps30
    go_wp2
    go_ret
    exact ⟨rfl, (Below.refl _ _).alloc (Nat.le_refl _) _⟩
  · go_enter Try.func30, Try.ntmps30
    go_wp2
    go_ret
    exact ⟨rfl, (Below.refl _ _).alloc (Nat.le_refl _) _⟩
  · go_enter Try.func30, Try.ntmps30
    go_wp2
    go_ret
    exact ⟨rfl, (Below.refl _ _).alloc (Nat.le_refl _) _⟩
  · go_enter Try.func30, Try.ntmps30
    go_wp2
    go_ret
    exact ⟨rfl, (Below.refl _ _).alloc (Nat.le_refl _) _⟩
  · have e0 := cWords_none h
    rw [e0]; clear e0
    by_cases h0 : a < 0
    · go_enter Try.func30, Try.ntmps30
      go_wp2
      go_ret
      exact ⟨rfl, Below.refl _ _⟩
    · have h3 : 3 < a := by omega
      go_enter Try.func30, Try.ntmps30
      go_wp2
      go_ret
      exact ⟨rfl, Below.refl _ _⟩

theorem refc_Slots (a : Int) (w : World) :
    Calls Try.prog 29 #[.int .i64 a] w fun e w' => e = .returned (.int .i64 (cSlots a)) ∧ Below w.heap.size w w' := by
  obtain rfl | rfl | rfl | rfl | h := class_cases a
  · go_enter Try.func29, Try.ntmps29
    go_wp2_with (go_at_call 30; refine (refc_Words _ _).mono ?_; rintro e w' ⟨rfl, hb⟩; rw [show cWords 0 = 4 from rfl])
    go_ret
    exact ⟨rfl, by assumption⟩
  · go_enter Try.func29, Try.ntmps29
    go_wp2_with (go_at_call 30; refine (refc_Words _ _).mono ?_; rintro e w' ⟨rfl, hb⟩; rw [show cWords 1 = 8 from rfl])
    go_ret
    exact ⟨rfl, by assumption⟩
  · go_enter Try.func29, Try.ntmps29
    go_wp2_with (go_at_call 30; refine (refc_Words _ _).mono ?_; rintro e w' ⟨rfl, hb⟩; rw [show cWords 2 = 16 from rfl])
    go_ret
    exact ⟨rfl, by assumption⟩
  · go_enter Try.func29, Try.ntmps29
    go_wp2_with (go_at_call 30; refine (refc_Words _ _).mono ?_; rintro e w' ⟨rfl, hb⟩; rw [show cWords 3 = 32 from rfl])
    go_ret
    exact ⟨rfl, by assumption⟩
  · have e1 := cSlots_none h
    rw [e1]; clear e1
    by_cases h0 : a < 0
    · go_enter Try.func29, Try.ntmps29
      go_wp2
      go_ret
      exact ⟨rfl, Below.refl _ _⟩
    · have h3 : 3 < a := by omega
      go_enter Try.func29, Try.ntmps29
      go_wp2
      go_ret
      exact ⟨rfl, Below.refl _ _⟩

set_option maxHeartbeats 1000000 in
theorem refc_ClassOf (a : Int) (w : World) :
    Calls Try.prog 75 #[.int .i64 a] w fun e w' => e = .returned (.tuple #[.int .i64 (cOf a), .bool (cFits a)]) ∧ Below w.heap.size w w' := by
  by_cases hn : 0 ≤ a
  · go_enter Try.func75, Try.ntmps75
    go_wp2
    go_loopw [4] (fun c w' => ∃ pos : Nat, pos ≤ 4 ∧ c = .int .i64 pos ∧ Below w.heap.size w w' ∧ (pos = 0 ∨ 2 ^ (pos + 1) ≤ a)) (fun c _ => 4 - (intOf c).toNat)
    case atStart => exact ⟨0, by omega, rfl, Below.refl _ _, .inl rfl⟩
    case round =>
      obtain ⟨pos, hp, rfl, hb, hq⟩ := hrel
      obtain rfl | rfl | rfl | rfl | rfl : pos = 0 ∨ pos = 1 ∨ pos = 2 ∨ pos = 3 ∨ pos = 4 := by omega
      · by_cases ha : a < 4
        · have hl : 0 ≤ a := by omega
          clear hq
          go_wp2_with (go_at_call 30; refine (refc_Words _ _).mono ?_; rintro e w' ⟨rfl, hb'⟩; rw [show cWords 0 = 4 from rfl])
          go_ret2
          have hc : cOf a = 0 := by unfold cOf; repeat (first | rw [if_pos (by omega)] | rw [if_neg (by omega)])
          have hf : cFits a = true := by unfold cFits; simp; omega
          exact ⟨ret_ib hc.symm hf.symm, hb.trans (by have := hb.size; exact Below.mono (by assumption) this)⟩
        · clear hq
          go_wp2_with (go_at_call 30; refine (refc_Words _ _).mono ?_; rintro e w' ⟨rfl, hb'⟩; rw [show cWords 0 = 4 from rfl])
          go_roundw
          case rel => exact ⟨1, by omega, rfl, hb.trans (by have := hb.size; exact Below.mono (by assumption) this), by omega⟩
          case measure => simp [intOf]
      · by_cases ha : a < 8
        · have hl : 4 ≤ a := by omega
          clear hq
          go_wp2_with (go_at_call 30; refine (refc_Words _ _).mono ?_; rintro e w' ⟨rfl, hb'⟩; rw [show cWords 1 = 8 from rfl])
          go_ret2
          have hc : cOf a = 1 := by unfold cOf; repeat (first | rw [if_pos (by omega)] | rw [if_neg (by omega)])
          have hf : cFits a = true := by unfold cFits; simp; omega
          exact ⟨ret_ib hc.symm hf.symm, hb.trans (by have := hb.size; exact Below.mono (by assumption) this)⟩
        · clear hq
          go_wp2_with (go_at_call 30; refine (refc_Words _ _).mono ?_; rintro e w' ⟨rfl, hb'⟩; rw [show cWords 1 = 8 from rfl])
          go_roundw
          case rel => exact ⟨2, by omega, rfl, hb.trans (by have := hb.size; exact Below.mono (by assumption) this), by omega⟩
          case measure => simp [intOf]
      · by_cases ha : a < 16
        · have hl : 8 ≤ a := by omega
          clear hq
          go_wp2_with (go_at_call 30; refine (refc_Words _ _).mono ?_; rintro e w' ⟨rfl, hb'⟩; rw [show cWords 2 = 16 from rfl])
          go_ret2
          have hc : cOf a = 2 := by unfold cOf; repeat (first | rw [if_pos (by omega)] | rw [if_neg (by omega)])
          have hf : cFits a = true := by unfold cFits; simp; omega
          exact ⟨ret_ib hc.symm hf.symm, hb.trans (by have := hb.size; exact Below.mono (by assumption) this)⟩
        · clear hq
          go_wp2_with (go_at_call 30; refine (refc_Words _ _).mono ?_; rintro e w' ⟨rfl, hb'⟩; rw [show cWords 2 = 16 from rfl])
          go_roundw
          case rel => exact ⟨3, by omega, rfl, hb.trans (by have := hb.size; exact Below.mono (by assumption) this), by omega⟩
          case measure => simp [intOf]
      · by_cases ha : a < 32
        · have hl : 16 ≤ a := by omega
          clear hq
          go_wp2_with (go_at_call 30; refine (refc_Words _ _).mono ?_; rintro e w' ⟨rfl, hb'⟩; rw [show cWords 3 = 32 from rfl])
          go_ret2
          have hc : cOf a = 3 := by unfold cOf; repeat (first | rw [if_pos (by omega)] | rw [if_neg (by omega)])
          have hf : cFits a = true := by unfold cFits; simp; omega
          exact ⟨ret_ib hc.symm hf.symm, hb.trans (by have := hb.size; exact Below.mono (by assumption) this)⟩
        · clear hq
          go_wp2_with (go_at_call 30; refine (refc_Words _ _).mono ?_; rintro e w' ⟨rfl, hb'⟩; rw [show cWords 3 = 32 from rfl])
          go_roundw
          case rel => exact ⟨4, by omega, rfl, hb.trans (by have := hb.size; exact Below.mono (by assumption) this), by omega⟩
          case measure => simp [intOf]
      · have hl : 32 ≤ a := by omega
        clear hq
        go_wp2
        go_ret2
        have hc : cOf a = 0 := by unfold cOf; repeat (first | rw [if_pos (by omega)] | rw [if_neg (by omega)])
        have hf : cFits a = false := by unfold cFits; simp; omega
        exact ⟨ret_ib hc.symm hf.symm, hb⟩
  · have hc : cOf a = 0 := by unfold cOf; rw [if_pos (by omega)]
    have hf : cFits a = false := by unfold cFits; simp; omega
    have hd : decide (0 ≤ a) = false := by simpa using hn
    rw [hc, hf]
    clear hc hf
    go_enter Try.func75, Try.ntmps75
    go_wp2
    refine wp_loop_rounds 1 ?_
    rw [rounds_succ]
    go_wp2
    go_ret2
    exact ⟨rfl, Below.refl _ _⟩
end Go.Proofs.Ytfnhfhoafnpfoaa
