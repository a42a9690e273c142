/- The reference's rows: Words, New. -/
import Derived.Test.YtfnhfhoafnpfoaaRefSpan4
namespace Go.Proofs.Ytfnhfhoafnpfoaa
open Go.RowKit
set_option linter.unusedVariables false

/-- How many of the first k slots are used. -/
def padC (r : SRow) (k : Nat) : Nat := ((List.range k).filter (pad r)).length
theorem padC_succ (r : SRow) (k : Nat) : padC r (k + 1) = padC r k + if pad r k then 1 else 0 := by
  unfold padC; rw [List.range_succ, List.filter_append, List.length_append]
  cases h : pad r k <;> simp [h]
theorem padC_le (r : SRow) (k : Nat) : padC r k ≤ k := Nat.le_trans (List.length_filter_le _ _) (by simp)
theorem padC_take (r : SRow) (k : Nat) : padC r k = used (r.2.take k) := by
  induction k with
  | zero => rfl
  | succ k ih =>
    rw [padC_succ, ih]
    by_cases h : k < r.2.length
    · rw [used_snoc _ _ h]
      unfold pad
      rw [List.getElem?_eq_getElem h]
      cases r.2[k] <;> rfl
    · rw [List.take_of_length_le (by omega), List.take_of_length_le (by omega)]
      have : pad r k = false := by unfold pad; rw [List.getElem?_eq_none (by omega)]; rfl
      rw [this]; rfl
theorem padC_all (r : SRow) (h : r.2.length ≤ 8) : padC r 8 = used r.2 := by rw [padC_take, List.take_of_length_le h]
theorem sWords_succ (l : List SRow) (i : Nat) (h : i < l.length) : sWords (l.take (i + 1)) = sWords (l.take i) + (used l[i].2 : Int) * cWords l[i].1 := by
  unfold sWords; rw [List.take_succ_eq_append_getElem h, List.map_append, List.sum_append]; simp
section
variable {w0 w : World} {F0 : List Nat} {ps : List Piece} {b : Nat} {l : List SRow}
/-- The cells of a span's slots. -/
theorem St.rslots (h : St w0 F0 ps w) (k : Nat) (hk : ps[k]? = some (RSpanP b l)) : ∃ g c, w.cell? ⟨b, 1, none⟩ = some (.slice (some ⟨g, 0, none⟩) l.length c) ∧ ∀ i (hi : i < l.length) j, j < 8 → w.cell? ⟨g, i * 8 + j, none⟩ = some (.bool (pad l[i] j)) := by
  obtain ⟨G, g1, c1, g2, c2, h1, h2, h3, m1, m2, _, h128, hok, _⟩ := h.get k hk
  have e1 := h1.cell 1
  simp at e1
  exact ⟨g2, c2, e1, fun i hi j hj => (h3.cell i hi j hj).1⟩

set_option maxHeartbeats 2000000 in
theorem rs_Words (h : St w0 F0 (RSpanP b l :: ps) w) :
    Calls Try.prog 23 #[.pointer (some ⟨b, 0, none⟩)] w fun e w' => e = .returned (.int .i64 (sWords l)) ∧ St w0 F0 (RSpanP b l :: ps) w' := by
  obtain ⟨hok, h128⟩ := h.rspan 0 rfl
  have hbd : ∀ i, i ≤ l.length → 0 ≤ sWords (l.take i) ∧ sWords (l.take i) ≤ 256 * i := by
    intro i
    induction i with
    | zero => intro _; simp [sWords]
    | succ i ih =>
      intro hi
      obtain ⟨a, c⟩ := ih (by omega)
      rw [sWords_succ l i (by omega)]
      have h8 := (hok _ (List.getElem_mem (show i < l.length by omega))).len
      have hu : used (l[i]'(by omega)).2 ≤ 8 := Nat.le_trans List.count_le_length h8
      obtain ⟨w1, w2⟩ := cWords_bd (l[i]'(by omega)).1
      have m0 : 0 ≤ (used (l[i]'(by omega)).2 : Int) * cWords (l[i]'(by omega)).1 := Int.mul_nonneg (by omega) w1
      have m1 : (used (l[i]'(by omega)).2 : Int) * cWords (l[i]'(by omega)).1 ≤ 8 * 32 := Int.mul_le_mul (by omega) w2 w1 (by omega)
      omega
  have HBD := Lib.hid hbd
  have HOK := Lib.hid hok
  clear hbd hok
  go_enter Try.func23, Try.ntmps23
  go_wp2
  go_loopw [3, 4, 5] (fun nv iv jv wr => ∃ i : Nat, i ≤ l.length ∧ iv = .int .i64 i ∧ nv = .int .i64 (sWords (l.take i)) ∧ St w0 F0 (RSpanP b l :: ps) wr) (fun _ iv _ _ => l.length - (intOf iv).toNat)
  case atStart => exact ⟨0, by omega, rfl, rfl, h⟩
  case round =>
    obtain ⟨i, hi, rfl, rfl, h1⟩ := hrel
    clear h
    obtain ⟨g1, c1, e1, d1⟩ := h1.rclass 0 rfl
    by_cases hlt : i < l.length
    · have hs := sWords_succ l i hlt
      have hw := cWords_bd (l[i]'hlt).1
      obtain ⟨s0, s1⟩ := HBD.out i hi
      have hpa := padC_all (l[i]'hlt) (HOK.out _ (List.getElem_mem hlt)).len
      have HS := Lib.hid (And.intro hs hpa)
      generalize sWords (l.take i) = s at *
      obtain ⟨W, hW⟩ : ∃ W, cWords (l[i]'hlt).1 = W := ⟨_, rfl⟩
      rw [hW] at hw
      obtain ⟨W0, W1⟩ := hw
      have HWW := Lib.hid hW
      obtain ⟨r, hr⟩ : ∃ r, l[i]'hlt = r := ⟨_, rfl⟩
      have HR := Lib.hid hr
      rw [hr] at HS HWW
      have i0 : (0 : Int) ≤ i := by omega
      have i1 : (i : Int) < l.length := by omega
      clear hs hpa hW hr d1
      go_wp2
      go_loopw [3, 5] (fun nv jv wr => ∃ j : Nat, j ≤ 8 ∧ jv = .int .i64 j ∧ nv = .int .i64 (s + (padC r j : Int) * W) ∧ St w0 F0 (RSpanP b l :: ps) wr) (fun _ jv _ => 8 - (intOf jv).toNat)
      case atStart => exact ⟨0, by omega, rfl, by congr 1; simp [padC], h1⟩
      case round =>
        obtain ⟨j, hj, rfl, rfl, h2⟩ := hrel
        clear h1 e1
        by_cases hlj : j < 8
        · obtain ⟨g1, c1, e1, d1⟩ := h2.rclass 0 rfl
          obtain ⟨g2, c2, e2, d2⟩ := h2.rslots 0 rfl
          have x1 := d1 i hlt
          have x2 := d2 i hlt j hlj
          rw [HR.out] at x1 x2
          have hps := padC_succ r j
          have hpl := padC_le r j
          obtain ⟨m, hm⟩ : ∃ m : Int, (padC r j : Int) * W = m := ⟨_, rfl⟩
          have m0 : 0 ≤ m := by rw [← hm]; exact Int.mul_nonneg (by omega) W0
          have m1 : m ≤ 8 * 32 := by rw [← hm]; exact Int.mul_le_mul (by omega) W1 W0 (by omega)
          rw [hm]
          have HM := Lib.hid (And.intro hm hps)
          have j0 : (0 : Int) ≤ j := by omega
          have j1 : (j : Int) < 8 := by omega
          clear d1 d2 hm hps hpl
          cases hp : pad r j with
          | false =>
            rw [hp] at x2
            have HP := Lib.hid hp
            clear hp
            go_wp2
            go_roundw
            case rel => exact ⟨j + 1, by omega, by go_num, by rw [HM.out.2, HP.out, ← HM.out.1]; simp, h2⟩
            case measure => simp [intOf]; omega
          | true =>
            rw [hp] at x2
            have HP := Lib.hid hp
            clear hp
            go_wp2_with fail
            refine (refc_Words _ _).mono ?_
            rintro e w3 ⟨rfl, hb3⟩
            rw [HWW.out]
            have h3 := h2.below hb3
            clear h2 hb3 x1 x2 e1 e2
            go_wp2
            go_roundw
            case rel =>
              refine ⟨j + 1, by omega, by go_num, ?_, h3⟩
              rw [HM.out.2, HP.out, ← HM.out.1]
              simp [Int.add_mul]; omega
            case measure => simp [intOf]; omega
        · have hj8 : j = 8 := by omega
          subst hj8
          go_wp2
          go_roundw
          case rel =>
            refine ⟨i + 1, by omega, by go_num, ?_, h2⟩
            rw [HS.out.1, HS.out.2, HWW.out]
          case measure => simp [intOf]; omega
    · have hil : i = l.length := by omega
      subst hil
      go_wp2
      go_ret
      exact ⟨ret_i (by rw [List.take_of_length_le (Nat.le_refl _)]), h1⟩

theorem rnew_join {B n : Nat} {v1 v2 : Value} (hn2 : 2 ≤ n) (hn : n ≤ 128) (h : St w0 F0 (RowP v1 (List.replicate n (-1)) :: R8P v2 n :: BlkP B 91 #[v1, v2] :: ps) w) : St w0 F0 (RSpanP B (sNew n) :: ps) w := by
  refine St.step (ps := [RowP v1 (List.replicate n (-1)), R8P v2 n, BlkP B 91 #[v1, v2]]) (ps' := [RSpanP B (sNew n)]) h ?_
  rintro F ⟨F1, F2, rfl, ⟨o1, rfl⟩, ⟨F3, F4, rfl, ⟨o2, rfl⟩, ⟨F5, F6, rfl, ⟨hb, rfl⟩, h6, hd6⟩, hd4⟩, hd⟩
  cases h6
  have hl : (sNew n).length = n := by simp [sNew]
  have hrow : ∀ i (hi : i < (sNew n).length), (sNew n)[i] = noRow := by intro i hi; simp [sNew]
  obtain ⟨_, ⟨_, hz⟩ | ⟨g1, c1, cur1, rfl, _, hg1, hn1, hm1, hs1, ht1⟩⟩ := o1
  · simp at hz; omega
  obtain ⟨_, ⟨_, hz⟩ | ⟨g2, c2, cur2, rfl, _, hg2, hn2', hm2, hs2, ht2⟩⟩ := o2
  · omega
  simp only [List.length_replicate, iV_len] at *
  refine ⟨[B, g1, g2] ++ [], ⟨[B, g1, g2], [], rfl, ?_, rfl, by simp⟩, Keeps.refl _ _, ?_⟩
  · refine ⟨g1, c1, g2, c2, by rw [hl]; exact hb, ⟨cur1, hg1, by omega, by omega, ?_⟩, ⟨cur2, hg2, by omega, by omega, ?_⟩, hm1, hm2, rfl, by omega, ?_, ?_, ?_, ?_⟩
    · intro i hi
      rw [hrow i hi]
      have hi' : i < n := by rw [hl] at hi; exact hi
      have e : (cur1.toList.take (n * 1))[i]? = some (.int .i64 (-1)) := by
        rw [ht1]; unfold iV; rw [List.map_replicate, List.getElem?_replicate, if_pos hi']
      rw [List.getElem?_take, if_pos (by omega)] at e
      simpa [noRow] using e
    · intro i hi k hk
      rw [hrow i hi]
      have hi' : i < n := by rw [hl] at hi; exact hi
      have e : (cur2.toList.take (n * 8))[i * 8 + k]? = some (.bool false) := by
        rw [ht2]; unfold falses; rw [List.getElem?_replicate, if_pos (by omega)]
      rw [List.getElem?_take, if_pos (by omega)] at e
      simpa [pad_none] using e
    · intro r hr
      have := List.eq_of_mem_replicate hr
      subst this; exact .inl ⟨rfl, rfl⟩
    · rintro rfl; exact hd B (by simp [Value.ownBlock]) (by simp)
    · rintro rfl; exact hd4 B (by simp [Value.ownBlock]) (by simp)
    · rintro rfl; exact hd g1 (by simp [Value.ownBlock]) (by simp [Value.ownBlock])
  · intro i hi
    simp [Value.ownBlock] at hi ⊢
    rcases hi with rfl | rfl | rfl <;> simp
theorem rs_New {n : Nat} (hn2 : 2 ≤ n) (hn : n ≤ 128) (h0 : St w0 F0 ps w) :
    Calls Try.prog 16 #[.int .i64 n] w fun e w' => ∃ B, e = .returned (.tuple #[.pointer (some ⟨B, 0, none⟩), .int .i64 0]) ∧ St w0 F0 (RSpanP B (sNew n) :: ps) w' :=
  (rspan_New_at n hn2 hn h0).mono fun e w' ⟨B, v1, v2, he, h⟩ => ⟨B, he, rnew_join hn2 hn h⟩
end
end Go.Proofs.Ytfnhfhoafnpfoaa
