/- Package span: Words. -/
import Derived.Test.YtfnhfhoafnpfoaaSpan2
namespace Go.Proofs.Ytfnhfhoafnpfoaa
open Go.RowKit

theorem sWords_snoc (l : List SRow) (i : Nat) (h : i < l.length) : sWords (l.take (i + 1)) = sWords (l.take i) + (used (l[i]'h).2 : Int) * cWords (l[i]'h).1 := by
  unfold sWords; rw [List.take_succ_eq_append_getElem h, List.map_append, List.sum_append]; simp
theorem cWords_bd (c : Int) : 0 ≤ cWords c ∧ cWords c ≤ 32 := by
  unfold cWords
  (repeat' split) <;> omega
theorem used_le (m : List Bool) : used m ≤ m.length := List.count_le_length
theorem prod_bd {r : SRow} (h : RowOk r) : 0 ≤ (used r.2 : Int) * cWords r.1 ∧ (used r.2 : Int) * cWords r.1 ≤ 256 := by
  have h1 := used_le r.2
  have h2 := h.len
  have h3 := cWords_bd r.1
  constructor
  · exact Int.mul_nonneg (by omega) h3.1
  · have a : (used r.2 : Int) * cWords r.1 ≤ (used r.2 : Int) * 32 := Int.mul_le_mul_of_nonneg_left h3.2 (by omega)
    omega
theorem sWords_bd (l : List SRow) (hok : ∀ r ∈ l, RowOk r) : ∀ i, i ≤ l.length → 0 ≤ sWords (l.take i) ∧ sWords (l.take i) ≤ 256 * (i : Int) := by
  intro i
  induction i with
  | zero => intro _; simp [sWords]
  | succ i ih =>
    intro h
    have := ih (by omega)
    have hp := prod_bd (hok _ (List.getElem_mem (show i < l.length by omega)))
    rw [sWords_snoc l i (by omega)]
    omega

set_option maxRecDepth 100000 in
set_option maxHeartbeats 1000000 in
theorem span_Words (b : Nat) (l : List SRow) (F : List Nat) (w : World) (hS : SpanAt w b l F) :
    Calls Try.prog 22 #[.pointer (some ⟨b, 0, none⟩)] w fun e w' => e = .returned (.int .i64 (sWords l)) ∧ Below w.heap.size w w' := by
  have HS := Lib.hid hS
  obtain ⟨g, cap, hb, hr, hcap, hF, hn, hn2, hok⟩ := hS
  have c0 := hb.cell 0
  have hbl := hb.lt
  have hgl := hr.lt
  simp at c0
  have HR := Lib.hid hr
  have OK := Lib.hid hok
  unfold maxLen at hcap
  have hlc : l.length ≤ cap := by obtain ⟨_, _, _, h, _⟩ := hr; exact h
  clear hF hr hok hb
  go_enter Try.func22, Try.ntmps22
  go_wp2_with (go_at_call 24; refine (span_Len _ _ _ _ HS.out).mono ?_; rintro e w' ⟨rfl, rfl⟩)
  go_loopw [3, 7] (fun s i wr => ∃ k : Nat, k ≤ l.length ∧ i = .int .i64 k ∧ s = .int .i64 (sWords (l.take k)) ∧ Below w.heap.size w wr) (fun _ i _ => l.length - (intOf i).toNat)
  case atStart => exact ⟨0, by omega, rfl, rfl, Below.refl _ _⟩
  case round =>
    obtain ⟨k, hk, rfl, rfl, hbl1⟩ := hrel
    have bd := sWords_bd l OK.out k hk
    by_cases hlt : k < l.length
    · obtain ⟨d0, d1, -, -⟩ := HR.out.cells k hlt
      have hro := OK.out _ (List.getElem_mem hlt)
      have hm := hro.len
      have hp := prod_bd hro
      have hsn := sWords_snoc l k hlt
      generalize (l[k]'hlt).1 = c at *
      generalize (l[k]'hlt).2 = m at *
      have x0 : wr.cell? ⟨b, 0, none⟩ = some (.slice (some ⟨g, 0, none⟩) l.length cap) := (hbl1.cell (p := ⟨b, 0, none⟩) hbl).trans c0
      have x1 : wr.cell? ⟨g, k * 2, none⟩ = some (.int .i64 c) := (hbl1.cell (p := ⟨g, k * 2, none⟩) hgl).trans d0
      have x2 : wr.cell? ⟨g, k * 2 + 1, none⟩ = some (.string (marks m)) := (hbl1.cell (p := ⟨g, k * 2 + 1, none⟩) hgl).trans d1
      have hgr : g < wr.heap.size := Nat.lt_of_lt_of_le hgl hbl1.size
      have hbr : b < wr.heap.size := Nat.lt_of_lt_of_le hbl hbl1.size
      have i0 : (0 : Int) ≤ k := by omega
      have i1 : (k : Int) < l.length := by omega
      have hw1 : IntKind.i64.wrap ((used m : Int) * cWords c) = (used m : Int) * cWords c := IntWalk.i64_in _ (by omega)
      have hw2 : IntKind.i64.wrap (sWords (l.take k) + (used m : Int) * cWords c) = sWords (l.take k) + (used m : Int) * cWords c := IntWalk.i64_in _ (by omega)
      have HSN := Lib.hid hsn
      have HB1 := Lib.hid hbl1
      clear hsn hro hbl1 d0 d1 c0
      have b0 : Below wr.heap.size wr wr.drew := (Below.refl _ _).drew
      go_wp2
      go_region_held3 (fun (w' : World) => Below wr.heap.size wr w' ∧ w'.cell? ⟨b, 0, none⟩ = some (.slice (some ⟨g, 0, none⟩) l.length cap) ∧ w'.cell? ⟨g, k * 2, none⟩ = some (.int .i64 c) ∧ w'.cell? ⟨g, k * 2 + 1, none⟩ = some (.string (marks m))) (first | assumption | (refine ⟨?_, ?_, ?_, ?_⟩ <;> assumption) | go_keep)
        (first
          | (go_at_call 66; refine (row_count _ _ (by omega) _).mono ?_; rintro e w3 ⟨rfl, hb3⟩; have B3 := below_next (B := wr.heap.size) (a := wr) (by assumption) hb3 (Nat.le_refl _); have y0 := (B3.cell (p := ⟨b, 0, none⟩) hbr).trans x0; have y1 := (B3.cell (p := ⟨g, k * 2, none⟩) hgr).trans x1; have y2 := (B3.cell (p := ⟨g, k * 2 + 1, none⟩) hgr).trans x2)
          | (go_at_call 70; refine (class_Words _ _).mono ?_; rintro e w4 ⟨rfl, hb4⟩; have B4 := below_next (B := wr.heap.size) (a := wr) (by assumption) hb4 (Nat.le_refl _); have y0 := (B4.cell (p := ⟨b, 0, none⟩) hbr).trans x0; have y1 := (B4.cell (p := ⟨g, k * 2, none⟩) hgr).trans x1; have y2 := (B4.cell (p := ⟨g, k * 2 + 1, none⟩) hgr).trans x2))
      go_wp2
      go_roundw
      case rel => exact ⟨k + 1, by omega, by go_num, by rw [HSN.out], HB1.out.trans (Below.mono (by assumption) HB1.out.size)⟩
      case measure => simp [intOf]; omega
    · go_wp2
      go_ret
      exact ⟨ret_i (by rw [List.take_of_length_le (by omega)]), hbl1⟩
end Go.Proofs.Ytfnhfhoafnpfoaa
