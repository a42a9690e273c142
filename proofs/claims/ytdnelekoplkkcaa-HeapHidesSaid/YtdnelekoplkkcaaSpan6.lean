/- Package span: New; a nil one. -/
import Derived.Test.YtdnelekoplkkcaaSpan5
namespace Go.Proofs.Ytdnelekoplkkcaa
open Go.RowKit

theorem info_row : (Try.prog.info? 140).map (fun i => (i.zero, i.size, i.bytes)) = some (some (.agg #[.int .i64 0, .string ⟨#[]⟩]), 2, 24) := by kernel_rfl

/-- The cells of rows. -/
def flatRows (l : List SRow) : List Value := l.flatMap fun r => [.int .i64 r.1, .string (marks r.2)]
theorem flatRows_len (l : List SRow) : (flatRows l).length = l.length * 2 := by
  induction l with
  | nil => rfl
  | cons r l ih => simp only [flatRows, List.flatMap_cons, List.length_append, List.length_cons, List.length_nil] at *; omega
theorem flatRows_at (l : List SRow) : ∀ i (h : i < l.length), (flatRows l)[i * 2]? = some (.int .i64 (l[i]'h).1) ∧ (flatRows l)[i * 2 + 1]? = some (.string (marks (l[i]'h).2)) := by
  induction l with
  | nil => intro i h; simp at h
  | cons r l ih =>
    intro i h
    cases i with
    | zero => exact ⟨rfl, rfl⟩
    | succ i =>
      obtain ⟨a, b⟩ := ih i (by simpa using h)
      have e : flatRows (r :: l) = .int .i64 r.1 :: .string (marks r.2) :: flatRows l := rfl
      rw [e, show (i + 1) * 2 = i * 2 + 1 + 1 by omega]
      exact ⟨by simpa using a, by simpa using b⟩
theorem rows_of_own {w : World} {g cap : Nat} {l : List SRow} (h : w.ownsRow 0 140 2 (.slice (some ⟨g, 0, none⟩) l.length cap) l.length (flatRows l)) : RowsAt w g cap l := by
  obtain ⟨hl, ⟨h0, _⟩ | ⟨g', cap', cur, hv, hB, hg, hn, hm, hs, ht⟩⟩ := h
  · cases h0
  · injection hv with e1 e2 e3
    injection e1 with e1
    injection e1 with e1
    subst e1 e3
    refine ⟨cur, hg, hs, hn, fun i hi => ?_⟩
    obtain ⟨a, b⟩ := flatRows_at l i hi
    rw [← ht] at a b
    rw [List.getElem?_take_of_lt (by omega)] at a b
    exact ⟨by simpa using a, by simpa using b⟩

def GivesSpan (l : List SRow) (w : World) (e : Ending) (w' : World) : Prop :=
  e = .returned (.tuple #[.pointer (some ⟨w.heap.size, 0, none⟩), .int .i64 0]) ∧ ∃ F, SpanAt w' w.heap.size l F ∧ Keeps [] w w' ∧ ∀ i ∈ F, w.heap.size ≤ i

theorem span_New_no (n : Int) (hn : n < 2 ∨ 128 < n) (w : World) :
    Calls Try.prog 72 #[.int .i64 n] w fun e w' => e = .returned (.tuple #[.pointer none, .int .i64 1]) ∧ w = w' := by
  rcases hn with h | h
  · go_enter Try.func72, Try.ntmps72
    go_wp2
    go_ret2
    exact ⟨rfl, rfl⟩
  · have h2 : (n < 2) = False := by simp; omega
    have h2' : ¬ n < 2 := by omega
    clear h2
    go_enter Try.func72, Try.ntmps72
    go_wp2
    go_ret2
    exact ⟨rfl, rfl⟩

set_option maxRecDepth 100000 in
set_option maxHeartbeats 1000000 in
theorem span_New (n : Nat) (h2 : 2 ≤ n) (h128 : n ≤ 128) (w : World) :
    Calls Try.prog 72 #[.int .i64 n] w (GivesSpan (sNew n) w) := by
  obtain ⟨i0, hi, hz0, hz1, hz2⟩ := info_parts info_row
  go_enter Try.func72, Try.ntmps72
  go_wp2
  go_loopw [14] (fun i wr => ∃ (k : Nat) (lv : Value), k ≤ n ∧ i = .int .i64 k ∧ Blk wr w.heap.size 138 #[lv] ∧ wr.ownsRow 0 140 2 lv k (flatRows (List.replicate k noRow)) ∧ Keeps [] w wr ∧ Hid (∀ g, lv.ownBlock = some g → w.heap.size ≤ g)) (fun i _ => n - (intOf i).toNat)
  case atStart => exact ⟨0, .slice none 0 0, by omega, rfl, Blk.new _ _ _, World.ownsRow_nil _ _ _ _, (Keeps.refl _ _).alloc _, by intro g hg; cases hg⟩
  case round =>
    obtain ⟨k, lv, hk, rfl, hb, hown, hkp, hfr⟩ := hrel
    have c0 := hb.cell 0
    have f0 := hb.free 0
    simp at c0
    by_cases hlt : k < n
    · have hne := own_type hown hb (by decide)
      have HK := Lib.hid hkp
      have hbl := hb.lt
      clear hkp
      go_wp2_with (at_builtin; refine wpList_append_own_at _ rfl (.tmp 20) (.tmp 22) 136 rfl 0 140 i0 (.agg #[.int .i64 0, .string ⟨#[]⟩]) 2 24 Try.underlying136 hi hz0 hz1 hz2 rfl (by decide) _ k (flatRows (List.replicate k noRow)) rfl (hown.alloc _) ⟨wr.heap.size, 0, none⟩ 1 1 [.int .i64 (-1), .string ⟨#[]⟩] rfl rfl ?c1 ?c2 ?c3 ?c4 ?c5 ?_)
      case c1 => exact cell_two_new _ _ _ _
      case c2 => intro u hu; simp at hu; rcases hu with rfl | rfl <;> rfl
      case c3 => unfold maxLen; omega
      case c4 => omega
      case c5 => omega
      intro v' w2 hown2 hg2 _ hat
      obtain ⟨g, cap, hv, -⟩ := own_form hown2 (by omega)
      subst hv
      have hsz := hg2.size
      simp at hsz
      have hB2 : Blk w2 w.heap.size 138 #[lv] := (hb.alloc _).of_eq (hg2.block _ (by simp; omega) (by intro e; exact hne _ e.symm rfl))
      have e0 := hB2.cell 0
      have g0 := hB2.free 0
      simp at e0
      have hne2 : g ≠ w.heap.size := own_type hown2 hB2 (by decide) g rfl
      have hfr2 : w.heap.size ≤ g := by
        rcases hat with h | h
        · exact hfr.out g h.symm
        · injection h with hg; have := HK.out.size; (try simp at hg); omega
      have hk2 : Keeps [] w w2 := (HK.out.alloc _).grown hg2 (fun k hk => .inr (hfr.out k hk))
      have HK2 := Lib.hid hk2
      have O2 := Lib.hid hown2
      have NE2 := Lib.hid hne2
      clear hat hne hg2 hown hk2 hown2 hne2 hb
      go_wp2
      go_roundw
      case rel =>
        refine ⟨k + 1, .slice (some ⟨g, 0, none⟩) (k + 1) cap, by omega, by go_num, ?_, ?_, HK2.out.set (.inr (Nat.le_refl _)) _, fun g' hg' => by cases hg'; exact hfr2⟩
        · simpa using hB2.set 0 (.slice (some ⟨g, 0, none⟩) (k + 1) cap)
        · have h3 := ((Keeps.refl [w.heap.size] w2).set (p := ⟨w.heap.size, 0, none⟩) (by simp) (.slice (some ⟨g, 0, none⟩) (k + 1) cap)).own O2.out (by intro k hk; injection hk with hk; subst hk; simpa using NE2.out)
          have e : flatRows (List.replicate (k + 1) noRow) = flatRows (List.replicate k noRow) ++ [Value.int IntKind.i64 (-1), Value.string { data := #[] }] := by
            rw [List.replicate_succ', flatRows, List.flatMap_append]; rfl
          rw [e]; exact h3
      case measure => simp [intOf]; omega
    · have hkn : k = n := by omega
      subst hkn
      obtain ⟨g, cap, hv, hnc, hcm, hg⟩ := own_form hown (by omega)
      subst hv
      have HB := Lib.hid hb
      have HO := Lib.hid hown
      have HK := Lib.hid hkp
      clear hb hown hkp
      go_wp2
      go_ret2
      have hro : wr.ownsRow 0 140 2 (.slice (some ⟨g, 0, none⟩) (List.replicate k noRow).length cap) (List.replicate k noRow).length (flatRows (List.replicate k noRow)) := by rw [List.length_replicate]; exact HO.out
      have hf := hfr.out g rfl
      refine ⟨rfl, [w.heap.size, g], ⟨g, cap, by unfold sNew; rw [List.length_replicate]; exact HB.out, rows_of_own hro, hcm, rfl, by simp [sNew]; omega, by simp [sNew]; omega, ?_⟩, HK.out, ?_⟩
      · intro r hr
        have := List.eq_of_mem_replicate hr
        subst this; exact .inl ⟨rfl, rfl⟩
      · intro i hi
        simp at hi
        rcases hi with rfl | rfl
        · exact Nat.le_refl _
        · exact hf

/-! A nil one. -/
theorem span_Class_nil (a : Int) (w : World) : Calls Try.prog 99 #[.pointer none, .int .i64 a] w fun e w' => e = .returned (.int .i64 (-1)) ∧ w = w' := by
  go_enter Try.func99, Try.ntmps99
  go_wp2
  go_ret
  exact ⟨rfl, rfl⟩
theorem span_Used_nil (a s : Int) (w : World) : Calls Try.prog 109 #[.pointer none, .int .i64 a, .int .i64 s] w fun e w' => e = .returned (.bool false) ∧ w = w' := by
  go_enter Try.func109, Try.ntmps109
  go_wp2_with (go_at_call 99; refine (span_Class_nil _ _).mono ?_; rintro e w' ⟨rfl, rfl⟩)
  go_ret
  exact ⟨rfl, rfl⟩
theorem span_Free_nil (a s : Int) (w : World) : Calls Try.prog 98 #[.pointer none, .int .i64 a, .int .i64 s] w fun e w' => e = .returned (.bool false) ∧ w = w' := by
  go_enter Try.func98, Try.ntmps98
  go_wp2_with (go_at_call 109; refine (span_Used_nil _ _ _).mono ?_; rintro e w' ⟨rfl, rfl⟩)
  go_ret
  exact ⟨rfl, rfl⟩
theorem span_Alloc_nil (k : Int) (w : World) : Calls Try.prog 74 #[.pointer none, .int .i64 k] w fun e w' => e = .returned (.tuple #[.int .i64 0, .int .i64 0, .bool false]) ∧ Below w.heap.size w w' := by
  go_enter Try.func74, Try.ntmps74
  go_wp2_with (go_at_call 90; refine (class_Slots _ _).mono ?_; rintro e w' ⟨rfl, hb⟩)
  go_ret3
  exact ⟨rfl, by assumption⟩
end Go.Proofs.Ytdnelekoplkkcaa
