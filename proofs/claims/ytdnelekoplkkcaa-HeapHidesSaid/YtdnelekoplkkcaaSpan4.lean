/- Package span: Free. -/
import Derived.Test.YtdnelekoplkkcaaSpan3
namespace Go.Proofs.Ytdnelekoplkkcaa
open Go.RowKit

theorem sUsed_some {l : List SRow} {a s : Int} (h : sUsed l a s = true) : ∃ (i k : Nat) (hi : i < l.length) (hk : k < (l[i]'hi).2.length), a = i ∧ s = k ∧ ((l[i]'hi).2[k]'hk) = true ∧ sFree l a s = l.set i (freeRow (l[i]'hi) k) := by
  have h0 := h
  unfold sUsed at h
  rw [Bool.and_eq_true, decide_eq_true_eq] at h
  obtain ⟨⟨ha, hs⟩, h⟩ := h
  obtain ⟨i, rfl⟩ := Int.eq_ofNat_of_zero_le ha
  obtain ⟨k, rfl⟩ := Int.eq_ofNat_of_zero_le hs
  simp only [Int.toNat_natCast] at h
  cases hi : l[i]? with
  | none => rw [hi] at h; cases h
  | some r =>
    rw [hi] at h
    obtain ⟨hil, rfl⟩ := List.getElem?_eq_some_iff.1 hi
    simp only [beq_iff_eq] at h
    obtain ⟨hk, hv⟩ := List.getElem?_eq_some_iff.1 h
    refine ⟨i, k, hil, hk, rfl, rfl, hv, ?_⟩
    unfold sFree
    rw [if_pos h0]
    simp only [Int.toNat_natCast]
    rw [hi]; rfl
theorem freeRow_ok {r : SRow} (h : RowOk r) (k : Nat) (hk : k < r.2.length) : RowOk (freeRow r k) := by
  unfold freeRow
  split
  · exact .inl ⟨rfl, rfl⟩
  · rename_i hu
    rcases h with ⟨_, h⟩ | ⟨h0, h3, hl, _⟩
    · rw [h] at hk; simp at hk
    · refine .inr ⟨h0, h3, by simpa using hl, ?_⟩
      unfold used at hu
      exact List.count_pos_iff.1 (Nat.pos_of_ne_zero hu)
theorem set_ok {l : List SRow} (h : ∀ r ∈ l, RowOk r) (i : Nat) {r : SRow} (hr : RowOk r) : ∀ x ∈ l.set i r, RowOk x := by
  intro x hx
  rcases List.mem_or_eq_of_mem_set hx with h1 | rfl
  · exact h x h1
  · exact hr

/-- A call that gives r and turns the rows at b to l', and nothing else. -/
def SpanDoes (r : Ending) (b : Nat) (l' : List SRow) (F : List Nat) (w : World) (e : Ending) (w' : World) : Prop := e = r ∧ SpanAt w' b l' F ∧ Keeps F w w'

set_option maxRecDepth 100000 in
set_option maxHeartbeats 1000000 in
theorem span_Free (b : Nat) (l : List SRow) (F : List Nat) (a s : Int) (w : World) (hS : SpanAt w b l F) :
    Calls Try.prog 98 #[.pointer (some ⟨b, 0, none⟩), .int .i64 a, .int .i64 s] w (SpanDoes (.returned (.bool (sUsed l a s))) b (sFree l a s) F w) := by
  have HS := Lib.hid hS
  cases hu : sUsed l a s with
  | false =>
    have hf : sFree l a s = l := by unfold sFree; rw [hu]; rfl
    rw [hf]
    have HU := Lib.hid hu
    clear hu hf hS
    go_enter Try.func98, Try.ntmps98
    go_wp2_with (go_at_call 109; refine (span_Used _ _ _ _ _ _ HS.out).mono ?_; rintro e w1 ⟨rfl, hb1⟩; rw [HU.out])
    go_ret
    exact ⟨rfl, HS.out.keep (Keeps.of_below (by assumption) []) (by simp), Keeps.of_below (by assumption) F⟩
  | true =>
    obtain ⟨i, k, hi, hk, rfl, rfl, hv, hf⟩ := sUsed_some hu
    rw [hf]
    have HU := Lib.hid hu
    clear hu hf hS
    go_enter Try.func98, Try.ntmps98
    go_wp2_with fail
    refine (span_Used _ _ _ _ _ _ HS.out).mono ?_
    rintro e w1 ⟨rfl, hb1⟩
    rw [HU.out]
    have HS1 := Lib.hid (HS.out.keep (Keeps.of_below hb1 []) (by simp))
    obtain ⟨g, cap, hb, hr, hcap, hF, hn, hn2, hok⟩ := HS1.out
    have hk1 := Keeps.of_below hb1 F
    have c0 := hb.cell 0
    obtain ⟨d0, d1, f0, f1⟩ := hr.cells i hi
    have hro := hok _ (List.getElem_mem hi)
    have hm := hro.len
    have hfr := freeRow_ok hro k hk
    simp at c0
    unfold maxLen at hcap
    have hlc : l.length ≤ cap := by obtain ⟨_, _, _, h, _⟩ := hr; exact h
    have hset := hr.set_marks i hi ((l[i]'hi).2.set k false)
    have hne := SpanAt.ne hb hr
    have i0 : (0 : Int) ≤ i := by omega
    have i1 : (i : Int) < l.length := by omega
    have RO := Lib.hid hro
    have OK := Lib.hid hok
    have HR := Lib.hid hr
    have HB := Lib.hid hb
    have HK := Lib.hid hk1
    have SET := Lib.hid hset
    have HFm := Lib.hid hF
    have NE := Lib.hid hne
    have FR := Lib.hid hfr
    clear hro hok hr hb hk1 hset hF hne hb1 hfr HS HU hv
    go_wp2_with fail
    refine (row_turn g (i * 2) _ k false (by omega) hk _ d1 f1).mono ?_
    rintro e w2 ⟨rfl, n, hw2⟩
    have hr2 : RowsAt w2 g cap (l.set i ((l[i]'hi).1, (l[i]'hi).2.set k false)) := by rw [hw2]; exact SET.out
    have hb2 : Blk w2 b 138 #[.slice (some ⟨g, 0, none⟩) l.length cap] := by rw [hw2]; exact (HB.out.far (p := ⟨g, i * 2 + 1, none⟩) (fun e => NE.out e.symm) _).drewN n
    have hk2 : Keeps F w w2 := by rw [hw2]; exact (HK.out.set (p := ⟨g, i * 2 + 1, none⟩) (by rw [HFm.out]; simp) _).drewN n
    clear hw2 d0 d1 f0 f1 SET c0
    obtain ⟨d0, d1, f0, f1⟩ := hr2.cells i (by simpa using hi)
    rw [List.getElem_set_self] at d0 d1
    have HR2 := Lib.hid hr2
    have HB2 := Lib.hid hb2
    have HK2 := Lib.hid hk2
    clear hr2 hb2 hk2
    go_wp2_with fail
    refine (row_count _ _ (by simp; omega) _).mono ?_
    rintro e w3 ⟨rfl, hb3⟩
    have hr3 := HR2.out.keep (Keeps.of_below hb3 []) (by simp)
    have hb3' := (Keeps.of_below hb3 []).blk HB2.out (by simp)
    have hk3 := HK2.out.next hb3
    obtain ⟨d0', d1', f0', f1'⟩ := hr3.cells i (by simpa using hi)
    have HR3 := Lib.hid hr3
    have HB3 := Lib.hid hb3'
    have HK3 := Lib.hid hk3
    clear hr3 hb3' hk3 hb3 d0 d1 f0 f1
    by_cases hz : used ((l[i]'hi).2.set k false) = 0
    · have hfe : freeRow (l[i]'hi) k = noRow := by unfold freeRow; rw [if_pos hz]
      have hz' : ((used ((l[i]'hi).2.set k false) : Int) == 0) = true := by rw [hz]; rfl
      have FE := Lib.hid hfe
      clear hz hfe
      go_wp2
      go_ret
      refine ⟨rfl, ?_, (HK3.out.set (by rw [HFm.out]; simp) _).set (by rw [HFm.out]; simp) _⟩
      rw [FE.out]
      have hsr := HR3.out.set_row i (by simpa using hi) noRow
      rw [List.set_set] at hsr
      exact ⟨g, cap, by simpa using (HB3.out.far (p := ⟨g, i * 2, none⟩) (fun e => NE.out e.symm) _).far (p := ⟨g, i * 2 + 1, none⟩) (fun e => NE.out e.symm) _, hsr, by unfold maxLen; omega, HFm.out, by simpa using hn, by simpa using hn2, set_ok OK.out i (.inl ⟨rfl, rfl⟩)⟩
    · have hfe : freeRow (l[i]'hi) k = ((l[i]'hi).1, (l[i]'hi).2.set k false) := by unfold freeRow; rw [if_neg hz]
      have hz' : ((used ((l[i]'hi).2.set k false) : Int) == 0) = false := by rw [beq_eq_false_iff_ne]; omega
      have FE := Lib.hid hfe
      clear hz hfe
      go_wp2
      go_ret
      refine ⟨rfl, ?_, HK3.out⟩
      rw [FE.out]
      refine ⟨g, cap, by simpa using HB3.out, HR3.out, by unfold maxLen; omega, HFm.out, by simpa using hn, by simpa using hn2, set_ok OK.out i ?_⟩
      have := FR.out
      rwa [FE.out] at this
end Go.Proofs.Ytdnelekoplkkcaa
