/- Package span: Alloc. -/
import Derived.Test.YtdnelekoplkkcaaSpan4
import Derived.Test.YtdnelekoplkkcaaRepeat
namespace Go.Proofs.Ytdnelekoplkkcaa
open Go.RowKit

/-- What Alloc answers, and the rows behind it. -/
def sAllocV (k : Int) (l : List SRow) : Value := match sAlloc k l with
  | some (i, s, _) => .tuple #[.int .i64 i, .int .i64 s, .bool true]
  | none => .tuple #[.int .i64 0, .int .i64 0, .bool false]
def sAllocL (k : Int) (l : List SRow) : List SRow := match sAlloc k l with
  | some (_, _, l') => l'
  | none => l
/-- The first row without a class; -1: there is none. -/
def freshOf (l : List SRow) : Int := match l.findIdx? isNone with
  | some j => j
  | none => -1

theorem findIdx_at {α : Type} {p : α → Bool} {l : List α} {j : Nat} (hlt : j < l.length) (hall : ∀ r ∈ l.take j, p r = false) (h : p l[j] = true) : l.findIdx? p = some j := by
  rw [List.findIdx?_eq_some_iff_getElem]
  refine ⟨hlt, h, fun i hi => ?_⟩
  have := hall (l[i]) (by rw [List.mem_take_iff_getElem]; exact ⟨i, by omega, rfl⟩)
  simp [this]
theorem findIdx_no {α : Type} {p : α → Bool} {l : List α} (hall : ∀ r ∈ l, p r = false) : l.findIdx? p = none := by
  rw [List.findIdx?_eq_none_iff]; exact hall
theorem firstFree_lt {m : List Bool} (h : (firstFree m).isSome = true) : (firstFree m).getD 0 < m.length := by
  obtain ⟨s, hs⟩ := Option.isSome_iff_exists.1 h
  rw [hs]
  unfold firstFree at hs
  rw [List.findIdx?_eq_some_iff_getElem] at hs
  exact hs.1
theorem sAlloc_at {k : Int} {l : List SRow} {j : Nat} (hlt : j < l.length) (hz : ¬ cSlots k = 0) (hall : ∀ r ∈ l.take j, rowFree k r = false) (h : rowFree k l[j] = true) :
    sAlloc k l = some (j, (firstFree l[j].2).getD 0, l.set j (l[j].1, l[j].2.set ((firstFree l[j].2).getD 0) true)) := by
  unfold sAlloc
  rw [if_neg hz, findIdx_at hlt hall h]
  simp [hlt]
theorem set_true_ok {r : SRow} (h : RowOk r) (s : Nat) (hs : s < r.2.length) : RowOk (r.1, r.2.set s true) := by
  rcases h with ⟨_, h⟩ | ⟨h0, h3, hl, _⟩
  · rw [h] at hs; simp at hs
  · exact .inr ⟨h0, h3, by simpa using hl, List.mem_iff_getElem.2 ⟨s, by simpa using hs, by simp⟩⟩
theorem fresh_snoc (l : List SRow) (j : Nat) (h : j < l.length) : freshOf (l.take (j + 1)) = if (l[j].1 == -1) = true ∧ (freshOf (l.take j) == -1) = true then (j : Int) else freshOf (l.take j) := by
  rw [List.take_succ_eq_append_getElem h]
  unfold freshOf
  rw [List.findIdx?_append]
  cases e : (l.take j).findIdx? isNone with
  | some i =>
    simp
  | none =>
    simp only [Option.none_or]
    by_cases hn : l[j].1 = -1
    · simp [List.findIdx?_cons, isNone, hn]; omega
    · simp [List.findIdx?_cons, isNone, hn]
theorem sAlloc_none {k : Int} {l : List SRow} (hz : ¬ cSlots k = 0) (hall : ∀ r ∈ l, rowFree k r = false) (h : l.findIdx? isNone = none) : sAlloc k l = none := by
  unfold sAlloc; rw [if_neg hz, findIdx_no hall, h]
theorem sAlloc_new {k : Int} {l : List SRow} {i : Nat} (hz : ¬ cSlots k = 0) (hall : ∀ r ∈ l, rowFree k r = false) (h : l.findIdx? isNone = some i) :
    sAlloc k l = some (i, 0, l.set i (k, (List.replicate (cSlots k).toNat false).set 0 true)) := by
  unfold sAlloc; rw [if_neg hz, findIdx_no hall, h]
  have e : true :: List.replicate ((cSlots k).toNat - 1) false = (List.replicate (cSlots k).toNat false).set 0 true := by
    have hp : (cSlots k).toNat = ((cSlots k).toNat - 1) + 1 := by
      have : cSlots k ≠ 0 := hz
      have h2 : 0 ≤ cSlots k := by unfold cSlots; (repeat' split) <;> omega
      omega
    rw [hp, List.replicate_succ, List.set_cons_zero]; simp
  rw [e]
theorem new_ok {k : Int} (h0 : 0 ≤ k) (h3 : k < 4) (s1 : 1 ≤ cSlots k) : RowOk (k, (List.replicate (cSlots k).toNat false).set 0 true) := by
  refine .inr ⟨h0, h3, by simp; omega, ?_⟩
  exact List.mem_iff_getElem.2 ⟨0, by simp; omega, by simp⟩
theorem slots_pos {k : Int} (h : cSlots k ≠ 0) : 0 ≤ k ∧ k < 4 ∧ 1 ≤ cSlots k ∧ cSlots k ≤ 8 := by
  by_cases hk : 0 ≤ k ∧ k < 4
  · refine ⟨hk.1, hk.2, ?_, ?_⟩ <;> · unfold cSlots at h ⊢; (repeat' split) <;> omega
  · exact absurd (cSlots_none hk) h

set_option maxRecDepth 100000 in
set_option maxHeartbeats 1000000 in
theorem span_Alloc (b : Nat) (l : List SRow) (F : List Nat) (k : Int) (w : World) (hS : SpanAt w b l F) :
    Calls Try.prog 74 #[.pointer (some ⟨b, 0, none⟩), .int .i64 k] w (SpanDoes (.returned (sAllocV k l)) b (sAllocL k l) F w) := by
  have HS := Lib.hid hS
  by_cases hz : cSlots k = 0
  · have e1 : sAllocV k l = .tuple #[.int .i64 0, .int .i64 0, .bool false] := by unfold sAllocV sAlloc; rw [if_pos hz]
    have e2 : sAllocL k l = l := by unfold sAllocL sAlloc; rw [if_pos hz]
    rw [e1, e2]
    have HZ := Lib.hid hz
    clear e1 e2 hz hS
    go_enter Try.func74, Try.ntmps74
    go_wp2_with (go_at_call 90; refine (class_Slots _ _).mono ?_; rintro e w1 ⟨rfl, hb1⟩; rw [HZ.out])
    go_ret3
    exact ⟨rfl, HS.out.keep (Keeps.of_below (by assumption) []) (by simp), Keeps.of_below (by assumption) F⟩
  · obtain ⟨k0, k3, s1, s8⟩ := slots_pos hz
    have hz' : (cSlots k == 0) = false := by rw [beq_eq_false_iff_ne]; exact hz
    have HZ := Lib.hid hz
    clear hz hS
    go_enter Try.func74, Try.ntmps74
    go_wp2_with fail
    refine (class_Slots _ _).mono ?_
    rintro e w1 ⟨rfl, hb1⟩
    have HS1 := Lib.hid (HS.out.keep (Keeps.of_below hb1 []) (by simp))
    have HK1 := Lib.hid (Keeps.of_below hb1 F)
    clear HS hb1
    obtain ⟨g, cap, hb, hr, hcap, hF, hn, hn2, hok⟩ := HS1.out
    have c0 := hb.cell 0
    simp at c0
    unfold maxLen at hcap
    have hlc : l.length ≤ cap := by obtain ⟨_, _, _, h, _⟩ := hr; exact h
    have hgl := hr.lt
    have hbl := hb.lt
    have HR := Lib.hid hr
    have HB := Lib.hid hb
    have OK := Lib.hid hok
    have HFm := Lib.hid hF
    clear hr hb hok hF
    go_wp2
    go_loopw [8, 26] (fun f i wr => ∃ j : Nat, j ≤ l.length ∧ i = .int .i64 j ∧ f = .int .i64 (freshOf (l.take j)) ∧ Below w1.heap.size w1 wr ∧ Hid (∀ r ∈ l.take j, rowFree k r = false)) (fun _ i _ => l.length - (intOf i).toNat)
    case atStart => exact ⟨0, by omega, rfl, rfl, Below.refl _ _, by intro r hr; simp at hr⟩
    case round =>
      obtain ⟨j, hj, rfl, rfl, hbr, hall⟩ := hrel
      by_cases hlt : j < l.length
      · obtain ⟨d0, d1, -, -⟩ := (HR.out.keep (Keeps.of_below hbr []) (by simp)).cells j hlt
        have hro := OK.out _ (List.getElem_mem hlt)
        have hm := hro.len
        have x0 : wr.cell? ⟨b, 0, none⟩ = some (.slice (some ⟨g, 0, none⟩) l.length cap) := (hbr.cell (p := ⟨b, 0, none⟩) hbl).trans c0
        have i0 : (0 : Int) ≤ j := by omega
        have i1 : (j : Int) < l.length := by omega
        have RO := Lib.hid hro
        have HBR := Lib.hid hbr
        clear hro hbr c0
        go_wp2_with fail
        refine (row_first _ _ (by omega) _).mono ?_
        rintro e w2 ⟨rfl, hb2⟩
        have hbW : Below wr.heap.size wr w2 := below_next ((Below.refl _ _).alloc (Nat.le_refl _) _) hb2 (Nat.le_refl _)
        have y0 : w2.cell? ⟨wr.heap.size, 0, none⟩ = some (.int .i64 (l[j]'hlt).1) := (hb2.cell (p := ⟨wr.heap.size, 0, none⟩) (by simp)).trans (by simp)
        have x2 : w2.cell? ⟨b, 0, none⟩ = some (.slice (some ⟨g, 0, none⟩) l.length cap) := (hbW.cell (p := ⟨b, 0, none⟩) (Nat.lt_of_lt_of_le hbl HBR.out.size)).trans x0
        have HBR2 := Lib.hid (below_next HBR.out hbW (Nat.le_refl _))
        clear hb2 hbW x0 d0 d1 HBR
        cases hrf : rowFree k (l[j]'hlt) with
        | true =>
          have hrf' := hrf
          unfold rowFree at hrf'
          rw [Bool.and_eq_true, decide_eq_true_eq] at hrf'
          obtain ⟨hck, his⟩ := hrf'
          have hsl := firstFree_lt his
          have hsa := sAlloc_at hlt HZ.out hall.out hrf
          have hso := set_true_ok RO.out _ hsl
          have hck' : ((l[j]'hlt).1 == k) = true := by rw [beq_iff_eq]; exact hck
          have e1 : sAllocV k l = .tuple #[.int .i64 j, .int .i64 ((firstFree (l[j]'hlt).2).getD 0 : Nat), .bool true] := by unfold sAllocV; rw [hsa]
          have e2 : sAllocL k l = l.set j ((l[j]'hlt).1, (l[j]'hlt).2.set ((firstFree (l[j]'hlt).2).getD 0) true) := by unfold sAllocL; rw [hsa]
          obtain ⟨d0, d1, f0, f1⟩ := (HR.out.keep (Keeps.of_below HBR2.out []) (by simp)).cells j hlt
          have hset := (HR.out.keep (Keeps.of_below HBR2.out []) (by simp)).set_marks j hlt ((l[j]'hlt).2.set ((firstFree (l[j]'hlt).2).getD 0) true)
          have E1 := Lib.hid e1
          have E2 := Lib.hid e2
          have SO := Lib.hid hso
          have SET := Lib.hid hset
          generalize hsn : (firstFree (l[j]'hlt).2).getD 0 = s at *
          clear hrf hck hsa hso e1 e2 hset hsn hall RO
          have s0 : (0 : Int) ≤ s := by omega
          go_wp2_with fail
          refine (row_turn g (j * 2) _ s true (by omega) hsl _ d1 f1).mono ?_
          rintro e w3 ⟨rfl, n, hw3⟩
          have fin : SpanDoes (.returned (sAllocV k l)) b (sAllocL k l) F w (.returned (.tuple #[.int .i64 j, .int .i64 s, .bool true])) w3 := by
            refine ⟨by rw [E1.out], ?_, ?_⟩
            · rw [E2.out]
              refine ⟨g, cap, ?_, by rw [hw3]; exact SET.out, by unfold maxLen; omega, HFm.out, by simpa using hn, by simpa using hn2, set_ok OK.out j SO.out⟩
              rw [hw3]
              have := (((Keeps.of_below HBR2.out []).blk HB.out (by simp)).far (p := ⟨g, j * 2 + 1, none⟩) (fun e => (SpanAt.ne HB.out HR.out) e.symm) (.string (marks ((l[j]'hlt).2.set s true)))).drewN n
              simpa using this
            · rw [hw3]
              exact ((HK1.out.next HBR2.out).set (p := ⟨g, j * 2 + 1, none⟩) (by rw [HFm.out]; simp) _).drewN n
          have FIN := Lib.hid fin
          clear fin hw3 d0 d1 f0 f1 SET y0 x2
          go_wp2
          go_ret3
          exact FIN.out
        | false =>
          have HF1 := Lib.hid (fresh_snoc l j hlt)
          have hall1 : Hid (∀ r ∈ l.take (j + 1), rowFree k r = false) := by
            intro r hr
            rw [List.take_succ_eq_append_getElem hlt] at hr
            rcases List.mem_append.1 hr with h | h
            · exact hall.out r h
            · simp at h; subst h; exact hrf
          have hc : (((l[j]'hlt).1 == k) = false) ∨ (((l[j]'hlt).1 == k) = true ∧ (firstFree (l[j]'hlt).2).isSome = false) := by
            unfold rowFree at hrf
            by_cases h : (l[j]'hlt).1 = k
            · right
              exact ⟨by rw [beq_iff_eq]; exact h, by rw [decide_eq_true h, Bool.true_and] at hrf; exact hrf⟩
            · left; rw [beq_eq_false_iff_ne]; exact h
          clear hrf hall RO
          have hfin : ∀ w3 v, (v = freshOf (l.take (j + 1))) → w3 = w2 → ∃ j', j' ≤ l.length ∧ Value.int .i64 ((j : Int) + 1) = .int .i64 (j' : Nat) ∧ Value.int .i64 v = .int .i64 (freshOf (l.take j')) ∧ Below w1.heap.size w1 w3 ∧ Hid (∀ r ∈ l.take j', rowFree k r = false) := by
            rintro w3 v rfl rfl
            exact ⟨j + 1, by omega, by go_num, rfl, HBR2.out, hall1⟩
          have FIN := Lib.hid hfin
          clear hfin hall1
          generalize hfr : freshOf (l.take j) = fr at *
          have HFR := Lib.hid hfr
          clear hfr
          generalize (l[j]'hlt).1 = c at *
          cases h2 : (c == -1) with
          | true =>
            cases h3 : (fr == -1) with
            | true =>
              have hv : (j : Int) = freshOf (l.take (j + 1)) := by rw [HF1.out, if_pos ⟨h2, h3⟩]
              have HV := Lib.hid hv
              clear hv
              rcases hc with h1 | ⟨h1, h1'⟩
              all_goals
                go_wp2
                go_roundw
                case rel => exact FIN.out _ _ HV.out rfl
                case measure => simp [intOf]; omega
            | false =>
              have hv : fr = freshOf (l.take (j + 1)) := by rw [HF1.out, if_neg (by rw [h3]; simp)]
              have HV := Lib.hid hv
              clear hv
              rcases hc with h1 | ⟨h1, h1'⟩
              all_goals
                go_wp2
                go_roundw
                case rel => exact FIN.out _ _ HV.out rfl
                case measure => simp [intOf]; omega
          | false =>
            have hv : fr = freshOf (l.take (j + 1)) := by rw [HF1.out, if_neg (by rw [h2]; simp)]
            have HV := Lib.hid hv
            clear hv
            rcases hc with h1 | ⟨h1, h1'⟩
            all_goals
              go_wp2
              go_roundw
              case rel => exact FIN.out _ _ HV.out rfl
              case measure => simp [intOf]; omega
      · have hjl : j = l.length := by omega
        subst hjl
        have HBR := Lib.hid hbr
        have hall2 : Hid (∀ r ∈ l, rowFree k r = false) := by have := hall.out; rwa [List.take_length] at this
        rw [List.take_length]
        clear hall hbr
        have x0 : wr.cell? ⟨b, 0, none⟩ = some (.slice (some ⟨g, 0, none⟩) l.length cap) := (HBR.out.cell (p := ⟨b, 0, none⟩) hbl).trans c0
        cases hfi : l.findIdx? isNone with
        | none =>
          have hsa := sAlloc_none HZ.out hall2.out hfi
          have e1 : sAllocV k l = .tuple #[.int .i64 0, .int .i64 0, .bool false] := by unfold sAllocV; rw [hsa]
          have e2 : sAllocL k l = l := by unfold sAllocL; rw [hsa]
          have hfr : freshOf l = -1 := by unfold freshOf; rw [hfi]
          have fin : SpanDoes (.returned (sAllocV k l)) b (sAllocL k l) F w (.returned (.tuple #[.int .i64 0, .int .i64 0, .bool false])) wr := by
            refine ⟨by rw [e1], by rw [e2]; exact HS1.out.keep (Keeps.of_below HBR.out []) (by simp), HK1.out.next HBR.out⟩
          have FIN := Lib.hid fin
          rw [hfr]
          clear hsa e1 e2 hfi fin c0 hfr
          go_wp2
          go_ret3
          exact FIN.out
        | some i =>
          have hfr : freshOf l = i := by unfold freshOf; rw [hfi]
          have hsa := sAlloc_new HZ.out hall2.out hfi
          have e1 : sAllocV k l = .tuple #[.int .i64 i, .int .i64 0, .bool true] := by unfold sAllocV; rw [hsa]; rfl
          have e2 : sAllocL k l = l.set i (k, (List.replicate (cSlots k).toNat false).set 0 true) := by unfold sAllocL; rw [hsa]
          have hil : i < l.length := by rw [List.findIdx?_eq_some_iff_getElem] at hfi; exact hfi.1
          have hif : ((i : Int) == -1) = false := by rw [beq_eq_false_iff_ne]; omega
          have i0 : (0 : Int) ≤ i := by omega
          have i1 : (i : Int) < l.length := by omega
          have E1 := Lib.hid e1
          have E2 := Lib.hid e2
          rw [hfr]
          clear hsa e1 e2 hfi hfr hall2
          have hne : g ≠ b := SpanAt.ne HB.out HR.out
          have hne' : ¬ b = g := fun e => hne e.symm
          have fin : ∀ w4, Below w1.heap.size w1 w4 → w4.cell? ⟨b, 0, none⟩ = some (.slice (some ⟨g, 0, none⟩) l.length cap) ∧ (∃ v, w4.cell? ⟨g, i * 2, none⟩ = some v) ∧ (∃ v, w4.cell? ⟨g, i * 2 + 1, none⟩ = some v) ∧ w4.frozen? ⟨g, i * 2, none⟩ = false ∧ w4.frozen? ⟨g, i * 2 + 1, none⟩ = false := by
            intro w4 h4
            obtain ⟨d0, d1, f0, f1⟩ := (HR.out.keep (Keeps.of_below h4 []) (by simp)).cells i hil
            exact ⟨(h4.cell (p := ⟨b, 0, none⟩) hbl).trans c0, ⟨_, d0⟩, ⟨_, d1⟩, f0, f1⟩
          have FIN := Lib.hid fin
          clear fin
          have B0 : Below w1.heap.size w1 wr.drew := HBR.out.drew
          go_wp2
          go_region_held3 (fun (w' : World) => w'.cell? ⟨b, 0, none⟩ = some (.slice (some ⟨g, 0, none⟩) l.length cap)) (first | assumption | go_keep)
            (first
              | (go_at_call 93; refine (repeat_slots k k0 k3 _).mono ?_; rintro e w4 ⟨rfl, hb4⟩; have B4 := below_next B0 hb4 (Nat.le_refl _); obtain ⟨y0, ⟨v1, y1⟩, ⟨v2, y2⟩, y3, y4⟩ := FIN.out w4 B4; clear hb4))
          have hX := (HR.out.keep (Keeps.of_below B4 []) (by simp)).set_row i hil (k, List.replicate (cSlots k).toNat false)
          obtain ⟨-, z1, -, z3⟩ := hX.cells i (by simpa using hil)
          rw [List.getElem_set_self] at z1
          have HX := Lib.hid hX
          have BB4 := Lib.hid B4
          have hrl : (List.replicate (cSlots k).toNat false).length ≤ 1000 := by simp; omega
          have hrl0 : 0 < (List.replicate (cSlots k).toNat false).length := by simp; omega
          have RL := Lib.hid hrl
          have RL0 := Lib.hid hrl0
          clear hX B4 B0 hrl hrl0 y1 y2
          go_wp2_with fail
          refine (row_turn g (i * 2) _ 0 true RL.out RL0.out _ z1 z3).mono ?_
          rintro e w5 ⟨rfl, n, hw5⟩
          have fin : SpanDoes (.returned (sAllocV k l)) b (sAllocL k l) F w (.returned (.tuple #[.int .i64 i, .int .i64 0, .bool true])) w5 := by
            have hs := HX.out.set_marks i (by simpa using hil) ((List.replicate (cSlots k).toNat false).set 0 true)
            rw [List.getElem_set_self, List.set_set] at hs
            refine ⟨by rw [E1.out], ?_, ?_⟩
            · rw [E2.out]
              refine ⟨g, cap, ?_, by rw [hw5]; exact hs, by unfold maxLen; omega, HFm.out, by simpa using hn, by simpa using hn2, set_ok OK.out i (new_ok k0 k3 s1)⟩
              rw [hw5]
              have hbb := (Keeps.of_below BB4.out []).blk HB.out (by simp)
              have := (((hbb.far (p := ⟨g, i * 2, none⟩) hne' (.int .i64 k)).far (p := ⟨g, i * 2 + 1, none⟩) hne' (.string (marks (List.replicate (cSlots k).toNat false)))).far (p := ⟨g, i * 2 + 1, none⟩) hne' (.string (marks ((List.replicate (cSlots k).toNat false).set 0 true)))).drewN n
              simpa using this
            · rw [hw5]
              have hg : g ∈ F := by rw [HFm.out]; simp
              exact ((((HK1.out.next BB4.out).set (p := ⟨g, i * 2, none⟩) (.inl hg) _).set (p := ⟨g, i * 2 + 1, none⟩) (.inl hg) _).set (p := ⟨g, i * 2 + 1, none⟩) (.inl hg) _).drewN n
          have FIN2 := Lib.hid fin
          clear fin hw5 z1 z3
          go_wp2
          go_ret3
          exact FIN2.out
end Go.Proofs.Ytdnelekoplkkcaa
