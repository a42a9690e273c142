/-
  The walk of 'dormouselaw06.SpanPlays': the call returns true, in a world with at most new blocks.
-/
import Derived.Test.YtfnhfhoafnpfoaaRows
import Derived.Test.YtfnhfhoafnpfoaaSepSpan
import Derived.Test.YtfnhfhoafnpfoaaRefSpan5
import Derived.Test.YtfnhfhoafnpfoaaSpanAwake
import Derived.Test.YtfnhfhoafnpfoaaArgOps
import Derived.WalkKit
import Derived.WalkSpells
import Derived.WalkLawsBesides
import Derived.Deep.DeepCutAuto
import Derived.Deep.CutBlock
import Derived.Deep.RegionHeld3
namespace Go.Proofs.Ytfnhfhoafnpfoaa.spanPlays
open Go.RowKit
set_option linter.unusedVariables false

set_option maxRecDepth 100000 in
set_option maxHeartbeats 8000000 in
theorem walk (a0 : Int) (a1 : Option Addr) (len1 cap1 : Nat) (f1 : Nat → Nat → Int) (w : World) (w0 : (Lit.int .i64 a0).wf = true) (w1 : ArgOps w (.slice a1 len1 cap1) 4 len1 f1) :
    Calls Try.prog 3 #[.int .i64 a0, .slice a1 len1 cap1] w fun e w' => e = .returned (.bool true) ∧ Below w.heap.size w w' := by
  obtain ⟨hlen, p, cap, hv, hcells⟩ := w1
  rw [hv]
  clear hv
  unfold maxLen at hlen
  have HC := Lib.hid hcells
  clear hcells w0
  generalize len1 = m at *
  obtain ⟨n', n0, n1, hn⟩ := umod a0 8 (by decide) (by decide)
  obtain ⟨n8, rfl⟩ := Int.eq_ofNat_of_zero_le n0
  obtain ⟨n, hnn⟩ : ∃ n : Nat, 2 + n8 = n := ⟨_, rfl⟩
  have hni : (2 : Int) + (n8 : Int) = (n : Int) := by omega
  have n2 : 2 ≤ n := by omega
  have n10 : n < 10 := by omega
  have HN := Lib.hid hnn
  clear hnn
  go_enter Try.func3, Try.ntmps3
  go_wp2_with fail
  refine (sp_New (St.empty w) n2 (by omega)).mono ?_
  rintro e w1 ⟨b, rfl, h1⟩
  go_wp2_with fail
  refine (rs_New n2 (by omega) h1).mono ?_
  rintro e w2 ⟨rb, rfl, h2⟩
  go_wp2_with fail
  refine (awake06 _).mono ?_
  rintro e w3 ⟨rfl, hb3⟩
  have h3 := (h2.below hb3).pick1
  have hl0 : (sNew n).length = n := by simp [sNew]
  clear h1 h2 hb3 hn
  have HI := Lib.hid hni
  clear hni
  go_wp2
  go_loopw [9] (fun iv wr => ∃ (i : Nat) (l : List SRow), i ≤ m ∧ iv = .int .i64 i ∧ Hid (l.length = n) ∧ St w [] [SpanP b l, RSpanP rb l] wr) (fun iv _ => m - (intOf iv).toNat)
  case atStart => exact ⟨0, _, by omega, rfl, hl0, h3⟩
  case round =>
    obtain ⟨i, l, hi, rfl, hl, h4⟩ := hrel
    clear h3 hl0
    by_cases hgo : i < m ∧ i < 100
    · obtain ⟨hlt, h100⟩ := hgo
      obtain ⟨b1, o1, rfl, hb1, hc1⟩ := HC.out.resolve_left (by omega)
      have i0 : (0 : Int) ≤ i := by omega
      have i1 : (i : Int) < m := by omega
      have i2 : (i : Int) < 100 := by omega
      have d0 := h4.cellOld (p := ⟨b1, o1 + i * 4, none⟩) hb1 (hc1 i 0 hlt (by omega)).1
      have d1 := h4.cellOld (p := ⟨b1, o1 + i * 4 + 1, none⟩) hb1 (hc1 i 1 hlt (by omega)).1
      have d2 := h4.cellOld (p := ⟨b1, o1 + i * 4 + 2, none⟩) hb1 (hc1 i 2 hlt (by omega)).1
      have d3 := h4.cellOld (p := ⟨b1, o1 + i * 4 + 3, none⟩) hb1 (hc1 i 3 hlt (by omega)).1
      generalize f1 i 0 = kd at *
      generalize f1 i 1 = cl at *
      generalize f1 i 2 = sp at *
      generalize f1 i 3 = sl at *
      have h5 := (h4.new #[.int .i64 kd, .int .i64 cl, .int .i64 sp, .int .i64 sl] 33)
      obtain ⟨ob, hob⟩ : ∃ ob, wr.heap.size = ob := ⟨_, rfl⟩
      rw [hob] at h5
      clear hc1 hb1
      go_upto_if 62 with fail
      go_cut [11] (fun v11 wx => ∃ l', v11 = .bool true ∧ Hid (l'.length = n) ∧ St w [] [SpanP b l', RSpanP rb l'] wx)
      case first =>
        by_cases k1 : kd = 1
        · subst k1
          go_wp2_with fail
          have h6 := h5.drew
          obtain ⟨z2, z3⟩ : _ ∧ _ := ⟨h6.cell 0 rfl 2 rfl, h6.cell 0 rfl 3 rfl⟩
          go_region_held3 (fun (w' : World) => w'.cell? ⟨ob, 2, none⟩ = some (.int .i64 sp) ∧ w'.cell? ⟨ob, 3, none⟩ = some (.int .i64 sl)) (first | assumption | (refine ⟨?_, ?_⟩ <;> assumption) | go_keep)
            (first
              | (go_at_call 18; refine (sp_Free h6.pick1 _ _).mono ?_; rintro e w7 ⟨rfl, j7⟩; obtain ⟨y2, y3⟩ : _ ∧ _ := ⟨j7.cell 1 rfl 2 rfl, j7.cell 1 rfl 3 rfl⟩)
              | (go_at_call 19; refine (rs_Free (by exact (show St w [] (SpanP b _ :: BlkP ob _ _ :: RSpanP rb l :: []) _ by assumption).pick2) _ _).mono ?_; rintro e w8 ⟨rfl, j8⟩; obtain ⟨y4, y5⟩ : _ ∧ _ := ⟨j8.cell 2 rfl 2 rfl, j8.cell 2 rfl 3 rfl⟩))
          go_wp2
          go_meet
          exact ⟨_, rfl, (sFree_length _ _ _).trans hl, (show St w [] (RSpanP rb (sFree l sp sl) :: SpanP b (sFree l sp sl) :: BlkP ob _ _ :: []) _ by assumption).pick2.drop.pick1⟩
        · have kb : (kd == 1) = false := by simpa using k1
          obtain ⟨x, y, z, hal⟩ := sAllocV_form cl l
          have HAL := Lib.hid hal
          have e1 := h5.cell 0 rfl 1 rfl
          clear k1 hal
          go_wp2_with fail
          refine (sp_Alloc h5.pick1 _).mono ?_
          rintro e w7 ⟨rfl, j7⟩
          rw [HAL.out]
          have e1 := j7.cell 1 rfl 1 rfl
          go_wp2_with fail
          refine (rs_Alloc j7.pick2 _).mono ?_
          rintro e w8 ⟨rfl, j8⟩
          rw [HAL.out]
          go_wp2
          go_meet
          exact ⟨_, rfl, (sAllocL_length _ _).trans hl, j8.pick2.drop.pick1⟩
      case rest =>
        obtain ⟨l', rfl, hl', h6⟩ := hcut
        clear h5 h4 hl d0 d1 d2 d3
        go_wp2_with fail
        refine (sp_Words h6).mono ?_
        rintro e w7 ⟨rfl, h7⟩
        go_wp2_with fail
        refine (rs_Words h7.pick1).mono ?_
        rintro e w8 ⟨rfl, h8⟩
        replace h8 := h8.pick1
        go_wp2_with fail
        refine (sp_Len h8).mono ?_
        rintro e w9 ⟨rfl, rfl⟩
        rw [hl'.out]
        clear h6 h7
        go_wp2
        go_loopw [18, 19] (fun kv mv wr => ∃ k : Nat, k ≤ n + 2 ∧ kv = .int .i64 ((k : Int) - 1) ∧ St w [] [SpanP b l', RSpanP rb l'] wr) (fun kv _ _ => n + 2 - (intOf kv + 1).toNat)
        case atStart => exact ⟨0, by omega, rfl, h8⟩
        case round =>
          obtain ⟨k, hk, rfl, h9⟩ := hrel
          clear h8
          by_cases hkn : k < n + 2
          · have hk1 : (k : Int) - 1 ≤ n := by omega
            generalize hkk : (k : Int) - 1 = kk at *
            have kk1 : -1 ≤ kk := by omega
            have HKK := Lib.hid hkk
            clear hkk
            go_wp2_with fail
            refine (sp_Class h9 _).mono ?_
            rintro e w10 ⟨rfl, rfl⟩
            go_wp2_with fail
            refine (rs_Class h9 1 rfl _).mono ?_
            rintro e w10 ⟨rfl, rfl⟩
            go_wp2
            go_loopw [19] (fun mv wr => ∃ j : Nat, j ≤ 10 ∧ mv = .int .i64 ((j : Int) - 1) ∧ St w [] [SpanP b l', RSpanP rb l'] wr) (fun mv _ => 10 - (intOf mv + 1).toNat)
            case atStart => exact ⟨0, by omega, rfl, h9⟩
            case round =>
              obtain ⟨j, hj, rfl, h10⟩ := hrel
              clear h9
              by_cases hj10 : j < 10
              · have hj1 : (j : Int) - 1 ≤ 8 := by omega
                generalize hjj : (j : Int) - 1 = jj at *
                have jj1 : -1 ≤ jj := by omega
                have HJJ := Lib.hid hjj
                clear hjj
                go_wp2_with fail
                refine (sp_Used h10 _ _).mono ?_
                rintro e w11 ⟨rfl, h11⟩
                go_wp2_with fail
                refine (rs_Used h11 1 rfl _ _).mono ?_
                rintro e w12 ⟨rfl, rfl⟩
                go_wp2
                go_roundw
                case rel => exact ⟨j + 1, by omega, by rw [← HJJ.out]; congr 1; omega, h11⟩
                case measure => have := HJJ.out; simp [intOf]; omega
              · have hj1 : ¬ (j : Int) - 1 ≤ 8 := by omega
                go_wp2
                go_roundw
                case rel => exact ⟨k + 1, by omega, by rw [← HKK.out]; congr 1; omega, h10⟩
                case measure => have := HKK.out; simp [intOf]; omega
          · have hk1 : ¬ (k : Int) - 1 ≤ n := by omega
            go_wp2
            go_roundw
            case rel => exact ⟨i + 1, l', by omega, by go_num, hl'.out, h9⟩
            case measure => simp [intOf]; omega
    · have hcond : ¬ (i : Int) < m ∨ ((i : Int) < m ∧ ¬ (i : Int) < 100) := by omega
      clear hgo
      rcases hcond with hcond | ⟨hcond, hcond2⟩
      all_goals
        go_wp2
        go_ret
        exact ⟨rfl, h4.old⟩

end Go.Proofs.Ytfnhfhoafnpfoaa.spanPlays
