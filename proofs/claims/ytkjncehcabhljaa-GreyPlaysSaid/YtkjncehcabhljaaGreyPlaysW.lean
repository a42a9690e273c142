/-
  The walk of 'dormouselaw08.GreyPlays': the call returns true, in a world with at most new blocks.
-/
import Derived.Test.YtkjncehcabhljaaRows
import Derived.Test.YtkjncehcabhljaaGreyTwo
import Derived.Test.YtkjncehcabhljaaArgOps
import Derived.WalkKit
import Derived.WalkSpells
import Derived.WalkLawsBesides
import Derived.Deep.RegionHeld3
namespace Go.Proofs.Ytkjncehcabhljaa.greyPlays
open Go.RowKit
set_option linter.unusedVariables false

set_option maxRecDepth 100000 in
set_option maxHeartbeats 2000000 in
theorem walk (a0 : Option Addr) (len0 cap0 : Nat) (f0 : Nat → Nat → Int) (w : World) (w0 : ArgOps w (.slice a0 len0 cap0) 2 len0 f0) :
    Calls Try.prog 12 #[.slice a0 len0 cap0] w fun e w' => e = .returned (.bool true) ∧ Below w.heap.size w w' := by
  obtain ⟨hlen, p, cap, hv, hcells⟩ := w0
  rw [hv]
  clear hv
  unfold maxLen at hlen
  have HC := Lib.hid hcells
  clear hcells
  generalize len0 = n at *
  go_enter Try.func12, Try.ntmps12
  go_wp2_with fail
  refine (grey_New _).mono ?_
  rintro e w1 ⟨rfl, F1, g1, k1, f1⟩
  have hT : Hid (Two w w.heap.size w1.heap.size [] false [] false (w1.alloc (.cells #[.slice none 0 0, .bool false] 40))) := by
    have f1' : ∀ i ∈ F1, w.heap.size ≤ i := fun i hi => (f1 i hi).elim (by simp) id
    have hlt := g1.lt
    refine ⟨F1, [w1.heap.size], g1.keep (G := []) ((Keeps.refl [] _).alloc _) (by simp), ⟨.slice none 0 0, Blk.new _ _ _, World.ownsRow_nil _ _ _ _, by simp, rfl⟩, ⟨k1.alloc _, ?_⟩, ?_⟩
    · intro i hi
      rcases List.mem_append.1 hi with h | h
      · exact f1' i h
      · simp at h; subst h; exact k1.size
    · intro i hi hg
      simp at hg; subst hg
      have := hlt _ hi; omega
  have hb1 : w.heap.size ≤ w1.heap.size := k1.size
  clear g1 k1 f1
  generalize hb : w.heap.size = b at *
  have HB := Lib.hid hb
  clear hb hb1
  go_wp2_with fail
  refine (awake08 _).mono ?_
  rintro e w2 ⟨rfl, b2⟩
  have hs : Hid (Two w b w1.heap.size [] false [] false w2) := hT.out.below b2
  clear hT b2
  go_wp2
  go_loopw [5] (fun i wr => ∃ j : Nat, j ≤ n ∧ i = .int .i64 j ∧ Hid (∃ L ov, Two w b w1.heap.size L ov L ov wr)) (fun i _ => n - (intOf i).toNat)
  case atStart => exact ⟨0, by omega, rfl, [], false, hs⟩
  case round =>
    obtain ⟨j, hj, rfl, hst⟩ := hrel
    clear hs
    by_cases hgo : j < n ∧ j < 200
    · obtain ⟨hlt, h200⟩ := hgo
      obtain ⟨b1, o1, rfl, hb1, hc1⟩ := HC.out.resolve_left (by omega)
      obtain ⟨d0, -⟩ := hc1 j 0 hlt (by omega)
      obtain ⟨d1, -⟩ := hc1 j 1 hlt (by omega)
      have i0 : (0 : Int) ≤ j := by omega
      have i1 : (j : Int) < n := by omega
      have i2 : (j : Int) < 200 := by omega
      generalize f0 j 0 = kd at *
      generalize f0 j 1 = a at *
      obtain ⟨L, ov, tw⟩ := hst.out
      have c0 : wr.cell? ⟨b1, o1 + j * 2, none⟩ = some (.int .i64 kd) := (tw.cell (by rw [HB.out]; exact hb1)).trans d0
      have c1 : wr.cell? ⟨b1, o1 + j * 2 + 1, none⟩ = some (.int .i64 a) := (tw.cell (by rw [HB.out]; exact hb1)).trans d1
      have KC : ∀ w4 L1 o1' L2 o2, Two w b w1.heap.size L1 o1' L2 o2 w4 → w4.cell? ⟨b1, o1 + j * 2 + 1, none⟩ = some (.int .i64 a) := fun w4 _ _ _ _ t4 => (t4.cell (by rw [HB.out]; exact hb1)).trans d1
      have KC' := Lib.hid KC
      have TW := Lib.hid tw
      clear hc1 d0 d1 KC tw hst hb1
      by_cases k1 : kd = 1
      · subst k1
        obtain ⟨F, G, g, r, fr, dj⟩ := TW.out
        rcases List.eq_nil_or_concat L with hL | ⟨L', x, hL⟩
        · subst hL
          go_wp2_with fail
          refine (grey_Pop_none _ _ _ _ g).mono ?_
          rintro e w4 ⟨rfl, F3, g3, k3, f3⟩
          have T4 := Lib.hid (Two.grey g r fr dj g3 k3 f3)
          clear g r fr dj g3 k3 f3 TW
          go_wp2_with fail
          obtain ⟨F5, G5, g5, r5, fr5, dj5⟩ := T4.out
          refine (rlist_Pop_none _ _ _ _ r5).mono ?_
          rintro e w6 ⟨rfl, G6, g6, k6, f6⟩
          have T6 := Lib.hid (Two.rlist g5 r5 fr5 dj5 g6 k6 f6)
          clear g5 r5 fr5 dj5 g6 k6 f6 T4
          obtain ⟨L9, ov9, T9⟩ : ∃ L9 ov9, Hid (Two w b w1.heap.size L9 ov9 L9 ov9 w6) := ⟨_, _, T6⟩
          have T6d : Hid (Two w b w1.heap.size L9 ov9 L9 ov9 w6.drew) := T9.out.drew
          obtain ⟨p2, cap2, q0, q1, -, q8, -⟩ := T9.out.over
          clear T6 T9
          go_wp2
          go_region_held3 (fun (w' : World) => w'.cell? ⟨w1.heap.size, 0, none⟩ = some (.slice p2 L9.length cap2) ∧ w'.cell? ⟨w1.heap.size, 1, none⟩ = some (.bool ov9)) (first | assumption | (constructor <;> assumption) | go_keep)
            (first
              | (go_at_call 47; refine (grey_LenT (by assumption)).mono ?_; rintro e w7 ⟨rfl, T7, K7⟩; have s0 := K7.out _ 0 (by assumption); have s1 := K7.out _ 1 (by assumption); clear K7)
              | (go_at_call 48; refine (grey_OverT (by assumption)).mono ?_; rintro e w7 ⟨rfl, rfl⟩))
          go_wp2
          go_roundw
          case rel => exact ⟨j + 1, by omega, by go_num, L9, ov9, (show Hid (Two w b w1.heap.size L9 ov9 L9 ov9 _) by assumption).out⟩
          case measure => simp [intOf]; omega
        · rw [List.concat_eq_append] at hL
          subst hL
          go_wp2_with fail
          refine (grey_Pop _ _ _ _ _ _ g).mono ?_
          rintro e w4 ⟨rfl, F3, g3, k3, f3⟩
          have T4 := Lib.hid (Two.grey g r fr dj g3 k3 f3)
          clear g r fr dj g3 k3 f3 TW
          go_wp2_with fail
          obtain ⟨F5, G5, g5, r5, fr5, dj5⟩ := T4.out
          refine (rlist_Pop _ _ _ _ _ _ r5).mono ?_
          rintro e w6 ⟨rfl, G6, g6, k6, f6⟩
          have T6 := Lib.hid (Two.rlist g5 r5 fr5 dj5 g6 k6 f6)
          clear g5 r5 fr5 dj5 g6 k6 f6 T4
          obtain ⟨L9, ov9, T9⟩ : ∃ L9 ov9, Hid (Two w b w1.heap.size L9 ov9 L9 ov9 w6) := ⟨_, _, T6⟩
          have T6d : Hid (Two w b w1.heap.size L9 ov9 L9 ov9 w6.drew) := T9.out.drew
          obtain ⟨p2, cap2, q0, q1, -, q8, -⟩ := T9.out.over
          clear T6 T9
          go_wp2
          go_region_held3 (fun (w' : World) => w'.cell? ⟨w1.heap.size, 0, none⟩ = some (.slice p2 L9.length cap2) ∧ w'.cell? ⟨w1.heap.size, 1, none⟩ = some (.bool ov9)) (first | assumption | (constructor <;> assumption) | go_keep)
            (first
              | (go_at_call 47; refine (grey_LenT (by assumption)).mono ?_; rintro e w7 ⟨rfl, T7, K7⟩; have s0 := K7.out _ 0 (by assumption); have s1 := K7.out _ 1 (by assumption); clear K7)
              | (go_at_call 48; refine (grey_OverT (by assumption)).mono ?_; rintro e w7 ⟨rfl, rfl⟩))
          go_wp2
          go_roundw
          case rel => exact ⟨j + 1, by omega, by go_num, L9, ov9, (show Hid (Two w b w1.heap.size L9 ov9 L9 ov9 _) by assumption).out⟩
          case measure => simp [intOf]; omega
      · by_cases k2 : kd = 2
        · subst k2
          obtain ⟨F, G, g, r, fr, dj⟩ := TW.out
          go_wp2_with fail
          refine (grey_Settle _ _ _ _ _ g).mono ?_
          rintro e w4 ⟨rfl, F3, g3, k3, f3⟩
          have T4 := Lib.hid (Two.grey g r fr dj g3 k3 f3)
          clear g r fr dj g3 k3 f3 TW
          obtain ⟨p3, cap3, -, x1, x2, -, -⟩ := T4.out.over
          have T6 := Lib.hid T4.out.clear
          obtain ⟨L9, ov9, T9⟩ : ∃ L9 ov9, Hid (Two w b w1.heap.size L9 ov9 L9 ov9 (w4.setCell ⟨w1.heap.size, 1, none⟩ (.bool false))) := ⟨_, _, T6⟩
          have T6d : Hid (Two w b w1.heap.size L9 ov9 L9 ov9 (w4.setCell ⟨w1.heap.size, 1, none⟩ (.bool false)).drew) := T9.out.drew
          obtain ⟨p2, cap2, q0, q1, -, q8, -⟩ := T9.out.over
          clear T6 T9 T4
          go_wp2
          go_region_held3 (fun (w' : World) => w'.cell? ⟨w1.heap.size, 0, none⟩ = some (.slice p2 L9.length cap2) ∧ w'.cell? ⟨w1.heap.size, 1, none⟩ = some (.bool ov9)) (first | assumption | (constructor <;> assumption) | go_keep)
            (first
              | (go_at_call 47; refine (grey_LenT (by assumption)).mono ?_; rintro e w7 ⟨rfl, T7, K7⟩; have s0 := K7.out _ 0 (by assumption); have s1 := K7.out _ 1 (by assumption); clear K7)
              | (go_at_call 48; refine (grey_OverT (by assumption)).mono ?_; rintro e w7 ⟨rfl, rfl⟩))
          go_wp2
          go_roundw
          case rel => exact ⟨j + 1, by omega, by go_num, L9, ov9, (show Hid (Two w b w1.heap.size L9 ov9 L9 ov9 _) by assumption).out⟩
          case measure => simp [intOf]; omega
        · have e1 : (kd == 1) = false := by rw [beq_eq_false_iff_ne]; exact k1
          have e2 : (kd == 2) = false := by rw [beq_eq_false_iff_ne]; exact k2
          clear k1 k2
          obtain ⟨F, G, g, r, fr, dj⟩ := TW.out.drew
          have Gd := Lib.hid g
          have Rd := Lib.hid r
          have FR := Lib.hid fr
          have DJ := Lib.hid dj
          have h8 := g.sign.2
          clear g r fr dj TW
          go_wp2
          by_cases hl8 : L.length < 8
          · have HL := Lib.hid hl8
            clear hl8 h8
            go_region_held3 (fun w' => w'.cell? ⟨b1, o1 + j * 2 + 1, none⟩ = some (.int .i64 a)) (first | assumption | go_keep)
              (first
                | (go_at_call 45; refine (grey_Push _ _ _ _ _ _ Gd.out HL.out).mono ?_; rintro e w4 ⟨rfl, F3, g3, k3, f3⟩; have T4 := Lib.hid (Two.grey Gd.out Rd.out FR.out DJ.out g3 k3 f3); have c4 := KC'.out _ _ _ _ _ T4.out; clear g3 k3 f3)
                | (go_at_call 46; obtain ⟨F5, G5, g5, r5, fr5, dj5⟩ := T4.out; refine (rlist_Push _ _ _ _ _ _ r5 HL.out).mono ?_; rintro e w6 ⟨rfl, G6, g6, k6, f6⟩; have T6 := Lib.hid (Two.rlist g5 r5 fr5 dj5 g6 k6 f6); have c6 := KC'.out _ _ _ _ _ T6.out; clear g5 r5 fr5 dj5 g6 k6 f6))
            obtain ⟨L9, ov9, T9⟩ : ∃ L9 ov9, Hid (Two w b w1.heap.size L9 ov9 L9 ov9 w6) := ⟨_, _, T6⟩
            have T6d : Hid (Two w b w1.heap.size L9 ov9 L9 ov9 w6.drew) := T9.out.drew
            obtain ⟨p2, cap2, q0, q1, -, q8, -⟩ := T9.out.over
            clear T6 T9
            go_wp2
            go_region_held3 (fun (w' : World) => w'.cell? ⟨w1.heap.size, 0, none⟩ = some (.slice p2 L9.length cap2) ∧ w'.cell? ⟨w1.heap.size, 1, none⟩ = some (.bool ov9)) (first | assumption | (constructor <;> assumption) | go_keep)
              (first
                | (go_at_call 47; refine (grey_LenT (by assumption)).mono ?_; rintro e w7 ⟨rfl, T7, K7⟩; have s0 := K7.out _ 0 (by assumption); have s1 := K7.out _ 1 (by assumption); clear K7)
                | (go_at_call 48; refine (grey_OverT (by assumption)).mono ?_; rintro e w7 ⟨rfl, rfl⟩))
            go_wp2
            go_roundw
            case rel => exact ⟨j + 1, by omega, by go_num, L9, ov9, (show Hid (Two w b w1.heap.size L9 ov9 L9 ov9 _) by assumption).out⟩
            case measure => simp [intOf]; omega
          · have hl : L.length = 8 := by omega
            have HL := Lib.hid hl
            clear hl8 h8 hl
            go_region_held3 (fun w' => w'.cell? ⟨b1, o1 + j * 2 + 1, none⟩ = some (.int .i64 a)) (first | assumption | go_keep)
              (first
                | (go_at_call 45; refine (grey_Push_full _ _ _ _ _ _ Gd.out HL.out).mono ?_; rintro e w4 ⟨rfl, F3, g3, k3, f3⟩; have T4 := Lib.hid (Two.grey Gd.out Rd.out FR.out DJ.out g3 k3 f3); have c4 := KC'.out _ _ _ _ _ T4.out; clear g3 k3 f3)
                | (go_at_call 46; obtain ⟨F5, G5, g5, r5, fr5, dj5⟩ := T4.out; refine (rlist_Push_full _ _ _ _ _ _ r5 HL.out).mono ?_; rintro e w6 ⟨rfl, G6, g6, k6, f6⟩; have T6 := Lib.hid (Two.rlist g5 r5 fr5 dj5 g6 k6 f6); have c6 := KC'.out _ _ _ _ _ T6.out; clear g5 r5 fr5 dj5 g6 k6 f6))
            obtain ⟨L9, ov9, T9⟩ : ∃ L9 ov9, Hid (Two w b w1.heap.size L9 ov9 L9 ov9 w6) := ⟨_, _, T6⟩
            have T6d : Hid (Two w b w1.heap.size L9 ov9 L9 ov9 w6.drew) := T9.out.drew
            obtain ⟨p2, cap2, q0, q1, -, q8, -⟩ := T9.out.over
            clear T6 T9
            go_wp2
            go_region_held3 (fun (w' : World) => w'.cell? ⟨w1.heap.size, 0, none⟩ = some (.slice p2 L9.length cap2) ∧ w'.cell? ⟨w1.heap.size, 1, none⟩ = some (.bool ov9)) (first | assumption | (constructor <;> assumption) | go_keep)
              (first
                | (go_at_call 47; refine (grey_LenT (by assumption)).mono ?_; rintro e w7 ⟨rfl, T7, K7⟩; have s0 := K7.out _ 0 (by assumption); have s1 := K7.out _ 1 (by assumption); clear K7)
                | (go_at_call 48; refine (grey_OverT (by assumption)).mono ?_; rintro e w7 ⟨rfl, rfl⟩))
            go_wp2
            go_roundw
            case rel => exact ⟨j + 1, by omega, by go_num, L9, ov9, (show Hid (Two w b w1.heap.size L9 ov9 L9 ov9 _) by assumption).out⟩
            case measure => simp [intOf]; omega
    · obtain ⟨L, ov, tw⟩ := hst.out
      have TW := Lib.hid tw
      clear tw hst
      by_cases hlt : j < n
      · have h200 : decide ((j : Int) < 200) = false := by simp; omega
        go_wp2
        go_ret
        obtain ⟨F, G, g, r, fr, dj⟩ := TW.out
        exact ⟨rfl, fr.1.below⟩
      · go_wp2
        go_ret
        obtain ⟨F, G, g, r, fr, dj⟩ := TW.out
        exact ⟨rfl, fr.1.below⟩

end Go.Proofs.Ytkjncehcabhljaa.greyPlays
