/-
  The walk of 'dormouselaw06.SpanOnce': the call returns true, in a world with at most new blocks.
-/
import Derived.Test.YtfnhfhoafnpfoaaRows
import Derived.Test.YtfnhfhoafnpfoaaSpanAwake
import Derived.Test.YtfnhfhoafnpfoaaPureOnce
import Derived.Test.YtfnhfhoafnpfoaaClassRef
import Derived.WalkKit
import Derived.WalkSpells
import Derived.WalkLawsBesides
import Derived.Deep.RegionHeld3
namespace Go.Proofs.Ytfnhfhoafnpfoaa.spanOnce
open Go.RowKit
set_option linter.unusedVariables false

theorem q_cases (c : Nat) (h : c < 4) : cSlots c = (qN c : Int) ∧ 1 ≤ qN c ∧ qN c ≤ 8 := by
  obtain rfl | rfl | rfl | rfl : c = 0 ∨ c = 1 ∨ c = 2 ∨ c = 3 := by omega
  all_goals decide
set_option maxRecDepth 100000 in
set_option maxHeartbeats 4000000 in
theorem walk (a0 : Int) (a1 : Int) (a2 : Int) (w0 : (Lit.int .i64 a0).wf = true) (w1 : (Lit.int .i64 a1).wf = true) (w2 : (Lit.int .i64 a2).wf = true) (w : World) :
    Calls Try.prog 4 #[.int .i64 a0, .int .i64 a1, .int .i64 a2] w fun e w' => e = .returned (.bool true) ∧ Below w.heap.size w w' := by
  clear w0 w1 w2
  go_enter Try.func4, Try.ntmps4
  go_wp2_with fail
  obtain ⟨u, u0, u1, hu⟩ := umod a0 8 (by decide) (by decide)
  obtain ⟨c', c0, c1, hc⟩ := umod a1 4 (by decide) (by decide)
  obtain ⟨o', o0, o1, ho⟩ := umod a2 4 (by decide) (by decide)
  rw [hu, hc, ho]; clear hu hc ho
  have hk1 : wrap64 (2 + u) = 2 + u := IntWalk.wrap64_in _ (by omega)
  rw [hk1]; clear hk1
  obtain ⟨n, hn⟩ := Int.eq_ofNat_of_zero_le (show 0 ≤ 2 + u by omega)
  obtain ⟨c, rfl⟩ := Int.eq_ofNat_of_zero_le c0
  obtain ⟨o, rfl⟩ := Int.eq_ofNat_of_zero_le o0
  rw [hn]
  have n2 : 2 ≤ n := by omega
  have n9 : n ≤ 9 := by omega
  have c4 : c < 4 := by omega
  have o4 : o < 4 := by omega
  clear hn u0 u1 c0 c1 o0 o1
  refine (span_New n n2 (by omega) _).mono ?_
  intro e w1 h1
  obtain ⟨rfl, s1⟩ := h1.inn
  clear h1
  go_wp2_with fail
  refine (awake06 _).mono ?_
  rintro e w2 ⟨rfl, b2⟩
  have s2 : Hid (SpanIn w w.heap.size (sNew n) w2) := s1.out.below b2
  clear s1 b2
  go_wp2
  go_loopw [1, 9] (fun cv rv wr => ∃ (r c : Nat), r ≤ 2 ∧ c < 4 ∧ rv = .int .i64 r ∧ cv = .int .i64 c ∧ Hid (SpanIn w w.heap.size (sNew n) wr)) (fun _ rv _ => 2 - (intOf rv).toNat)
  case atStart => exact ⟨0, c, by omega, c4, rfl, rfl, s2⟩
  case round =>
    clear s2 c4
    obtain ⟨r, c, hr, c4, rfl, rfl, hst⟩ := hrel
    by_cases hlt : r < 2
    · obtain ⟨hq, q1, q8⟩ := q_cases c c4
      obtain ⟨z1, z2, z3, z4, z5⟩ := once0 n2 n9 c4
      have Z1 := Lib.hid z1
      have Z2 := Lib.hid z2
      have Z3 := Lib.hid z3
      have Z4 := Lib.hid z4
      have Z5 := Lib.hid z5
      have HQ := Lib.hid hq
      have ON := Lib.hid (fun i hi => once n2 n9 c4 (i := i) hi)
      clear z1 z2 z3 z4 z5 hq
      go_wp2_with fail
      refine (refc_Slots _ _).mono ?_
      rintro e w3 ⟨rfl, b3⟩
      rw [HQ.out]
      have s3 : Hid (SpanIn w w.heap.size (fill n c 0) w3) := by rw [Z3.out]; exact hst.out.below b3
      clear hst b3
      generalize hqq : qN c = q at *
      have hnq : n * q ≤ 72 := Nat.mul_le_mul n9 q8
      have hnq' : ((n * q : Nat) : Int) = (n : Int) * q := by simp
      have hmul : IntKind.i64.wrap ((n : Int) * q) = (n : Int) * q := IntWalk.i64_in _ (by omega)
      have hnq0 : 0 ≤ (n : Int) * q := by omega
      have hnq1 : (n : Int) * q ≤ 72 := by omega
      have NQ := Lib.hid hnq'
      have qi1 : (1 : Int) ≤ q := by omega
      have qi8 : (q : Int) ≤ 8 := by omega
      clear hnq'
      go_wp2
      go_loopw [11] (fun iv wr => ∃ i : Nat, i ≤ n * q ∧ iv = .int .i64 i ∧ Hid (SpanIn w w.heap.size (fill n c i) wr)) (fun iv _ => n * q - (intOf iv).toNat)
      case atStart => exact ⟨0, by omega, rfl, s3⟩
      case round =>
        obtain ⟨i, hi, rfl, hsi⟩ := hrel
        clear s3
        by_cases hil : i < n * q
        · obtain ⟨y1, y2, y3, y4⟩ := ON.out i hil
          have hil' : (i : Int) < (n : Int) * q := by have := NQ.out; omega
          have e1 : sAllocV c (fill n c i) = .tuple #[.int .i64 ((i : Int) / (q : Int)), .int .i64 ((i : Int) % (q : Int)), .bool true] := by unfold sAllocV; rw [y1, ← Int.natCast_ediv, ← Int.natCast_emod]
          have e2 : sAllocL c (fill n c i) = fill n c (i + 1) := by unfold sAllocL; rw [y1]
          have i0 : (0 : Int) ≤ i := by omega
          have i72 : (i : Int) ≤ 72 := by omega
          have HI := Lib.hid (show i + 1 ≤ n * q by omega)
          obtain ⟨dq, hdq, dq0, dq1⟩ : ∃ dq : Int, (i : Int) / (q : Int) = dq ∧ 0 ≤ dq ∧ dq ≤ 72 := ⟨_, rfl, (IntWalk.tdiv_le _ _ (by omega) qi1).1, by have := (IntWalk.tdiv_le (i : Int) (q : Int) (by omega) qi1).2; omega⟩
          obtain ⟨dr, hdr⟩ : ∃ dr : Int, (i : Int) % (q : Int) = dr := ⟨_, rfl⟩
          have d3 : ¬ (q : Int) = 0 := by omega
          have d4 : ¬ q = 0 := by omega
          rw [hdq, hdr] at e1
          have E1 := Lib.hid e1
          have E2 := Lib.hid e2
          clear y1 y2 y3 y4 e1 e2
          go_wp2_with fail
          refine (spanI_Alloc hsi _).mono ?_
          rintro e w4 ⟨rfl, s4⟩
          rw [E1.out]
          rw [E2.out] at s4
          clear hsi hil' hmul hnq0 hnq1 hnq hil hi
          go_wp2
          go_roundw
          case rel => exact ⟨i + 1, HI.out, by go_num, s4⟩
          case measure => have := HI.out; simp [intOf]; omega
        · have hie : i = n * q := by omega
          have hil' : (n : Int) * q ≤ (i : Int) := by have := NQ.out; omega
          have hsf : Hid (SpanIn w w.heap.size (fill n c (n * q)) wr) := by rw [← hie]; exact hsi
          clear hsi
          have e1 : sAllocV c (fill n c (n * q)) = .tuple #[.int .i64 0, .int .i64 0, .bool false] := by have := Z1.out; unfold sAllocV; rw [this]
          have e2 : sAllocL c (fill n c (n * q)) = fill n c (n * q) := by have := Z1.out; unfold sAllocL; rw [this]
          have e3 : sWords (fill n c (n * q)) = (n : Int) * 32 := Z2.out
          have E1 := Lib.hid e1
          have E2 := Lib.hid e2
          have E3 := Lib.hid e3
          have HIE := Lib.hid hie
          clear e1 e2 e3 hie
          go_wp2_with fail
          refine (spanI_Alloc hsf _).mono ?_
          rintro e w4 ⟨rfl, s4⟩
          rw [E1.out]
          rw [E2.out] at s4
          clear hsf
          go_wp2_with fail
          refine (spanI_Words s4).mono ?_
          rintro e w5 ⟨rfl, s5⟩
          rw [E3.out]
          clear s4
          go_wp2
          go_loopw [18] (fun iv wr => ∃ i : Nat, i ≤ n * q ∧ iv = .int .i64 ((i : Int) - 1) ∧ Hid (SpanIn w w.heap.size (fill n c i) wr)) (fun iv _ => (intOf iv + 1).toNat)
          case atStart => exact ⟨n * q, by omega, by have := NQ.out; congr 1; try omega, s5⟩
          case round =>
            obtain ⟨i2, hi2, rfl, hsi⟩ := hrel
            clear s5
            by_cases hp : 0 < i2
            · obtain ⟨r2, rfl⟩ : ∃ r2, i2 = r2 + 1 := ⟨i2 - 1, by omega⟩
              obtain ⟨y1, y2, y3, y4⟩ := ON.out r2 (by omega)
              have hr1 : ((r2 + 1 : Nat) : Int) - 1 = r2 := by omega
              rw [hr1]
              have g1 : sUsed (fill n c (r2 + 1)) ((r2 : Int) / (q : Int)) ((r2 : Int) % (q : Int)) = true := by have := y2; rwa [Int.natCast_ediv, Int.natCast_emod] at this
              have g2 : sFree (fill n c (r2 + 1)) ((r2 : Int) / (q : Int)) ((r2 : Int) % (q : Int)) = fill n c r2 := by have := y3; rwa [Int.natCast_ediv, Int.natCast_emod] at this
              have g3 : sUsed (fill n c r2) ((r2 : Int) / (q : Int)) ((r2 : Int) % (q : Int)) = false := by have := y4; rwa [Int.natCast_ediv, Int.natCast_emod] at this
              have g4 : sFree (fill n c r2) ((r2 : Int) / (q : Int)) ((r2 : Int) % (q : Int)) = fill n c r2 := by unfold sFree; rw [g3]; rfl
              have r0 : (0 : Int) ≤ r2 := by omega
              have r72 : (r2 : Int) ≤ 72 := by omega
              obtain ⟨dq, hdq, dq0, dq1⟩ : ∃ dq : Int, (r2 : Int) / (q : Int) = dq ∧ 0 ≤ dq ∧ dq ≤ 72 := ⟨_, rfl, (IntWalk.tdiv_le _ _ (by omega) qi1).1, by have := (IntWalk.tdiv_le (r2 : Int) (q : Int) (by omega) qi1).2; omega⟩
              obtain ⟨dr, hdr⟩ : ∃ dr : Int, (r2 : Int) % (q : Int) = dr := ⟨_, rfl⟩
              have d3 : ¬ (q : Int) = 0 := by omega
              have d4 : ¬ q = 0 := by omega
              rw [hdq, hdr] at g1 g2 g3 g4
              have hwq : IntKind.i64.wrap dq = dq := IntWalk.i64_in _ (by omega)
              have htm : (r2 : Int).tmod (q : Int) = dr := by rw [IntWalk.rem_in _ _ r0]; exact hdr
              have G1 := Lib.hid g1
              have G2 := Lib.hid g2
              have G3 := Lib.hid g3
              have G4 := Lib.hid g4
              have hsd : Hid (SpanIn w w.heap.size (fill n c (r2 + 1)) wr.drew) := hsi.out.drew
              clear y1 y2 y3 y4 g1 g2 g3 g4 hr1 hsi
              go_wp2
              go_region_held3 (fun (_ : World) => True) (trivial)
                (first
                  | (go_at_call 18; (with_reducible refine (spanI_Free hsd _ _).mono ?_); rintro e w6 ⟨rfl, s6⟩; rw [G1.out]; rw [G2.out] at s6)
                  | (go_at_call 18; (with_reducible refine (spanI_Free s6 _ _).mono ?_); rintro e w7 ⟨rfl, s7⟩; rw [G3.out]; rw [G4.out] at s7)
                  | (go_at_call 27; (with_reducible refine (spanI_Used s7 _ _).mono ?_); rintro e w8 ⟨rfl, s8⟩; rw [G3.out]))
              go_wp2
              go_roundw
              case rel => exact ⟨r2, by omega, rfl, s8⟩
              case measure => simp [intOf]
            · have hi0 : i2 = 0 := by omega
              subst hi0
              have s0 : Hid (SpanIn w w.heap.size (sNew n) wr) := by rw [← Z3.out]; exact hsi
              clear hsi
              go_wp2_with (first
                | (go_at_call 22; refine (spanI_Words s0).mono ?_; rintro e w6 ⟨rfl, s6⟩; rw [Z4.out])
                | (go_at_call 25; refine (spanI_Class s6 _).mono ?_; rintro e w7 ⟨rfl, rfl⟩; rw [Z5.out]))
              go_roundw
              case rel => exact ⟨r + 1, o, by omega, o4, by go_num, rfl, s6⟩
              case measure => simp [intOf]; omega
    · go_wp2
      go_ret
      exact ⟨rfl, hst.out.old⟩

end Go.Proofs.Ytfnhfhoafnpfoaa.spanOnce
