/-
  The walk of 'dormouselaw08.GreyOver': the call returns true, in a world with at most new blocks.
-/
import Derived.Test.YtkjncehcabhljaaRows
import Derived.Test.YtkjncehcabhljaaGreyAny
import Derived.Test.YtkjncehcabhljaaArg
import Derived.WalkKit
import Derived.WalkSpells
import Derived.WalkLawsBesides
namespace Go.Proofs.Ytkjncehcabhljaa.greyOver
open Go.RowKit
set_option linter.unusedVariables false

def St (w : World) (b : Nat) (a : Int) (k : Nat) (ov : Bool) (wr : World) : Prop := ∃ F, GreyAt wr b (runs a k) ov F ∧ Fresh w wr F
def Ov (w : World) (b : Nat) (ov : Bool) (wr : World) : Prop := ∃ L F, GreyAt wr b L ov F ∧ Fresh w wr F
set_option maxRecDepth 100000 in
set_option maxHeartbeats 2000000 in
theorem walk (a0 : Int) (a1 : Option Addr) (len1 cap1 : Nat) (z1 : List Int) (w : World) (w0 : (Lit.int .i64 a0).wf = true) (w1 : IsRow .i64 w a1 len1 cap1 z1) :
    Calls Try.prog 14 #[.int .i64 a0, .slice a1 len1 cap1] w fun e w' => e = .returned (.bool true) ∧ Below w.heap.size w w' := by
  clear w0
  have hA := argInts_of w1
  clear w1
  obtain ⟨hwd, hlen, p, cap, hv, hcells⟩ := hA
  rw [hv]
  clear hv
  generalize z1.take len1 = xs at *
  unfold maxLen at hlen
  have HW := Lib.hid hwd
  have HC := Lib.hid hcells
  clear hwd hcells
  go_enter Try.func14, Try.ntmps14
  go_wp2_with fail
  obtain ⟨u, u0, u1, hu⟩ := umod a0 5 (by decide) (by decide)
  rw [hu]; clear hu
  have hk1 : wrap64 (9 + u) = 9 + u := IntWalk.wrap64_in _ (by omega)
  rw [hk1]; clear hk1
  obtain ⟨m, hm⟩ := Int.eq_ofNat_of_zero_le (show 0 ≤ 9 + u by omega)
  rw [hm]
  have m9 : 9 ≤ m := by omega
  have m13 : m ≤ 13 := by omega
  clear hm u0 u1
  refine (grey_New _).mono ?_
  rintro e w1 ⟨rfl, F1, g1, k1, f1⟩
  have hs : St w w.heap.size 0 0 false w1 := ⟨F1, g1, k1, fun i hi => (f1 i hi).elim (by simp) id⟩
  have HS := Lib.hid hs
  clear g1 k1 f1 hs
  go_wp2_with fail
  refine (awake08 _).mono ?_
  rintro e w2 ⟨rfl, b2⟩
  have hs : Hid (St w w.heap.size 0 0 false w2) := by
    obtain ⟨F, g, fr⟩ := HS.out
    exact ⟨F, g.keep (Keeps.of_below b2 []) (by simp), fr.below b2⟩
  clear HS b2
  generalize hb : w.heap.size = b at *
  have HB := Lib.hid hb
  clear hb
  go_wp2
  go_loopw [6] (fun i wr => ∃ k : Nat, k ≤ m ∧ i = .int .i64 k ∧ Hid (St w b 0 (min k 8) (decide (8 < k)) wr)) (fun i _ => m - (intOf i).toNat)
  case atStart => exact ⟨0, by omega, rfl, hs⟩
  case round =>
    obtain ⟨k, hk, rfl, hst⟩ := hrel
    clear hs
    by_cases hlt : k < m
    · obtain ⟨F, g, fr⟩ := hst.out
      by_cases h8 : k < 8
      · rw [show min k 8 = k by omega] at g
        have G := Lib.hid g
        have FR := Lib.hid fr
        clear g fr hst
        go_wp2_with fail
        refine (grey_Push _ _ _ _ _ _ G.out (by rw [runs_len]; exact h8)).mono ?_
        rintro e w3 ⟨rfl, F3, g3, k3, f3⟩
        have hst3 : Hid (St w b 0 (min (k + 1) 8) (decide (8 < k + 1)) w3) := by
          refine ⟨F3, ?_, FR.out.step k3 f3⟩
          rw [show min (k + 1) 8 = k + 1 by omega, runs_snoc, show decide (8 < k + 1) = decide (8 < k) by simp; omega, Int.zero_add]
          exact g3
        clear g3 k3 f3 G FR
        go_wp2
        go_roundw
        case rel => exact ⟨k + 1, by omega, by go_num, hst3⟩
        case measure => simp [intOf]; omega
      · rw [show min k 8 = 8 by omega] at g
        have G := Lib.hid g
        have FR := Lib.hid fr
        clear g fr hst
        go_wp2_with fail
        refine (grey_Push_full _ _ _ _ _ _ G.out (by rw [runs_len])).mono ?_
        rintro e w3 ⟨rfl, F3, g3, k3, f3⟩
        have hst3 : Hid (St w b 0 (min (k + 1) 8) (decide (8 < k + 1)) w3) := by
          refine ⟨F3, ?_, FR.out.step k3 f3⟩
          rw [show min (k + 1) 8 = 8 by omega, show decide (8 < k + 1) = true by simp; omega]
          exact g3
        clear g3 k3 f3 G FR
        go_wp2
        go_roundw
        case rel => exact ⟨k + 1, by omega, by go_num, hst3⟩
        case measure => simp [intOf]; omega
    · have hkm : k = m := by omega
      subst hkm
      have hov : Hid (Ov w b true wr) := by
        obtain ⟨F, g, fr⟩ := hst.out
        rw [show decide (8 < k) = true by simp; omega] at g
        exact ⟨_, F, g, fr⟩
      clear hst hlt
      go_wp2
      go_loopw [7] (fun i wr => ∃ j : Nat, j ≤ xs.length ∧ i = .int .i64 j ∧ Hid (Ov w b true wr)) (fun i _ => xs.length - (intOf i).toNat)
      case atStart => exact ⟨0, by omega, rfl, hov⟩
      case round =>
        obtain ⟨j, hj, rfl, hst⟩ := hrel
        clear hov
        by_cases hlt : j < xs.length
        · by_cases h30 : j < 30
          · obtain ⟨b1, o1, rfl, hb1, hc1⟩ := HC.out.resolve_left (by omega)
            have hx := HW.out xs[j] (List.getElem_mem _)
            have hcell := hc1 j hlt
            have i0 : (0 : Int) ≤ j := by omega
            have i1 : (j : Int) < xs.length := by omega
            have i2 : (j : Int) < 30 := by omega
            generalize xs[j] = x at *
            obtain ⟨L, F, g, fr⟩ := hst.out
            have hcw : wr.cell? ⟨b1, o1 + j, none⟩ = some (.int .i64 x) := (fr.1.below.cell (p := ⟨b1, o1 + j, none⟩) (by rw [HB.out]; exact hb1)).trans hcell
            have G := Lib.hid g
            have FR := Lib.hid fr
            have fin : ∀ e' (w4 : World), GreyAny b true F wr e' w4 → ∃ v, e' = .returned v ∧ ∃ L F, GreyAt w4 b L true F ∧ Fresh w w4 F := by
              rintro e' w4 ⟨v, L', F', rfl, g4, k4, f4⟩
              exact ⟨v, rfl, L', F', g4, FR.out.step k4 f4⟩
            have FIN := Lib.hid fin
            clear g fr hst hc1 hcell fin hx hb1
            cases hpar : (x.tmod 2 == 0) with
            | true =>
              go_wp2_with fail
              refine (grey_Pop_any _ _ _ _ _ G.out).mono ?_
              intro e' w4 h4
              obtain ⟨v, rfl, L', F', g4, fr4⟩ := FIN.out e' w4 h4
              have hst4 : Hid (Ov w b true w4) := ⟨L', F', g4, fr4⟩
              clear h4 fr4 FIN G FR
              go_wp2_with fail
              refine (grey_Over _ _ _ _ _ g4).mono ?_
              rintro e5 w5 ⟨rfl, rfl⟩
              clear g4
              go_wp2
              go_roundw
              case rel => exact ⟨j + 1, by omega, by go_num, hst4⟩
              case measure => simp [intOf]; omega
            | false =>
              go_wp2_with fail
              refine (grey_Push_over _ _ _ _ _ G.out).mono ?_
              intro e' w4 h4
              obtain ⟨v, rfl, L', F', g4, fr4⟩ := FIN.out e' w4 h4
              have hst4 : Hid (Ov w b true w4) := ⟨L', F', g4, fr4⟩
              clear h4 fr4 FIN G FR
              go_wp2_with fail
              refine (grey_Over _ _ _ _ _ g4).mono ?_
              rintro e5 w5 ⟨rfl, rfl⟩
              clear g4
              go_wp2
              go_roundw
              case rel => exact ⟨j + 1, by omega, by go_num, hst4⟩
              case measure => simp [intOf]; omega
          · have hd : decide ((j : Int) < 30) = false := by simp; omega
            obtain ⟨L, F, g, fr⟩ := hst.out
            have h8 := g.sign.2
            have hd8 : decide ((L.length : Int) ≤ 8) = true := by simp; omega
            clear hst
            go_wp2_with fail
            refine (grey_Settle _ _ _ _ _ g).mono ?_
            rintro e w6 ⟨rfl, F6, g6, k6, f6⟩
            have FR6 := Lib.hid (fr.step k6 f6)
            clear k6 f6 fr g
            go_wp2_with (first
              | (go_at_call 48; refine (grey_Over _ _ _ _ _ g6).mono ?_; rintro e w7 ⟨rfl, rfl⟩)
              | (go_at_call 47; refine (grey_LenG _ _ _ _ _ g6).mono ?_; rintro e w7 ⟨rfl, hb7⟩))
            go_ret
            exact ⟨rfl, (FR6.out.below (by assumption)).1.below⟩
        · obtain ⟨L, F, g, fr⟩ := hst.out
          have h8 := g.sign.2
          have hd8 : decide ((L.length : Int) ≤ 8) = true := by simp; omega
          clear hst
          go_wp2_with fail
          refine (grey_Settle _ _ _ _ _ g).mono ?_
          rintro e w6 ⟨rfl, F6, g6, k6, f6⟩
          have FR6 := Lib.hid (fr.step k6 f6)
          clear k6 f6 fr g
          go_wp2_with (first
            | (go_at_call 48; refine (grey_Over _ _ _ _ _ g6).mono ?_; rintro e w7 ⟨rfl, rfl⟩)
            | (go_at_call 47; refine (grey_LenG _ _ _ _ _ g6).mono ?_; rintro e w7 ⟨rfl, hb7⟩))
          go_ret
          exact ⟨rfl, (FR6.out.below (by assumption)).1.below⟩

end Go.Proofs.Ytkjncehcabhljaa.greyOver
