/-
  The walk of 'dormouselaw08.GreyTurns': the call returns true, in a world with at most new blocks.
-/
import Derived.Test.YtkjncehcabhljaaRows
import Derived.Test.YtkjncehcabhljaaValueIn
import Derived.Test.YtkjncehcabhljaaGreyAwake
import Derived.WalkKit
import Derived.WalkSpells
import Derived.WalkLawsBesides
namespace Go.Proofs.Ytkjncehcabhljaa.greyTurns
open Go.RowKit
set_option linter.unusedVariables false

/-- The list, as it stands after i pushes. -/
def St (w : World) (b : Nat) (a : Int) (k : Nat) (ov : Bool) (wr : World) : Prop := ∃ F, GreyAt wr b (runs a k) ov F ∧ Fresh w wr F
set_option maxRecDepth 100000 in
set_option maxHeartbeats 2000000 in
theorem walk (a0 : Int) (a1 : Int) (w0 : (Lit.int .i64 a0).wf = true) (w1 : (Lit.int .i64 a1).wf = true) (w : World) :
    Calls Try.prog 13 #[.int .i64 a0, .int .i64 a1] w fun e w' => e = .returned (.bool true) ∧ Below w.heap.size w w' := by
  clear w0 w1
  go_enter Try.func13, Try.ntmps13
  go_wp2_with fail
  obtain ⟨n, n0, n1, hn⟩ := umod a0 20 (by decide) (by decide)
  rw [hn]; clear hn
  have bd := tmod_le a1 1099511627776 (by decide)
  generalize a1.tmod 1099511627776 = a at *
  obtain ⟨m, rfl⟩ := Int.eq_ofNat_of_zero_le n0
  refine (grey_New _).mono ?_
  rintro e w1 ⟨rfl, F1, g1, k1, f1⟩
  have B1 := Lib.hid k1.below
  have hs : St w w.heap.size a 0 false w1 := ⟨F1, g1, k1, fun i hi => (f1 i hi).elim (by simp) id⟩
  have HS := Lib.hid hs
  clear g1 k1 f1 hs
  go_wp2_with fail
  refine (awake08 _).mono ?_
  rintro e w2 ⟨rfl, b2⟩
  have hs : St w w.heap.size a 0 false w2 := by
    obtain ⟨F, g, fr⟩ := HS.out
    exact ⟨F, g.keep (Keeps.of_below b2 []) (by simp), fr.below b2⟩
  clear HS b2 B1
  generalize hb : w.heap.size = b at *
  have HB := Lib.hid hb
  clear hb
  go_wp2
  go_loopw [6] (fun i wr => ∃ k : Nat, k ≤ m ∧ i = .int .i64 k ∧ Hid (St w b a (min k 8) (decide (8 < k)) wr)) (fun i _ => m - (intOf i).toNat)
  case atStart => exact ⟨0, by omega, rfl, hs⟩
  case round =>
    obtain ⟨k, hk, rfl, hst⟩ := hrel
    clear hs
    by_cases hlt : k < m
    · obtain ⟨F, g, fr⟩ := hst.out
      have hai : IntKind.i64.wrap (a + k) = a + k := IntWalk.i64_in _ (by omega)
      by_cases h8 : k < 8
      · rw [show min k 8 = k by omega] at g
        have G := Lib.hid g
        have FR := Lib.hid fr
        clear g fr hst
        go_wp2_with fail
        refine (grey_Push _ _ _ _ _ _ G.out (by rw [runs_len]; exact h8)).mono ?_
        rintro e w3 ⟨rfl, F3, g3, k3, f3⟩
        have hst3 : Hid (St w b a (min (k + 1) 8) (decide (8 < k + 1)) w3) := by
          refine ⟨F3, ?_, FR.out.step k3 f3⟩
          rw [show min (k + 1) 8 = k + 1 by omega, runs_snoc, show decide (8 < k + 1) = decide (8 < k) by simp; omega]
          exact g3
        clear g3 k3 f3 G FR
        have h8' : (k : Int) < 8 := by omega
        go_wp2
        go_roundw
        case rel => exact ⟨k + 1, by omega, by go_num, hst3⟩
        case measure => simp [intOf]; omega
      · rw [show min k 8 = 8 by omega] at g
        have G := Lib.hid g
        have FR := Lib.hid fr
        clear g fr hst
        go_wp2_with fail
        refine (grey_Push_full _ _ _ _ _ _ G.out (by rw [runs_len])).mono ?_
        rintro e w3 ⟨rfl, F3, g3, k3, f3⟩
        have hst3 : Hid (St w b a (min (k + 1) 8) (decide (8 < k + 1)) w3) := by
          refine ⟨F3, ?_, FR.out.step k3 f3⟩
          rw [show min (k + 1) 8 = 8 by omega, show decide (8 < k + 1) = true by simp; omega]
          exact g3
        clear g3 k3 f3 G FR
        have h8' : (8 : Int) ≤ k := by omega
        go_wp2
        go_roundw
        case rel => exact ⟨k + 1, by omega, by go_num, hst3⟩
        case measure => simp [intOf]; omega
    · have hkm : k = m := by omega
      subst hkm
      obtain ⟨F, g, fr⟩ := hst.out
      clear hst
      go_wp2_with fail
      refine (grey_Over _ _ _ _ _ g).mono ?_
      rintro e w3 ⟨rfl, rfl⟩
      have hs1 : Hid (St w b a (min k 8) (decide (8 < k)) _) := ⟨F, g, fr⟩
      obtain ⟨q, hq, hq8⟩ : ∃ q : Nat, min k 8 = q ∧ q ≤ 8 := ⟨_, rfl, by omega⟩
      have hmin : min (k : Int) 8 = q := by omega
      rw [hq] at hs1
      obtain ⟨ov, hov, hovi, hcase⟩ : ∃ ov : Bool, decide (8 < k) = ov ∧ decide ((8 : Int) < k) = ov ∧ ((ov = true ∧ (8 : Int) < k) ∨ (ov = false ∧ (k : Int) ≤ 8)) := by
        by_cases h : 8 < k
        · exact ⟨true, by simpa using h, by simp; omega, .inl ⟨rfl, by omega⟩⟩
        · exact ⟨false, by simpa using h, by simp; omega, .inr ⟨rfl, by omega⟩⟩
      rw [hov] at hs1
      clear g fr F hq
      rcases hcase with ⟨rfl, hc⟩ | ⟨rfl, hc⟩
      all_goals
        go_wp2
        go_loopw [8] (fun i wr => ∃ j : Nat, j ≤ 8 ∧ i = .int .i64 ((j : Int) - 1) ∧ Hid (St w b a j _ wr)) (fun i _ => (intOf i + 1).toNat)
        case atStart => exact ⟨q, hq8, by congr 1; omega, hs1⟩
        case round =>
          obtain ⟨j, hj, rfl, hst⟩ := hrel
          clear hs1 hmin hq8
          by_cases hj0 : 0 < j
          · obtain ⟨r, rfl⟩ : ∃ r, j = r + 1 := ⟨j - 1, by omega⟩
            obtain ⟨F, g, fr⟩ := hst.out
            rw [runs_snoc] at g
            have hr1 : ((r + 1 : Nat) : Int) - 1 = r := by omega
            have hr2 : (0 : Int) ≤ r := by omega
            have hr3 : (r : Int) ≤ 8 := by omega
            rw [hr1]
            have G := Lib.hid g
            have FR := Lib.hid fr
            clear g fr hst hr1
            go_wp2_with fail
            refine (grey_Pop _ _ _ _ _ _ G.out).mono ?_
            rintro e w4 ⟨rfl, F3, g3, k3, f3⟩
            have hst3 : Hid (St w b a r _ w4) := ⟨F3, g3, FR.out.step k3 f3⟩
            clear g3 k3 f3 G FR
            go_wp2
            go_roundw
            case rel => exact ⟨r, by omega, rfl, hst3⟩
            case measure => simp [intOf]
          · have hj' : j = 0 := by omega
            subst hj'
            obtain ⟨F, g, fr⟩ := hst.out
            have G := Lib.hid g
            have FR := Lib.hid fr
            clear g fr hst
            go_wp2_with fail
            refine (grey_Pop_none _ _ _ _ G.out).mono ?_
            rintro e w4 ⟨rfl, F4, g4, k4, f4⟩
            have FR4 := Lib.hid (FR.out.step k4 f4)
            clear k4 f4 FR G
            go_wp2_with fail
            refine (grey_Over _ _ _ _ _ g4).mono ?_
            rintro e w5 ⟨rfl, rfl⟩
            go_wp2_with fail
            refine (grey_Settle _ _ _ _ _ g4).mono ?_
            rintro e w6 ⟨rfl, F6, g6, k6, f6⟩
            have FR6 := Lib.hid (FR4.out.step k6 f6)
            clear k6 f6 FR4 g4
            go_wp2_with (first
              | (go_at_call 42; refine (grey_Pop_nil _).mono ?_; rintro e w7 ⟨rfl, rfl⟩)
              | (go_at_call 44; refine (grey_Settle_nil _).mono ?_; rintro e w7 ⟨rfl, rfl⟩)
              | (go_at_call 45; refine (grey_Push_nil _ _).mono ?_; rintro e w7 ⟨rfl, rfl⟩)
              | (go_at_call 47; refine (grey_Len_nil _).mono ?_; rintro e w7 ⟨rfl, rfl⟩)
              | (go_at_call 48; (with_reducible refine (grey_Over _ _ _ _ _ g6).mono ?_); rintro e w7 ⟨rfl, rfl⟩)
              | (go_at_call 48; (with_reducible refine (grey_Over_nil _).mono ?_); rintro e w7 ⟨rfl, rfl⟩))
            go_ret
            exact ⟨rfl, FR6.out.1.below⟩

end Go.Proofs.Ytkjncehcabhljaa.greyTurns
