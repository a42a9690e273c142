/- StorePaceW StorePace -/
import Derived.Test.YtalfiikfaodcmaaKGStore
import Derived.Test.YtalfiikfaodcmaaKSp1
import Derived.Test.YtalfiikfaodcmaaKSp3
import Derived.Test.YtalfiikfaodcmaaKSp4
import Derived.Test.YtalfiikfaodcmaaKSp5
import Derived.Test.YtalfiikfaodcmaaKSp6
import Derived.Test.YtalfiikfaodcmaaKSp9
import Derived.Test.YtalfiikfaodcmaaKSp11
import Derived.Test.YtalfiikfaodcmaaKUmod
import Derived.Test.YtalfiikfaodcmaaRows
import Derived.WalkKit
import Derived.WalkSpells
import Derived.WalkLawsBesides
import Derived.ProofKit
import Derived.OpenShut
/-
  The walk of 'dormouselaw21.StorePace': the call returns true, in a world with at most new blocks.
-/
namespace Go.Proofs.Ytalfiikfaodcmaa.storePace
open Go.RowKit
set_option linter.unusedVariables false

theorem sp_all (a b : Nat) (ha : a < 100) (hb : b < 9) : spOk a b = true :=
  match b, hb with
  | 0, _ => by
    by_cases c19 : a < 19
    · have h := sp_0_0 (a - 0) (by omega) 0 (by omega); rw [show a - 0 + 0 = a by omega] at h; exact h
    by_cases c37 : a < 37
    · have h := sp_19_0 (a - 19) (by omega) 0 (by omega); rw [show a - 19 + 19 = a by omega] at h; exact h
    by_cases c46 : a < 46
    · have h := sp_37_0 (a - 37) (by omega) 0 (by omega); rw [show a - 37 + 37 = a by omega] at h; exact h
    by_cases c55 : a < 55
    · have h := sp_46_0 (a - 46) (by omega) 0 (by omega); rw [show a - 46 + 46 = a by omega] at h; exact h
    by_cases c64 : a < 64
    · have h := sp_55_0 (a - 55) (by omega) 0 (by omega); rw [show a - 55 + 55 = a by omega] at h; exact h
    by_cases c73 : a < 73
    · have h := sp_64_0 (a - 64) (by omega) 0 (by omega); rw [show a - 64 + 64 = a by omega] at h; exact h
    by_cases c82 : a < 82
    · have h := sp_73_0 (a - 73) (by omega) 0 (by omega); rw [show a - 73 + 73 = a by omega] at h; exact h
    by_cases c91 : a < 91
    · have h := sp_82_0 (a - 82) (by omega) 0 (by omega); rw [show a - 82 + 82 = a by omega] at h; exact h
    have h := sp_91_0 (a - 91) (by omega) 0 (by omega); rw [show a - 91 + 91 = a by omega] at h; exact h
  | 1, _ => by
    by_cases c12 : a < 12
    · have h := sp_0_1 (a - 0) (by omega) 0 (by omega); rw [show a - 0 + 0 = a by omega] at h; exact h
    by_cases c24 : a < 24
    · have h := sp_12_1 (a - 12) (by omega) 0 (by omega); rw [show a - 12 + 12 = a by omega] at h; exact h
    by_cases c36 : a < 36
    · have h := sp_24_1 (a - 24) (by omega) 0 (by omega); rw [show a - 24 + 24 = a by omega] at h; exact h
    by_cases c37 : a < 37
    · have h := sp_36_1 (a - 36) (by omega) 0 (by omega); rw [show a - 36 + 36 = a by omega] at h; exact h
    by_cases c46 : a < 46
    · have h := sp_37_0 (a - 37) (by omega) 1 (by omega); rw [show a - 37 + 37 = a by omega] at h; exact h
    by_cases c55 : a < 55
    · have h := sp_46_0 (a - 46) (by omega) 1 (by omega); rw [show a - 46 + 46 = a by omega] at h; exact h
    by_cases c64 : a < 64
    · have h := sp_55_0 (a - 55) (by omega) 1 (by omega); rw [show a - 55 + 55 = a by omega] at h; exact h
    by_cases c73 : a < 73
    · have h := sp_64_0 (a - 64) (by omega) 1 (by omega); rw [show a - 64 + 64 = a by omega] at h; exact h
    by_cases c82 : a < 82
    · have h := sp_73_0 (a - 73) (by omega) 1 (by omega); rw [show a - 73 + 73 = a by omega] at h; exact h
    by_cases c91 : a < 91
    · have h := sp_82_0 (a - 82) (by omega) 1 (by omega); rw [show a - 82 + 82 = a by omega] at h; exact h
    have h := sp_91_0 (a - 91) (by omega) 1 (by omega); rw [show a - 91 + 91 = a by omega] at h; exact h
  | 2, _ => by
    by_cases c8 : a < 8
    · have h := sp_0_2 (a - 0) (by omega) 0 (by omega); rw [show a - 0 + 0 = a by omega] at h; exact h
    by_cases c16 : a < 16
    · have h := sp_8_2 (a - 8) (by omega) 0 (by omega); rw [show a - 8 + 8 = a by omega] at h; exact h
    by_cases c24 : a < 24
    · have h := sp_16_2 (a - 16) (by omega) 0 (by omega); rw [show a - 16 + 16 = a by omega] at h; exact h
    by_cases c32 : a < 32
    · have h := sp_24_2 (a - 24) (by omega) 0 (by omega); rw [show a - 24 + 24 = a by omega] at h; exact h
    by_cases c37 : a < 37
    · have h := sp_32_2 (a - 32) (by omega) 0 (by omega); rw [show a - 32 + 32 = a by omega] at h; exact h
    by_cases c46 : a < 46
    · have h := sp_37_0 (a - 37) (by omega) 2 (by omega); rw [show a - 37 + 37 = a by omega] at h; exact h
    by_cases c55 : a < 55
    · have h := sp_46_0 (a - 46) (by omega) 2 (by omega); rw [show a - 46 + 46 = a by omega] at h; exact h
    by_cases c64 : a < 64
    · have h := sp_55_0 (a - 55) (by omega) 2 (by omega); rw [show a - 55 + 55 = a by omega] at h; exact h
    by_cases c73 : a < 73
    · have h := sp_64_0 (a - 64) (by omega) 2 (by omega); rw [show a - 64 + 64 = a by omega] at h; exact h
    by_cases c82 : a < 82
    · have h := sp_73_0 (a - 73) (by omega) 2 (by omega); rw [show a - 73 + 73 = a by omega] at h; exact h
    by_cases c91 : a < 91
    · have h := sp_82_0 (a - 82) (by omega) 2 (by omega); rw [show a - 82 + 82 = a by omega] at h; exact h
    have h := sp_91_0 (a - 91) (by omega) 2 (by omega); rw [show a - 91 + 91 = a by omega] at h; exact h
  | 3, _ => by
    by_cases c6 : a < 6
    · have h := sp_0_3 (a - 0) (by omega) 0 (by omega); rw [show a - 0 + 0 = a by omega] at h; exact h
    by_cases c12 : a < 12
    · have h := sp_6_3 (a - 6) (by omega) 0 (by omega); rw [show a - 6 + 6 = a by omega] at h; exact h
    by_cases c18 : a < 18
    · have h := sp_12_3 (a - 12) (by omega) 0 (by omega); rw [show a - 12 + 12 = a by omega] at h; exact h
    by_cases c24 : a < 24
    · have h := sp_18_3 (a - 18) (by omega) 0 (by omega); rw [show a - 18 + 18 = a by omega] at h; exact h
    by_cases c30 : a < 30
    · have h := sp_24_3 (a - 24) (by omega) 0 (by omega); rw [show a - 24 + 24 = a by omega] at h; exact h
    by_cases c36 : a < 36
    · have h := sp_30_3 (a - 30) (by omega) 0 (by omega); rw [show a - 30 + 30 = a by omega] at h; exact h
    by_cases c37 : a < 37
    · have h := sp_36_3 (a - 36) (by omega) 0 (by omega); rw [show a - 36 + 36 = a by omega] at h; exact h
    by_cases c46 : a < 46
    · have h := sp_37_0 (a - 37) (by omega) 3 (by omega); rw [show a - 37 + 37 = a by omega] at h; exact h
    by_cases c55 : a < 55
    · have h := sp_46_0 (a - 46) (by omega) 3 (by omega); rw [show a - 46 + 46 = a by omega] at h; exact h
    by_cases c64 : a < 64
    · have h := sp_55_0 (a - 55) (by omega) 3 (by omega); rw [show a - 55 + 55 = a by omega] at h; exact h
    by_cases c73 : a < 73
    · have h := sp_64_0 (a - 64) (by omega) 3 (by omega); rw [show a - 64 + 64 = a by omega] at h; exact h
    by_cases c82 : a < 82
    · have h := sp_73_0 (a - 73) (by omega) 3 (by omega); rw [show a - 73 + 73 = a by omega] at h; exact h
    by_cases c91 : a < 91
    · have h := sp_82_0 (a - 82) (by omega) 3 (by omega); rw [show a - 82 + 82 = a by omega] at h; exact h
    have h := sp_91_0 (a - 91) (by omega) 3 (by omega); rw [show a - 91 + 91 = a by omega] at h; exact h
  | 4, _ => by
    by_cases c5 : a < 5
    · have h := sp_0_4 (a - 0) (by omega) 0 (by omega); rw [show a - 0 + 0 = a by omega] at h; exact h
    by_cases c10 : a < 10
    · have h := sp_5_4 (a - 5) (by omega) 0 (by omega); rw [show a - 5 + 5 = a by omega] at h; exact h
    by_cases c15 : a < 15
    · have h := sp_10_4 (a - 10) (by omega) 0 (by omega); rw [show a - 10 + 10 = a by omega] at h; exact h
    by_cases c20 : a < 20
    · have h := sp_15_4 (a - 15) (by omega) 0 (by omega); rw [show a - 15 + 15 = a by omega] at h; exact h
    by_cases c25 : a < 25
    · have h := sp_20_4 (a - 20) (by omega) 0 (by omega); rw [show a - 20 + 20 = a by omega] at h; exact h
    by_cases c30 : a < 30
    · have h := sp_25_4 (a - 25) (by omega) 0 (by omega); rw [show a - 25 + 25 = a by omega] at h; exact h
    by_cases c35 : a < 35
    · have h := sp_30_4 (a - 30) (by omega) 0 (by omega); rw [show a - 30 + 30 = a by omega] at h; exact h
    by_cases c37 : a < 37
    · have h := sp_35_4 (a - 35) (by omega) 0 (by omega); rw [show a - 35 + 35 = a by omega] at h; exact h
    by_cases c46 : a < 46
    · have h := sp_37_0 (a - 37) (by omega) 4 (by omega); rw [show a - 37 + 37 = a by omega] at h; exact h
    by_cases c55 : a < 55
    · have h := sp_46_0 (a - 46) (by omega) 4 (by omega); rw [show a - 46 + 46 = a by omega] at h; exact h
    by_cases c64 : a < 64
    · have h := sp_55_0 (a - 55) (by omega) 4 (by omega); rw [show a - 55 + 55 = a by omega] at h; exact h
    by_cases c73 : a < 73
    · have h := sp_64_0 (a - 64) (by omega) 4 (by omega); rw [show a - 64 + 64 = a by omega] at h; exact h
    by_cases c82 : a < 82
    · have h := sp_73_0 (a - 73) (by omega) 4 (by omega); rw [show a - 73 + 73 = a by omega] at h; exact h
    by_cases c91 : a < 91
    · have h := sp_82_0 (a - 82) (by omega) 4 (by omega); rw [show a - 82 + 82 = a by omega] at h; exact h
    have h := sp_91_0 (a - 91) (by omega) 4 (by omega); rw [show a - 91 + 91 = a by omega] at h; exact h
  | 5, _ => by
    by_cases c4 : a < 4
    · have h := sp_0_5 (a - 0) (by omega) 0 (by omega); rw [show a - 0 + 0 = a by omega] at h; exact h
    by_cases c8 : a < 8
    · have h := sp_4_5 (a - 4) (by omega) 0 (by omega); rw [show a - 4 + 4 = a by omega] at h; exact h
    by_cases c12 : a < 12
    · have h := sp_8_5 (a - 8) (by omega) 0 (by omega); rw [show a - 8 + 8 = a by omega] at h; exact h
    by_cases c16 : a < 16
    · have h := sp_12_5 (a - 12) (by omega) 0 (by omega); rw [show a - 12 + 12 = a by omega] at h; exact h
    by_cases c20 : a < 20
    · have h := sp_16_5 (a - 16) (by omega) 0 (by omega); rw [show a - 16 + 16 = a by omega] at h; exact h
    by_cases c24 : a < 24
    · have h := sp_20_5 (a - 20) (by omega) 0 (by omega); rw [show a - 20 + 20 = a by omega] at h; exact h
    by_cases c28 : a < 28
    · have h := sp_24_5 (a - 24) (by omega) 0 (by omega); rw [show a - 24 + 24 = a by omega] at h; exact h
    by_cases c32 : a < 32
    · have h := sp_28_5 (a - 28) (by omega) 0 (by omega); rw [show a - 28 + 28 = a by omega] at h; exact h
    by_cases c36 : a < 36
    · have h := sp_32_5 (a - 32) (by omega) 0 (by omega); rw [show a - 32 + 32 = a by omega] at h; exact h
    by_cases c37 : a < 37
    · have h := sp_36_5 (a - 36) (by omega) 0 (by omega); rw [show a - 36 + 36 = a by omega] at h; exact h
    by_cases c46 : a < 46
    · have h := sp_37_0 (a - 37) (by omega) 5 (by omega); rw [show a - 37 + 37 = a by omega] at h; exact h
    by_cases c55 : a < 55
    · have h := sp_46_0 (a - 46) (by omega) 5 (by omega); rw [show a - 46 + 46 = a by omega] at h; exact h
    by_cases c64 : a < 64
    · have h := sp_55_0 (a - 55) (by omega) 5 (by omega); rw [show a - 55 + 55 = a by omega] at h; exact h
    by_cases c73 : a < 73
    · have h := sp_64_0 (a - 64) (by omega) 5 (by omega); rw [show a - 64 + 64 = a by omega] at h; exact h
    by_cases c82 : a < 82
    · have h := sp_73_0 (a - 73) (by omega) 5 (by omega); rw [show a - 73 + 73 = a by omega] at h; exact h
    by_cases c91 : a < 91
    · have h := sp_82_0 (a - 82) (by omega) 5 (by omega); rw [show a - 82 + 82 = a by omega] at h; exact h
    have h := sp_91_0 (a - 91) (by omega) 5 (by omega); rw [show a - 91 + 91 = a by omega] at h; exact h
  | 6, _ => by
    by_cases c4 : a < 4
    · have h := sp_0_6 (a - 0) (by omega) 0 (by omega); rw [show a - 0 + 0 = a by omega] at h; exact h
    by_cases c8 : a < 8
    · have h := sp_4_6 (a - 4) (by omega) 0 (by omega); rw [show a - 4 + 4 = a by omega] at h; exact h
    by_cases c12 : a < 12
    · have h := sp_8_6 (a - 8) (by omega) 0 (by omega); rw [show a - 8 + 8 = a by omega] at h; exact h
    by_cases c16 : a < 16
    · have h := sp_12_6 (a - 12) (by omega) 0 (by omega); rw [show a - 12 + 12 = a by omega] at h; exact h
    by_cases c20 : a < 20
    · have h := sp_16_6 (a - 16) (by omega) 0 (by omega); rw [show a - 16 + 16 = a by omega] at h; exact h
    by_cases c24 : a < 24
    · have h := sp_20_6 (a - 20) (by omega) 0 (by omega); rw [show a - 20 + 20 = a by omega] at h; exact h
    by_cases c28 : a < 28
    · have h := sp_24_6 (a - 24) (by omega) 0 (by omega); rw [show a - 24 + 24 = a by omega] at h; exact h
    by_cases c32 : a < 32
    · have h := sp_28_6 (a - 28) (by omega) 0 (by omega); rw [show a - 28 + 28 = a by omega] at h; exact h
    by_cases c36 : a < 36
    · have h := sp_32_6 (a - 32) (by omega) 0 (by omega); rw [show a - 32 + 32 = a by omega] at h; exact h
    by_cases c37 : a < 37
    · have h := sp_36_6 (a - 36) (by omega) 0 (by omega); rw [show a - 36 + 36 = a by omega] at h; exact h
    by_cases c46 : a < 46
    · have h := sp_37_0 (a - 37) (by omega) 6 (by omega); rw [show a - 37 + 37 = a by omega] at h; exact h
    by_cases c55 : a < 55
    · have h := sp_46_0 (a - 46) (by omega) 6 (by omega); rw [show a - 46 + 46 = a by omega] at h; exact h
    by_cases c64 : a < 64
    · have h := sp_55_0 (a - 55) (by omega) 6 (by omega); rw [show a - 55 + 55 = a by omega] at h; exact h
    by_cases c73 : a < 73
    · have h := sp_64_0 (a - 64) (by omega) 6 (by omega); rw [show a - 64 + 64 = a by omega] at h; exact h
    by_cases c82 : a < 82
    · have h := sp_73_0 (a - 73) (by omega) 6 (by omega); rw [show a - 73 + 73 = a by omega] at h; exact h
    by_cases c91 : a < 91
    · have h := sp_82_0 (a - 82) (by omega) 6 (by omega); rw [show a - 82 + 82 = a by omega] at h; exact h
    have h := sp_91_0 (a - 91) (by omega) 6 (by omega); rw [show a - 91 + 91 = a by omega] at h; exact h
  | 7, _ => by
    by_cases c3 : a < 3
    · have h := sp_0_7 (a - 0) (by omega) 0 (by omega); rw [show a - 0 + 0 = a by omega] at h; exact h
    by_cases c6 : a < 6
    · have h := sp_3_7 (a - 3) (by omega) 0 (by omega); rw [show a - 3 + 3 = a by omega] at h; exact h
    by_cases c9 : a < 9
    · have h := sp_6_7 (a - 6) (by omega) 0 (by omega); rw [show a - 6 + 6 = a by omega] at h; exact h
    by_cases c12 : a < 12
    · have h := sp_9_7 (a - 9) (by omega) 0 (by omega); rw [show a - 9 + 9 = a by omega] at h; exact h
    by_cases c15 : a < 15
    · have h := sp_12_7 (a - 12) (by omega) 0 (by omega); rw [show a - 12 + 12 = a by omega] at h; exact h
    by_cases c18 : a < 18
    · have h := sp_15_7 (a - 15) (by omega) 0 (by omega); rw [show a - 15 + 15 = a by omega] at h; exact h
    by_cases c21 : a < 21
    · have h := sp_18_7 (a - 18) (by omega) 0 (by omega); rw [show a - 18 + 18 = a by omega] at h; exact h
    by_cases c24 : a < 24
    · have h := sp_21_7 (a - 21) (by omega) 0 (by omega); rw [show a - 21 + 21 = a by omega] at h; exact h
    by_cases c27 : a < 27
    · have h := sp_24_7 (a - 24) (by omega) 0 (by omega); rw [show a - 24 + 24 = a by omega] at h; exact h
    by_cases c30 : a < 30
    · have h := sp_27_7 (a - 27) (by omega) 0 (by omega); rw [show a - 27 + 27 = a by omega] at h; exact h
    by_cases c33 : a < 33
    · have h := sp_30_7 (a - 30) (by omega) 0 (by omega); rw [show a - 30 + 30 = a by omega] at h; exact h
    by_cases c36 : a < 36
    · have h := sp_33_7 (a - 33) (by omega) 0 (by omega); rw [show a - 33 + 33 = a by omega] at h; exact h
    by_cases c37 : a < 37
    · have h := sp_36_7 (a - 36) (by omega) 0 (by omega); rw [show a - 36 + 36 = a by omega] at h; exact h
    by_cases c46 : a < 46
    · have h := sp_37_0 (a - 37) (by omega) 7 (by omega); rw [show a - 37 + 37 = a by omega] at h; exact h
    by_cases c55 : a < 55
    · have h := sp_46_0 (a - 46) (by omega) 7 (by omega); rw [show a - 46 + 46 = a by omega] at h; exact h
    by_cases c64 : a < 64
    · have h := sp_55_0 (a - 55) (by omega) 7 (by omega); rw [show a - 55 + 55 = a by omega] at h; exact h
    by_cases c73 : a < 73
    · have h := sp_64_0 (a - 64) (by omega) 7 (by omega); rw [show a - 64 + 64 = a by omega] at h; exact h
    by_cases c82 : a < 82
    · have h := sp_73_0 (a - 73) (by omega) 7 (by omega); rw [show a - 73 + 73 = a by omega] at h; exact h
    by_cases c91 : a < 91
    · have h := sp_82_0 (a - 82) (by omega) 7 (by omega); rw [show a - 82 + 82 = a by omega] at h; exact h
    have h := sp_91_0 (a - 91) (by omega) 7 (by omega); rw [show a - 91 + 91 = a by omega] at h; exact h
  | 8, _ => by
    by_cases c3 : a < 3
    · have h := sp_0_8 (a - 0) (by omega) 0 (by omega); rw [show a - 0 + 0 = a by omega] at h; exact h
    by_cases c6 : a < 6
    · have h := sp_3_8 (a - 3) (by omega) 0 (by omega); rw [show a - 3 + 3 = a by omega] at h; exact h
    by_cases c9 : a < 9
    · have h := sp_6_8 (a - 6) (by omega) 0 (by omega); rw [show a - 6 + 6 = a by omega] at h; exact h
    by_cases c12 : a < 12
    · have h := sp_9_8 (a - 9) (by omega) 0 (by omega); rw [show a - 9 + 9 = a by omega] at h; exact h
    by_cases c15 : a < 15
    · have h := sp_12_8 (a - 12) (by omega) 0 (by omega); rw [show a - 12 + 12 = a by omega] at h; exact h
    by_cases c18 : a < 18
    · have h := sp_15_8 (a - 15) (by omega) 0 (by omega); rw [show a - 15 + 15 = a by omega] at h; exact h
    by_cases c21 : a < 21
    · have h := sp_18_8 (a - 18) (by omega) 0 (by omega); rw [show a - 18 + 18 = a by omega] at h; exact h
    by_cases c24 : a < 24
    · have h := sp_21_8 (a - 21) (by omega) 0 (by omega); rw [show a - 21 + 21 = a by omega] at h; exact h
    by_cases c27 : a < 27
    · have h := sp_24_8 (a - 24) (by omega) 0 (by omega); rw [show a - 24 + 24 = a by omega] at h; exact h
    by_cases c30 : a < 30
    · have h := sp_27_8 (a - 27) (by omega) 0 (by omega); rw [show a - 27 + 27 = a by omega] at h; exact h
    by_cases c33 : a < 33
    · have h := sp_30_8 (a - 30) (by omega) 0 (by omega); rw [show a - 30 + 30 = a by omega] at h; exact h
    by_cases c36 : a < 36
    · have h := sp_33_8 (a - 33) (by omega) 0 (by omega); rw [show a - 33 + 33 = a by omega] at h; exact h
    by_cases c37 : a < 37
    · have h := sp_36_8 (a - 36) (by omega) 0 (by omega); rw [show a - 36 + 36 = a by omega] at h; exact h
    by_cases c46 : a < 46
    · have h := sp_37_0 (a - 37) (by omega) 8 (by omega); rw [show a - 37 + 37 = a by omega] at h; exact h
    by_cases c55 : a < 55
    · have h := sp_46_0 (a - 46) (by omega) 8 (by omega); rw [show a - 46 + 46 = a by omega] at h; exact h
    by_cases c64 : a < 64
    · have h := sp_55_0 (a - 55) (by omega) 8 (by omega); rw [show a - 55 + 55 = a by omega] at h; exact h
    by_cases c73 : a < 73
    · have h := sp_64_0 (a - 64) (by omega) 8 (by omega); rw [show a - 64 + 64 = a by omega] at h; exact h
    by_cases c82 : a < 82
    · have h := sp_73_0 (a - 73) (by omega) 8 (by omega); rw [show a - 73 + 73 = a by omega] at h; exact h
    by_cases c91 : a < 91
    · have h := sp_82_0 (a - 82) (by omega) 8 (by omega); rw [show a - 82 + 82 = a by omega] at h; exact h
    have h := sp_91_0 (a - 91) (by omega) 8 (by omega); rw [show a - 91 + 91 = a by omega] at h; exact h
  | n + 9, h => absurd h (by omega)
theorem j11_mono {L65 : List Int} {x68 : Int} {R R' : List Int → HSt → Int → Option Bool} {L164 : List Int} {s : HSt} {y : Bool} (hR : ∀ a b c, R a b c = some true → R' a b c = some true) (h : StorePace.j11 L65 x68 R L164 s y = some true) : StorePace.j11 L65 x68 R' L164 s y = some true := by
  unfold StorePace.j11 at h ⊢
  by_cases c : y = true
  · rw [if_pos c] at h; cases h
  rw [if_neg c] at h ⊢
  by_cases c2 : inR (0 : Int) L164.length = true
  · rw [if_pos c2] at h ⊢
    obtain ⟨L, e1, e2⟩ := bind1E h
    rw [e1]; exact hR _ _ _ e2
  · rw [if_neg c2] at h; cases h
theorem j10_mono {k : Nat} {x5 x25 x26 x27 : Int} {L65 : List Int} {x68 : Int} {R R' : List Int → HSt → Int → Option Bool} {s1 s2 s3 s4 : HSt} {L164 : List Int} {s : HSt} {y : Bool} (hR : ∀ a b c, R a b c = some true → R' a b c = some true) (h : StorePace.j10 k x5 x25 x26 x27 L65 x68 R s1 s2 s3 s4 L164 s y = some true) : StorePace.j10 k x5 x25 x26 x27 L65 x68 R' s1 s2 s3 s4 L164 s y = some true := by
  unfold StorePace.j10 at h ⊢
  simp only [store_Heap.m, bind1, Option.bind_some] at h ⊢
  by_cases c : y = true
  · rw [if_pos c] at h; cases h
  rw [if_neg c] at h ⊢
  split at h
  · rename_i c2; rw [if_pos c2]
    split at h
    · rename_i c3; rw [if_pos c3]
      split at h
      · rename_i c4; rw [if_pos c4]; exact j11_mono hR h
      · rename_i c4; rw [if_neg c4]; exact j11_mono hR h
    · rename_i c3; rw [if_neg c3]; exact j11_mono hR h
  · rename_i c2; rw [if_neg c2]; exact j11_mono hR h
theorem j9_mono {k : Nat} {x5 x25 x26 x27 : Int} {L65 : List Int} {x68 : Int} {R R' : List Int → HSt → Int → Option Bool} {s1 s2 s3 s4 : HSt} {L164 : List Int} {s : HSt} {y : Bool} (hR : ∀ a b c, R a b c = some true → R' a b c = some true) (h : StorePace.j9 k x5 x25 x26 x27 L65 x68 R s1 s2 s3 s4 L164 s y = some true) : StorePace.j9 k x5 x25 x26 x27 L65 x68 R' s1 s2 s3 s4 L164 s y = some true := by
  unfold StorePace.j9 at h ⊢
  simp only [store_Heap.m, bind1, Option.bind_some] at h ⊢
  by_cases c : y = true
  · rw [if_pos c] at h; cases h
  rw [if_neg c] at h ⊢
  split at h
  · rename_i c2; rw [if_pos c2]
    split at h
    · rename_i c3; rw [if_pos c3]
      split at h
      · rename_i c4; rw [if_pos c4]; exact j10_mono hR h
      · rename_i c4; rw [if_neg c4]; exact j10_mono hR h
    · rename_i c3; rw [if_neg c3]; exact j10_mono hR h
  · rename_i c2; rw [if_neg c2]; exact j10_mono hR h
theorem l8_mono {k : Nat} {x5 n m x25 x26 x27 : Int} (hn : n ≤ m) : ∀ (kI : Nat) (L : List Int) (s : HSt) (x : Int), StorePace.l8 k x5 m x25 x26 x27 kI L s x = some true → StorePace.l8 k x5 n x25 x26 x27 kI L s x = some true := by
  intro kI
  induction kI with
  | zero => intro L s x h; cases h
  | succ kI ih =>
    intro L s x h
    change StorePace.l8b k x5 m x25 x26 x27 (StorePace.l8 k x5 m x25 x26 x27 kI) L s x = some true at h
    change StorePace.l8b k x5 n x25 x26 x27 (StorePace.l8 k x5 n x25 x26 x27 kI) L s x = some true
    unfold StorePace.l8b at h ⊢
    by_cases c : x < n
    · rw [if_pos (by simpa using c)]
      rw [if_pos (by simp; omega)] at h
      simp only [store_Heap.m, bind1, Option.bind_some] at h ⊢
      obtain ⟨a, b, d, e, e1, e2⟩ := bind4E h
      rw [e1]
      show (if _ then _ else _) = _
      split at e2
      · rename_i c2; rw [if_pos c2]; exact j9_mono ih e2
      · rename_i c2; rw [if_neg c2]
        split at e2
        · rename_i c3; rw [if_pos c3]; exact j9_mono ih e2
        · rename_i c3; rw [if_neg c3]; exact j9_mono ih e2
    · rw [if_neg (by simpa using c)]
theorem awakeT : law21_awake.m 100 = some true := by decide +kernel
theorem newOk (s a : Int) (h1 : 1 ≤ s) (h2 : s ≤ 100) (h3 : 0 ≤ a) (h4 : a ≤ 8) : store_New.m 100 ⟨10, s, a⟩ = some (hNew 10, 10, s, a, 0) := by
  unfold store_New.m store_New.j1 pNew
  simp only [decide_eq_true_eq]
  rw [if_neg (by omega), if_neg (by omega), if_neg (by omega), if_neg (by simp; omega), if_pos (by omega)]
  rfl
theorem wrap_id (x : Int) (h : 0 ≤ x) (h2 : x < 1000) : IntKind.i64.wrap x = x := by rw [IntKind.wrap_i64]; omega
set_option maxRecDepth 100000 in
theorem pure (i0 i1 i2 : Int) : StorePace.m 100 i0 i1 i2 = some true := by
  obtain ⟨a, ha, ea⟩ := u_mod i0 100 (by omega)
  obtain ⟨b, hb, eb⟩ := u_mod i1 9 (by omega)
  obtain ⟨n, hn, en⟩ := u_mod i2 30 (by omega)
  have h0 := of_decide_eq_true (sp_all a b ha hb)
  have h := l8_mono (n := (n : Int)) (by omega) _ _ _ _ h0
  unfold StorePace.m
  simp only [Int.cast_ofNat_Int] at ea eb en
  rw [ea, eb, en, wrap_id (a : Int) (by omega) (by omega), wrap_id (1 + (a : Int)) (by omega) (by omega), wrap_id (b : Int) (by omega) (by omega), wrap_id (n : Int) (by omega) (by omega)]
  simp only [bind1, Option.bind_some]
  rw [newOk _ _ (by omega) (by omega) (by omega) (by omega)]
  simp only [bind5, Option.bind_some, store_Heap.m]
  rw [awakeT]
  simp only [Option.bind_some]
  rw [if_neg (by simp), if_neg (by simp)]
  unfold StorePace.j1
  rw [if_neg Bool.false_ne_true]
  rw [show (1 + (a : Int)) = ((a + 1 : Nat) : Int) by omega]
  exact h
theorem walk (a0 : Int) (a1 : Int) (a2 : Int) (w0 : (Lit.int .i64 a0).wf = true) (w1 : (Lit.int .i64 a1).wf = true) (w2 : (Lit.int .i64 a2).wf = true) (w : World) :
    Calls Try.prog 6 #[.int .i64 a0, .int .i64 a1, .int .i64 a2] w fun e w' => e = .returned (.bool true) ∧ Below w.heap.size w w' := by
  exact (StorePace.ok (St.empty w) (pure _ _ _)).mono fun e w' ⟨he, h⟩ => ⟨he, h.old⟩

end Go.Proofs.Ytalfiikfaodcmaa.storePace
/-
  'StorePaceSaid' ('dormouselaw21.StorePace'): for every input the law returns true, and each argument reads behind the call as it did before.
  Conditions: none beyond the given row's own.
-/
namespace Go.Proofs.Ytalfiikfaodcmaa.storePace
open Go.ChangeShapes Go.WideShapes Go.ChangeAt Go.RowKit
set_option linter.unusedVariables false      -- a walk need not use every 'w<i>' (that an integer argument fits its kind)

theorem own : ownKnob Try.prog.godebug = none := by kernel_rfl

/-! ### THE ROW's STEP: WRITTEN OUT: LEAVE IT -/
set_option maxRecDepth 100000 in
theorem lifted (os : Os) (started : os.Started) (H : Type) (enc : TypeId × Value → H) :
    ReturnsInHanded {} Try.checked os 6 .any (Rows.storePaceSpec.pre6 enc Try.prog Try.f6 Rows.storePaceRow.domain false) (Rows.storePaceSpec.post enc Try.prog Try.f6 false true false false) := by
  refine returnsInHanded_of_change (C := Try.checked) own started (by kernel_rfl) Try.func6
    (ChangeSpec.witness6 (enc := enc) (C := Try.checked) false ⟨#[], #[.int .i64 0, .int .i64 0, .int .i64 0], []⟩ 8 (by kernel_rfl) (by kernel_rfl) (by kernel_rfl) (by kernel_rfl)) ?_
  intro W base args ds gs before hval0 hW hcnd _
  have hval : ∀ (j : Nat) t v, Try.f6.params[j]? = some t → args[j]? = some v → Value.okWide Try.prog W .any base t v := hval0
  have hW' := hW
  obtain ⟨p, q, hA0, hV, rfl, hfz, hnd⟩ := hW
  have hA : DataW.TrodAll enc Try.prog W 0 (fun _ => true) true Try.f6.params.toList args.toList ds p := hA0
  rw [Try.params6] at hA hval
  obtain ⟨v0, vs0, d0, ds0, p0, q0, hargs, rfl, rfl, h0, r0⟩ := trodAll_cons hA
  obtain ⟨v1, vs1, d1, ds1, p1, q1, rfl, rfl, rfl, h1, r1⟩ := trodAll_cons r0
  obtain ⟨v2, vs2, d2, ds2, p2, q2, rfl, rfl, rfl, h2, r2⟩ := trodAll_cons r1
  obtain ⟨rfl, rfl, rfl⟩ := trodAll_nil r2
  obtain rfl : args = #[v0, v1, v2] := by cases args; simp_all
  obtain ⟨rfl, rfl⟩ := trodVars_none hV
  obtain ⟨a0, rfl, rfl, rfl, w0⟩ := open_int Try.underlying3 (hval 0 3 v0 rfl rfl) h0
  obtain ⟨a1, rfl, rfl, rfl, w1⟩ := open_int Try.underlying3 (hval 1 3 v1 rfl rfl) h1
  obtain ⟨a2, rfl, rfl, rfl, w2⟩ := open_int Try.underlying3 (hval 2 3 v2 rfl rfl) h2
  clear hA0 hval0
  simp only [List.append_nil] at hW'
  refine (walk a0 a1 a2 w0 w1 w2 W).mono fun e W' ⟨he, hg⟩ => ?_
  subst he
  exact ⟨_, rfl, _, _, _, [], [], [], hW', (trodAll_cons_mk (shut_bool Try.underlying4 _) trodAll_mk0), (trodAll_cons_mk (shut_int Try.underlying3 w0) (trodAll_cons_mk (shut_int Try.underlying3 w1) (trodAll_cons_mk (shut_int Try.underlying3 w2) trodAll_mk0))), rfl, hg.frame _, fun h => by cases h⟩

theorem over : Rows.storePaceRow.holds Try.pinned (OpenSpec.ofChange Rows.storePaceSpec) :=
  OpenClaim.holds_of_wide 6 Try.f6 rfl rfl rfl rfl rfl rfl rfl ⟨rfl, rfl, rfl, rfl, rfl⟩ rfl rfl rfl rfl rfl (by kernel_rfl) Try.func6 (by kernel_rfl)
    (of_decide_eq_true (by kernel_rfl)) (by unfold Func.isWrapper; first | (rw [if_pos (by decide +kernel)]; kernel_rfl) | (rw [if_neg (by decide +kernel)]; exact ⟨rfl, rfl⟩))
    (fun os started H enc _ => lifted os started H enc)

/-- ████ THE STATEMENT ████ -/
theorem proved : Rows.StorePaceSaid :=
  over
#print axioms proved
end Go.Proofs.Ytalfiikfaodcmaa.storePace
