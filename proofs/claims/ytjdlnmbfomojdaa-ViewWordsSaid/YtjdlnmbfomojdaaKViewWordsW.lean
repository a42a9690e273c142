/- ViewWordsW ViewWords -/
import Derived.Test.YtjdlnmbfomojdaaKGView
import Derived.Test.YtjdlnmbfomojdaaKVwB1
import Derived.Test.YtjdlnmbfomojdaaKVwB3
import Derived.Test.YtjdlnmbfomojdaaKVwB4
import Derived.Test.YtjdlnmbfomojdaaKVwB5
import Derived.Test.YtjdlnmbfomojdaaKVwB6
import Derived.Test.YtjdlnmbfomojdaaKVwB7
import Derived.Test.YtjdlnmbfomojdaaKUmod
import Derived.Test.YtjdlnmbfomojdaaRows
import Derived.WalkKit
import Derived.WalkSpells
import Derived.WalkLawsBesides
import Derived.ProofKit
import Derived.OpenShut
/-
  The walk of 'dormouselaw11.ViewWords': the call returns true, in a world with at most new blocks.
-/
namespace Go.Proofs.Ytjdlnmbfomojdaa.viewWords
open Go.RowKit
set_option linter.unusedVariables false

theorem all (a b : Nat) (ha : a < 9) (hb : b < 1000) : VwOk a b = true := by
  by_cases c : 0 ≤ b ∧ b < 25
  · have := Vw_0 (b - 0) (by omega) a ha; rwa [show b - 0 + 0 = b by omega] at this
  by_cases c : 25 ≤ b ∧ b < 50
  · have := Vw_25 (b - 25) (by omega) a ha; rwa [show b - 25 + 25 = b by omega] at this
  by_cases c : 50 ≤ b ∧ b < 75
  · have := Vw_50 (b - 50) (by omega) a ha; rwa [show b - 50 + 50 = b by omega] at this
  by_cases c : 75 ≤ b ∧ b < 100
  · have := Vw_75 (b - 75) (by omega) a ha; rwa [show b - 75 + 75 = b by omega] at this
  by_cases c : 100 ≤ b ∧ b < 125
  · have := Vw_100 (b - 100) (by omega) a ha; rwa [show b - 100 + 100 = b by omega] at this
  by_cases c : 125 ≤ b ∧ b < 150
  · have := Vw_125 (b - 125) (by omega) a ha; rwa [show b - 125 + 125 = b by omega] at this
  by_cases c : 150 ≤ b ∧ b < 175
  · have := Vw_150 (b - 150) (by omega) a ha; rwa [show b - 150 + 150 = b by omega] at this
  by_cases c : 175 ≤ b ∧ b < 200
  · have := Vw_175 (b - 175) (by omega) a ha; rwa [show b - 175 + 175 = b by omega] at this
  by_cases c : 200 ≤ b ∧ b < 225
  · have := Vw_200 (b - 200) (by omega) a ha; rwa [show b - 200 + 200 = b by omega] at this
  by_cases c : 225 ≤ b ∧ b < 250
  · have := Vw_225 (b - 225) (by omega) a ha; rwa [show b - 225 + 225 = b by omega] at this
  by_cases c : 250 ≤ b ∧ b < 275
  · have := Vw_250 (b - 250) (by omega) a ha; rwa [show b - 250 + 250 = b by omega] at this
  by_cases c : 275 ≤ b ∧ b < 300
  · have := Vw_275 (b - 275) (by omega) a ha; rwa [show b - 275 + 275 = b by omega] at this
  by_cases c : 300 ≤ b ∧ b < 325
  · have := Vw_300 (b - 300) (by omega) a ha; rwa [show b - 300 + 300 = b by omega] at this
  by_cases c : 325 ≤ b ∧ b < 350
  · have := Vw_325 (b - 325) (by omega) a ha; rwa [show b - 325 + 325 = b by omega] at this
  by_cases c : 350 ≤ b ∧ b < 375
  · have := Vw_350 (b - 350) (by omega) a ha; rwa [show b - 350 + 350 = b by omega] at this
  by_cases c : 375 ≤ b ∧ b < 400
  · have := Vw_375 (b - 375) (by omega) a ha; rwa [show b - 375 + 375 = b by omega] at this
  by_cases c : 400 ≤ b ∧ b < 425
  · have := Vw_400 (b - 400) (by omega) a ha; rwa [show b - 400 + 400 = b by omega] at this
  by_cases c : 425 ≤ b ∧ b < 450
  · have := Vw_425 (b - 425) (by omega) a ha; rwa [show b - 425 + 425 = b by omega] at this
  by_cases c : 450 ≤ b ∧ b < 475
  · have := Vw_450 (b - 450) (by omega) a ha; rwa [show b - 450 + 450 = b by omega] at this
  by_cases c : 475 ≤ b ∧ b < 500
  · have := Vw_475 (b - 475) (by omega) a ha; rwa [show b - 475 + 475 = b by omega] at this
  by_cases c : 500 ≤ b ∧ b < 525
  · have := Vw_500 (b - 500) (by omega) a ha; rwa [show b - 500 + 500 = b by omega] at this
  by_cases c : 525 ≤ b ∧ b < 550
  · have := Vw_525 (b - 525) (by omega) a ha; rwa [show b - 525 + 525 = b by omega] at this
  by_cases c : 550 ≤ b ∧ b < 575
  · have := Vw_550 (b - 550) (by omega) a ha; rwa [show b - 550 + 550 = b by omega] at this
  by_cases c : 575 ≤ b ∧ b < 600
  · have := Vw_575 (b - 575) (by omega) a ha; rwa [show b - 575 + 575 = b by omega] at this
  by_cases c : 600 ≤ b ∧ b < 625
  · have := Vw_600 (b - 600) (by omega) a ha; rwa [show b - 600 + 600 = b by omega] at this
  by_cases c : 625 ≤ b ∧ b < 650
  · have := Vw_625 (b - 625) (by omega) a ha; rwa [show b - 625 + 625 = b by omega] at this
  by_cases c : 650 ≤ b ∧ b < 675
  · have := Vw_650 (b - 650) (by omega) a ha; rwa [show b - 650 + 650 = b by omega] at this
  by_cases c : 675 ≤ b ∧ b < 700
  · have := Vw_675 (b - 675) (by omega) a ha; rwa [show b - 675 + 675 = b by omega] at this
  by_cases c : 700 ≤ b ∧ b < 725
  · have := Vw_700 (b - 700) (by omega) a ha; rwa [show b - 700 + 700 = b by omega] at this
  by_cases c : 725 ≤ b ∧ b < 750
  · have := Vw_725 (b - 725) (by omega) a ha; rwa [show b - 725 + 725 = b by omega] at this
  by_cases c : 750 ≤ b ∧ b < 775
  · have := Vw_750 (b - 750) (by omega) a ha; rwa [show b - 750 + 750 = b by omega] at this
  by_cases c : 775 ≤ b ∧ b < 800
  · have := Vw_775 (b - 775) (by omega) a ha; rwa [show b - 775 + 775 = b by omega] at this
  by_cases c : 800 ≤ b ∧ b < 825
  · have := Vw_800 (b - 800) (by omega) a ha; rwa [show b - 800 + 800 = b by omega] at this
  by_cases c : 825 ≤ b ∧ b < 850
  · have := Vw_825 (b - 825) (by omega) a ha; rwa [show b - 825 + 825 = b by omega] at this
  by_cases c : 850 ≤ b ∧ b < 875
  · have := Vw_850 (b - 850) (by omega) a ha; rwa [show b - 850 + 850 = b by omega] at this
  by_cases c : 875 ≤ b ∧ b < 900
  · have := Vw_875 (b - 875) (by omega) a ha; rwa [show b - 875 + 875 = b by omega] at this
  by_cases c : 900 ≤ b ∧ b < 925
  · have := Vw_900 (b - 900) (by omega) a ha; rwa [show b - 900 + 900 = b by omega] at this
  by_cases c : 925 ≤ b ∧ b < 950
  · have := Vw_925 (b - 925) (by omega) a ha; rwa [show b - 925 + 925 = b by omega] at this
  by_cases c : 950 ≤ b ∧ b < 975
  · have := Vw_950 (b - 950) (by omega) a ha; rwa [show b - 950 + 950 = b by omega] at this
  by_cases c : 975 ≤ b ∧ b < 1000
  · have := Vw_975 (b - 975) (by omega) a ha; rwa [show b - 975 + 975 = b by omega] at this
  exfalso; omega
set_option maxRecDepth 100000 in
theorem pure (i0 i1 : Int) : ViewWords.m 100 i0 i1 = some true := by
  obtain ⟨a, ha, ea⟩ := u_mod i0 9 (by omega)
  obtain ⟨b, hb, eb⟩ := u_mod i1 1000 (by omega)
  have h := of_decide_eq_true (all a b ha hb)
  have e1 := u_same a 9 ha (by omega)
  have e2 := u_same b 1000 hb (by omega)
  unfold ViewWords.m ViewWords.j1 at h ⊢
  simp only [Int.cast_ofNat_Int] at *
  simp only [e1, e2] at h
  simp only [ea, eb]
  exact h
theorem walk (a0 : Int) (a1 : Int) (w0 : (Lit.int .i64 a0).wf = true) (w1 : (Lit.int .i64 a1).wf = true) (w : World) :
    Calls Try.prog 5 #[.int .i64 a0, .int .i64 a1] w fun e w' => e = .returned (.bool true) ∧ Below w.heap.size w w' := by
  exact (ViewWords.ok (St.empty w) (pure _ _)).mono fun e w' ⟨he, h⟩ => ⟨he, h.old⟩

end Go.Proofs.Ytjdlnmbfomojdaa.viewWords
/-
  'ViewWordsSaid' ('dormouselaw11.ViewWords'): for every input the law returns true, and each argument reads behind the call as it did before.
  Conditions: none beyond the given row's own.
-/
namespace Go.Proofs.Ytjdlnmbfomojdaa.viewWords
open Go.ChangeShapes Go.WideShapes Go.ChangeAt Go.RowKit
set_option linter.unusedVariables false      -- a walk need not use every 'w<i>' (that an integer argument fits its kind)

theorem own : ownKnob Try.prog.godebug = none := by kernel_rfl

/-! ### THE ROW's STEP: WRITTEN OUT: LEAVE IT -/
set_option maxRecDepth 100000 in
theorem lifted (os : Os) (started : os.Started) (H : Type) (enc : TypeId × Value → H) :
    ReturnsInHanded {} Try.checked os 5 .any (Rows.viewWordsSpec.pre6 enc Try.prog Try.f5 Rows.viewWordsRow.domain false) (Rows.viewWordsSpec.post enc Try.prog Try.f5 false true false false) := by
  refine returnsInHanded_of_change (C := Try.checked) own started (by kernel_rfl) Try.func5
    (ChangeSpec.witness6 (enc := enc) (C := Try.checked) false ⟨#[], #[.int .i64 0, .int .i64 0], []⟩ 8 (by kernel_rfl) (by kernel_rfl) (by kernel_rfl) (by kernel_rfl)) ?_
  intro W base args ds gs before hval0 hW hcnd _
  have hval : ∀ (j : Nat) t v, Try.f5.params[j]? = some t → args[j]? = some v → Value.okWide Try.prog W .any base t v := hval0
  have hW' := hW
  obtain ⟨p, q, hA0, hV, rfl, hfz, hnd⟩ := hW
  have hA : DataW.TrodAll enc Try.prog W 0 (fun _ => true) true Try.f5.params.toList args.toList ds p := hA0
  rw [Try.params5] at hA hval
  obtain ⟨v0, vs0, d0, ds0, p0, q0, hargs, rfl, rfl, h0, r0⟩ := trodAll_cons hA
  obtain ⟨v1, vs1, d1, ds1, p1, q1, rfl, rfl, rfl, h1, r1⟩ := trodAll_cons r0
  obtain ⟨rfl, rfl, rfl⟩ := trodAll_nil r1
  obtain rfl : args = #[v0, v1] := by cases args; simp_all
  obtain ⟨rfl, rfl⟩ := trodVars_none hV
  obtain ⟨a0, rfl, rfl, rfl, w0⟩ := open_int Try.underlying3 (hval 0 3 v0 rfl rfl) h0
  obtain ⟨a1, rfl, rfl, rfl, w1⟩ := open_int Try.underlying3 (hval 1 3 v1 rfl rfl) h1
  clear hA0 hval0
  simp only [List.append_nil] at hW'
  refine (walk a0 a1 w0 w1 W).mono fun e W' ⟨he, hg⟩ => ?_
  subst he
  exact ⟨_, rfl, _, _, _, [], [], [], hW', (trodAll_cons_mk (shut_bool Try.underlying4 _) trodAll_mk0), (trodAll_cons_mk (shut_int Try.underlying3 w0) (trodAll_cons_mk (shut_int Try.underlying3 w1) trodAll_mk0)), rfl, hg.frame _, fun h => by cases h⟩

theorem over : Rows.viewWordsRow.holds Try.pinned (OpenSpec.ofChange Rows.viewWordsSpec) :=
  OpenClaim.holds_of_wide 5 Try.f5 rfl rfl rfl rfl rfl rfl rfl ⟨rfl, rfl, rfl, rfl, rfl⟩ rfl rfl rfl rfl rfl (by kernel_rfl) Try.func5 (by kernel_rfl)
    (of_decide_eq_true (by kernel_rfl)) (by unfold Func.isWrapper; first | (rw [if_pos (by decide +kernel)]; kernel_rfl) | (rw [if_neg (by decide +kernel)]; exact ⟨rfl, rfl⟩))
    (fun os started H enc _ => lifted os started H enc)

/-- ████ THE STATEMENT ████ -/
theorem proved : Rows.ViewWordsSaid :=
  over
#print axioms proved
end Go.Proofs.Ytjdlnmbfomojdaa.viewWords
