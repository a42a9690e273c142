/- LiveNoneW LiveNone -/
import Derived.Test.YtjdlnmbfomojdaaKG22
import Derived.Test.YtjdlnmbfomojdaaKLnB1
import Derived.Test.YtjdlnmbfomojdaaKLnB3
import Derived.Test.YtjdlnmbfomojdaaKLnB5
import Derived.Test.YtjdlnmbfomojdaaKLnB7
import Derived.Test.YtjdlnmbfomojdaaKUmod
import Derived.Test.YtjdlnmbfomojdaaRows
import Derived.WalkKit
import Derived.WalkSpells
import Derived.WalkLawsBesides
import Derived.ProofKit
import Derived.OpenShut
/-
  The walk of 'dormouselaw22.LiveNone': the call returns true, in a world with at most new blocks.
-/
namespace Go.Proofs.Ytjdlnmbfomojdaa.liveNone
open Go.RowKit
set_option linter.unusedVariables false

theorem all (a b : Nat) (ha : a < 1000) (hb : b < 10) : LnOk a b = true := by
  by_cases c : 0 ≤ a ∧ a < 25
  · have := Ln_0 (a - 0) (by omega) b hb; rwa [show a - 0 + 0 = a by omega] at this
  by_cases c : 25 ≤ a ∧ a < 50
  · have := Ln_25 (a - 25) (by omega) b hb; rwa [show a - 25 + 25 = a by omega] at this
  by_cases c : 50 ≤ a ∧ a < 75
  · have := Ln_50 (a - 50) (by omega) b hb; rwa [show a - 50 + 50 = a by omega] at this
  by_cases c : 75 ≤ a ∧ a < 100
  · have := Ln_75 (a - 75) (by omega) b hb; rwa [show a - 75 + 75 = a by omega] at this
  by_cases c : 100 ≤ a ∧ a < 125
  · have := Ln_100 (a - 100) (by omega) b hb; rwa [show a - 100 + 100 = a by omega] at this
  by_cases c : 125 ≤ a ∧ a < 150
  · have := Ln_125 (a - 125) (by omega) b hb; rwa [show a - 125 + 125 = a by omega] at this
  by_cases c : 150 ≤ a ∧ a < 175
  · have := Ln_150 (a - 150) (by omega) b hb; rwa [show a - 150 + 150 = a by omega] at this
  by_cases c : 175 ≤ a ∧ a < 200
  · have := Ln_175 (a - 175) (by omega) b hb; rwa [show a - 175 + 175 = a by omega] at this
  by_cases c : 200 ≤ a ∧ a < 225
  · have := Ln_200 (a - 200) (by omega) b hb; rwa [show a - 200 + 200 = a by omega] at this
  by_cases c : 225 ≤ a ∧ a < 250
  · have := Ln_225 (a - 225) (by omega) b hb; rwa [show a - 225 + 225 = a by omega] at this
  by_cases c : 250 ≤ a ∧ a < 275
  · have := Ln_250 (a - 250) (by omega) b hb; rwa [show a - 250 + 250 = a by omega] at this
  by_cases c : 275 ≤ a ∧ a < 300
  · have := Ln_275 (a - 275) (by omega) b hb; rwa [show a - 275 + 275 = a by omega] at this
  by_cases c : 300 ≤ a ∧ a < 325
  · have := Ln_300 (a - 300) (by omega) b hb; rwa [show a - 300 + 300 = a by omega] at this
  by_cases c : 325 ≤ a ∧ a < 350
  · have := Ln_325 (a - 325) (by omega) b hb; rwa [show a - 325 + 325 = a by omega] at this
  by_cases c : 350 ≤ a ∧ a < 375
  · have := Ln_350 (a - 350) (by omega) b hb; rwa [show a - 350 + 350 = a by omega] at this
  by_cases c : 375 ≤ a ∧ a < 400
  · have := Ln_375 (a - 375) (by omega) b hb; rwa [show a - 375 + 375 = a by omega] at this
  by_cases c : 400 ≤ a ∧ a < 425
  · have := Ln_400 (a - 400) (by omega) b hb; rwa [show a - 400 + 400 = a by omega] at this
  by_cases c : 425 ≤ a ∧ a < 450
  · have := Ln_425 (a - 425) (by omega) b hb; rwa [show a - 425 + 425 = a by omega] at this
  by_cases c : 450 ≤ a ∧ a < 475
  · have := Ln_450 (a - 450) (by omega) b hb; rwa [show a - 450 + 450 = a by omega] at this
  by_cases c : 475 ≤ a ∧ a < 500
  · have := Ln_475 (a - 475) (by omega) b hb; rwa [show a - 475 + 475 = a by omega] at this
  by_cases c : 500 ≤ a ∧ a < 525
  · have := Ln_500 (a - 500) (by omega) b hb; rwa [show a - 500 + 500 = a by omega] at this
  by_cases c : 525 ≤ a ∧ a < 550
  · have := Ln_525 (a - 525) (by omega) b hb; rwa [show a - 525 + 525 = a by omega] at this
  by_cases c : 550 ≤ a ∧ a < 575
  · have := Ln_550 (a - 550) (by omega) b hb; rwa [show a - 550 + 550 = a by omega] at this
  by_cases c : 575 ≤ a ∧ a < 600
  · have := Ln_575 (a - 575) (by omega) b hb; rwa [show a - 575 + 575 = a by omega] at this
  by_cases c : 600 ≤ a ∧ a < 625
  · have := Ln_600 (a - 600) (by omega) b hb; rwa [show a - 600 + 600 = a by omega] at this
  by_cases c : 625 ≤ a ∧ a < 650
  · have := Ln_625 (a - 625) (by omega) b hb; rwa [show a - 625 + 625 = a by omega] at this
  by_cases c : 650 ≤ a ∧ a < 675
  · have := Ln_650 (a - 650) (by omega) b hb; rwa [show a - 650 + 650 = a by omega] at this
  by_cases c : 675 ≤ a ∧ a < 700
  · have := Ln_675 (a - 675) (by omega) b hb; rwa [show a - 675 + 675 = a by omega] at this
  by_cases c : 700 ≤ a ∧ a < 725
  · have := Ln_700 (a - 700) (by omega) b hb; rwa [show a - 700 + 700 = a by omega] at this
  by_cases c : 725 ≤ a ∧ a < 750
  · have := Ln_725 (a - 725) (by omega) b hb; rwa [show a - 725 + 725 = a by omega] at this
  by_cases c : 750 ≤ a ∧ a < 775
  · have := Ln_750 (a - 750) (by omega) b hb; rwa [show a - 750 + 750 = a by omega] at this
  by_cases c : 775 ≤ a ∧ a < 800
  · have := Ln_775 (a - 775) (by omega) b hb; rwa [show a - 775 + 775 = a by omega] at this
  by_cases c : 800 ≤ a ∧ a < 825
  · have := Ln_800 (a - 800) (by omega) b hb; rwa [show a - 800 + 800 = a by omega] at this
  by_cases c : 825 ≤ a ∧ a < 850
  · have := Ln_825 (a - 825) (by omega) b hb; rwa [show a - 825 + 825 = a by omega] at this
  by_cases c : 850 ≤ a ∧ a < 875
  · have := Ln_850 (a - 850) (by omega) b hb; rwa [show a - 850 + 850 = a by omega] at this
  by_cases c : 875 ≤ a ∧ a < 900
  · have := Ln_875 (a - 875) (by omega) b hb; rwa [show a - 875 + 875 = a by omega] at this
  by_cases c : 900 ≤ a ∧ a < 925
  · have := Ln_900 (a - 900) (by omega) b hb; rwa [show a - 900 + 900 = a by omega] at this
  by_cases c : 925 ≤ a ∧ a < 950
  · have := Ln_925 (a - 925) (by omega) b hb; rwa [show a - 925 + 925 = a by omega] at this
  by_cases c : 950 ≤ a ∧ a < 975
  · have := Ln_950 (a - 950) (by omega) b hb; rwa [show a - 950 + 950 = a by omega] at this
  by_cases c : 975 ≤ a ∧ a < 1000
  · have := Ln_975 (a - 975) (by omega) b hb; rwa [show a - 975 + 975 = a by omega] at this
  exfalso; omega
set_option maxRecDepth 100000 in
theorem pure (i0 i1 : Int) : LiveNone.m 100 i0 i1 = some true := by
  obtain ⟨a, ha, ea⟩ := u_mod i0 1000 (by omega)
  obtain ⟨b, hb, eb⟩ := u_mod i1 10 (by omega)
  have h := of_decide_eq_true (all a b ha hb)
  have e1 := u_same a 1000 ha (by omega)
  have e2 := u_same b 10 hb (by omega)
  unfold LiveNone.m LiveNone.j1 LiveNone.j2 at h ⊢
  simp only [Int.cast_ofNat_Int] at *
  simp only [e1, e2] at h
  simp only [ea, eb]
  exact h
theorem walk (a0 : Int) (a1 : Int) (w0 : (Lit.int .i64 a0).wf = true) (w1 : (Lit.int .i64 a1).wf = true) (w : World) :
    Calls Try.prog 4 #[.int .i64 a0, .int .i64 a1] w fun e w' => e = .returned (.bool true) ∧ Below w.heap.size w w' := by
  exact (LiveNone.ok (St.empty w) (pure _ _)).mono fun e w' ⟨he, h⟩ => ⟨he, h.old⟩

end Go.Proofs.Ytjdlnmbfomojdaa.liveNone
/-
  'LiveNoneSaid' ('dormouselaw22.LiveNone'): for every input the law returns true, and each argument reads behind the call as it did before.
  Conditions: none beyond the given row's own.
-/
namespace Go.Proofs.Ytjdlnmbfomojdaa.liveNone
open Go.ChangeShapes Go.WideShapes Go.ChangeAt Go.RowKit
set_option linter.unusedVariables false      -- a walk need not use every 'w<i>' (that an integer argument fits its kind)

theorem own : ownKnob Try.prog.godebug = none := by kernel_rfl

/-! ### THE ROW's STEP: WRITTEN OUT: LEAVE IT -/
set_option maxRecDepth 100000 in
theorem lifted (os : Os) (started : os.Started) (H : Type) (enc : TypeId × Value → H) :
    ReturnsInHanded {} Try.checked os 4 .any (Rows.liveNoneSpec.pre6 enc Try.prog Try.f4 Rows.liveNoneRow.domain false) (Rows.liveNoneSpec.post enc Try.prog Try.f4 false true false false) := by
  refine returnsInHanded_of_change (C := Try.checked) own started (by kernel_rfl) Try.func4
    (ChangeSpec.witness6 (enc := enc) (C := Try.checked) false ⟨#[], #[.int .i64 0, .int .i64 0], []⟩ 8 (by kernel_rfl) (by kernel_rfl) (by kernel_rfl) (by kernel_rfl)) ?_
  intro W base args ds gs before hval0 hW hcnd _
  have hval : ∀ (j : Nat) t v, Try.f4.params[j]? = some t → args[j]? = some v → Value.okWide Try.prog W .any base t v := hval0
  have hW' := hW
  obtain ⟨p, q, hA0, hV, rfl, hfz, hnd⟩ := hW
  have hA : DataW.TrodAll enc Try.prog W 0 (fun _ => true) true Try.f4.params.toList args.toList ds p := hA0
  rw [Try.params4] at hA hval
  obtain ⟨v0, vs0, d0, ds0, p0, q0, hargs, rfl, rfl, h0, r0⟩ := trodAll_cons hA
  obtain ⟨v1, vs1, d1, ds1, p1, q1, rfl, rfl, rfl, h1, r1⟩ := trodAll_cons r0
  obtain ⟨rfl, rfl, rfl⟩ := trodAll_nil r1
  obtain rfl : args = #[v0, v1] := by cases args; simp_all
  obtain ⟨rfl, rfl⟩ := trodVars_none hV
  obtain ⟨a0, rfl, rfl, rfl, w0⟩ := open_int Try.underlying3 (hval 0 3 v0 rfl rfl) h0
  obtain ⟨a1, rfl, rfl, rfl, w1⟩ := open_int Try.underlying3 (hval 1 3 v1 rfl rfl) h1
  clear hA0 hval0
  simp only [List.append_nil] at hW'
  refine (walk a0 a1 w0 w1 W).mono fun e W' ⟨he, hg⟩ => ?_
  subst he
  exact ⟨_, rfl, _, _, _, [], [], [], hW', (trodAll_cons_mk (shut_bool Try.underlying4 _) trodAll_mk0), (trodAll_cons_mk (shut_int Try.underlying3 w0) (trodAll_cons_mk (shut_int Try.underlying3 w1) trodAll_mk0)), rfl, hg.frame _, fun h => by cases h⟩

theorem over : Rows.liveNoneRow.holds Try.pinned (OpenSpec.ofChange Rows.liveNoneSpec) :=
  OpenClaim.holds_of_wide 4 Try.f4 rfl rfl rfl rfl rfl rfl rfl ⟨rfl, rfl, rfl, rfl, rfl⟩ rfl rfl rfl rfl rfl (by kernel_rfl) Try.func4 (by kernel_rfl)
    (of_decide_eq_true (by kernel_rfl)) (by unfold Func.isWrapper; first | (rw [if_pos (by decide +kernel)]; kernel_rfl) | (rw [if_neg (by decide +kernel)]; exact ⟨rfl, rfl⟩))
    (fun os started H enc _ => lifted os started H enc)

/-- ████ THE STATEMENT ████ -/
theorem proved : Rows.LiveNoneSaid :=
  over
#print axioms proved
end Go.Proofs.Ytjdlnmbfomojdaa.liveNone
