/- LiveChainW LiveChain -/
import Derived.Test.YtjdlnmbfomojdaaKGLiveChain
import Derived.Test.YtjdlnmbfomojdaaKLcB1
import Derived.Test.YtjdlnmbfomojdaaKLcB2
import Derived.Test.YtjdlnmbfomojdaaKLcB3
import Derived.Test.YtjdlnmbfomojdaaKLcB4
import Derived.Test.YtjdlnmbfomojdaaRows
import Derived.WalkKit
import Derived.WalkSpells
import Derived.WalkLawsBesides
import Derived.ProofKit
import Derived.OpenShut
/-
  The walk of 'dormouselaw22.LiveChain': the call returns true, in a world with at most new blocks.
-/
namespace Go.Proofs.Ytjdlnmbfomojdaa.liveChain
open Go.RowKit
set_option linter.unusedVariables false

theorem all : ∀ (a b : Nat), a < 30 → b < a + 1 → LcOk a b = true
  | 0, b, _, hb => by
    have := lc_0_0 (b - 0) (by omega)
    rwa [show b - 0 + 0 = b by omega] at this
  | 1, b, _, hb => by
    have := lc_1_0 (b - 0) (by omega)
    rwa [show b - 0 + 0 = b by omega] at this
  | 2, b, _, hb => by
    have := lc_2_0 (b - 0) (by omega)
    rwa [show b - 0 + 0 = b by omega] at this
  | 3, b, _, hb => by
    have := lc_3_0 (b - 0) (by omega)
    rwa [show b - 0 + 0 = b by omega] at this
  | 4, b, _, hb => by
    have := lc_4_0 (b - 0) (by omega)
    rwa [show b - 0 + 0 = b by omega] at this
  | 5, b, _, hb => by
    have := lc_5_0 (b - 0) (by omega)
    rwa [show b - 0 + 0 = b by omega] at this
  | 6, b, _, hb => by
    by_cases c : b < 6
    · have := lc_6_0 (b - 0) (by omega); rwa [show b - 0 + 0 = b by omega] at this
    have := lc_6_6 (b - 6) (by omega)
    rwa [show b - 6 + 6 = b by omega] at this
  | 7, b, _, hb => by
    by_cases c : b < 6
    · have := lc_7_0 (b - 0) (by omega); rwa [show b - 0 + 0 = b by omega] at this
    have := lc_7_6 (b - 6) (by omega)
    rwa [show b - 6 + 6 = b by omega] at this
  | 8, b, _, hb => by
    by_cases c : b < 6
    · have := lc_8_0 (b - 0) (by omega); rwa [show b - 0 + 0 = b by omega] at this
    have := lc_8_6 (b - 6) (by omega)
    rwa [show b - 6 + 6 = b by omega] at this
  | 9, b, _, hb => by
    by_cases c : b < 6
    · have := lc_9_0 (b - 0) (by omega); rwa [show b - 0 + 0 = b by omega] at this
    have := lc_9_6 (b - 6) (by omega)
    rwa [show b - 6 + 6 = b by omega] at this
  | 10, b, _, hb => by
    by_cases c : b < 6
    · have := lc_10_0 (b - 0) (by omega); rwa [show b - 0 + 0 = b by omega] at this
    have := lc_10_6 (b - 6) (by omega)
    rwa [show b - 6 + 6 = b by omega] at this
  | 11, b, _, hb => by
    by_cases c : b < 6
    · have := lc_11_0 (b - 0) (by omega); rwa [show b - 0 + 0 = b by omega] at this
    have := lc_11_6 (b - 6) (by omega)
    rwa [show b - 6 + 6 = b by omega] at this
  | 12, b, _, hb => by
    by_cases c : b < 6
    · have := lc_12_0 (b - 0) (by omega); rwa [show b - 0 + 0 = b by omega] at this
    by_cases c : b < 12
    · have := lc_12_6 (b - 6) (by omega); rwa [show b - 6 + 6 = b by omega] at this
    have := lc_12_12 (b - 12) (by omega)
    rwa [show b - 12 + 12 = b by omega] at this
  | 13, b, _, hb => by
    by_cases c : b < 6
    · have := lc_13_0 (b - 0) (by omega); rwa [show b - 0 + 0 = b by omega] at this
    by_cases c : b < 12
    · have := lc_13_6 (b - 6) (by omega); rwa [show b - 6 + 6 = b by omega] at this
    have := lc_13_12 (b - 12) (by omega)
    rwa [show b - 12 + 12 = b by omega] at this
  | 14, b, _, hb => by
    by_cases c : b < 6
    · have := lc_14_0 (b - 0) (by omega); rwa [show b - 0 + 0 = b by omega] at this
    by_cases c : b < 12
    · have := lc_14_6 (b - 6) (by omega); rwa [show b - 6 + 6 = b by omega] at this
    have := lc_14_12 (b - 12) (by omega)
    rwa [show b - 12 + 12 = b by omega] at this
  | 15, b, _, hb => by
    by_cases c : b < 6
    · have := lc_15_0 (b - 0) (by omega); rwa [show b - 0 + 0 = b by omega] at this
    by_cases c : b < 12
    · have := lc_15_6 (b - 6) (by omega); rwa [show b - 6 + 6 = b by omega] at this
    have := lc_15_12 (b - 12) (by omega)
    rwa [show b - 12 + 12 = b by omega] at this
  | 16, b, _, hb => by
    by_cases c : b < 6
    · have := lc_16_0 (b - 0) (by omega); rwa [show b - 0 + 0 = b by omega] at this
    by_cases c : b < 12
    · have := lc_16_6 (b - 6) (by omega); rwa [show b - 6 + 6 = b by omega] at this
    have := lc_16_12 (b - 12) (by omega)
    rwa [show b - 12 + 12 = b by omega] at this
  | 17, b, _, hb => by
    by_cases c : b < 6
    · have := lc_17_0 (b - 0) (by omega); rwa [show b - 0 + 0 = b by omega] at this
    by_cases c : b < 12
    · have := lc_17_6 (b - 6) (by omega); rwa [show b - 6 + 6 = b by omega] at this
    have := lc_17_12 (b - 12) (by omega)
    rwa [show b - 12 + 12 = b by omega] at this
  | 18, b, _, hb => by
    by_cases c : b < 6
    · have := lc_18_0 (b - 0) (by omega); rwa [show b - 0 + 0 = b by omega] at this
    by_cases c : b < 12
    · have := lc_18_6 (b - 6) (by omega); rwa [show b - 6 + 6 = b by omega] at this
    by_cases c : b < 18
    · have := lc_18_12 (b - 12) (by omega); rwa [show b - 12 + 12 = b by omega] at this
    have := lc_18_18 (b - 18) (by omega)
    rwa [show b - 18 + 18 = b by omega] at this
  | 19, b, _, hb => by
    by_cases c : b < 6
    · have := lc_19_0 (b - 0) (by omega); rwa [show b - 0 + 0 = b by omega] at this
    by_cases c : b < 12
    · have := lc_19_6 (b - 6) (by omega); rwa [show b - 6 + 6 = b by omega] at this
    by_cases c : b < 18
    · have := lc_19_12 (b - 12) (by omega); rwa [show b - 12 + 12 = b by omega] at this
    have := lc_19_18 (b - 18) (by omega)
    rwa [show b - 18 + 18 = b by omega] at this
  | 20, b, _, hb => by
    by_cases c : b < 6
    · have := lc_20_0 (b - 0) (by omega); rwa [show b - 0 + 0 = b by omega] at this
    by_cases c : b < 12
    · have := lc_20_6 (b - 6) (by omega); rwa [show b - 6 + 6 = b by omega] at this
    by_cases c : b < 18
    · have := lc_20_12 (b - 12) (by omega); rwa [show b - 12 + 12 = b by omega] at this
    have := lc_20_18 (b - 18) (by omega)
    rwa [show b - 18 + 18 = b by omega] at this
  | 21, b, _, hb => by
    by_cases c : b < 6
    · have := lc_21_0 (b - 0) (by omega); rwa [show b - 0 + 0 = b by omega] at this
    by_cases c : b < 12
    · have := lc_21_6 (b - 6) (by omega); rwa [show b - 6 + 6 = b by omega] at this
    by_cases c : b < 18
    · have := lc_21_12 (b - 12) (by omega); rwa [show b - 12 + 12 = b by omega] at this
    have := lc_21_18 (b - 18) (by omega)
    rwa [show b - 18 + 18 = b by omega] at this
  | 22, b, _, hb => by
    by_cases c : b < 6
    · have := lc_22_0 (b - 0) (by omega); rwa [show b - 0 + 0 = b by omega] at this
    by_cases c : b < 12
    · have := lc_22_6 (b - 6) (by omega); rwa [show b - 6 + 6 = b by omega] at this
    by_cases c : b < 18
    · have := lc_22_12 (b - 12) (by omega); rwa [show b - 12 + 12 = b by omega] at this
    have := lc_22_18 (b - 18) (by omega)
    rwa [show b - 18 + 18 = b by omega] at this
  | 23, b, _, hb => by
    by_cases c : b < 6
    · have := lc_23_0 (b - 0) (by omega); rwa [show b - 0 + 0 = b by omega] at this
    by_cases c : b < 12
    · have := lc_23_6 (b - 6) (by omega); rwa [show b - 6 + 6 = b by omega] at this
    by_cases c : b < 18
    · have := lc_23_12 (b - 12) (by omega); rwa [show b - 12 + 12 = b by omega] at this
    have := lc_23_18 (b - 18) (by omega)
    rwa [show b - 18 + 18 = b by omega] at this
  | 24, b, _, hb => by
    by_cases c : b < 6
    · have := lc_24_0 (b - 0) (by omega); rwa [show b - 0 + 0 = b by omega] at this
    by_cases c : b < 12
    · have := lc_24_6 (b - 6) (by omega); rwa [show b - 6 + 6 = b by omega] at this
    by_cases c : b < 18
    · have := lc_24_12 (b - 12) (by omega); rwa [show b - 12 + 12 = b by omega] at this
    by_cases c : b < 24
    · have := lc_24_18 (b - 18) (by omega); rwa [show b - 18 + 18 = b by omega] at this
    have := lc_24_24 (b - 24) (by omega)
    rwa [show b - 24 + 24 = b by omega] at this
  | 25, b, _, hb => by
    by_cases c : b < 6
    · have := lc_25_0 (b - 0) (by omega); rwa [show b - 0 + 0 = b by omega] at this
    by_cases c : b < 12
    · have := lc_25_6 (b - 6) (by omega); rwa [show b - 6 + 6 = b by omega] at this
    by_cases c : b < 18
    · have := lc_25_12 (b - 12) (by omega); rwa [show b - 12 + 12 = b by omega] at this
    by_cases c : b < 24
    · have := lc_25_18 (b - 18) (by omega); rwa [show b - 18 + 18 = b by omega] at this
    have := lc_25_24 (b - 24) (by omega)
    rwa [show b - 24 + 24 = b by omega] at this
  | 26, b, _, hb => by
    by_cases c : b < 6
    · have := lc_26_0 (b - 0) (by omega); rwa [show b - 0 + 0 = b by omega] at this
    by_cases c : b < 12
    · have := lc_26_6 (b - 6) (by omega); rwa [show b - 6 + 6 = b by omega] at this
    by_cases c : b < 18
    · have := lc_26_12 (b - 12) (by omega); rwa [show b - 12 + 12 = b by omega] at this
    by_cases c : b < 24
    · have := lc_26_18 (b - 18) (by omega); rwa [show b - 18 + 18 = b by omega] at this
    have := lc_26_24 (b - 24) (by omega)
    rwa [show b - 24 + 24 = b by omega] at this
  | 27, b, _, hb => by
    by_cases c : b < 6
    · have := lc_27_0 (b - 0) (by omega); rwa [show b - 0 + 0 = b by omega] at this
    by_cases c : b < 12
    · have := lc_27_6 (b - 6) (by omega); rwa [show b - 6 + 6 = b by omega] at this
    by_cases c : b < 18
    · have := lc_27_12 (b - 12) (by omega); rwa [show b - 12 + 12 = b by omega] at this
    by_cases c : b < 24
    · have := lc_27_18 (b - 18) (by omega); rwa [show b - 18 + 18 = b by omega] at this
    have := lc_27_24 (b - 24) (by omega)
    rwa [show b - 24 + 24 = b by omega] at this
  | 28, b, _, hb => by
    by_cases c : b < 6
    · have := lc_28_0 (b - 0) (by omega); rwa [show b - 0 + 0 = b by omega] at this
    by_cases c : b < 12
    · have := lc_28_6 (b - 6) (by omega); rwa [show b - 6 + 6 = b by omega] at this
    by_cases c : b < 18
    · have := lc_28_12 (b - 12) (by omega); rwa [show b - 12 + 12 = b by omega] at this
    by_cases c : b < 24
    · have := lc_28_18 (b - 18) (by omega); rwa [show b - 18 + 18 = b by omega] at this
    have := lc_28_24 (b - 24) (by omega)
    rwa [show b - 24 + 24 = b by omega] at this
  | 29, b, _, hb => by
    by_cases c : b < 6
    · have := lc_29_0 (b - 0) (by omega); rwa [show b - 0 + 0 = b by omega] at this
    by_cases c : b < 12
    · have := lc_29_6 (b - 6) (by omega); rwa [show b - 6 + 6 = b by omega] at this
    by_cases c : b < 18
    · have := lc_29_12 (b - 12) (by omega); rwa [show b - 12 + 12 = b by omega] at this
    by_cases c : b < 24
    · have := lc_29_18 (b - 18) (by omega); rwa [show b - 18 + 18 = b by omega] at this
    have := lc_29_24 (b - 24) (by omega)
    rwa [show b - 24 + 24 = b by omega] at this
  | n + 30, b, ha, _ => absurd ha (by omega)
theorem wrap_i (x : Int) (h : 0 ≤ x) (h2 : x < 1000) : IntKind.i64.wrap x = x := by rw [IntKind.wrap_i64]; omega
theorem wrap_u (x : Int) (h : 0 ≤ x) (h2 : x < 1000) : IntKind.u64.wrap x = x := by
  have h1 : IntKind.u64.wrap x = x % 18446744073709551616 := rfl
  rw [h1]; omega
set_option maxRecDepth 100000 in
theorem pure (i0 i1 : Int) (r : Bool) : LiveChain.m 200 i0 i1 r = some true := by
  obtain ⟨a, ha, ea⟩ := u_mod i0 30 (by omega)
  obtain ⟨b, hb, eb⟩ := u_mod i1 (a + 1) (by omega)
  have hh := all a b ha hb
  unfold LcOk at hh
  rw [Bool.and_eq_true] at hh
  have h : LiveChain.m 200 ((a : Nat) : Int) ((b : Nat) : Int) r = some true := by
    cases r with
    | true => exact of_decide_eq_true hh.1
    | false => exact of_decide_eq_true hh.2
  have e1 := u_same a 30 ha (by omega)
  have e2 := u_same b (a + 1) hb (by omega)
  have w1 := wrap_i (a : Int) (by omega) (by omega)
  have w2 := wrap_i (1 + (a : Int)) (by omega) (by omega)
  have w3 := wrap_u (1 + (a : Int)) (by omega) (by omega)
  rw [show ((a + 1 : Nat) : Int) = 1 + (a : Int) by omega] at e2 eb
  unfold LiveChain.m at h ⊢
  simp only [Int.cast_ofNat_Int] at e1 ea
  simp only [bind1, Option.bind_some] at h ⊢
  rw [e1, w1, w2, w3, e2] at h
  rw [ea, w1, w2, w3, eb]
  exact h
theorem walk (a0 : Int) (a1 : Int) (a2 : Bool) (w0 : (Lit.int .i64 a0).wf = true) (w1 : (Lit.int .i64 a1).wf = true) (w : World) :
    Calls Try.prog 3 #[.int .i64 a0, .int .i64 a1, .bool a2] w fun e w' => e = .returned (.bool true) ∧ Below w.heap.size w w' := by
  exact (LiveChain.ok (St.empty w) (pure _ _ _)).mono fun e w' ⟨he, h⟩ => ⟨he, h.old⟩

end Go.Proofs.Ytjdlnmbfomojdaa.liveChain
/-
  'LiveChainSaid' ('dormouselaw22.LiveChain'): for every input the law returns true, and each argument reads behind the call as it did before.
  Conditions: none beyond the given row's own.
-/
namespace Go.Proofs.Ytjdlnmbfomojdaa.liveChain
open Go.ChangeShapes Go.WideShapes Go.ChangeAt Go.RowKit
set_option linter.unusedVariables false      -- a walk need not use every 'w<i>' (that an integer argument fits its kind)

theorem own : ownKnob Try.prog.godebug = none := by kernel_rfl

/-! ### THE ROW's STEP: WRITTEN OUT: LEAVE IT -/
set_option maxRecDepth 100000 in
theorem lifted (os : Os) (started : os.Started) (H : Type) (enc : TypeId × Value → H) :
    ReturnsInHanded {} Try.checked os 3 .any (Rows.liveChainSpec.pre6 enc Try.prog Try.f3 Rows.liveChainRow.domain false) (Rows.liveChainSpec.post enc Try.prog Try.f3 false true false false) := by
  refine returnsInHanded_of_change (C := Try.checked) own started (by kernel_rfl) Try.func3
    (ChangeSpec.witness6 (enc := enc) (C := Try.checked) false ⟨#[], #[.int .i64 0, .int .i64 0, .bool false], []⟩ 8 (by kernel_rfl) (by kernel_rfl) (by kernel_rfl) (by kernel_rfl)) ?_
  intro W base args ds gs before hval0 hW hcnd _
  have hval : ∀ (j : Nat) t v, Try.f3.params[j]? = some t → args[j]? = some v → Value.okWide Try.prog W .any base t v := hval0
  have hW' := hW
  obtain ⟨p, q, hA0, hV, rfl, hfz, hnd⟩ := hW
  have hA : DataW.TrodAll enc Try.prog W 0 (fun _ => true) true Try.f3.params.toList args.toList ds p := hA0
  rw [Try.params3] at hA hval
  obtain ⟨v0, vs0, d0, ds0, p0, q0, hargs, rfl, rfl, h0, r0⟩ := trodAll_cons hA
  obtain ⟨v1, vs1, d1, ds1, p1, q1, rfl, rfl, rfl, h1, r1⟩ := trodAll_cons r0
  obtain ⟨v2, vs2, d2, ds2, p2, q2, rfl, rfl, rfl, h2, r2⟩ := trodAll_cons r1
  obtain ⟨rfl, rfl, rfl⟩ := trodAll_nil r2
  obtain rfl : args = #[v0, v1, v2] := by cases args; simp_all
  obtain ⟨rfl, rfl⟩ := trodVars_none hV
  obtain ⟨a0, rfl, rfl, rfl, w0⟩ := open_int Try.underlying3 (hval 0 3 v0 rfl rfl) h0
  obtain ⟨a1, rfl, rfl, rfl, w1⟩ := open_int Try.underlying3 (hval 1 3 v1 rfl rfl) h1
  obtain ⟨a2, rfl, rfl, rfl⟩ := open_bool Try.underlying4 (hval 2 4 v2 rfl rfl) h2
  clear hA0 hval0
  simp only [List.append_nil] at hW'
  refine (walk a0 a1 a2 w0 w1 W).mono fun e W' ⟨he, hg⟩ => ?_
  subst he
  exact ⟨_, rfl, _, _, _, [], [], [], hW', (trodAll_cons_mk (shut_bool Try.underlying4 _) trodAll_mk0), (trodAll_cons_mk (shut_int Try.underlying3 w0) (trodAll_cons_mk (shut_int Try.underlying3 w1) (trodAll_cons_mk (shut_bool Try.underlying4 _) trodAll_mk0))), rfl, hg.frame _, fun h => by cases h⟩

theorem over : Rows.liveChainRow.holds Try.pinned (OpenSpec.ofChange Rows.liveChainSpec) :=
  OpenClaim.holds_of_wide 3 Try.f3 rfl rfl rfl rfl rfl rfl rfl ⟨rfl, rfl, rfl, rfl, rfl⟩ rfl rfl rfl rfl rfl (by kernel_rfl) Try.func3 (by kernel_rfl)
    (of_decide_eq_true (by kernel_rfl)) (by unfold Func.isWrapper; first | (rw [if_pos (by decide +kernel)]; kernel_rfl) | (rw [if_neg (by decide +kernel)]; exact ⟨rfl, rfl⟩))
    (fun os started H enc _ => lifted os started H enc)

/-- ████ THE STATEMENT ████ -/
theorem proved : Rows.LiveChainSaid :=
  over
#print axioms proved
end Go.Proofs.Ytjdlnmbfomojdaa.liveChain
