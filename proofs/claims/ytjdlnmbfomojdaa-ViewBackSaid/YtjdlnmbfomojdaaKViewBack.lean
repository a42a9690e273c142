/- ViewBack -/
import Derived.Test.YtjdlnmbfomojdaaKViewBackW
import Derived.Test.YtjdlnmbfomojdaaKArg
import Derived.Test.YtjdlnmbfomojdaaKArgS
import Derived.Test.YtjdlnmbfomojdaaRows
import Derived.WalkKit
import Derived.ProofKit
import Derived.OpenShut
import Derived.ShutString
import Derived.ChangeOld
import Derived.Below
/-
  'ViewBackSaid' ('dormouselaw11.ViewBack'): for every input the law returns true, and each argument reads behind the call as it did before.
  Conditions: none beyond the given row's own.
-/
namespace Go.Proofs.Ytjdlnmbfomojdaa.viewBack
open Go.ChangeShapes Go.WideShapes Go.ChangeAt Go.RowKit
set_option linter.unusedVariables false

theorem own : ownKnob Try.prog.godebug = none := by kernel_rfl
theorem laidOut : laidOutB Try.prog = true := by kernel_rfl

/-! ### THE ROW -/
set_option maxRecDepth 100000 in
theorem lifted (os : Os) (started : os.Started) (H : Type) (enc : TypeId × Value → H) :
    ReturnsInHanded {} Try.checked os 6 .any (Rows.viewBackSpec.pre6 enc Try.prog Try.f6 Rows.viewBackRow.domain false) (Rows.viewBackSpec.post enc Try.prog Try.f6 false true false false) := by
  refine returnsInHanded_of_change (C := Try.checked) own started (by kernel_rfl) Try.func6
    (ChangeSpec.witness6 (enc := enc) (C := Try.checked) false ⟨#[], #[.agg #[.int .i64 0, .int .i64 0, .int .i64 0, .int .i64 0, .int .i64 0, .int .i64 0, .int .i64 0, .int .i64 0, .int .i64 0], .agg #[.int .i64 0, .int .i64 0, .int .i64 0, .int .i64 0, .int .i64 0, .int .i64 0, .int .i64 0], .agg #[.int .i64 0, .int .i64 0, .int .i64 0, .int .i64 0, .int .i64 0, .int .i64 0, .int .i64 0, .int .i64 0, .int .i64 0, .int .i64 0]], []⟩ 8 (by kernel_rfl) (by kernel_rfl) (by kernel_rfl) (by kernel_rfl)) ?_
  intro W base args ds gs before hval0 hW hcnd _
  have hval : ∀ (j : Nat) t v, Try.f6.params[j]? = some t → args[j]? = some v → Value.okWide Try.prog W .any base t v := hval0
  have hW' := hW
  obtain ⟨p, q, hA0, hV, rfl, hfz, hnd⟩ := hW
  have hA : DataW.TrodAll enc Try.prog W 0 (fun _ => true) true Try.f6.params.toList args.toList ds p := hA0
  rw [Try.params6] at hA hval
  obtain ⟨v0, vs0, d0, ds0, p0, q0, hargs, rfl, rfl, h0, r0⟩ := trodAll_cons hA
  obtain ⟨v1, vs1, d1, ds1, p1, q1, rfl, rfl, rfl, h1, r1⟩ := trodAll_cons r0
  obtain ⟨v2, vs2, d2, ds2, p2, q2, rfl, rfl, rfl, h2, r2⟩ := trodAll_cons r1
  obtain ⟨rfl, rfl, rfl⟩ := trodAll_nil r2
  obtain rfl : args = #[v0, v1, v2] := by cases args; simp_all
  obtain ⟨rfl, rfl⟩ := trodVars_none hV
  have k0 := h0
  have lt0 : ∀ x ∈ p0, x.block < W.heap.size := by obtain ⟨m, hm⟩ := k0; exact DataW.trod_lt m _ _ _ hm
  obtain ⟨L0, hl0, rfl, w0⟩ := agg_ints Try.underlying46 (by kernel_rfl) (by kernel_rfl) (by intro j f hj; match j, hj with | 0, hj => (cases hj; exact Try.underlying3) | 1, hj => (cases hj; exact Try.underlying3) | 2, hj => (cases hj; exact Try.underlying3) | 3, hj => (cases hj; exact Try.underlying3) | 4, hj => (cases hj; exact Try.underlying3) | 5, hj => (cases hj; exact Try.underlying3) | 6, hj => (cases hj; exact Try.underlying3) | 7, hj => (cases hj; exact Try.underlying3) | 8, hj => (cases hj; exact Try.underlying3) | (n + 9), hj => cases hj) (hval 0 46 v0 rfl rfl) h0
  obtain ⟨x0_0, L0_0, rfl, hl0_0⟩ := list_cons (n := 8) hl0
  obtain ⟨x0_1, L0_1, rfl, hl0_1⟩ := list_cons (n := 7) hl0_0
  obtain ⟨x0_2, L0_2, rfl, hl0_2⟩ := list_cons (n := 6) hl0_1
  obtain ⟨x0_3, L0_3, rfl, hl0_3⟩ := list_cons (n := 5) hl0_2
  obtain ⟨x0_4, L0_4, rfl, hl0_4⟩ := list_cons (n := 4) hl0_3
  obtain ⟨x0_5, L0_5, rfl, hl0_5⟩ := list_cons (n := 3) hl0_4
  obtain ⟨x0_6, L0_6, rfl, hl0_6⟩ := list_cons (n := 2) hl0_5
  obtain ⟨x0_7, L0_7, rfl, hl0_7⟩ := list_cons (n := 1) hl0_6
  obtain ⟨x0_8, L0_8, rfl, hl0_8⟩ := list_cons (n := 0) hl0_7
  obtain rfl := List.eq_nil_of_length_eq_zero hl0_8
  have k1 := h1
  have lt1 : ∀ x ∈ p1, x.block < W.heap.size := by obtain ⟨m, hm⟩ := k1; exact DataW.trod_lt m _ _ _ hm
  obtain ⟨L1, hl1, rfl, w1⟩ := agg_ints Try.underlying52 (by kernel_rfl) (by kernel_rfl) (by intro j f hj; match j, hj with | 0, hj => (cases hj; exact Try.underlying3) | 1, hj => (cases hj; exact Try.underlying3) | 2, hj => (cases hj; exact Try.underlying3) | 3, hj => (cases hj; exact Try.underlying3) | 4, hj => (cases hj; exact Try.underlying3) | 5, hj => (cases hj; exact Try.underlying3) | 6, hj => (cases hj; exact Try.underlying3) | (n + 7), hj => cases hj) (hval 1 52 v1 rfl rfl) h1
  obtain ⟨x1_0, L1_0, rfl, hl1_0⟩ := list_cons (n := 6) hl1
  obtain ⟨x1_1, L1_1, rfl, hl1_1⟩ := list_cons (n := 5) hl1_0
  obtain ⟨x1_2, L1_2, rfl, hl1_2⟩ := list_cons (n := 4) hl1_1
  obtain ⟨x1_3, L1_3, rfl, hl1_3⟩ := list_cons (n := 3) hl1_2
  obtain ⟨x1_4, L1_4, rfl, hl1_4⟩ := list_cons (n := 2) hl1_3
  obtain ⟨x1_5, L1_5, rfl, hl1_5⟩ := list_cons (n := 1) hl1_4
  obtain ⟨x1_6, L1_6, rfl, hl1_6⟩ := list_cons (n := 0) hl1_5
  obtain rfl := List.eq_nil_of_length_eq_zero hl1_6
  have k2 := h2
  have lt2 : ∀ x ∈ p2, x.block < W.heap.size := by obtain ⟨m, hm⟩ := k2; exact DataW.trod_lt m _ _ _ hm
  obtain ⟨L2, hl2, rfl, w2⟩ := agg_ints2 Try.underlying55 (by kernel_rfl) (by kernel_rfl) (hval 2 55 v2 rfl rfl) h2
  have hl2 : L2.length = 10 := hl2
  obtain ⟨x2_0, L2_0, rfl, hl2_0⟩ := list_cons (n := 9) hl2
  obtain ⟨x2_1, L2_1, rfl, hl2_1⟩ := list_cons (n := 8) hl2_0
  obtain ⟨x2_2, L2_2, rfl, hl2_2⟩ := list_cons (n := 7) hl2_1
  obtain ⟨x2_3, L2_3, rfl, hl2_3⟩ := list_cons (n := 6) hl2_2
  obtain ⟨x2_4, L2_4, rfl, hl2_4⟩ := list_cons (n := 5) hl2_3
  obtain ⟨x2_5, L2_5, rfl, hl2_5⟩ := list_cons (n := 4) hl2_4
  obtain ⟨x2_6, L2_6, rfl, hl2_6⟩ := list_cons (n := 3) hl2_5
  obtain ⟨x2_7, L2_7, rfl, hl2_7⟩ := list_cons (n := 2) hl2_6
  obtain ⟨x2_8, L2_8, rfl, hl2_8⟩ := list_cons (n := 1) hl2_7
  obtain ⟨x2_9, L2_9, rfl, hl2_9⟩ := list_cons (n := 0) hl2_8
  obtain rfl := List.eq_nil_of_length_eq_zero hl2_9
  clear hA0 hval0
  refine (walk x0_0 x0_1 x0_2 x0_3 x0_4 x0_5 x0_6 x0_7 x0_8 x1_0 x1_1 x1_2 x1_3 x1_4 x1_5 x1_6 x2_0 x2_1 x2_2 x2_3 x2_4 x2_5 x2_6 x2_7 x2_8 x2_9 W w0 w1 w2).mono fun e W' ⟨he, bel⟩ => ?_
  subst he
  exact ⟨_, rfl, _, _, _, [], _, [], hW', trodAll_mk1 (shut_bool Try.underlying4 _), (trodAll_cons_mk (Below.trod laidOut (by kernel_rfl) (of_decide_eq_true (by kernel_rfl)) k0 bel lt0) (trodAll_cons_mk (Below.trod laidOut (by kernel_rfl) (of_decide_eq_true (by kernel_rfl)) k1 bel lt1) (trodAll_cons_mk (Below.trod laidOut (by kernel_rfl) (of_decide_eq_true (by kernel_rfl)) k2 bel lt2) trodAll_mk0))), rfl, bel.frame _, fun h => by cases h⟩

theorem over : Rows.viewBackRow.holds Try.pinned (OpenSpec.ofChange Rows.viewBackSpec) :=
  OpenClaim.holds_of_wide 6 Try.f6 rfl rfl rfl rfl rfl rfl rfl ⟨rfl, rfl, rfl, rfl, rfl⟩ rfl rfl rfl rfl rfl (by kernel_rfl) Try.func6 (by kernel_rfl)
    (of_decide_eq_true (by kernel_rfl)) (by unfold Func.isWrapper; first | (rw [if_pos (by decide +kernel)]; kernel_rfl) | (rw [if_neg (by decide +kernel)]; exact ⟨rfl, rfl⟩))
    (fun os started H enc _ => lifted os started H enc)

/-- THE STATEMENT -/
theorem proved : Rows.ViewBackSaid := over
#print axioms proved
end Go.Proofs.Ytjdlnmbfomojdaa.viewBack
