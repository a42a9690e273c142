/- ViewTells -/
import Derived.Test.YtffnjpapggidlaaGreatKViewTellsW
import Derived.Test.YtffnjpapggidlaaGreatKPure5
import Derived.Test.YtffnjpapggidlaaGreatKArgS
import Derived.Test.YtffnjpapggidlaaGreatRows
import Derived.WalkKit
import Derived.ProofKit
import Derived.OpenShut
import Derived.ShutString
import Derived.ChangeOld
import Derived.Below
/-
  'ViewTellsSaid' ('dormouselaw11.ViewTells'): for every input the law returns true, and each argument reads behind the call as it did before.
  Conditions: none beyond the given row's own.
-/
namespace Go.Proofs.YtffnjpapggidlaaGreat.viewTells
open Go.ChangeShapes Go.WideShapes Go.ChangeAt Go.RowKit
set_option linter.unusedVariables false

theorem own : ownKnob Tryz.prog.godebug = none := by kernel_rfl
theorem laidOut : laidOutB Tryz.prog = true := by kernel_rfl

/-! ### THE ROW -/
set_option maxRecDepth 100000 in
theorem lifted (os : Os) (started : os.Started) (H : Type) (enc : TypeId × Value → H) :
    ReturnsInHanded {} Tryz.checked os 3 .any (Rows.viewTellsSpec.pre6 enc Tryz.prog Tryz.f3 Rows.viewTellsRow.domain false) (Rows.viewTellsSpec.post enc Tryz.prog Tryz.f3 false true false false) := by
  refine returnsInHanded_of_change (C := Tryz.checked) own started (by kernel_rfl) Tryz.func3
    (ChangeSpec.witness6 (enc := enc) (C := Tryz.checked) false ⟨#[], #[.bool false, .agg #[.int .i64 0, .int .i64 0, .int .i64 0, .int .i64 0, .int .i64 0, .int .i64 0, .int .i64 0, .int .i64 0, .int .i64 0], .agg #[.int .i64 0, .int .i64 0, .int .i64 0, .int .i64 0, .int .i64 0, .int .i64 0, .int .i64 0], .agg #[.int .i64 0, .int .i64 0, .int .i64 0, .int .i64 0, .int .i64 0, .int .i64 0, .int .i64 0, .int .i64 0, .int .i64 0, .int .i64 0], .int .i64 0, .int .i64 0, .int .i64 0], []⟩ 8 (by kernel_rfl) (by kernel_rfl) (by kernel_rfl) (by kernel_rfl)) ?_
  intro W base args ds gs before hval0 hW hcnd _
  have hval : ∀ (j : Nat) t v, Tryz.f3.params[j]? = some t → args[j]? = some v → Value.okWide Tryz.prog W .any base t v := hval0
  have hW' := hW
  obtain ⟨p, q, hA0, hV, rfl, hfz, hnd⟩ := hW
  have hA : DataW.TrodAll enc Tryz.prog W 0 (fun _ => true) true Tryz.f3.params.toList args.toList ds p := hA0
  rw [Tryz.params3] at hA hval
  obtain ⟨v0, vs0, d0, ds0, p0, q0, hargs, rfl, rfl, h0, r0⟩ := trodAll_cons hA
  obtain ⟨v1, vs1, d1, ds1, p1, q1, rfl, rfl, rfl, h1, r1⟩ := trodAll_cons r0
  obtain ⟨v2, vs2, d2, ds2, p2, q2, rfl, rfl, rfl, h2, r2⟩ := trodAll_cons r1
  obtain ⟨v3, vs3, d3, ds3, p3, q3, rfl, rfl, rfl, h3, r3⟩ := trodAll_cons r2
  obtain ⟨v4, vs4, d4, ds4, p4, q4, rfl, rfl, rfl, h4, r4⟩ := trodAll_cons r3
  obtain ⟨v5, vs5, d5, ds5, p5, q5, rfl, rfl, rfl, h5, r5⟩ := trodAll_cons r4
  obtain ⟨v6, vs6, d6, ds6, p6, q6, rfl, rfl, rfl, h6, r6⟩ := trodAll_cons r5
  obtain ⟨rfl, rfl, rfl⟩ := trodAll_nil r6
  obtain rfl : args = #[v0, v1, v2, v3, v4, v5, v6] := by cases args; simp_all
  obtain ⟨rfl, rfl⟩ := trodVars_none hV
  obtain ⟨a0, rfl, rfl, rfl⟩ := open_bool Tryz.underlying4 (hval 0 4 v0 rfl rfl) h0
  have k1 := h1
  have lt1 : ∀ x ∈ p1, x.block < W.heap.size := by obtain ⟨m, hm⟩ := k1; exact DataW.trod_lt m _ _ _ hm
  obtain ⟨L1, hl1, rfl, w1⟩ := agg_ints Tryz.underlying23 (by kernel_rfl) (by kernel_rfl) (by intro j f hj; match j, hj with | 0, hj => (cases hj; exact Tryz.underlying3) | 1, hj => (cases hj; exact Tryz.underlying3) | 2, hj => (cases hj; exact Tryz.underlying3) | 3, hj => (cases hj; exact Tryz.underlying3) | 4, hj => (cases hj; exact Tryz.underlying3) | 5, hj => (cases hj; exact Tryz.underlying3) | 6, hj => (cases hj; exact Tryz.underlying3) | 7, hj => (cases hj; exact Tryz.underlying3) | 8, hj => (cases hj; exact Tryz.underlying3) | (n + 9), hj => cases hj) (hval 1 23 v1 rfl rfl) h1
  obtain ⟨x1_0, L1_0, rfl, hl1_0⟩ := list_cons (n := 8) hl1
  obtain ⟨x1_1, L1_1, rfl, hl1_1⟩ := list_cons (n := 7) hl1_0
  obtain ⟨x1_2, L1_2, rfl, hl1_2⟩ := list_cons (n := 6) hl1_1
  obtain ⟨x1_3, L1_3, rfl, hl1_3⟩ := list_cons (n := 5) hl1_2
  obtain ⟨x1_4, L1_4, rfl, hl1_4⟩ := list_cons (n := 4) hl1_3
  obtain ⟨x1_5, L1_5, rfl, hl1_5⟩ := list_cons (n := 3) hl1_4
  obtain ⟨x1_6, L1_6, rfl, hl1_6⟩ := list_cons (n := 2) hl1_5
  obtain ⟨x1_7, L1_7, rfl, hl1_7⟩ := list_cons (n := 1) hl1_6
  obtain ⟨x1_8, L1_8, rfl, hl1_8⟩ := list_cons (n := 0) hl1_7
  obtain rfl := List.eq_nil_of_length_eq_zero hl1_8
  have k2 := h2
  have lt2 : ∀ x ∈ p2, x.block < W.heap.size := by obtain ⟨m, hm⟩ := k2; exact DataW.trod_lt m _ _ _ hm
  obtain ⟨L2, hl2, rfl, w2⟩ := agg_ints Tryz.underlying25 (by kernel_rfl) (by kernel_rfl) (by intro j f hj; match j, hj with | 0, hj => (cases hj; exact Tryz.underlying3) | 1, hj => (cases hj; exact Tryz.underlying3) | 2, hj => (cases hj; exact Tryz.underlying3) | 3, hj => (cases hj; exact Tryz.underlying3) | 4, hj => (cases hj; exact Tryz.underlying3) | 5, hj => (cases hj; exact Tryz.underlying3) | 6, hj => (cases hj; exact Tryz.underlying3) | (n + 7), hj => cases hj) (hval 2 25 v2 rfl rfl) h2
  obtain ⟨x2_0, L2_0, rfl, hl2_0⟩ := list_cons (n := 6) hl2
  obtain ⟨x2_1, L2_1, rfl, hl2_1⟩ := list_cons (n := 5) hl2_0
  obtain ⟨x2_2, L2_2, rfl, hl2_2⟩ := list_cons (n := 4) hl2_1
  obtain ⟨x2_3, L2_3, rfl, hl2_3⟩ := list_cons (n := 3) hl2_2
  obtain ⟨x2_4, L2_4, rfl, hl2_4⟩ := list_cons (n := 2) hl2_3
  obtain ⟨x2_5, L2_5, rfl, hl2_5⟩ := list_cons (n := 1) hl2_4
  obtain ⟨x2_6, L2_6, rfl, hl2_6⟩ := list_cons (n := 0) hl2_5
  obtain rfl := List.eq_nil_of_length_eq_zero hl2_6
  have k3 := h3
  have lt3 : ∀ x ∈ p3, x.block < W.heap.size := by obtain ⟨m, hm⟩ := k3; exact DataW.trod_lt m _ _ _ hm
  obtain ⟨L3, hl3, rfl, w3⟩ := agg_ints2 Tryz.underlying28 (by kernel_rfl) (by kernel_rfl) (hval 3 28 v3 rfl rfl) h3
  have hl3 : L3.length = 10 := hl3
  obtain ⟨x3_0, L3_0, rfl, hl3_0⟩ := list_cons (n := 9) hl3
  obtain ⟨x3_1, L3_1, rfl, hl3_1⟩ := list_cons (n := 8) hl3_0
  obtain ⟨x3_2, L3_2, rfl, hl3_2⟩ := list_cons (n := 7) hl3_1
  obtain ⟨x3_3, L3_3, rfl, hl3_3⟩ := list_cons (n := 6) hl3_2
  obtain ⟨x3_4, L3_4, rfl, hl3_4⟩ := list_cons (n := 5) hl3_3
  obtain ⟨x3_5, L3_5, rfl, hl3_5⟩ := list_cons (n := 4) hl3_4
  obtain ⟨x3_6, L3_6, rfl, hl3_6⟩ := list_cons (n := 3) hl3_5
  obtain ⟨x3_7, L3_7, rfl, hl3_7⟩ := list_cons (n := 2) hl3_6
  obtain ⟨x3_8, L3_8, rfl, hl3_8⟩ := list_cons (n := 1) hl3_7
  obtain ⟨x3_9, L3_9, rfl, hl3_9⟩ := list_cons (n := 0) hl3_8
  obtain rfl := List.eq_nil_of_length_eq_zero hl3_9
  obtain ⟨a4, rfl, rfl, rfl, w4⟩ := open_int Tryz.underlying3 (hval 4 3 v4 rfl rfl) h4
  obtain ⟨a5, rfl, rfl, rfl, w5⟩ := open_int Tryz.underlying3 (hval 5 3 v5 rfl rfl) h5
  obtain ⟨a6, rfl, rfl, rfl, w6⟩ := open_int Tryz.underlying3 (hval 6 3 v6 rfl rfl) h6
  clear hA0 hval0
  refine (walk a0 x1_0 x1_1 x1_2 x1_3 x1_4 x1_5 x1_6 x1_7 x1_8 x2_0 x2_1 x2_2 x2_3 x2_4 x2_5 x2_6 x3_0 x3_1 x3_2 x3_3 x3_4 x3_5 x3_6 x3_7 x3_8 x3_9 a4 a5 a6 W w1 w2 w3 w4 w5 w6).mono fun e W' ⟨he, bel⟩ => ?_
  subst he
  exact ⟨_, rfl, _, _, _, [], _, [], hW', trodAll_mk1 (shut_bool Tryz.underlying4 _), (trodAll_cons_mk (shut_bool Tryz.underlying4 a0) (trodAll_cons_mk (Below.trod laidOut (by kernel_rfl) (of_decide_eq_true (by kernel_rfl)) k1 bel lt1) (trodAll_cons_mk (Below.trod laidOut (by kernel_rfl) (of_decide_eq_true (by kernel_rfl)) k2 bel lt2) (trodAll_cons_mk (Below.trod laidOut (by kernel_rfl) (of_decide_eq_true (by kernel_rfl)) k3 bel lt3) (trodAll_cons_mk (shut_int Tryz.underlying3 w4) (trodAll_cons_mk (shut_int Tryz.underlying3 w5) (trodAll_cons_mk (shut_int Tryz.underlying3 w6) trodAll_mk0))))))), rfl, bel.frame _, fun h => by cases h⟩

theorem over : Rows.viewTellsRow.holds Tryz.pinned (OpenSpec.ofChange Rows.viewTellsSpec) :=
  OpenClaim.holds_of_wide 3 Tryz.f3 rfl rfl rfl rfl rfl rfl rfl ⟨rfl, rfl, rfl, rfl, rfl⟩ rfl rfl rfl rfl rfl (by kernel_rfl) Tryz.func3 (by kernel_rfl)
    (of_decide_eq_true (by kernel_rfl)) (by unfold Func.isWrapper; first | (rw [if_pos (by decide +kernel)]; kernel_rfl) | (rw [if_neg (by decide +kernel)]; exact ⟨rfl, rfl⟩))
    (fun os started H enc _ => lifted os started H enc)

/-- THE STATEMENT -/
theorem proved : Rows.ViewTellsSaid := over
#print axioms proved
end Go.Proofs.YtffnjpapggidlaaGreat.viewTells
