/- StoreAllW StoreAll -/
import Derived.Test.YtalfiikfaodcmaaKGStore
import Derived.Test.YtalfiikfaodcmaaKUmod
import Derived.Test.YtalfiikfaodcmaaRows
import Derived.WalkKit
import Derived.WalkSpells
import Derived.WalkLawsBesides
import Derived.ProofKit
import Derived.OpenShut
/-
  The walk of 'dormouselaw21.StoreAll': the call returns true, in a world with at most new blocks.
-/
namespace Go.Proofs.Ytalfiikfaodcmaa.storeAll
open Go.RowKit
set_option linter.unusedVariables false

set_option maxHeartbeats 0 in
theorem t0_0 : ∀ y < 10, StoreAll.m 600 0 ((y + 0 : Nat) : Int) = some true := by decide +kernel
set_option maxHeartbeats 0 in
theorem t0_1 : ∀ y < 10, StoreAll.m 600 0 ((y + 10 : Nat) : Int) = some true := by decide +kernel
set_option maxHeartbeats 0 in
theorem t0_2 : ∀ y < 10, StoreAll.m 600 0 ((y + 20 : Nat) : Int) = some true := by decide +kernel
set_option maxHeartbeats 0 in
theorem t0_3 : ∀ y < 10, StoreAll.m 600 0 ((y + 30 : Nat) : Int) = some true := by decide +kernel
set_option maxHeartbeats 0 in
theorem t1_0 : ∀ y < 10, StoreAll.m 600 1 ((y + 0 : Nat) : Int) = some true := by decide +kernel
set_option maxHeartbeats 0 in
theorem t1_1 : ∀ y < 10, StoreAll.m 600 1 ((y + 10 : Nat) : Int) = some true := by decide +kernel
set_option maxHeartbeats 0 in
theorem t1_2 : ∀ y < 10, StoreAll.m 600 1 ((y + 20 : Nat) : Int) = some true := by decide +kernel
set_option maxHeartbeats 0 in
theorem t1_3 : ∀ y < 10, StoreAll.m 600 1 ((y + 30 : Nat) : Int) = some true := by decide +kernel
set_option maxHeartbeats 0 in
theorem t2_0 : ∀ y < 10, StoreAll.m 600 2 ((y + 0 : Nat) : Int) = some true := by decide +kernel
set_option maxHeartbeats 0 in
theorem t2_1 : ∀ y < 10, StoreAll.m 600 2 ((y + 10 : Nat) : Int) = some true := by decide +kernel
set_option maxHeartbeats 0 in
theorem t2_2 : ∀ y < 10, StoreAll.m 600 2 ((y + 20 : Nat) : Int) = some true := by decide +kernel
set_option maxHeartbeats 0 in
theorem t2_3 : ∀ y < 10, StoreAll.m 600 2 ((y + 30 : Nat) : Int) = some true := by decide +kernel
theorem pure (i0 i1 : Int) : StoreAll.m 600 i0 i1 = some true := by
  obtain ⟨x, hx, ex⟩ := u_mod i0 3 (by omega)
  obtain ⟨y, hy, ey⟩ := u_mod i1 40 (by omega)
  have h : StoreAll.m 600 ((x : Nat) : Int) ((y : Nat) : Int) = some true := by
    have key : ∀ (X : Int), (∀ z < 10, StoreAll.m 600 X ((z + 0 : Nat) : Int) = some true) → (∀ z < 10, StoreAll.m 600 X ((z + 10 : Nat) : Int) = some true) → (∀ z < 10, StoreAll.m 600 X ((z + 20 : Nat) : Int) = some true) → (∀ z < 10, StoreAll.m 600 X ((z + 30 : Nat) : Int) = some true) → StoreAll.m 600 X ((y : Nat) : Int) = some true := by
      intro X a b c d
      by_cases h1 : y < 10
      · exact a y h1
      by_cases h2 : y < 20
      · have := b (y - 10) (by omega); rwa [show y - 10 + 10 = y by omega] at this
      by_cases h3 : y < 30
      · have := c (y - 20) (by omega); rwa [show y - 20 + 20 = y by omega] at this
      · have := d (y - 30) (by omega); rwa [show y - 30 + 30 = y by omega] at this
    match x, hx with
    | 0, _ => exact key 0 t0_0 t0_1 t0_2 t0_3
    | 1, _ => exact key 1 t1_0 t1_1 t1_2 t1_3
    | 2, _ => exact key 2 t2_0 t2_1 t2_2 t2_3
  have e1 := u_same x 3 hx (by omega)
  have e2 := u_same y 40 hy (by omega)
  unfold StoreAll.m at h ⊢
  simp only [Int.cast_ofNat_Int] at *
  rw [e1, e2] at h
  rw [ex, ey]
  exact h
theorem walk (a0 : Int) (a1 : Int) (w0 : (Lit.int .i64 a0).wf = true) (w1 : (Lit.int .i64 a1).wf = true) (w : World) :
    Calls Try.prog 4 #[.int .i64 a0, .int .i64 a1] w fun e w' => e = .returned (.bool true) ∧ Below w.heap.size w w' := by
  exact (StoreAll.ok (St.empty w) (pure _ _)).mono fun e w' ⟨he, h⟩ => ⟨he, h.old⟩

end Go.Proofs.Ytalfiikfaodcmaa.storeAll
/-
  'StoreAllSaid' ('dormouselaw21.StoreAll'): for every input the law returns true, and each argument reads behind the call as it did before.
  Conditions: none beyond the given row's own.
-/
namespace Go.Proofs.Ytalfiikfaodcmaa.storeAll
open Go.ChangeShapes Go.WideShapes Go.ChangeAt Go.RowKit
set_option linter.unusedVariables false      -- a walk need not use every 'w<i>' (that an integer argument fits its kind)

theorem own : ownKnob Try.prog.godebug = none := by kernel_rfl

/-! ### THE ROW's STEP: WRITTEN OUT: LEAVE IT -/
set_option maxRecDepth 100000 in
theorem lifted (os : Os) (started : os.Started) (H : Type) (enc : TypeId × Value → H) :
    ReturnsInHanded {} Try.checked os 4 .any (Rows.storeAllSpec.pre6 enc Try.prog Try.f4 Rows.storeAllRow.domain false) (Rows.storeAllSpec.post enc Try.prog Try.f4 false true false false) := by
  refine returnsInHanded_of_change (C := Try.checked) own started (by kernel_rfl) Try.func4
    (ChangeSpec.witness6 (enc := enc) (C := Try.checked) false ⟨#[], #[.int .i64 0, .int .i64 0], []⟩ 8 (by kernel_rfl) (by kernel_rfl) (by kernel_rfl) (by kernel_rfl)) ?_
  intro W base args ds gs before hval0 hW hcnd _
  have hval : ∀ (j : Nat) t v, Try.f4.params[j]? = some t → args[j]? = some v → Value.okWide Try.prog W .any base t v := hval0
  have hW' := hW
  obtain ⟨p, q, hA0, hV, rfl, hfz, hnd⟩ := hW
  have hA : DataW.TrodAll enc Try.prog W 0 (fun _ => true) true Try.f4.params.toList args.toList ds p := hA0
  rw [Try.params4] at hA hval
  obtain ⟨v0, vs0, d0, ds0, p0, q0, hargs, rfl, rfl, h0, r0⟩ := trodAll_cons hA
  obtain ⟨v1, vs1, d1, ds1, p1, q1, rfl, rfl, rfl, h1, r1⟩ := trodAll_cons r0
  obtain ⟨rfl, rfl, rfl⟩ := trodAll_nil r1
  obtain rfl : args = #[v0, v1] := by cases args; simp_all
  obtain ⟨rfl, rfl⟩ := trodVars_none hV
  obtain ⟨a0, rfl, rfl, rfl, w0⟩ := open_int Try.underlying3 (hval 0 3 v0 rfl rfl) h0
  obtain ⟨a1, rfl, rfl, rfl, w1⟩ := open_int Try.underlying3 (hval 1 3 v1 rfl rfl) h1
  clear hA0 hval0
  simp only [List.append_nil] at hW'
  refine (walk a0 a1 w0 w1 W).mono fun e W' ⟨he, hg⟩ => ?_
  subst he
  exact ⟨_, rfl, _, _, _, [], [], [], hW', (trodAll_cons_mk (shut_bool Try.underlying4 _) trodAll_mk0), (trodAll_cons_mk (shut_int Try.underlying3 w0) (trodAll_cons_mk (shut_int Try.underlying3 w1) trodAll_mk0)), rfl, hg.frame _, fun h => by cases h⟩

theorem over : Rows.storeAllRow.holds Try.pinned (OpenSpec.ofChange Rows.storeAllSpec) :=
  OpenClaim.holds_of_wide 4 Try.f4 rfl rfl rfl rfl rfl rfl rfl ⟨rfl, rfl, rfl, rfl, rfl⟩ rfl rfl rfl rfl rfl (by kernel_rfl) Try.func4 (by kernel_rfl)
    (of_decide_eq_true (by kernel_rfl)) (by unfold Func.isWrapper; first | (rw [if_pos (by decide +kernel)]; kernel_rfl) | (rw [if_neg (by decide +kernel)]; exact ⟨rfl, rfl⟩))
    (fun os started H enc _ => lifted os started H enc)

/-- ████ THE STATEMENT ████ -/
theorem proved : Rows.StoreAllSaid :=
  over
#print axioms proved
end Go.Proofs.Ytalfiikfaodcmaa.storeAll
