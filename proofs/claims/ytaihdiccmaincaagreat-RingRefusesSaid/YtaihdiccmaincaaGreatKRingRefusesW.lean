/- RingRefusesW RingRefuses -/
import Derived.Test.YtaihdiccmaincaaGreatKGRingRefuses
import Derived.Test.YtaihdiccmaincaaGreatKUmod
import Derived.Test.YtaihdiccmaincaaGreatKPlain
import Derived.Test.YtaihdiccmaincaaGreatRows
import Derived.WalkKit
import Derived.WalkSpells
import Derived.WalkLawsBesides
import Derived.ProofKit
import Derived.OpenShut
/-
  The walk of 'dormouselaw12.RingRefuses': the call returns true, in a world with at most new blocks.
-/
namespace Go.Proofs.YtaihdiccmaincaaGreat.ringRefuses
open Go.RowKit
set_option linter.unusedVariables false

theorem table : ∀ x < 9, ∀ y < 9, RingRefuses.m 100 0 (((x : Nat) : Int) - 4) (((y : Nat) : Int) - 4) = some true := by decide +kernel
theorem five (a : Int) : ∃ x : Nat, x < 9 ∧ Int.tmod a 5 = (x : Int) - 4 ∧ Int.tmod ((x : Int) - 4) 5 = (x : Int) - 4 := by
  have h := tmod_le a 5 (by omega)
  refine ⟨(Int.tmod a 5 + 4).toNat, by omega, by omega, ?_⟩
  have e : (((Int.tmod a 5 + 4).toNat : Nat) : Int) - 4 = Int.tmod a 5 := by omega
  rw [e]
  obtain ⟨y, hy⟩ : ∃ y, Int.tmod a 5 = y := ⟨_, rfl⟩
  rw [hy] at h ⊢
  have : y = -4 ∨ y = -3 ∨ y = -2 ∨ y = -1 ∨ y = 0 ∨ y = 1 ∨ y = 2 ∨ y = 3 ∨ y = 4 := by omega
  rcases this with rfl | rfl | rfl | rfl | rfl | rfl | rfl | rfl | rfl <;> rfl
theorem pure (i0 i1 i2 : Int) : RingRefuses.m 100 i0 i1 i2 = some true := by
  obtain ⟨x, hx, e1, e2⟩ := five i1
  obtain ⟨y, hy, e3, e4⟩ := five i2
  have h := table x hx y hy
  have h0 : RingRefuses.m 100 i0 i1 i2 = RingRefuses.m 100 0 i1 i2 := by rfl
  rw [h0]
  unfold RingRefuses.m RingRefuses.j1 RingRefuses.j2 at h ⊢
  simp only [e1, e2, e3, e4] at *
  exact h
theorem walk (a0 : Int) (a1 : Int) (a2 : Int) (w0 : (Lit.int .i64 a0).wf = true) (w1 : (Lit.int .i64 a1).wf = true) (w2 : (Lit.int .i64 a2).wf = true) (w : World) :
    Calls Tryz.prog 4 #[.int .i64 a0, .int .i64 a1, .int .i64 a2] w fun e w' => e = .returned (.bool true) ∧ Below w.heap.size w w' := by
  exact (RingRefuses.ok (St.empty w) (pure _ _ _)).mono fun e w' ⟨he, h⟩ => ⟨he, h.old⟩

end Go.Proofs.YtaihdiccmaincaaGreat.ringRefuses
/-
  'RingRefusesSaid' ('dormouselaw12.RingRefuses'): for every input the law returns true, and each argument reads behind the call as it did before.
  Conditions: none beyond the given row's own.
-/
namespace Go.Proofs.YtaihdiccmaincaaGreat.ringRefuses
open Go.ChangeShapes Go.WideShapes Go.ChangeAt Go.RowKit
set_option linter.unusedVariables false      -- a walk need not use every 'w<i>' (that an integer argument fits its kind)

theorem own : ownKnob Tryz.prog.godebug = none := by kernel_rfl

/-! ### THE ROW's STEP: WRITTEN OUT: LEAVE IT -/
set_option maxRecDepth 100000 in
theorem lifted (os : Os) (started : os.Started) (H : Type) (enc : TypeId × Value → H) :
    ReturnsInHanded {} Tryz.checked os 4 .any (Rows.ringRefusesSpec.pre6 enc Tryz.prog Tryz.f4 Rows.ringRefusesRow.domain false) (Rows.ringRefusesSpec.post enc Tryz.prog Tryz.f4 false true false false) := by
  refine returnsInHanded_of_change (C := Tryz.checked) own started (by kernel_rfl) Tryz.func4
    (ChangeSpec.witness6 (enc := enc) (C := Tryz.checked) false ⟨#[], #[.int .i64 0, .int .i64 0, .int .i64 0], []⟩ 8 (by kernel_rfl) (by kernel_rfl) (by kernel_rfl) (by kernel_rfl)) ?_
  intro W base args ds gs before hval0 hW hcnd _
  have hval : ∀ (j : Nat) t v, Tryz.f4.params[j]? = some t → args[j]? = some v → Value.okWide Tryz.prog W .any base t v := hval0
  have hW' := hW
  obtain ⟨p, q, hA0, hV, rfl, hfz, hnd⟩ := hW
  have hA : DataW.TrodAll enc Tryz.prog W 0 (fun _ => true) true Tryz.f4.params.toList args.toList ds p := hA0
  rw [Tryz.params4] at hA hval
  obtain ⟨v0, vs0, d0, ds0, p0, q0, hargs, rfl, rfl, h0, r0⟩ := trodAll_cons hA
  obtain ⟨v1, vs1, d1, ds1, p1, q1, rfl, rfl, rfl, h1, r1⟩ := trodAll_cons r0
  obtain ⟨v2, vs2, d2, ds2, p2, q2, rfl, rfl, rfl, h2, r2⟩ := trodAll_cons r1
  obtain ⟨rfl, rfl, rfl⟩ := trodAll_nil r2
  obtain rfl : args = #[v0, v1, v2] := by cases args; simp_all
  obtain ⟨rfl, rfl⟩ := trodVars_none hV
  obtain ⟨a0, rfl, rfl, rfl, w0⟩ := open_int Tryz.underlying3 (hval 0 3 v0 rfl rfl) h0
  obtain ⟨a1, rfl, rfl, rfl, w1⟩ := open_int Tryz.underlying3 (hval 1 3 v1 rfl rfl) h1
  obtain ⟨a2, rfl, rfl, rfl, w2⟩ := open_int Tryz.underlying3 (hval 2 3 v2 rfl rfl) h2
  clear hA0 hval0
  simp only [List.append_nil] at hW'
  refine (walk a0 a1 a2 w0 w1 w2 W).mono fun e W' ⟨he, hg⟩ => ?_
  subst he
  exact ⟨_, rfl, _, _, _, [], [], [], hW', (trodAll_cons_mk (shut_bool Tryz.underlying4 _) trodAll_mk0), (trodAll_cons_mk (shut_int Tryz.underlying3 w0) (trodAll_cons_mk (shut_int Tryz.underlying3 w1) (trodAll_cons_mk (shut_int Tryz.underlying3 w2) trodAll_mk0))), rfl, hg.frame _, fun h => by cases h⟩

theorem over : Rows.ringRefusesRow.holds Tryz.pinned (OpenSpec.ofChange Rows.ringRefusesSpec) :=
  OpenClaim.holds_of_wide 4 Tryz.f4 rfl rfl rfl rfl rfl rfl rfl ⟨rfl, rfl, rfl, rfl, rfl⟩ rfl rfl rfl rfl rfl (by kernel_rfl) Tryz.func4 (by kernel_rfl)
    (of_decide_eq_true (by kernel_rfl)) (by unfold Func.isWrapper; first | (rw [if_pos (by decide +kernel)]; kernel_rfl) | (rw [if_neg (by decide +kernel)]; exact ⟨rfl, rfl⟩))
    (fun os started H enc _ => lifted os started H enc)

/-- ████ THE STATEMENT ████ -/
theorem proved : Rows.RingRefusesSaid :=
  over
#print axioms proved
end Go.Proofs.YtaihdiccmaincaaGreat.ringRefuses
