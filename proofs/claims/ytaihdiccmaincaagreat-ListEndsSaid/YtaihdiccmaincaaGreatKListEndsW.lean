/- ListEndsW ListEnds -/
import Derived.Test.YtaihdiccmaincaaGreatKGListEnds
import Derived.Test.YtaihdiccmaincaaGreatKUmod
import Derived.Test.YtaihdiccmaincaaGreatRows
import Derived.WalkKit
import Derived.WalkSpells
import Derived.WalkLawsBesides
import Derived.ProofKit
import Derived.OpenShut
/-
  The walk of 'dormouselaw13.ListEnds': the call returns true, in a world with at most new blocks.
-/
namespace Go.Proofs.YtaihdiccmaincaaGreat.listEnds
open Go.RowKit
set_option linter.unusedVariables false

theorem table : ∀ x < 10, ListEnds.m 100 ((x : Nat) : Int) true = some true ∧ ListEnds.m 100 ((x : Nat) : Int) false = some true := by decide +kernel
theorem pure (i0 : Int) (i1 : Bool) : ListEnds.m 100 i0 i1 = some true := by
  obtain ⟨x, hx, ex⟩ := u_mod i0 10 (by omega)
  have e1 := u_same x 10 hx (by omega)
  have h : ListEnds.m 100 ((x : Nat) : Int) i1 = some true := by cases i1; exact (table x hx).2; exact (table x hx).1
  unfold ListEnds.m at h ⊢
  simp only [Int.cast_ofNat_Int] at *
  rw [e1] at h
  rw [ex]
  exact h
theorem walk (a0 : Int) (a1 : Bool) (w0 : (Lit.int .i64 a0).wf = true) (w : World) :
    Calls Tryz.prog 7 #[.int .i64 a0, .bool a1] w fun e w' => e = .returned (.bool true) ∧ Below w.heap.size w w' := by
  exact (ListEnds.ok (St.empty w) (pure _ _)).mono fun e w' ⟨he, h⟩ => ⟨he, h.old⟩

end Go.Proofs.YtaihdiccmaincaaGreat.listEnds
/-
  'ListEndsSaid' ('dormouselaw13.ListEnds'): for every input the law returns true, and each argument reads behind the call as it did before.
  Conditions: none beyond the given row's own.
-/
namespace Go.Proofs.YtaihdiccmaincaaGreat.listEnds
open Go.ChangeShapes Go.WideShapes Go.ChangeAt Go.RowKit
set_option linter.unusedVariables false      -- a walk need not use every 'w<i>' (that an integer argument fits its kind)

theorem own : ownKnob Tryz.prog.godebug = none := by kernel_rfl

/-! ### THE ROW's STEP: WRITTEN OUT: LEAVE IT -/
set_option maxRecDepth 100000 in
theorem lifted (os : Os) (started : os.Started) (H : Type) (enc : TypeId × Value → H) :
    ReturnsInHanded {} Tryz.checked os 7 .any (Rows.listEndsSpec.pre6 enc Tryz.prog Tryz.f7 Rows.listEndsRow.domain false) (Rows.listEndsSpec.post enc Tryz.prog Tryz.f7 false true false false) := by
  refine returnsInHanded_of_change (C := Tryz.checked) own started (by kernel_rfl) Tryz.func7
    (ChangeSpec.witness6 (enc := enc) (C := Tryz.checked) false ⟨#[], #[.int .i64 0, .bool false], []⟩ 8 (by kernel_rfl) (by kernel_rfl) (by kernel_rfl) (by kernel_rfl)) ?_
  intro W base args ds gs before hval0 hW hcnd _
  have hval : ∀ (j : Nat) t v, Tryz.f7.params[j]? = some t → args[j]? = some v → Value.okWide Tryz.prog W .any base t v := hval0
  have hW' := hW
  obtain ⟨p, q, hA0, hV, rfl, hfz, hnd⟩ := hW
  have hA : DataW.TrodAll enc Tryz.prog W 0 (fun _ => true) true Tryz.f7.params.toList args.toList ds p := hA0
  rw [Tryz.params7] at hA hval
  obtain ⟨v0, vs0, d0, ds0, p0, q0, hargs, rfl, rfl, h0, r0⟩ := trodAll_cons hA
  obtain ⟨v1, vs1, d1, ds1, p1, q1, rfl, rfl, rfl, h1, r1⟩ := trodAll_cons r0
  obtain ⟨rfl, rfl, rfl⟩ := trodAll_nil r1
  obtain rfl : args = #[v0, v1] := by cases args; simp_all
  obtain ⟨rfl, rfl⟩ := trodVars_none hV
  obtain ⟨a0, rfl, rfl, rfl, w0⟩ := open_int Tryz.underlying3 (hval 0 3 v0 rfl rfl) h0
  obtain ⟨a1, rfl, rfl, rfl⟩ := open_bool Tryz.underlying4 (hval 1 4 v1 rfl rfl) h1
  clear hA0 hval0
  simp only [List.append_nil] at hW'
  refine (walk a0 a1 w0 W).mono fun e W' ⟨he, hg⟩ => ?_
  subst he
  exact ⟨_, rfl, _, _, _, [], [], [], hW', (trodAll_cons_mk (shut_bool Tryz.underlying4 _) trodAll_mk0), (trodAll_cons_mk (shut_int Tryz.underlying3 w0) (trodAll_cons_mk (shut_bool Tryz.underlying4 _) trodAll_mk0)), rfl, hg.frame _, fun h => by cases h⟩

theorem over : Rows.listEndsRow.holds Tryz.pinned (OpenSpec.ofChange Rows.listEndsSpec) :=
  OpenClaim.holds_of_wide 7 Tryz.f7 rfl rfl rfl rfl rfl rfl rfl ⟨rfl, rfl, rfl, rfl, rfl⟩ rfl rfl rfl rfl rfl (by kernel_rfl) Tryz.func7 (by kernel_rfl)
    (of_decide_eq_true (by kernel_rfl)) (by unfold Func.isWrapper; first | (rw [if_pos (by decide +kernel)]; kernel_rfl) | (rw [if_neg (by decide +kernel)]; exact ⟨rfl, rfl⟩))
    (fun os started H enc _ => lifted os started H enc)

/-- ████ THE STATEMENT ████ -/
theorem proved : Rows.ListEndsSaid :=
  over
#print axioms proved
end Go.Proofs.YtaihdiccmaincaaGreat.listEnds
