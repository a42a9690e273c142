/- ShutWakesW ShutWakes -/
import Derived.Test.YtgejcjcpchofiaaGreatKG17
import Derived.Test.YtgejcjcpchofiaaGreatKUmod
import Derived.Test.YtgejcjcpchofiaaGreatRows
import Derived.WalkKit
import Derived.WalkSpells
import Derived.WalkLawsBesides
import Derived.ProofKit
import Derived.OpenShut
/-
  The walk of 'dormouselaw17.ShutWakes': the call returns true, in a world with at most new blocks.
-/
namespace Go.Proofs.YtgejcjcpchofiaaGreat.shutWakes
open Go.RowKit
set_option linter.unusedVariables false

theorem l8_same {i i' : Int} (e : Int.tmod (IntKind.u64.wrap i) 6 = Int.tmod (IntKind.u64.wrap i') 6) (k : Nat) (L : List Int) : ∀ f, law17_made.l8 i k L f = law17_made.l8 i' k L f
  | 0 => rfl
  | f + 1 => by
    have ih := l8_same e k L f
    show law17_made.l8b i k L (law17_made.l8 i k L f) = law17_made.l8b i' k L (law17_made.l8 i' k L f)
    rw [ih]
    funext a b c d
    unfold law17_made.l8b
    rw [e]
theorem l5_same {i i' : Int} (e : Int.tmod (IntKind.u64.wrap i) 6 = Int.tmod (IntKind.u64.wrap i') 6) (L0 : List Int) (k : Nat) : ∀ f, law17_made.l5 L0 i k f = law17_made.l5 L0 i' k f
  | 0 => rfl
  | f + 1 => by
    have ih := l5_same e L0 k f
    show law17_made.l5b L0 i k (law17_made.l5 L0 i k f) = law17_made.l5b L0 i' k (law17_made.l5 L0 i' k f)
    rw [ih]
    funext a b c d
    unfold law17_made.l5b law17_made.j6
    rw [l8_same e]
theorem made_same {i i' : Int} (e : Int.tmod (IntKind.u64.wrap i) 6 = Int.tmod (IntKind.u64.wrap i') 6) (k : Nat) (L0 : List Int) : law17_made.m k L0 i = law17_made.m k L0 i' := by
  unfold law17_made.m
  rw [l5_same e]
theorem t0 : ShutWakes.m 100 0 true = some true := by decide +kernel
theorem t1 : ShutWakes.m 100 1 true = some true := by decide +kernel
theorem t2 : ShutWakes.m 100 2 true = some true := by decide +kernel
theorem t3 : ShutWakes.m 100 3 true = some true := by decide +kernel
theorem t4 : ShutWakes.m 100 4 true = some true := by decide +kernel
theorem t5 : ShutWakes.m 100 5 true = some true := by decide +kernel
theorem f0 : ShutWakes.m 100 0 false = some true := by decide +kernel
theorem f1 : ShutWakes.m 100 1 false = some true := by decide +kernel
theorem f2 : ShutWakes.m 100 2 false = some true := by decide +kernel
theorem f3 : ShutWakes.m 100 3 false = some true := by decide +kernel
theorem f4 : ShutWakes.m 100 4 false = some true := by decide +kernel
theorem f5 : ShutWakes.m 100 5 false = some true := by decide +kernel
theorem pure (i0 : Int) (i1 : Bool) : ShutWakes.m 100 i0 i1 = some true := by
  obtain ⟨x, hx, ex⟩ := u_mod i0 6 (by omega)
  have e2 := u_same x 6 hx (by omega)
  simp only [Int.cast_ofNat_Int] at ex e2
  have h : ShutWakes.m 100 i0 i1 = ShutWakes.m 100 ((x : Nat) : Int) i1 := by
    unfold ShutWakes.m
    rw [made_same (ex.trans e2.symm)]
  rw [h]
  have hx6 : x = 0 ∨ x = 1 ∨ x = 2 ∨ x = 3 ∨ x = 4 ∨ x = 5 := by omega
  rcases hx6 with rfl | rfl | rfl | rfl | rfl | rfl <;> cases i1
  · exact f0
  · exact t0
  · exact f1
  · exact t1
  · exact f2
  · exact t2
  · exact f3
  · exact t3
  · exact f4
  · exact t4
  · exact f5
  · exact t5
theorem walk (a0 : Int) (a1 : Bool) (w0 : (Lit.int .i64 a0).wf = true) (w : World) :
    Calls Tryz.prog 6 #[.int .i64 a0, .bool a1] w fun e w' => e = .returned (.bool true) ∧ Below w.heap.size w w' := by
  exact (ShutWakes.ok (St.empty w) (pure _ _)).mono fun e w' ⟨he, h⟩ => ⟨he, h.old⟩

end Go.Proofs.YtgejcjcpchofiaaGreat.shutWakes
/-
  'ShutWakesSaid' ('dormouselaw17.ShutWakes'): for every input the law returns true, and each argument reads behind the call as it did before.
  Conditions: none beyond the given row's own.
-/
namespace Go.Proofs.YtgejcjcpchofiaaGreat.shutWakes
open Go.ChangeShapes Go.WideShapes Go.ChangeAt Go.RowKit
set_option linter.unusedVariables false      -- a walk need not use every 'w<i>' (that an integer argument fits its kind)

theorem own : ownKnob Tryz.prog.godebug = none := by kernel_rfl

/-! ### THE ROW's STEP: WRITTEN OUT: LEAVE IT -/
set_option maxRecDepth 100000 in
theorem lifted (os : Os) (started : os.Started) (H : Type) (enc : TypeId × Value → H) :
    ReturnsInHanded {} Tryz.checked os 6 .any (Rows.shutWakesSpec.pre6 enc Tryz.prog Tryz.f6 Rows.shutWakesRow.domain false) (Rows.shutWakesSpec.post enc Tryz.prog Tryz.f6 false true false false) := by
  refine returnsInHanded_of_change (C := Tryz.checked) own started (by kernel_rfl) Tryz.func6
    (ChangeSpec.witness6 (enc := enc) (C := Tryz.checked) false ⟨#[], #[.int .i64 0, .bool false], []⟩ 8 (by kernel_rfl) (by kernel_rfl) (by kernel_rfl) (by kernel_rfl)) ?_
  intro W base args ds gs before hval0 hW hcnd _
  have hval : ∀ (j : Nat) t v, Tryz.f6.params[j]? = some t → args[j]? = some v → Value.okWide Tryz.prog W .any base t v := hval0
  have hW' := hW
  obtain ⟨p, q, hA0, hV, rfl, hfz, hnd⟩ := hW
  have hA : DataW.TrodAll enc Tryz.prog W 0 (fun _ => true) true Tryz.f6.params.toList args.toList ds p := hA0
  rw [Tryz.params6] at hA hval
  obtain ⟨v0, vs0, d0, ds0, p0, q0, hargs, rfl, rfl, h0, r0⟩ := trodAll_cons hA
  obtain ⟨v1, vs1, d1, ds1, p1, q1, rfl, rfl, rfl, h1, r1⟩ := trodAll_cons r0
  obtain ⟨rfl, rfl, rfl⟩ := trodAll_nil r1
  obtain rfl : args = #[v0, v1] := by cases args; simp_all
  obtain ⟨rfl, rfl⟩ := trodVars_none hV
  obtain ⟨a0, rfl, rfl, rfl, w0⟩ := open_int Tryz.underlying3 (hval 0 3 v0 rfl rfl) h0
  obtain ⟨a1, rfl, rfl, rfl⟩ := open_bool Tryz.underlying4 (hval 1 4 v1 rfl rfl) h1
  clear hA0 hval0
  simp only [List.append_nil] at hW'
  refine (walk a0 a1 w0 W).mono fun e W' ⟨he, hg⟩ => ?_
  subst he
  exact ⟨_, rfl, _, _, _, [], [], [], hW', (trodAll_cons_mk (shut_bool Tryz.underlying4 _) trodAll_mk0), (trodAll_cons_mk (shut_int Tryz.underlying3 w0) (trodAll_cons_mk (shut_bool Tryz.underlying4 _) trodAll_mk0)), rfl, hg.frame _, fun h => by cases h⟩

theorem over : Rows.shutWakesRow.holds Tryz.pinned (OpenSpec.ofChange Rows.shutWakesSpec) :=
  OpenClaim.holds_of_wide 6 Tryz.f6 rfl rfl rfl rfl rfl rfl rfl ⟨rfl, rfl, rfl, rfl, rfl⟩ rfl rfl rfl rfl rfl (by kernel_rfl) Tryz.func6 (by kernel_rfl)
    (of_decide_eq_true (by kernel_rfl)) (by unfold Func.isWrapper; first | (rw [if_pos (by decide +kernel)]; kernel_rfl) | (rw [if_neg (by decide +kernel)]; exact ⟨rfl, rfl⟩))
    (fun os started H enc _ => lifted os started H enc)

/-- ████ THE STATEMENT ████ -/
theorem proved : Rows.ShutWakesSaid :=
  over
#print axioms proved
end Go.Proofs.YtgejcjcpchofiaaGreat.shutWakes
