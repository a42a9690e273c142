/- WakeRegsW WakeRegs -/
import Derived.Test.YtaojmbkmicjecaaGreatKWr
import Derived.Test.YtaojmbkmicjecaaGreatKUmod
import Derived.Test.YtaojmbkmicjecaaGreatRows
import Derived.WalkKit
import Derived.WalkSpells
import Derived.WalkLawsBesides
import Derived.ProofKit
import Derived.OpenShut
/-
  The walk of 'dormouselaw14.WakeRegs': the call returns true, in a world with at most new blocks.
-/
namespace Go.Proofs.YtaojmbkmicjecaaGreat.wakeRegs
open Go.RowKit
set_option linter.unusedVariables false

open wr
theorem awake_is : law14_awake.m 100 = some true := by decide +kernel
theorem pure (i0 i1 i2 : Int) (i3 : Bool) (hv : wdB i2 = true) : WakeRegs.m 100 i0 i1 i2 i3 = some true := by
  obtain ⟨t, ht, et⟩ := u_mod i1 100 (by omega)
  simp only [Int.cast_ofNat_Int] at et
  have h1 : IntKind.i64.wrap (Int.tmod (IntKind.u64.wrap i1) 100) = (t : Int) := by rw [et, IntKind.wrap_i64]; omega
  have hr : ∃ r, Int.tmod i0 9 = r ∧ -9 < r ∧ r < 9 := by
    refine ⟨_, rfl, ?_, ?_⟩
    · have := Int.lt_tmod_of_pos i0 (b := 9) (by omega); omega
    · have := Int.tmod_lt_of_pos i0 (b := 9) (by omega); omega
  obtain ⟨r, h0, hr1, hr2⟩ := hr
  have h17 : r = -8 ∨ r = -7 ∨ r = -6 ∨ r = -5 ∨ r = -4 ∨ r = -3 ∨ r = -2 ∨ r = -1 ∨ r = 0 ∨ r = 1 ∨ r = 2 ∨ r = 3 ∨ r = 4 ∨ r = 5 ∨ r = 6 ∨ r = 7 ∨ r = 8 := by omega
  rcases h17 with rfl | rfl | rfl | rfl | rfl | rfl | rfl | rfl | rfl | rfl | rfl | rfl | rfl | rfl | rfl | rfl | rfl
  · exact one h0 h1 (by omega) (by omega) hv awake_is (put_n8 _) (push_n8 _) (park_n8 _) (wake_n8 _ _) rfl
  · exact one h0 h1 (by omega) (by omega) hv awake_is (put_n7 _) (push_n7 _) (park_n7 _) (wake_n7 _ _) rfl
  · exact one h0 h1 (by omega) (by omega) hv awake_is (put_n6 _) (push_n6 _) (park_n6 _) (wake_n6 _ _) rfl
  · exact one h0 h1 (by omega) (by omega) hv awake_is (put_n5 _) (push_n5 _) (park_n5 _) (wake_n5 _ _) rfl
  · exact one h0 h1 (by omega) (by omega) hv awake_is (put_n4 _) (push_n4 _) (park_n4 _) (wake_n4 _ _) rfl
  · exact one h0 h1 (by omega) (by omega) hv awake_is (put_n3 _) (push_n3 _) (park_n3 _) (wake_n3 _ _) rfl
  · exact one h0 h1 (by omega) (by omega) hv awake_is (put_n2 _) (push_n2 _) (park_n2 _) (wake_n2 _ _) rfl
  · exact one h0 h1 (by omega) (by omega) hv awake_is (put_n1 _) (push_n1 _) (park_n1 _) (wake_n1 _ _) rfl
  · exact one h0 h1 (by omega) (by omega) hv awake_is (put_p0 _) (push_p0 _) (park_p0 _) (wake_p0 _ _) rfl
  · exact one h0 h1 (by omega) (by omega) hv awake_is (put_p1 _) (push_p1 _) (park_p1 _) (wake_p1 _ _) rfl
  · exact one h0 h1 (by omega) (by omega) hv awake_is (put_p2 _) (push_p2 _) (park_p2 _) (wake_p2 _ _) rfl
  · exact one h0 h1 (by omega) (by omega) hv awake_is (put_p3 _) (push_p3 _) (park_p3 _) (wake_p3 _ _) rfl
  · exact one h0 h1 (by omega) (by omega) hv awake_is (put_p4 _) (push_p4 _) (park_p4 _) (wake_p4 _ _) rfl
  · exact one h0 h1 (by omega) (by omega) hv awake_is (put_p5 _) (push_p5 _) (park_p5 _) (wake_p5 _ _) rfl
  · exact one h0 h1 (by omega) (by omega) hv awake_is (put_p6 _) (push_p6 _) (park_p6 _) (wake_p6 _ _) rfl
  · exact one h0 h1 (by omega) (by omega) hv awake_is (put_p7 _) (push_p7 _) (park_p7 _) (wake_p7 _ _) rfl
  · exact one h0 h1 (by omega) (by omega) hv awake_is (put_p8 _) (push_p8 _) (park_p8 _) (wake_p8 _ _) rfl
theorem walk (a0 : Int) (a1 : Int) (a2 : Int) (a3 : Bool) (w0 : (Lit.int .i64 a0).wf = true) (w1 : (Lit.int .i64 a1).wf = true) (w2 : (Lit.int .i64 a2).wf = true) (w : World) :
    Calls Tryz.prog 11 #[.int .i64 a0, .int .i64 a1, .int .i64 a2, .bool a3] w fun e w' => e = .returned (.bool true) ∧ Below w.heap.size w w' := by
  refine (WakeRegs.ok (St.empty w) (pure _ _ _ _ ?_)).mono fun e w' ⟨he, h⟩ => ⟨he, h.old⟩
  have := wd_of_wf w2
  unfold Wd at this
  simp [wdB]; omega

end Go.Proofs.YtaojmbkmicjecaaGreat.wakeRegs
/-
  'WakeRegsSaid' ('dormouselaw14.WakeRegs'): for every input the law returns true, and each argument reads behind the call as it did before.
  Conditions: none beyond the given row's own.
-/
namespace Go.Proofs.YtaojmbkmicjecaaGreat.wakeRegs
open Go.ChangeShapes Go.WideShapes Go.ChangeAt Go.RowKit
set_option linter.unusedVariables false      -- a walk need not use every 'w<i>' (that an integer argument fits its kind)

theorem own : ownKnob Tryz.prog.godebug = none := by kernel_rfl

/-! ### THE ROW's STEP: WRITTEN OUT: LEAVE IT -/
set_option maxRecDepth 100000 in
theorem lifted (os : Os) (started : os.Started) (H : Type) (enc : TypeId × Value → H) :
    ReturnsInHanded {} Tryz.checked os 11 .any (Rows.wakeRegsSpec.pre6 enc Tryz.prog Tryz.f11 Rows.wakeRegsRow.domain false) (Rows.wakeRegsSpec.post enc Tryz.prog Tryz.f11 false true false false) := by
  refine returnsInHanded_of_change (C := Tryz.checked) own started (by kernel_rfl) Tryz.func11
    (ChangeSpec.witness6 (enc := enc) (C := Tryz.checked) false ⟨#[], #[.int .i64 0, .int .i64 0, .int .i64 0, .bool false], []⟩ 8 (by kernel_rfl) (by kernel_rfl) (by kernel_rfl) (by kernel_rfl)) ?_
  intro W base args ds gs before hval0 hW hcnd _
  have hval : ∀ (j : Nat) t v, Tryz.f11.params[j]? = some t → args[j]? = some v → Value.okWide Tryz.prog W .any base t v := hval0
  have hW' := hW
  obtain ⟨p, q, hA0, hV, rfl, hfz, hnd⟩ := hW
  have hA : DataW.TrodAll enc Tryz.prog W 0 (fun _ => true) true Tryz.f11.params.toList args.toList ds p := hA0
  rw [Tryz.params11] at hA hval
  obtain ⟨v0, vs0, d0, ds0, p0, q0, hargs, rfl, rfl, h0, r0⟩ := trodAll_cons hA
  obtain ⟨v1, vs1, d1, ds1, p1, q1, rfl, rfl, rfl, h1, r1⟩ := trodAll_cons r0
  obtain ⟨v2, vs2, d2, ds2, p2, q2, rfl, rfl, rfl, h2, r2⟩ := trodAll_cons r1
  obtain ⟨v3, vs3, d3, ds3, p3, q3, rfl, rfl, rfl, h3, r3⟩ := trodAll_cons r2
  obtain ⟨rfl, rfl, rfl⟩ := trodAll_nil r3
  obtain rfl : args = #[v0, v1, v2, v3] := by cases args; simp_all
  obtain ⟨rfl, rfl⟩ := trodVars_none hV
  obtain ⟨a0, rfl, rfl, rfl, w0⟩ := open_int Tryz.underlying3 (hval 0 3 v0 rfl rfl) h0
  obtain ⟨a1, rfl, rfl, rfl, w1⟩ := open_int Tryz.underlying3 (hval 1 3 v1 rfl rfl) h1
  obtain ⟨a2, rfl, rfl, rfl, w2⟩ := open_int Tryz.underlying3 (hval 2 3 v2 rfl rfl) h2
  obtain ⟨a3, rfl, rfl, rfl⟩ := open_bool Tryz.underlying4 (hval 3 4 v3 rfl rfl) h3
  clear hA0 hval0
  simp only [List.append_nil] at hW'
  refine (walk a0 a1 a2 a3 w0 w1 w2 W).mono fun e W' ⟨he, hg⟩ => ?_
  subst he
  exact ⟨_, rfl, _, _, _, [], [], [], hW', (trodAll_cons_mk (shut_bool Tryz.underlying4 _) trodAll_mk0), (trodAll_cons_mk (shut_int Tryz.underlying3 w0) (trodAll_cons_mk (shut_int Tryz.underlying3 w1) (trodAll_cons_mk (shut_int Tryz.underlying3 w2) (trodAll_cons_mk (shut_bool Tryz.underlying4 _) trodAll_mk0)))), rfl, hg.frame _, fun h => by cases h⟩

theorem over : Rows.wakeRegsRow.holds Tryz.pinned (OpenSpec.ofChange Rows.wakeRegsSpec) :=
  OpenClaim.holds_of_wide 11 Tryz.f11 rfl rfl rfl rfl rfl rfl rfl ⟨rfl, rfl, rfl, rfl, rfl⟩ rfl rfl rfl rfl rfl (by kernel_rfl) Tryz.func11 (by kernel_rfl)
    (of_decide_eq_true (by kernel_rfl)) (by unfold Func.isWrapper; first | (rw [if_pos (by decide +kernel)]; kernel_rfl) | (rw [if_neg (by decide +kernel)]; exact ⟨rfl, rfl⟩))
    (fun os started H enc _ => lifted os started H enc)

/-- ████ THE STATEMENT ████ -/
theorem proved : Rows.WakeRegsSaid :=
  over
#print axioms proved
end Go.Proofs.YtaojmbkmicjecaaGreat.wakeRegs
