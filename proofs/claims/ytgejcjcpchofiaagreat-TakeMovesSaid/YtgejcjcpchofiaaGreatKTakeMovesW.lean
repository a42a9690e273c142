/- TakeMovesW TakeMoves -/
import Derived.Test.YtgejcjcpchofiaaGreatKTm
import Derived.Test.YtgejcjcpchofiaaGreatKView2N
import Derived.Test.YtgejcjcpchofiaaGreatKArg
import Derived.Test.YtgejcjcpchofiaaGreatRows
import Derived.WalkKit
import Derived.WalkSpells
import Derived.WalkLawsBesides
import Derived.ProofKit
import Derived.OpenShut
import Derived.ShutString
import Derived.ChangeOld
import Derived.Below
/-
  The walk of 'dormouselaw16.TakeMoves': the call returns true, in a world with at most new blocks.
-/
namespace Go.Proofs.YtgejcjcpchofiaaGreat.takeMoves
open Go.RowKit
set_option linter.unusedVariables false

open tm
theorem awake_is : law16_awake.m 100 = some true := by decide +kernel
theorem fin {K : List Int} {c i0 : Int} {s u : HSt} (hc : IntKind.i64.wrap (1 + (IntKind.i64.wrap (Int.tmod (IntKind.u64.wrap i0) 3))) = c) (hm : law16_made.m 100 [c] 0 = some (s, u, [0], [16])) (hl : 5 ≤ K.length → TakeMoves.l2 K 100 c [0] [16] 100 s u 0 = some true) : TakeMoves.m 100 i0 K = some true := by
  unfold TakeMoves.m
  rw [hc, bind1_some, hm, bind4_some, awake_is, bind1_some, if_neg (by decide)]
  unfold TakeMoves.j1
  by_cases h : (K.length : Int) < 5
  · rw [if_pos (by simpa using h), awake_is]; rfl
  · rw [if_neg (by simpa using h)]; exact hl (by omega)
theorem pure (i0 : Int) (K : List Int) (hK : AllW K) : TakeMoves.m 100 i0 K = some true := by
  obtain ⟨c, hc, ec⟩ := u_mod i0 3 (by omega)
  simp only [Int.cast_ofNat_Int] at ec
  have hw : IntKind.i64.wrap (1 + (IntKind.i64.wrap (Int.tmod (IntKind.u64.wrap i0) 3))) = ((c + 1 : Nat) : Int) := by rw [ec, IntKind.wrap_i64, IntKind.wrap_i64]; omega
  have hc3 : c = 0 ∨ c = 1 ∨ c = 2 := by omega
  rcases hc3 with rfl | rfl | rfl
  · exact fin hw (m1 (atI K 0) (atI K 1)) (c1 hK)
  · exact fin hw (m2 (atI K 0) (atI K 1) (atI K 2)) (c2 hK)
  · exact fin hw (m3 (atI K 0) (atI K 1) (atI K 2) (atI K 3)) (c3 hK)
theorem walk (a0 : Int) (a1 : Option Addr) (len1 cap1 : Nat) (z1 : List Int) (w : World) (w0 : (Lit.int .i64 a0).wf = true) (w1 : IsRow .i64 w a1 len1 cap1 z1) :
    Calls Tryz.prog 12 #[.int .i64 a0, .slice a1 len1 cap1] w fun e w' => e = .returned (.bool true) ∧ Below w.heap.size w w' := by
  obtain ⟨L, e, hA⟩ := argInts_len w1
  subst e
  refine (TakeMoves.ok hA (St.empty w) (pure _ L (fun x hx => ?_))).mono fun e w' ⟨he, h⟩ => ⟨he, h.old⟩
  have := hA.1 x hx
  unfold Wd at this
  simp [wdB]; omega

end Go.Proofs.YtgejcjcpchofiaaGreat.takeMoves
/-
  'TakeMovesSaid' ('dormouselaw16.TakeMoves'): for every input the law returns true, and each argument reads behind the call as it did before.
  Conditions: none beyond the given row's own.
-/
namespace Go.Proofs.YtgejcjcpchofiaaGreat.takeMoves
open Go.ChangeShapes Go.WideShapes Go.ChangeAt Go.RowKit
open Go.ChangeMaps (open_string shut_string)
set_option linter.unusedVariables false

theorem own : ownKnob Tryz.prog.godebug = none := by kernel_rfl
theorem laidOut : laidOutB Tryz.prog = true := by kernel_rfl

/-! ### THE ROW's STEP: WRITTEN OUT: LEAVE IT -/
set_option maxRecDepth 100000 in
theorem lifted (os : Os) (started : os.Started) (H : Type) (enc : TypeId × Value → H) :
    ReturnsInHanded {} Tryz.checked os 12 .any (Rows.takeMovesSpec.pre6 enc Tryz.prog Tryz.f12 Rows.takeMovesRow.domain false) (Rows.takeMovesSpec.post enc Tryz.prog Tryz.f12 false true false false) := by
  refine returnsInHanded_of_change (C := Tryz.checked) own started (by kernel_rfl) Tryz.func12
    (ChangeSpec.witness6 (enc := enc) (C := Tryz.checked) false ⟨#[], #[.int .i64 0, .slice none 0 0], []⟩ 8 (by kernel_rfl) (by kernel_rfl) (by kernel_rfl) (by kernel_rfl)) ?_
  intro W base args ds gs before hval0 hW hcnd _
  have hval : ∀ (j : Nat) t v, Tryz.f12.params[j]? = some t → args[j]? = some v → Value.okWide Tryz.prog W .any base t v := hval0
  have hW' := hW
  obtain ⟨p, q, hA0, hV, rfl, hfz, hnd⟩ := hW
  have hA : DataW.TrodAll enc Tryz.prog W 0 (fun _ => true) true Tryz.f12.params.toList args.toList ds p := hA0
  rw [Tryz.params12] at hA hval
  obtain ⟨v0, vs0, d0, ds0, p0, q0, hargs, rfl, rfl, h0, r0⟩ := trodAll_cons hA
  obtain ⟨v1, vs1, d1, ds1, p1, q1, rfl, rfl, rfl, h1, r1⟩ := trodAll_cons r0
  obtain ⟨rfl, rfl, rfl⟩ := trodAll_nil r1
  obtain rfl : args = #[v0, v1] := by cases args; simp_all
  obtain ⟨rfl, rfl⟩ := trodVars_none hV
  obtain ⟨a0, rfl, rfl, rfl, w0⟩ := open_int Tryz.underlying3 (hval 0 3 v0 rfl rfl) h0
  obtain ⟨a1, len1, cap1, rfl⟩ := okWide_slice Tryz.underlying24 (hval 1 24 v1 rfl rfl)
  have k1 := h1
  have lt1 : ∀ x ∈ p1, x.block < W.heap.size := by obtain ⟨m, hm⟩ := k1; exact DataW.trod_lt m _ _ _ hm
  obtain ⟨z1, w1⟩ : ∃ zs, IsRow .i64 W a1 len1 cap1 zs := by
    obtain ⟨fuel, hf⟩ := h1
    rcases open_ints Tryz.underlying24 Tryz.underlying3 (by kernel_rfl) hf with ⟨hcs, _⟩ | ⟨x, l, c, zs, hcs, _, hl, hm, hz, _, hcell, hwz⟩
    · simp [Value.cells] at hcs
      obtain ⟨rfl, rfl, rfl⟩ := hcs
      exact ⟨[], .inl ⟨rfl, rfl, rfl, rfl⟩⟩
    · simp [Value.cells] at hcs
      obtain ⟨rfl, rfl, rfl⟩ := hcs
      exact ⟨zs, .inr ⟨_, rfl, hl, hm, by simpa using hz, hcell, hwz⟩⟩
  clear hA0 hval0
  refine (walk a0 a1 len1 cap1 z1 W w0 w1).mono fun e W' ⟨he, bel⟩ => ?_
  subst he
  exact ⟨_, rfl, _, _, _, [], _, [], hW', trodAll_mk1 (shut_bool Tryz.underlying4 _), (trodAll_cons_mk (shut_int Tryz.underlying3 w0) (trodAll_cons_mk (Below.trod laidOut (by kernel_rfl) (of_decide_eq_true (by kernel_rfl)) k1 bel lt1) trodAll_mk0)), rfl, bel.frame _, fun h => by cases h⟩

theorem over : Rows.takeMovesRow.holds Tryz.pinned (OpenSpec.ofChange Rows.takeMovesSpec) :=
  OpenClaim.holds_of_wide 12 Tryz.f12 rfl rfl rfl rfl rfl rfl rfl ⟨rfl, rfl, rfl, rfl, rfl⟩ rfl rfl rfl rfl rfl (by kernel_rfl) Tryz.func12 (by kernel_rfl)
    (of_decide_eq_true (by kernel_rfl)) (by unfold Func.isWrapper; first | (rw [if_pos (by decide +kernel)]; kernel_rfl) | (rw [if_neg (by decide +kernel)]; exact ⟨rfl, rfl⟩))
    (fun os started H enc _ => lifted os started H enc)

/-- ████ THE STATEMENT ████ -/
theorem proved : Rows.TakeMovesSaid := over
#print axioms proved
end Go.Proofs.YtgejcjcpchofiaaGreat.takeMoves
