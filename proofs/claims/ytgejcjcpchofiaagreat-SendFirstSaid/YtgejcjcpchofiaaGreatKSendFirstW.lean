/- SendFirstW SendFirst -/
import Derived.Test.YtgejcjcpchofiaaGreatKSfL
import Derived.Test.YtgejcjcpchofiaaGreatKSf1
import Derived.Test.YtgejcjcpchofiaaGreatKSf2
import Derived.Test.YtgejcjcpchofiaaGreatKSf3
import Derived.Test.YtgejcjcpchofiaaGreatKGTake
import Derived.Test.YtgejcjcpchofiaaGreatKArg
import Derived.Test.YtgejcjcpchofiaaGreatRows
import Derived.WalkKit
import Derived.WalkSpells
import Derived.WalkLawsBesides
import Derived.ProofKit
import Derived.OpenShut
import Derived.ShutString
import Derived.ChangeOld
import Derived.Below
/-
  The walk of 'dormouselaw15.SendFirst': the call returns true, in a world with at most new blocks.
-/
namespace Go.Proofs.YtgejcjcpchofiaaGreat.sendFirst
open Go.RowKit
set_option linter.unusedVariables false

open sf
theorem l8_same {i i' : Int} (e : Int.tmod (IntKind.u64.wrap i) 6 = Int.tmod (IntKind.u64.wrap i') 6) (k : Nat) (L : List Int) : ∀ f, law15_made.l8 i k L f = law15_made.l8 i' k L f
  | 0 => rfl
  | f + 1 => by
    have ih := l8_same e k L f
    show law15_made.l8b i k L (law15_made.l8 i k L f) = law15_made.l8b i' k L (law15_made.l8 i' k L f)
    rw [ih]
    funext a b c d
    unfold law15_made.l8b
    rw [e]
theorem l5_same {i i' : Int} (e : Int.tmod (IntKind.u64.wrap i) 6 = Int.tmod (IntKind.u64.wrap i') 6) (L0 : List Int) (k : Nat) : ∀ f, law15_made.l5 L0 i k f = law15_made.l5 L0 i' k f
  | 0 => rfl
  | f + 1 => by
    have ih := l5_same e L0 k f
    show law15_made.l5b L0 i k (law15_made.l5 L0 i k f) = law15_made.l5b L0 i' k (law15_made.l5 L0 i' k f)
    rw [ih]
    funext a b c d
    unfold law15_made.l5b law15_made.j6
    rw [l8_same e]
theorem made_same {i i' : Int} (e : Int.tmod (IntKind.u64.wrap i) 6 = Int.tmod (IntKind.u64.wrap i') 6) (k : Nat) (L0 : List Int) : law15_made.m k L0 i = law15_made.m k L0 i' := by
  unfold law15_made.m
  rw [l5_same e]
theorem awake_is : law15_awake.m 100 = some true := by decide +kernel
theorem pure (i0 i1 : Int) (K : List Int) (hK : AllW K) : SendFirst.m 100 i0 i1 K = some true := by
  obtain ⟨c, hc, ec⟩ := u_mod i0 4 (by omega)
  obtain ⟨n, hn, en⟩ := u_mod i1 6 (by omega)
  have e2 := u_same n 6 hn (by omega)
  simp only [Int.cast_ofNat_Int] at ec en e2
  have hm : ∀ L, law15_made.m 100 L i1 = law15_made.m 100 L (n : Int) := fun L => made_same (en.trans e2.symm) 100 L
  have hw : IntKind.i64.wrap (Int.tmod (IntKind.u64.wrap i0) 4) = (c : Int) := by rw [ec, IntKind.wrap_i64]; omega
  refine fin hK (by omega) hn ?_ awake_is hw hm
  have hc4 : c = 0 ∨ c = 1 ∨ c = 2 ∨ c = 3 := by omega
  have hn6 : n = 0 ∨ n = 1 ∨ n = 2 ∨ n = 3 ∨ n = 4 ∨ n = 5 := by omega
  rcases hc4 with rfl | rfl | rfl | rfl <;> rcases hn6 with rfl | rfl | rfl | rfl | rfl | rfl
  · exact F01 _
  · exact F02 _
  · exact F03 _
  · exact F04 _
  · exact F05 _
  · exact F06 _
  · exact F11 _
  · exact F12 _
  · exact F13 _
  · exact F14 _
  · exact F15 _
  · exact F16 _
  · exact F21 _
  · exact F22 _
  · exact F23 _
  · exact F24 _
  · exact F25 _
  · exact F26 _
  · exact F31 _
  · exact F32 _
  · exact F33 _
  · exact F34 _
  · exact F35 _
  · exact F36 _
theorem walk (a0 : Int) (a1 : Int) (a2 : Option Addr) (len2 cap2 : Nat) (z2 : List Int) (w : World) (w0 : (Lit.int .i64 a0).wf = true) (w1 : (Lit.int .i64 a1).wf = true) (w2 : IsRow .i64 w a2 len2 cap2 z2) :
    Calls Tryz.prog 8 #[.int .i64 a0, .int .i64 a1, .slice a2 len2 cap2] w fun e w' => e = .returned (.bool true) ∧ Below w.heap.size w w' := by
  obtain ⟨L, e, hA⟩ := argInts_len w2
  subst e
  refine (SendFirst.ok hA (St.empty w) (pure _ _ L (fun x hx => ?_))).mono fun e w' ⟨he, h⟩ => ⟨he, h.old⟩
  have := hA.1 x hx
  unfold Wd at this
  simp [wdB]; omega

end Go.Proofs.YtgejcjcpchofiaaGreat.sendFirst
/-
  'SendFirstSaid' ('dormouselaw15.SendFirst'): for every input the law returns true, and each argument reads behind the call as it did before.
  Conditions: none beyond the given row's own.
-/
namespace Go.Proofs.YtgejcjcpchofiaaGreat.sendFirst
open Go.ChangeShapes Go.WideShapes Go.ChangeAt Go.RowKit
open Go.ChangeMaps (open_string shut_string)
set_option linter.unusedVariables false

theorem own : ownKnob Tryz.prog.godebug = none := by kernel_rfl
theorem laidOut : laidOutB Tryz.prog = true := by kernel_rfl

/-! ### THE ROW's STEP: WRITTEN OUT: LEAVE IT -/
set_option maxRecDepth 100000 in
theorem lifted (os : Os) (started : os.Started) (H : Type) (enc : TypeId × Value → H) :
    ReturnsInHanded {} Tryz.checked os 8 .any (Rows.sendFirstSpec.pre6 enc Tryz.prog Tryz.f8 Rows.sendFirstRow.domain false) (Rows.sendFirstSpec.post enc Tryz.prog Tryz.f8 false true false false) := by
  refine returnsInHanded_of_change (C := Tryz.checked) own started (by kernel_rfl) Tryz.func8
    (ChangeSpec.witness6 (enc := enc) (C := Tryz.checked) false ⟨#[], #[.int .i64 0, .int .i64 0, .slice none 0 0], []⟩ 8 (by kernel_rfl) (by kernel_rfl) (by kernel_rfl) (by kernel_rfl)) ?_
  intro W base args ds gs before hval0 hW hcnd _
  have hval : ∀ (j : Nat) t v, Tryz.f8.params[j]? = some t → args[j]? = some v → Value.okWide Tryz.prog W .any base t v := hval0
  have hW' := hW
  obtain ⟨p, q, hA0, hV, rfl, hfz, hnd⟩ := hW
  have hA : DataW.TrodAll enc Tryz.prog W 0 (fun _ => true) true Tryz.f8.params.toList args.toList ds p := hA0
  rw [Tryz.params8] at hA hval
  obtain ⟨v0, vs0, d0, ds0, p0, q0, hargs, rfl, rfl, h0, r0⟩ := trodAll_cons hA
  obtain ⟨v1, vs1, d1, ds1, p1, q1, rfl, rfl, rfl, h1, r1⟩ := trodAll_cons r0
  obtain ⟨v2, vs2, d2, ds2, p2, q2, rfl, rfl, rfl, h2, r2⟩ := trodAll_cons r1
  obtain ⟨rfl, rfl, rfl⟩ := trodAll_nil r2
  obtain rfl : args = #[v0, v1, v2] := by cases args; simp_all
  obtain ⟨rfl, rfl⟩ := trodVars_none hV
  obtain ⟨a0, rfl, rfl, rfl, w0⟩ := open_int Tryz.underlying3 (hval 0 3 v0 rfl rfl) h0
  obtain ⟨a1, rfl, rfl, rfl, w1⟩ := open_int Tryz.underlying3 (hval 1 3 v1 rfl rfl) h1
  obtain ⟨a2, len2, cap2, rfl⟩ := okWide_slice Tryz.underlying24 (hval 2 24 v2 rfl rfl)
  have k2 := h2
  have lt2 : ∀ x ∈ p2, x.block < W.heap.size := by obtain ⟨m, hm⟩ := k2; exact DataW.trod_lt m _ _ _ hm
  obtain ⟨z2, w2⟩ : ∃ zs, IsRow .i64 W a2 len2 cap2 zs := by
    obtain ⟨fuel, hf⟩ := h2
    rcases open_ints Tryz.underlying24 Tryz.underlying3 (by kernel_rfl) hf with ⟨hcs, _⟩ | ⟨x, l, c, zs, hcs, _, hl, hm, hz, _, hcell, hwz⟩
    · simp [Value.cells] at hcs
      obtain ⟨rfl, rfl, rfl⟩ := hcs
      exact ⟨[], .inl ⟨rfl, rfl, rfl, rfl⟩⟩
    · simp [Value.cells] at hcs
      obtain ⟨rfl, rfl, rfl⟩ := hcs
      exact ⟨zs, .inr ⟨_, rfl, hl, hm, by simpa using hz, hcell, hwz⟩⟩
  clear hA0 hval0
  refine (walk a0 a1 a2 len2 cap2 z2 W w0 w1 w2).mono fun e W' ⟨he, bel⟩ => ?_
  subst he
  exact ⟨_, rfl, _, _, _, [], _, [], hW', trodAll_mk1 (shut_bool Tryz.underlying4 _), (trodAll_cons_mk (shut_int Tryz.underlying3 w0) (trodAll_cons_mk (shut_int Tryz.underlying3 w1) (trodAll_cons_mk (Below.trod laidOut (by kernel_rfl) (of_decide_eq_true (by kernel_rfl)) k2 bel lt2) trodAll_mk0))), rfl, bel.frame _, fun h => by cases h⟩

theorem over : Rows.sendFirstRow.holds Tryz.pinned (OpenSpec.ofChange Rows.sendFirstSpec) :=
  OpenClaim.holds_of_wide 8 Tryz.f8 rfl rfl rfl rfl rfl rfl rfl ⟨rfl, rfl, rfl, rfl, rfl⟩ rfl rfl rfl rfl rfl (by kernel_rfl) Tryz.func8 (by kernel_rfl)
    (of_decide_eq_true (by kernel_rfl)) (by unfold Func.isWrapper; first | (rw [if_pos (by decide +kernel)]; kernel_rfl) | (rw [if_neg (by decide +kernel)]; exact ⟨rfl, rfl⟩))
    (fun os started H enc _ => lifted os started H enc)

/-- ████ THE STATEMENT ████ -/
theorem proved : Rows.SendFirstSaid := over
#print axioms proved
end Go.Proofs.YtgejcjcpchofiaaGreat.sendFirst
