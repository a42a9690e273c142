/- HeapPlaysW HeapPlays -/
import Derived.Test.YtffnjpapggidlaaGreatKG09p
import Derived.Test.YtffnjpapggidlaaGreatKPlays09
import Derived.Test.YtffnjpapggidlaaGreatKArg
import Derived.Test.YtffnjpapggidlaaGreatRows
import Derived.WalkKit
import Derived.WalkSpells
import Derived.WalkLawsBesides
import Derived.ProofKit
import Derived.OpenShut
import Derived.ShutString
import Derived.ChangeOld
import Derived.Below
/-
  The walk of 'dormouselaw09.HeapPlays': the call returns true, in a world with at most new blocks.
-/
namespace Go.Proofs.YtffnjpapggidlaaGreat.heapPlays
open Go.RowKit
set_option linter.unusedVariables false

theorem awakeT : law09_awake.m 5000 = some true := by decide +kernel
theorem at_w {K : List Op09} (hw : ∀ o ∈ K, Wd o.w) {i : Nat} (hi : i < K.length) : Wd (atX kOp09 K (i : Int)).w := by
  unfold atX
  rw [List.getD_eq_getElem?_getD, Int.toNat_natCast, List.getElem?_eq_getElem hi]
  exact hw _ (List.getElem_mem hi)
theorem new_y (i0 : Int) : ∃ n : Nat, 2 ≤ n ∧ n ≤ 6 ∧ IntKind.i64.wrap (2 + (IntKind.i64.wrap (Int.tmod (IntKind.u64.wrap i0) 5))) = (n : Int) ∧ pNew (n : Int) = some (hNew n) ∧ prNew (n : Int) = some (hNew n) := by
  obtain ⟨c, hc, ec⟩ := u_mod i0 5 (by omega)
  simp only [Int.cast_ofNat_Int] at ec
  rw [ec, wr_t (c : Int) (by omega) (by omega), wr_t (2 + (c : Int)) (by omega) (by omega)]
  refine ⟨2 + c, by omega, by omega, by omega, ?_, ?_⟩
  · unfold pNew; rw [if_pos (by omega), Int.toNat_natCast]
  · unfold prNew; rw [if_pos (by omega), Int.toNat_natCast]
theorem all_l6 {K : List Op09} (hw : ∀ o ∈ K, Wd o.w) {k : Nat} (hk : 5000 ≤ k) : ∀ (m i : Nat) (s : HSt), BI s → i ≤ 100 → 100 - i < m → HeapPlays.l6 K k m s s (i : Int) = some true := by
  intro m
  induction m with
  | zero => intro i _ _ _ h; omega
  | succ m ih =>
    intro i s ok hi hm
    show HeapPlays.l6b K k (HeapPlays.l6 K k m) s s (i : Int) = _
    unfold HeapPlays.l6b
    have stop : HeapPlays.j7 K k s s (i : Int) (HeapPlays.l6 K k m) false = some true := by unfold HeapPlays.j7; rw [if_neg Bool.false_ne_true]
    by_cases h1 : i < K.length
    · rw [if_pos (lt_yes h1)]
      by_cases h2 : i < 100
      · rw [show decide ((i : Int) < 100) = true by rw [decide_eq_true_eq]; omega]
        unfold HeapPlays.j7
        obtain ⟨s', e, b, _⟩ := play09_m ok (atX kOp09 K (i : Int)) (at_w hw h1) hk
        have e' : law09_play.m k s s (⟨(atX kOp09 K (i : Int)).kind, (atX kOp09 K (i : Int)).of, (atX kOp09 K (i : Int)).at', (atX kOp09 K (i : Int)).i, (atX kOp09 K (i : Int)).w, (atX kOp09 K (i : Int)).to⟩ : Op09) = some (true, s', s') := e
        rw [if_pos rfl, if_pos (inR_n h1), e', bind3_y, if_neg (by simp), alike09_m b.ok hk, bind3_y]
        unfold HeapPlays.j8
        rw [if_neg (by simp), wr_t _ (by omega) (by omega)]
        exact ih (i + 1) s' b (by omega) (by omega)
      · rw [show decide ((i : Int) < 100) = false by rw [decide_eq_false_iff_not]; omega]
        exact stop
    · rw [if_neg (lt_no h1)]
      exact stop
theorem pureK {k : Nat} (hk : 5000 ≤ k) (ha : law09_awake.m k = some true) (i0 : Int) (K : List Op09) (hw : ∀ o ∈ K, Wd o.w) : HeapPlays.m k i0 K = some true := by
  obtain ⟨n, h2, h6, e1, e2, e3⟩ := new_y i0
  unfold HeapPlays.m
  rw [bind1_y, e1, e2, bind1_y, e3, bind1_y, ha, bind1_y, if_neg (by simp)]
  unfold HeapPlays.j1
  rw [if_neg Bool.false_ne_true]
  exact all_l6 hw hk k 0 (hNew n) (BE.new n (by omega) (by omega)) (by omega) (by omega)
theorem pure (i0 : Int) (K : List Op09) (hw : ∀ o ∈ K, Wd o.w) : HeapPlays.m 5000 i0 K = some true := pureK (Nat.le_refl _) awakeT i0 K hw
theorem walk (a0 : Int) (a1 : Option Addr) (len1 cap1 : Nat) (f1 : Nat → Nat → Int) (w : World) (w0 : (Lit.int .i64 a0).wf = true) (w1 : ArgOps w (.slice a1 len1 cap1) 6 len1 f1) :
    Calls Tryz.prog 6 #[.int .i64 a0, .slice a1 len1 cap1] w fun e w' => e = .returned (.bool true) ∧ Below w.heap.size w w' := by
  obtain ⟨hA, hwd⟩ := argX_of kOp09 (fun f => ⟨f 0, f 1, f 2, f 3, f 4, f 5⟩) (fun f => rfl) w1
  obtain ⟨K1, e1, h1, hw⟩ : ∃ K1 : List Op09, K1.length = len1 ∧ ArgX kOp09 w (.slice a1 len1 cap1) K1 ∧ ∀ o ∈ K1, Wd o.w := ⟨_, by simp, hA, fun o ho => by
    simp only [List.mem_map, List.mem_range] at ho
    obtain ⟨i, hi, rfl⟩ := ho
    exact hwd i hi 4 (by decide)⟩
  subst e1
  exact (HeapPlays.ok h1 (St.empty w) (pure a0 K1 hw)).mono fun e w' ⟨he, h⟩ => ⟨he, h.old⟩

end Go.Proofs.YtffnjpapggidlaaGreat.heapPlays
/-
  'HeapPlaysSaid' ('dormouselaw09.HeapPlays'): for every input the law returns true, and each argument reads behind the call as it did before.
  Conditions: none beyond the given row's own.
-/
namespace Go.Proofs.YtffnjpapggidlaaGreat.heapPlays
open Go.ChangeShapes Go.WideShapes Go.ChangeAt Go.RowKit
set_option linter.unusedVariables false

theorem own : ownKnob Tryz.prog.godebug = none := by kernel_rfl
theorem laidOut : laidOutB Tryz.prog = true := by kernel_rfl

/-! ### THE ROW -/
set_option maxRecDepth 100000 in
theorem lifted (os : Os) (started : os.Started) (H : Type) (enc : TypeId × Value → H) :
    ReturnsInHanded {} Tryz.checked os 6 .any (Rows.heapPlaysSpec.pre6 enc Tryz.prog Tryz.f6 Rows.heapPlaysRow.domain false) (Rows.heapPlaysSpec.post enc Tryz.prog Tryz.f6 false true false false) := by
  refine returnsInHanded_of_change (C := Tryz.checked) own started (by kernel_rfl) Tryz.func6
    (ChangeSpec.witness6 (enc := enc) (C := Tryz.checked) false ⟨#[], #[.int .i64 0, .slice none 0 0], []⟩ 8 (by kernel_rfl) (by kernel_rfl) (by kernel_rfl) (by kernel_rfl)) ?_
  intro W base args ds gs before hval0 hW hcnd _
  have hval : ∀ (j : Nat) t v, Tryz.f6.params[j]? = some t → args[j]? = some v → Value.okWide Tryz.prog W .any base t v := hval0
  have hW' := hW
  obtain ⟨p, q, hA0, hV, rfl, hfz, hnd⟩ := hW
  have hA : DataW.TrodAll enc Tryz.prog W 0 (fun _ => true) true Tryz.f6.params.toList args.toList ds p := hA0
  rw [Tryz.params6] at hA hval
  obtain ⟨v0, vs0, d0, ds0, p0, q0, hargs, rfl, rfl, h0, r0⟩ := trodAll_cons hA
  obtain ⟨v1, vs1, d1, ds1, p1, q1, rfl, rfl, rfl, h1, r1⟩ := trodAll_cons r0
  obtain ⟨rfl, rfl, rfl⟩ := trodAll_nil r1
  obtain rfl : args = #[v0, v1] := by cases args; simp_all
  obtain ⟨rfl, rfl⟩ := trodVars_none hV
  obtain ⟨a0, rfl, rfl, rfl, w0⟩ := open_int Tryz.underlying3 (hval 0 3 v0 rfl rfl) h0
  obtain ⟨a1, len1, cap1, rfl⟩ := okWide_slice Tryz.underlying58 (hval 1 58 v1 rfl rfl)
  have k1 := h1
  have lt1 : ∀ x ∈ p1, x.block < W.heap.size := by obtain ⟨m, hm⟩ := k1; exact DataW.trod_lt m _ _ _ hm
  obtain ⟨f1, w1⟩ : ∃ f, ArgOps W (.slice a1 len1 cap1) 6 len1 f := by
    obtain ⟨fuel, hf⟩ := h1
    exact ops_open Tryz.underlying58 Tryz.underlying66 (by kernel_rfl) (by kernel_rfl) (by intro j f hj; match j, hj with | 0, hj => (cases hj; exact Tryz.underlying3) | 1, hj => (cases hj; exact Tryz.underlying3) | 2, hj => (cases hj; exact Tryz.underlying3) | 3, hj => (cases hj; exact Tryz.underlying3) | 4, hj => (cases hj; exact Tryz.underlying3) | 5, hj => (cases hj; exact Tryz.underlying3) | (n + 6), hj => cases hj) (by decide) hf
  clear hA0 hval0
  refine (walk a0 a1 len1 cap1 f1 W w0 w1).mono fun e W' ⟨he, bel⟩ => ?_
  subst he
  exact ⟨_, rfl, _, _, _, [], _, [], hW', trodAll_mk1 (shut_bool Tryz.underlying4 _), (trodAll_cons_mk (shut_int Tryz.underlying3 w0) (trodAll_cons_mk (Below.trod laidOut (by kernel_rfl) (of_decide_eq_true (by kernel_rfl)) k1 bel lt1) trodAll_mk0)), rfl, bel.frame _, fun h => by cases h⟩

theorem over : Rows.heapPlaysRow.holds Tryz.pinned (OpenSpec.ofChange Rows.heapPlaysSpec) :=
  OpenClaim.holds_of_wide 6 Tryz.f6 rfl rfl rfl rfl rfl rfl rfl ⟨rfl, rfl, rfl, rfl, rfl⟩ rfl rfl rfl rfl rfl (by kernel_rfl) Tryz.func6 (by kernel_rfl)
    (of_decide_eq_true (by kernel_rfl)) (by unfold Func.isWrapper; first | (rw [if_pos (by decide +kernel)]; kernel_rfl) | (rw [if_neg (by decide +kernel)]; exact ⟨rfl, rfl⟩))
    (fun os started H enc _ => lifted os started H enc)

/-- THE STATEMENT -/
theorem proved : Rows.HeapPlaysSaid := over
#print axioms proved
end Go.Proofs.YtffnjpapggidlaaGreat.heapPlays
