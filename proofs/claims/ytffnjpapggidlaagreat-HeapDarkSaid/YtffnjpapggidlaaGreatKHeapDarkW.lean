/- HeapDarkW HeapDark -/
import Derived.Test.YtffnjpapggidlaaGreatKG09p
import Derived.Test.YtffnjpapggidlaaGreatKPlays09
import Derived.Test.YtffnjpapggidlaaGreatKArg
import Derived.Test.YtffnjpapggidlaaGreatRows
import Derived.WalkKit
import Derived.WalkSpells
import Derived.WalkLawsBesides
import Derived.ProofKit
import Derived.OpenShut
import Derived.ShutString
import Derived.ChangeOld
import Derived.Below
/-
  The walk of 'dormouselaw09.HeapDark': the call returns true, in a world with at most new blocks.
-/
namespace Go.Proofs.YtffnjpapggidlaaGreat.heapDark
open Go.RowKit
set_option linter.unusedVariables false

theorem awakeT : law09_awake.m 5000 = some true := by decide +kernel
theorem at_w {K : List Op09} (hw : ∀ o ∈ K, Wd o.w) {i : Nat} (hi : i < K.length) : Wd (atX kOp09 K (i : Int)).w := by
  unfold atX
  rw [List.getD_eq_getElem?_getD, Int.toNat_natCast, List.getElem?_eq_getElem hi]
  exact hw _ (List.getElem_mem hi)
theorem new_y (i0 : Int) : ∃ n : Nat, 2 ≤ n ∧ n ≤ 6 ∧ IntKind.i64.wrap (2 + (IntKind.i64.wrap (Int.tmod (IntKind.u64.wrap i0) 5))) = (n : Int) ∧ pNew (n : Int) = some (hNew n) ∧ prNew (n : Int) = some (hNew n) := by
  obtain ⟨c, hc, ec⟩ := u_mod i0 5 (by omega)
  simp only [Int.cast_ofNat_Int] at ec
  rw [ec, wr_t (c : Int) (by omega) (by omega), wr_t (2 + (c : Int)) (by omega) (by omega)]
  refine ⟨2 + c, by omega, by omega, by omega, ?_, ?_⟩
  · unfold pNew; rw [if_pos (by omega), Int.toNat_natCast]
  · unfold prNew; rw [if_pos (by omega), Int.toNat_natCast]
theorem in_l55 {s : HSt} (ok : BI s) (h1 : s.ph = 1) {i : Nat} (hi : i < (hObjsF s.a).length) {R : Int → Option Bool} : ∀ (m j : Nat), (j : Int) ≤ aLen s.a.c (hObjsF s.a)[i] → (aLen s.a.c (hObjsF s.a)[i]).toNat - j < m → HeapDark.l55 s (i : Int) R m (j : Int) = R (IntKind.i64.wrap ((i : Int) + 1)) := by
  have hb := alen_bd ok.ok.a (hObjsF s.a)[i]
  obtain ⟨o1, o2, o3, o4⟩ := objs_in ok.ok (List.getElem_mem hi)
  intro m
  induction m with
  | zero => intro j _ h; omega
  | succ m ih =>
    intro j hj hm
    show HeapDark.l55b s (i : Int) R (HeapDark.l55 s (i : Int) R m) (j : Int) = _
    unfold HeapDark.l55b
    rw [if_pos (inR_n hi), atI_n hi]
    by_cases hlt : (j : Int) < aLen s.a.c (hObjsF s.a)[i]
    · have next := ih (j + 1) (by omega) (by omega)
      have hjl : j < (aWords s.a (hObjsF s.a)[i]).length := by rw [aWords_len]; omega
      obtain ⟨_, ew⟩ := word_at hjl
      have hwd := aWords_wd ok.ok.wd _ _ (List.getElem_mem hjl)
      have hmem := List.getElem_mem hjl
      rw [if_pos (by rw [decide_eq_true_eq]; exact hlt)]
      unfold pLoad
      rw [bind2_y, ew]
      unfold HeapDark.j56
      rw [wr_t ((j : Int) + 1) (by omega) (by omega)]
      generalize (aWords s.a (hObjsF s.a)[i])[j] = v at *
      unfold pAt
      rw [if_pos (wd_yes hwd), bind1_y, pColour_y (by unfold Wd; omega), bind1_y]
      have hc : hColour s (hObjsF s.a)[i] = s.col (hObjsF s.a)[i] := by unfold hColour; rw [if_pos o1]
      rw [hc]
      by_cases hb2 : s.col (hObjsF s.a)[i] = 2
      · rw [if_pos (by simpa using hb2)]
        by_cases hv : vIsPtr v = true
        · rw [if_pos hv]
          by_cases hk : aKind s.a.c (vAt v) = 0
          · rw [if_neg (by simpa using hk), if_neg Bool.false_ne_true]; exact next
          · have hobj : isObj s.a (vAt v) = true := by rw [isObj_kind ok.ok.a]; simpa using hk
            have := ok.dark h1 _ (vAt v) o1 hb2 (mem_succs.2 ⟨v, hmem, hv, rfl⟩) hobj
            have hcv : hColour s (vAt v) = s.col (vAt v) := by unfold hColour; rw [if_pos hobj]
            rw [if_pos (by simpa using hk), pColour_y (vAt_wd hwd), bind1_y, hcv, if_neg (by simpa using this)]
            exact next
        · rw [if_neg hv, if_neg Bool.false_ne_true]; exact next
      · rw [if_neg (by simpa using hb2), if_neg Bool.false_ne_true]; exact next
    · rw [if_neg (by rw [decide_eq_true_eq]; exact hlt)]
theorem in_l51 {s : HSt} (ok : BI s) {k : Nat} (hk : 5000 ≤ k) {x61 : Int} {R : HSt → HSt → Int → Option Bool} : ∀ (m i : Nat), i ≤ (hObjsF s.a).length → (hObjsF s.a).length - i < m → HeapDark.l51 k x61 R s s m (i : Int) = R s s (IntKind.i64.wrap (x61 + 1)) := by
  have hn := objs_n ok.ok
  intro m
  induction m with
  | zero => intro i _ h; omega
  | succ m ih =>
    intro i hi hm
    show HeapDark.l51b k x61 R s s (HeapDark.l51 k x61 R s s m) (i : Int) = _
    unfold HeapDark.l51b HeapDark.j52
    by_cases hlt : i < (hObjsF s.a).length
    · rw [if_pos (lt_yes hlt)]
      by_cases h1 : s.ph = 1
      · have hb := alen_bd ok.ok.a (hObjsF s.a)[i]
        rw [if_pos (by simpa using h1)]
        have := in_l55 ok h1 hlt (R := HeapDark.l51 k x61 R s s m) k 0 (by omega) (by omega)
        rw [show ((0 : Int)) = ((0 : Nat) : Int) from rfl, this, wr_t _ (by omega) (by omega)]
        exact ih (i + 1) (by omega) (by omega)
      · rw [if_neg (by simpa using h1)]
    · rw [if_neg (lt_no hlt), if_neg Bool.false_ne_true]
theorem all_l38 {K : List Op09} (hw : ∀ o ∈ K, Wd o.w) {k : Nat} (hk : 5000 ≤ k) : ∀ (m i : Nat) (s : HSt), BI s → i ≤ 100 → 100 - i < m → HeapDark.l38 K k m s s (i : Int) = some true := by
  intro m
  induction m with
  | zero => intro i _ _ _ h; omega
  | succ m ih =>
    intro i s ok hi hm
    show HeapDark.l38b K k (HeapDark.l38 K k m) s s (i : Int) = _
    unfold HeapDark.l38b
    have stop : HeapDark.j39 K k s s (i : Int) (HeapDark.l38 K k m) false = some true := by unfold HeapDark.j39; rw [if_neg Bool.false_ne_true]
    by_cases h1 : i < K.length
    · rw [if_pos (lt_yes h1)]
      by_cases h2 : i < 100
      · rw [show decide ((i : Int) < 100) = true by rw [decide_eq_true_eq]; omega]
        have go : ∀ z : Int, HeapDark.j40 K k s s (i : Int) (HeapDark.l38 K k m) z = some true := by
          intro z
          unfold HeapDark.j40
          obtain ⟨s', e, b, _⟩ := play09_m ok (⟨z, (atX kOp09 K (i : Int)).of, (atX kOp09 K (i : Int)).at', (atX kOp09 K (i : Int)).i, (atX kOp09 K (i : Int)).w, (atX kOp09 K (i : Int)).to⟩ : Op09) (at_w hw h1) hk
          rw [e, bind3_y, if_neg (by simp)]
          have := in_l51 b hk (x61 := (i : Int)) (R := HeapDark.l38 K k m) k 0 (by omega) (by have := objs_n b.ok; omega)
          rw [show ((0 : Int)) = ((0 : Nat) : Int) from rfl, this, wr_t _ (by omega) (by omega)]
          exact ih (i + 1) s' b (by omega) (by omega)
        unfold HeapDark.j39
        rw [if_pos rfl, if_pos (inR_n h1)]
        split
        · exact go 5
        · exact go _
      · rw [show decide ((i : Int) < 100) = false by rw [decide_eq_false_iff_not]; omega]
        exact stop
    · rw [if_neg (lt_no h1)]
      exact stop
theorem pureK {k : Nat} (hk : 5000 ≤ k) (ha : law09_awake.m k = some true) (i0 : Int) (K : List Op09) (hw : ∀ o ∈ K, Wd o.w) : HeapDark.m k i0 K = some true := by
  obtain ⟨n, h2, h6, e1, e2, e3⟩ := new_y i0
  unfold HeapDark.m
  rw [bind1_y, e1, e2, bind1_y, e3, bind1_y, ha, bind1_y, if_neg (by simp)]
  unfold HeapDark.j1
  rw [if_neg Bool.false_ne_true]
  exact all_l38 hw hk k 0 (hNew n) (BE.new n (by omega) (by omega)) (by omega) (by omega)
theorem pure (i0 : Int) (K : List Op09) (hw : ∀ o ∈ K, Wd o.w) : HeapDark.m 5000 i0 K = some true := pureK (Nat.le_refl _) awakeT i0 K hw
theorem walk (a0 : Int) (a1 : Option Addr) (len1 cap1 : Nat) (f1 : Nat → Nat → Int) (w : World) (w0 : (Lit.int .i64 a0).wf = true) (w1 : ArgOps w (.slice a1 len1 cap1) 6 len1 f1) :
    Calls Tryz.prog 4 #[.int .i64 a0, .slice a1 len1 cap1] w fun e w' => e = .returned (.bool true) ∧ Below w.heap.size w w' := by
  obtain ⟨hA, hwd⟩ := argX_of kOp09 (fun f => ⟨f 0, f 1, f 2, f 3, f 4, f 5⟩) (fun f => rfl) w1
  obtain ⟨K1, e1, h1, hw⟩ : ∃ K1 : List Op09, K1.length = len1 ∧ ArgX kOp09 w (.slice a1 len1 cap1) K1 ∧ ∀ o ∈ K1, Wd o.w := ⟨_, by simp, hA, fun o ho => by
    simp only [List.mem_map, List.mem_range] at ho
    obtain ⟨i, hi, rfl⟩ := ho
    exact hwd i hi 4 (by decide)⟩
  subst e1
  exact (HeapDark.ok h1 (St.empty w) (pure a0 K1 hw)).mono fun e w' ⟨he, h⟩ => ⟨he, h.old⟩

end Go.Proofs.YtffnjpapggidlaaGreat.heapDark
/-
  'HeapDarkSaid' ('dormouselaw09.HeapDark'): for every input the law returns true, and each argument reads behind the call as it did before.
  Conditions: none beyond the given row's own.
-/
namespace Go.Proofs.YtffnjpapggidlaaGreat.heapDark
open Go.ChangeShapes Go.WideShapes Go.ChangeAt Go.RowKit
set_option linter.unusedVariables false

theorem own : ownKnob Tryz.prog.godebug = none := by kernel_rfl
theorem laidOut : laidOutB Tryz.prog = true := by kernel_rfl

/-! ### THE ROW -/
set_option maxRecDepth 100000 in
theorem lifted (os : Os) (started : os.Started) (H : Type) (enc : TypeId × Value → H) :
    ReturnsInHanded {} Tryz.checked os 4 .any (Rows.heapDarkSpec.pre6 enc Tryz.prog Tryz.f4 Rows.heapDarkRow.domain false) (Rows.heapDarkSpec.post enc Tryz.prog Tryz.f4 false true false false) := by
  refine returnsInHanded_of_change (C := Tryz.checked) own started (by kernel_rfl) Tryz.func4
    (ChangeSpec.witness6 (enc := enc) (C := Tryz.checked) false ⟨#[], #[.int .i64 0, .slice none 0 0], []⟩ 8 (by kernel_rfl) (by kernel_rfl) (by kernel_rfl) (by kernel_rfl)) ?_
  intro W base args ds gs before hval0 hW hcnd _
  have hval : ∀ (j : Nat) t v, Tryz.f4.params[j]? = some t → args[j]? = some v → Value.okWide Tryz.prog W .any base t v := hval0
  have hW' := hW
  obtain ⟨p, q, hA0, hV, rfl, hfz, hnd⟩ := hW
  have hA : DataW.TrodAll enc Tryz.prog W 0 (fun _ => true) true Tryz.f4.params.toList args.toList ds p := hA0
  rw [Tryz.params4] at hA hval
  obtain ⟨v0, vs0, d0, ds0, p0, q0, hargs, rfl, rfl, h0, r0⟩ := trodAll_cons hA
  obtain ⟨v1, vs1, d1, ds1, p1, q1, rfl, rfl, rfl, h1, r1⟩ := trodAll_cons r0
  obtain ⟨rfl, rfl, rfl⟩ := trodAll_nil r1
  obtain rfl : args = #[v0, v1] := by cases args; simp_all
  obtain ⟨rfl, rfl⟩ := trodVars_none hV
  obtain ⟨a0, rfl, rfl, rfl, w0⟩ := open_int Tryz.underlying3 (hval 0 3 v0 rfl rfl) h0
  obtain ⟨a1, len1, cap1, rfl⟩ := okWide_slice Tryz.underlying58 (hval 1 58 v1 rfl rfl)
  have k1 := h1
  have lt1 : ∀ x ∈ p1, x.block < W.heap.size := by obtain ⟨m, hm⟩ := k1; exact DataW.trod_lt m _ _ _ hm
  obtain ⟨f1, w1⟩ : ∃ f, ArgOps W (.slice a1 len1 cap1) 6 len1 f := by
    obtain ⟨fuel, hf⟩ := h1
    exact ops_open Tryz.underlying58 Tryz.underlying66 (by kernel_rfl) (by kernel_rfl) (by intro j f hj; match j, hj with | 0, hj => (cases hj; exact Tryz.underlying3) | 1, hj => (cases hj; exact Tryz.underlying3) | 2, hj => (cases hj; exact Tryz.underlying3) | 3, hj => (cases hj; exact Tryz.underlying3) | 4, hj => (cases hj; exact Tryz.underlying3) | 5, hj => (cases hj; exact Tryz.underlying3) | (n + 6), hj => cases hj) (by decide) hf
  clear hA0 hval0
  refine (walk a0 a1 len1 cap1 f1 W w0 w1).mono fun e W' ⟨he, bel⟩ => ?_
  subst he
  exact ⟨_, rfl, _, _, _, [], _, [], hW', trodAll_mk1 (shut_bool Tryz.underlying4 _), (trodAll_cons_mk (shut_int Tryz.underlying3 w0) (trodAll_cons_mk (Below.trod laidOut (by kernel_rfl) (of_decide_eq_true (by kernel_rfl)) k1 bel lt1) trodAll_mk0)), rfl, bel.frame _, fun h => by cases h⟩

theorem over : Rows.heapDarkRow.holds Tryz.pinned (OpenSpec.ofChange Rows.heapDarkSpec) :=
  OpenClaim.holds_of_wide 4 Tryz.f4 rfl rfl rfl rfl rfl rfl rfl ⟨rfl, rfl, rfl, rfl, rfl⟩ rfl rfl rfl rfl rfl (by kernel_rfl) Tryz.func4 (by kernel_rfl)
    (of_decide_eq_true (by kernel_rfl)) (by unfold Func.isWrapper; first | (rw [if_pos (by decide +kernel)]; kernel_rfl) | (rw [if_neg (by decide +kernel)]; exact ⟨rfl, rfl⟩))
    (fun os started H enc _ => lifted os started H enc)

/-- THE STATEMENT -/
theorem proved : Rows.HeapDarkSaid := over
#print axioms proved
end Go.Proofs.YtffnjpapggidlaaGreat.heapDark
