/- LiveTellsW LiveTells -/
import Derived.Test.YtinagphkkegmnaaKGLiveTells
import Derived.Test.YtinagphkkegmnaaKBuilt22
import Derived.Test.YtinagphkkegmnaaKReached2
import Derived.Test.YtinagphkkegmnaaKArg
import Derived.Test.YtinagphkkegmnaaRows
import Derived.WalkKit
import Derived.WalkSpells
import Derived.WalkLawsBesides
import Derived.ProofKit
import Derived.OpenShut
import Derived.ShutString
import Derived.ChangeOld
import Derived.Below
/-
  The walk of 'dormouselaw22.LiveTells': the call returns true, in a world with at most new blocks.
-/
namespace Go.Proofs.Ytinagphkkegmnaa.liveTells
open Go.RowKit
set_option linter.unusedVariables false

theorem in_m {L : List Int} {x : Int} (hl : L.length < 5000) : ∀ (m j : Nat), j ≤ L.length → L.length - j < m → help_In.l1 L x m (j : Int) = some (decide (x ∈ L.drop j)) := by
  intro m
  induction m with
  | zero => intro j _ h; omega
  | succ m ih =>
    intro j hj hm
    show help_In.l1b L x (help_In.l1 L x m) (j : Int) = _
    unfold help_In.l1b
    by_cases hlt : j < L.length
    · have hat : atI L (j : Int) = L[j] := by unfold atI; rw [List.getD_eq_getElem?_getD, Int.toNat_natCast, List.getElem?_eq_getElem hlt]; rfl
      rw [if_pos (by rw [decide_eq_true_eq]; omega), if_pos (show inR (j : Int) L.length = true by simp [inR]; omega), hat, List.drop_eq_getElem_cons hlt]
      by_cases e : L[j] = x
      · rw [if_pos (by simpa using e)]; simp [e]
      · rw [if_neg (by simpa using e), wrap_s _ (by omega) (by omega)]
        have := ih (j + 1) (by omega) (by omega)
        rw [show ((j : Int) + 1) = ((j + 1 : Nat) : Int) by omega, this]
        have e3 : (x ∈ L[j] :: L.drop (j + 1)) ↔ x ∈ L.drop (j + 1) := by rw [List.mem_cons]; exact or_iff_right (Ne.symm e)
        rw [decide_eq_decide.2 e3]
    · rw [if_neg (by rw [decide_eq_true_eq]; omega), List.drop_eq_nil_of_le (by omega)]; simp
theorem In_m {L : List Int} (x : Int) (hl : L.length < 5000) {k : Nat} (hk : 5000 ≤ k) : help_In.m k L x = some (decide (x ∈ L)) := by
  have := in_m (x := x) hl k 0 (by omega) (by omega)
  unfold help_In.m
  simpa using this
theorem same_l1 {L : List Int} {k : Nat} (hl : L.length < 5000) : ∀ (m j : Nat), j ≤ L.length → L.length - j < m → help_Same.l1 L L k m (j : Int) = some true := by
  intro m
  induction m with
  | zero => intro j _ h; omega
  | succ m ih =>
    intro j hj hm
    show help_Same.l1b L L k (help_Same.l1 L L k m) (j : Int) = _
    unfold help_Same.l1b
    by_cases hlt : j < L.length
    · rw [if_pos (by rw [decide_eq_true_eq]; omega), if_pos (show inR (j : Int) L.length = true by simp [inR]; omega), if_pos (show inR (j : Int) L.length = true by simp [inR]; omega)]
      unfold bind1 help_eq.m
      simp only [Option.bind_some, beq_self_eq_true, Bool.not_true, Bool.false_eq_true, if_false]
      rw [wrap_s _ (by omega) (by omega)]
      exact ih (j + 1) (by omega) (by omega)
    · rw [if_neg (by rw [decide_eq_true_eq]; omega)]
theorem Plain_m {L : List Int} (hl : L.length < 5000) {k : Nat} (hk : 5000 ≤ k) : help_Plain.m k L L = some true := by
  unfold help_Plain.m help_Same.m bind1
  rw [if_neg (by simp)]
  rw [show help_Same.l1 L L k k 0 = some true from same_l1 hl k 0 (by omega) (by omega)]
  rfl
theorem objs_bd {s : HSt} (h : Idle s) : (hObjs s.a).length ≤ 4096 := by
  have := objs_len s.a; have := h.ok.a.len; have := h.ok.len; omega
theorem objs_wd {s : HSt} (h : Idle s) {L : List Int} (hL : ∀ x ∈ L, isObj s.a x = true) : ∀ x ∈ L, Wd x := by
  intro x hx
  obtain ⟨h0, h1⟩ := obj_key h.ok (hL x hx)
  unfold Wd; omega
def bad (s : ASt) (p : Int) : Bool := (aWords s p).any fun w => vIsPtr w && !isObj s (vAt w)
theorem at_nat {L : List Int} {j : Nat} (h : j < L.length) : atI L (j : Int) = L[j] := by unfold atI; rw [List.getD_eq_getElem?_getD, Int.toNat_natCast, List.getElem?_eq_getElem h]; rfl
theorem lost_l3 {s : HSt} (h : Idle s) {k : Nat} (hk : 5000 ≤ k) {M : List Int} (hM : M.length < 5000) : ∀ (m j : Nat), j ≤ (hObjs s.a).length → (hObjs s.a).length - j < m → ref06_LostK.l3 k M s m (((hObjs s.a).take j).filter fun p => !decide (p ∈ M)) (j : Int) = some ((hObjs s.a).filter (fun p => !decide (p ∈ M)), s) := by
  have hb := objs_bd h
  intro m
  induction m with
  | zero => intro j _ h; omega
  | succ m ih =>
    intro j hj hm
    show ref06_LostK.l3b k M s (ref06_LostK.l3 k M s m) _ _ = _
    unfold ref06_LostK.l3b
    rw [← hObjsF_eq]
    by_cases hlt : j < (hObjs s.a).length
    · have next := ih (j + 1) (by omega) (by omega)
      rw [filter_take hlt] at next
      rw [if_pos (by rw [decide_eq_true_eq]; omega), if_pos (show inR (j : Int) (hObjs s.a).length = true by simp [inR]; omega), at_nat hlt]
      unfold bind1
      rw [In_m _ hM hk]
      simp only [Option.bind_some]
      cases e : decide ((hObjs s.a)[j] ∈ M) with
      | true =>
        rw [e] at next
        simp only [Bool.not_true, Bool.false_eq_true, if_false] at next ⊢
        unfold ref06_LostK.j4
        rw [wrap_s _ (by omega) (by omega)]
        exact next
      | false =>
        rw [e] at next
        simp only [Bool.not_false, if_true] at next ⊢
        unfold pushM
        rw [if_pos (by have := List.length_filter_le (fun p => !decide (p ∈ M)) ((hObjs s.a).take j); rw [List.length_take] at this; omega)]
        simp only [Option.bind_some]
        unfold ref06_LostK.j4
        rw [wrap_s _ (by omega) (by omega)]
        exact next
    · rw [if_neg (by rw [decide_eq_true_eq]; omega), List.take_of_length_le (by omega)]
theorem refB_l12 {s : HSt} (ok : HOk s) {M : List Int} {i : Nat} (hi : i < M.length) {L : List Int} {R : List Int → Int → Option (List Int × HSt)} (hL : L.length < 5000) : ∀ (m j : Nat), j ≤ (aWords s.a M[i]).length → (aWords s.a M[i]).length - j < m →
    ref06_BrokenK.l12 M s L (i : Int) R m (j : Int) = R (if (((aWords s.a M[i]).drop j).any fun w => vIsPtr w && !isObj s.a (vAt w)) = true then L ++ [M[i]] else L) (IntKind.i64.wrap ((i : Int) + 1)) := by
  have hl : (aWords s.a M[i]).length < 32 := by have := alen_bd ok.a M[i]; rw [aWords_len]; omega
  have hw := aWords_wd ok.wd M[i]
  intro m
  induction m with
  | zero => intro j _ h; omega
  | succ m ih =>
    intro j hj hm
    show ref06_BrokenK.l12b M s L (i : Int) R (ref06_BrokenK.l12 M s L (i : Int) R m) (j : Int) = _
    unfold ref06_BrokenK.l12b
    rw [at_nat hi]
    by_cases hlt : j < (aWords s.a M[i]).length
    · rw [if_pos (by rw [decide_eq_true_eq]; omega), if_pos (show inR (j : Int) (aWords s.a M[i]).length = true by simp [inR]; omega), at_nat hlt, List.drop_eq_getElem_cons hlt]
      have hWd := hw (aWords s.a M[i])[j] (List.getElem_mem hlt)
      have next := ih (j + 1) (by omega) (by omega)
      rw [List.any_cons]
      cases hv : vIsPtr (aWords s.a M[i])[j] with
      | true =>
        rw [if_pos rfl]
        unfold bind1 pAt
        rw [if_pos (by unfold wdB; unfold Wd at hWd; simp; omega)]
        simp only [Option.bind_some]
        unfold ref06_BrokenK.j13
        cases ho : isObj s.a (vAt (aWords s.a M[i])[j]) with
        | true =>
          simp only [Bool.not_true, Bool.false_eq_true, if_false, Bool.and_false, Bool.false_or]
          rw [wrap_s ((j : Int) + 1) (by omega) (by omega)]
          exact next
        | false =>
          simp only [Bool.not_false, if_true, Bool.and_true, Bool.true_or]
          rw [if_pos (show inR (i : Int) M.length = true by simp [inR]; omega), at_nat hi]
          unfold bind1 pushM
          rw [if_pos (by omega)]
          rfl
      | false =>
        rw [if_neg Bool.false_ne_true]
        unfold ref06_BrokenK.j13
        simp only [Bool.false_eq_true, if_false, Bool.false_and, Bool.false_or]
        rw [wrap_s ((j : Int) + 1) (by omega) (by omega)]
        exact next
    · rw [if_neg (by rw [decide_eq_true_eq]; omega), List.drop_eq_nil_of_le (by omega)]
      rfl
theorem refB_l9 {s : HSt} (ok : HOk s) {k : Nat} (hk : 5000 ≤ k) {M : List Int} (hM : M.length < 5000) : ∀ (m i : Nat), i ≤ M.length → M.length - i < m → ref06_BrokenK.l9 k M s m ((M.take i).filter (bad s.a)) (i : Int) = some (M.filter (bad s.a), s) := by
  intro m
  induction m with
  | zero => intro j _ h; omega
  | succ m ih =>
    intro i hj hm
    show ref06_BrokenK.l9b k M s (ref06_BrokenK.l9 k M s m) _ _ = _
    unfold ref06_BrokenK.l9b
    by_cases hlt : i < M.length
    · have next := ih (i + 1) (by omega) (by omega)
      rw [filter_take hlt] at next
      rw [if_pos (by rw [decide_eq_true_eq]; omega), if_pos (show inR (i : Int) M.length = true by simp [inR]; omega)]
      have hl : (aWords s.a M[i]).length < 32 := by have := alen_bd ok.a M[i]; rw [aWords_len]; omega
      have hfl : ((M.take i).filter (bad s.a)).length < 5000 := by have := List.length_filter_le (bad s.a) (M.take i); rw [List.length_take] at this; omega
      have e := refB_l12 ok hlt (L := (M.take i).filter (bad s.a)) (R := ref06_BrokenK.l9 k M s m) hfl k 0 (by omega) (by omega)
      rw [show ref06_BrokenK.l12 M s ((M.take i).filter (bad s.a)) (i : Int) (ref06_BrokenK.l9 k M s m) k 0 = _ from e, wrap_s _ (by omega) (by omega), List.drop_zero]
      exact next
    · rw [if_neg (by rw [decide_eq_true_eq]; omega), List.take_of_length_le (by omega)]
theorem livB_l7 {s : HSt} {M : List Int} {i : Nat} (hi : i < M.length) {L P : List Int} {R : HSt → List Int → Int → Option (List Int × HSt)} (hL : L.length < 5000) (hP : P.length < 5000) : ∀ (m j : Nat), j ≤ P.length → P.length - j < m →
    live_BrokenK.l7 M L (i : Int) R s P m (j : Int) = R s (if ((P.drop j).any fun q => aKind s.a.c q == 0) = true then L ++ [M[i]] else L) (IntKind.i64.wrap ((i : Int) + 1)) := by
  intro m
  induction m with
  | zero => intro j _ h; omega
  | succ m ih =>
    intro j hj hm
    show live_BrokenK.l7b M L (i : Int) R s P (live_BrokenK.l7 M L (i : Int) R s P m) (j : Int) = _
    unfold live_BrokenK.l7b
    by_cases hlt : j < P.length
    · rw [if_pos (by rw [decide_eq_true_eq]; omega), if_pos (show inR (j : Int) P.length = true by simp [inR]; omega), at_nat hlt, at_nat hi, List.drop_eq_getElem_cons hlt, List.any_cons]
      have next := ih (j + 1) (by omega) (by omega)
      cases hv : aKind s.a.c P[j] == 0 with
      | true =>
        rw [if_pos rfl]
        unfold bind1 pushM
        rw [if_pos (by omega)]
        rfl
      | false =>
        rw [if_neg Bool.false_ne_true, wrap_s ((j : Int) + 1) (by omega) (by omega), Bool.false_or]
        exact next
    · rw [if_neg (by rw [decide_eq_true_eq]; omega), List.drop_eq_nil_of_le (by omega)]
      rfl
theorem bad_places {s : HSt} (ok : HOk s) (p : Int) : ((((aWords s.a p).filter vIsPtr).map vAt).any fun q => aKind s.a.c q == 0) = bad s.a p := by
  unfold bad
  rw [List.any_map, List.any_filter]
  congr 1
  funext w
  simp only [Function.comp]
  rw [isObj_kind ok.a]
  have e : ∀ z : Int, (z == 0) = decide (z = 0) := fun z => by rw [Bool.eq_iff_iff]; simp
  rw [e, Bool.not_not]
theorem livB_l5 {s : HSt} (ok : HOk s) {k : Nat} (hk : 5000 ≤ k) {M : List Int} (hM : M.length < 5000) (hO : ∀ x ∈ M, isObj s.a x = true) : ∀ (m i : Nat), i ≤ M.length → M.length - i < m → live_BrokenK.l5 k M m s ((M.take i).filter (bad s.a)) (i : Int) = some (M.filter (bad s.a), s) := by
  intro m
  induction m with
  | zero => intro j _ h; omega
  | succ m ih =>
    intro i hj hm
    show live_BrokenK.l5b k M (live_BrokenK.l5 k M m) s _ _ = _
    unfold live_BrokenK.l5b
    by_cases hlt : i < M.length
    · have next := ih (i + 1) (by omega) (by omega)
      rw [filter_take hlt] at next
      rw [if_pos (by rw [decide_eq_true_eq]; omega), if_pos (show inR (i : Int) M.length = true by simp [inR]; omega), at_nat hlt]
      unfold bind2 bind1
      rw [look_m ok _ (by omega), hO _ (List.getElem_mem hlt)]
      simp only [Option.bind_some, if_true, optE]
      have hl : (aWords s.a M[i]).length < 32 := by have := alen_bd ok.a M[i]; rw [aWords_len]; omega
      rw [places_m (aWords_wd ok.wd M[i]) (by omega) (by omega)]
      simp only [Option.bind_some]
      have hfl : ((M.take i).filter (bad s.a)).length < 5000 := by have := List.length_filter_le (bad s.a) (M.take i); rw [List.length_take] at this; omega
      have hpl : (((aWords s.a M[i]).filter vIsPtr).map vAt).length < 5000 := by rw [List.length_map]; have := List.length_filter_le vIsPtr (aWords s.a M[i]); omega
      have e := livB_l7 (s := s) hlt (L := (M.take i).filter (bad s.a)) (R := live_BrokenK.l5 k M m) hfl hpl k 0 (by omega) (by omega)
      rw [show live_BrokenK.l7 M ((M.take i).filter (bad s.a)) (i : Int) (live_BrokenK.l5 k M m) s _ k 0 = _ from e, wrap_s _ (by omega) (by omega), List.drop_zero, bad_places ok]
      exact next
    · rw [if_neg (by rw [decide_eq_true_eq]; omega), List.take_of_length_le (by omega)]
theorem pureK {k : Nat} (hk : 200000 ≤ k) (awakeT : law22_awake.m k = some true) (K0 : List Op22) (hw : ∀ o ∈ K0, Wd o.w) (K1 : List Int) (hw1 : ∀ x ∈ K1, Wd x) : LiveTells.m k K0 K1 = some true := by
  obtain ⟨s, h, e⟩ := builtQ_m K0 hw (k := k) (by omega)
  unfold LiveTells.m bind1 bind2
  rw [e]
  simp only [Option.bind_some]
  rw [awakeT]
  simp only [Option.bind_some, Bool.not_true, Bool.false_eq_true, if_false]
  unfold LiveTells.j1
  by_cases h1 : K1.length > 50
  · rw [if_pos (by rw [decide_eq_true_eq]; omega)]
    unfold bind1
    rw [awakeT]; rfl
  · rw [if_neg (by rw [decide_eq_true_eq]; omega)]
    have hb := objs_bd h
    have hf : ∀ g : Int → Bool, ((hObjs s.a).filter g).length < 5000 := fun g => by have := List.length_filter_le g (hObjs s.a); omega
    obtain ⟨g1, e1, m1⟩ := Reach_m h.ok hw1 (by omega) (k := k) (by omega)
    obtain ⟨g2, e2, m2⟩ := refReach_m h.ok (roots := K1) (by omega) (k := k) (by omega)
    obtain ⟨g3, e3, m3⟩ := Lost_m h.ok hw1 (by omega) (k := k) (by omega)
    have e12 : g2 = g1 := by funext p; rw [Bool.eq_iff_iff, e1, e2]
    have e13 : g3 = g1 := by funext p; rw [Bool.eq_iff_iff, e1, e3]
    subst e12; subst e13
    have mL : ref06_LostK.m k s K1 = some ((hObjs s.a).filter (fun p => !g3 p), s) := by
      unfold ref06_LostK.m bind2
      rw [m2]
      simp only [Option.bind_some]
      have := lost_l3 h (k := k) (by omega) (hf g3) k 0 (by omega) (by omega)
      simp only [List.take_zero, List.filter_nil] at this
      rw [show ref06_LostK.l3 k ((hObjs s.a).filter g3) s k [] 0 = _ from this]
      congr 2
      apply List.filter_congr
      intro p hp
      simp [List.mem_filter, hp]
    have hO : ∀ x ∈ (hObjs s.a).filter g3, isObj s.a x = true := fun x hx => mem_hObjs.1 (List.mem_filter.1 hx).1
    have mB : live_BrokenK.m k s K1 = some (((hObjs s.a).filter g3).filter (bad s.a), s) := by
      unfold live_BrokenK.m bind2
      rw [ReachK_eq, m1]
      exact livB_l5 h.ok (k := k) (by omega) (hf g3) hO k 0 (by omega) (by have := hf g3; omega)
    have mC : ref06_BrokenK.m k s K1 = some (((hObjs s.a).filter g3).filter (bad s.a), s) := by
      unfold ref06_BrokenK.m bind2
      rw [m2]
      exact refB_l9 h.ok (k := k) (by omega) (hf g3) k 0 (by omega) (by have := hf g3; omega)
    unfold bind2 bind1
    rw [ReachK_eq, m1]
    simp only [Option.bind_some]
    rw [m2]
    simp only [Option.bind_some]
    rw [Plain_m (hf g3) (by omega)]
    simp only [Option.bind_some, if_true]
    rw [LostK_eq, m3]
    simp only [Option.bind_some]
    rw [mL]
    simp only [Option.bind_some]
    rw [Plain_m (hf _) (by omega)]
    simp only [Option.bind_some, if_true]
    rw [mB]
    simp only [Option.bind_some]
    rw [mC]
    simp only [Option.bind_some]
    rw [Plain_m (by have := List.length_filter_le (bad s.a) ((hObjs s.a).filter g3); have := hf g3; omega) (by omega)]
    rfl
theorem awakeT : law22_awake.m 200000 = some true := by decide +kernel
theorem pure (K0 : List Op22) (hw : ∀ o ∈ K0, Wd o.w) (K1 : List Int) (hw1 : ∀ x ∈ K1, Wd x) : LiveTells.m 200000 K0 K1 = some true := pureK (Nat.le_refl _) awakeT K0 hw K1 hw1
theorem walk (a0 : Option Addr) (len0 cap0 : Nat) (f0 : Nat → Nat → Int) (a1 : Option Addr) (len1 cap1 : Nat) (z1 : List Int) (w : World) (w0 : ArgOps w (.slice a0 len0 cap0) 6 len0 f0) (w1 : IsRow .i64 w a1 len1 cap1 z1) :
    Calls Try.prog 4 #[.slice a0 len0 cap0, .slice a1 len1 cap1] w fun e w' => e = .returned (.bool true) ∧ Below w.heap.size w w' := by
  obtain ⟨hA, hwd⟩ := argX_of kOp (fun f => ⟨f 0, f 1, f 2, f 3, f 4, f 5⟩) (fun f => rfl) w0
  obtain ⟨K0, e0, h0, hw⟩ : ∃ K0 : List Op22, K0.length = len0 ∧ ArgX kOp w (.slice a0 len0 cap0) K0 ∧ ∀ o ∈ K0, Wd o.w := ⟨_, by simp, hA, fun o ho => by
    simp only [List.mem_map, List.mem_range] at ho
    obtain ⟨i, hi, rfl⟩ := ho
    exact hwd i hi 4 (by decide)⟩
  obtain ⟨K1, e1, h1⟩ := argInts_len w1
  subst e0; subst e1
  exact (LiveTells.ok h0 h1 (St.empty w) (pure K0 hw K1 h1.1)).mono fun e w' ⟨he, h⟩ => ⟨he, h.old⟩

end Go.Proofs.Ytinagphkkegmnaa.liveTells
/-
  'LiveTellsSaid' ('dormouselaw22.LiveTells'): for every input the law returns true, and each argument reads behind the call as it did before.
  Conditions: none beyond the given row's own.
-/
namespace Go.Proofs.Ytinagphkkegmnaa.liveTells
open Go.ChangeShapes Go.WideShapes Go.ChangeAt Go.RowKit
set_option linter.unusedVariables false

theorem own : ownKnob Try.prog.godebug = none := by kernel_rfl
theorem laidOut : laidOutB Try.prog = true := by kernel_rfl

/-! ### THE ROW -/
set_option maxRecDepth 100000 in
theorem lifted (os : Os) (started : os.Started) (H : Type) (enc : TypeId × Value → H) :
    ReturnsInHanded {} Try.checked os 4 .any (Rows.liveTellsSpec.pre6 enc Try.prog Try.f4 Rows.liveTellsRow.domain false) (Rows.liveTellsSpec.post enc Try.prog Try.f4 false true false false) := by
  refine returnsInHanded_of_change (C := Try.checked) own started (by kernel_rfl) Try.func4
    (ChangeSpec.witness6 (enc := enc) (C := Try.checked) false ⟨#[], #[.slice none 0 0, .slice none 0 0], []⟩ 8 (by kernel_rfl) (by kernel_rfl) (by kernel_rfl) (by kernel_rfl)) ?_
  intro W base args ds gs before hval0 hW hcnd _
  have hval : ∀ (j : Nat) t v, Try.f4.params[j]? = some t → args[j]? = some v → Value.okWide Try.prog W .any base t v := hval0
  have hW' := hW
  obtain ⟨p, q, hA0, hV, rfl, hfz, hnd⟩ := hW
  have hA : DataW.TrodAll enc Try.prog W 0 (fun _ => true) true Try.f4.params.toList args.toList ds p := hA0
  rw [Try.params4] at hA hval
  obtain ⟨v0, vs0, d0, ds0, p0, q0, hargs, rfl, rfl, h0, r0⟩ := trodAll_cons hA
  obtain ⟨v1, vs1, d1, ds1, p1, q1, rfl, rfl, rfl, h1, r1⟩ := trodAll_cons r0
  obtain ⟨rfl, rfl, rfl⟩ := trodAll_nil r1
  obtain rfl : args = #[v0, v1] := by cases args; simp_all
  obtain ⟨rfl, rfl⟩ := trodVars_none hV
  obtain ⟨a0, len0, cap0, rfl⟩ := okWide_slice Try.underlying47 (hval 0 47 v0 rfl rfl)
  have k0 := h0
  have lt0 : ∀ x ∈ p0, x.block < W.heap.size := by obtain ⟨m, hm⟩ := k0; exact DataW.trod_lt m _ _ _ hm
  obtain ⟨f0, w0⟩ : ∃ f, ArgOps W (.slice a0 len0 cap0) 6 len0 f := by
    obtain ⟨fuel, hf⟩ := h0
    exact ops_open Try.underlying47 Try.underlying91 (by kernel_rfl) (by kernel_rfl) (by intro j f hj; match j, hj with | 0, hj => (cases hj; exact Try.underlying3) | 1, hj => (cases hj; exact Try.underlying3) | 2, hj => (cases hj; exact Try.underlying3) | 3, hj => (cases hj; exact Try.underlying3) | 4, hj => (cases hj; exact Try.underlying3) | 5, hj => (cases hj; exact Try.underlying3) | (n + 6), hj => cases hj) (by decide) hf
  obtain ⟨a1, len1, cap1, rfl⟩ := okWide_slice Try.underlying34 (hval 1 34 v1 rfl rfl)
  have k1 := h1
  have lt1 : ∀ x ∈ p1, x.block < W.heap.size := by obtain ⟨m, hm⟩ := k1; exact DataW.trod_lt m _ _ _ hm
  obtain ⟨z1, w1⟩ : ∃ zs, IsRow .i64 W a1 len1 cap1 zs := by
    obtain ⟨fuel, hf⟩ := h1
    rcases open_ints Try.underlying34 Try.underlying3 (by kernel_rfl) hf with ⟨hcs, _⟩ | ⟨x, l, c, zs, hcs, _, hl, hm, hz, _, hcell, hwz⟩
    · simp [Value.cells] at hcs
      obtain ⟨rfl, rfl, rfl⟩ := hcs
      exact ⟨[], .inl ⟨rfl, rfl, rfl, rfl⟩⟩
    · simp [Value.cells] at hcs
      obtain ⟨rfl, rfl, rfl⟩ := hcs
      exact ⟨zs, .inr ⟨_, rfl, hl, hm, by simpa using hz, hcell, hwz⟩⟩
  clear hA0 hval0
  refine (walk a0 len0 cap0 f0 a1 len1 cap1 z1 W w0 w1).mono fun e W' ⟨he, bel⟩ => ?_
  subst he
  exact ⟨_, rfl, _, _, _, [], _, [], hW', trodAll_mk1 (shut_bool Try.underlying4 _), (trodAll_cons_mk (Below.trod laidOut (by kernel_rfl) (of_decide_eq_true (by kernel_rfl)) k0 bel lt0) (trodAll_cons_mk (Below.trod laidOut (by kernel_rfl) (of_decide_eq_true (by kernel_rfl)) k1 bel lt1) trodAll_mk0)), rfl, bel.frame _, fun h => by cases h⟩

theorem over : Rows.liveTellsRow.holds Try.pinned (OpenSpec.ofChange Rows.liveTellsSpec) :=
  OpenClaim.holds_of_wide 4 Try.f4 rfl rfl rfl rfl rfl rfl rfl ⟨rfl, rfl, rfl, rfl, rfl⟩ rfl rfl rfl rfl rfl (by kernel_rfl) Try.func4 (by kernel_rfl)
    (of_decide_eq_true (by kernel_rfl)) (by unfold Func.isWrapper; first | (rw [if_pos (by decide +kernel)]; kernel_rfl) | (rw [if_neg (by decide +kernel)]; exact ⟨rfl, rfl⟩))
    (fun os started H enc _ => lifted os started H enc)

/-- THE STATEMENT -/
theorem proved : Rows.LiveTellsSaid := over
#print axioms proved
end Go.Proofs.Ytinagphkkegmnaa.liveTells
