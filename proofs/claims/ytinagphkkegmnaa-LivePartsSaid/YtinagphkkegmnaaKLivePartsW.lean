/- LivePartsW LiveParts -/
import Derived.Test.YtinagphkkegmnaaKGLiveParts
import Derived.Test.YtinagphkkegmnaaKBuilt22
import Derived.Test.YtinagphkkegmnaaKArg
import Derived.Test.YtinagphkkegmnaaRows
import Derived.WalkKit
import Derived.WalkSpells
import Derived.WalkLawsBesides
import Derived.ProofKit
import Derived.OpenShut
import Derived.ShutString
import Derived.ChangeOld
import Derived.Below
/-
  The walk of 'dormouselaw22.LiveParts': the call returns true, in a world with at most new blocks.
-/
namespace Go.Proofs.Ytinagphkkegmnaa.liveParts
open Go.RowKit
set_option linter.unusedVariables false

theorem in_m {L : List Int} {x : Int} (hl : L.length < 5000) : ∀ (m j : Nat), j ≤ L.length → L.length - j < m → help_In.l1 L x m (j : Int) = some (decide (x ∈ L.drop j)) := by
  intro m
  induction m with
  | zero => intro j _ h; omega
  | succ m ih =>
    intro j hj hm
    show help_In.l1b L x (help_In.l1 L x m) (j : Int) = _
    unfold help_In.l1b
    by_cases hlt : j < L.length
    · have hat : atI L (j : Int) = L[j] := by unfold atI; rw [List.getD_eq_getElem?_getD, Int.toNat_natCast, List.getElem?_eq_getElem hlt]; rfl
      rw [if_pos (by rw [decide_eq_true_eq]; omega), if_pos (show inR (j : Int) L.length = true by simp [inR]; omega), hat, List.drop_eq_getElem_cons hlt]
      by_cases e : L[j] = x
      · rw [if_pos (by simpa using e)]; simp [e]
      · rw [if_neg (by simpa using e), wrap_s _ (by omega) (by omega)]
        have := ih (j + 1) (by omega) (by omega)
        rw [show ((j : Int) + 1) = ((j + 1 : Nat) : Int) by omega, this]
        have e3 : (x ∈ L[j] :: L.drop (j + 1)) ↔ x ∈ L.drop (j + 1) := by rw [List.mem_cons]; exact or_iff_right (Ne.symm e)
        rw [decide_eq_decide.2 e3]
    · rw [if_neg (by rw [decide_eq_true_eq]; omega), List.drop_eq_nil_of_le (by omega)]; simp
theorem In_m {L : List Int} (x : Int) (hl : L.length < 5000) {k : Nat} (hk : 5000 ≤ k) : help_In.m k L x = some (decide (x ∈ L)) := by
  have := in_m (x := x) hl k 0 (by omega) (by omega)
  unfold help_In.m
  simpa using this
theorem same_l1 {L : List Int} {k : Nat} (hl : L.length < 5000) : ∀ (m j : Nat), j ≤ L.length → L.length - j < m → help_Same.l1 L L k m (j : Int) = some true := by
  intro m
  induction m with
  | zero => intro j _ h; omega
  | succ m ih =>
    intro j hj hm
    show help_Same.l1b L L k (help_Same.l1 L L k m) (j : Int) = _
    unfold help_Same.l1b
    by_cases hlt : j < L.length
    · rw [if_pos (by rw [decide_eq_true_eq]; omega), if_pos (show inR (j : Int) L.length = true by simp [inR]; omega), if_pos (show inR (j : Int) L.length = true by simp [inR]; omega)]
      unfold bind1 help_eq.m
      simp only [Option.bind_some, beq_self_eq_true, Bool.not_true, Bool.false_eq_true, if_false]
      rw [wrap_s _ (by omega) (by omega)]
      exact ih (j + 1) (by omega) (by omega)
    · rw [if_neg (by rw [decide_eq_true_eq]; omega)]
theorem Plain_m {L : List Int} (hl : L.length < 5000) {k : Nat} (hk : 5000 ≤ k) : help_Plain.m k L L = some true := by
  unfold help_Plain.m help_Same.m bind1
  rw [if_neg (by simp)]
  rw [show help_Same.l1 L L k k 0 = some true from same_l1 hl k 0 (by omega) (by omega)]
  rfl
theorem reachedN_l1 {k : Nat} : ∀ (m : Nat) (L : List Int) (f : Int → Int), L.length < m → ∃ g, live_reachedN.l1 k m L f = some g := by
  intro m
  induction m with
  | zero => intro L f h; omega
  | succ m ih =>
    intro L f hm
    show ∃ g, live_reachedN.l1b k (live_reachedN.l1 k m) L f = some g
    unfold live_reachedN.l1b
    cases L with
    | nil => exact ⟨f, by rw [if_neg (by decide)]⟩
    | cons x L =>
      rw [if_pos (by simp), if_pos (by simp [inR])]
      have hd : dropM (x :: L) 1 = some L := by unfold dropM; rw [if_pos (by simp; omega)]; rfl
      rw [hd]
      unfold bind1 live_lookN.m
      simp only [Option.bind_some, optE]
      exact ih L f (by simp at hm; omega)
theorem thoseN_m {L : List Int} (hl : L.length ≤ 30) {k : Nat} (hk : 5000 ≤ k) (b : Bool) : live_thoseN.m k L b = some [] := by
  unfold live_thoseN.m live_reachedN.m bind1 appM
  rw [if_pos (by simp; omega)]
  simp only [Option.bind_some, List.nil_append]
  obtain ⟨g, hg⟩ := reachedN_l1 (k := k) k L (fun _ => 0) (by omega)
  rw [hg]
  simp only [Option.bind_some]
  obtain ⟨j, rfl⟩ : ∃ j, k = j + 1 := ⟨k - 1, by omega⟩
  rfl
theorem ReachN_m {L : List Int} (hl : L.length ≤ 30) {k : Nat} (hk : 5000 ≤ k) : live_ReachN.m k L = some [] := by
  unfold live_ReachN.m bind1
  rw [thoseN_m hl hk]; rfl
theorem LostN_m {L : List Int} (hl : L.length ≤ 30) {k : Nat} (hk : 5000 ≤ k) : live_LostN.m k L = some [] := by
  unfold live_LostN.m bind1
  rw [thoseN_m hl hk]; rfl
theorem BrokenN_m {L : List Int} (hl : L.length ≤ 30) {k : Nat} (hk : 5000 ≤ k) : live_BrokenN.m k L = some [] := by
  unfold live_BrokenN.m bind1
  rw [ReachN_m hl hk]
  obtain ⟨j, rfl⟩ : ∃ j, k = j + 1 := ⟨k - 1, by omega⟩
  rfl
theorem objs_bd {s : HSt} (h : Idle s) : (hObjs s.a).length ≤ 4096 := by
  have := objs_len s.a; have := h.ok.a.len; have := h.ok.len; omega
theorem objs_wd {s : HSt} (h : Idle s) {L : List Int} (hL : ∀ x ∈ L, isObj s.a x = true) : ∀ x ∈ L, Wd x := by
  intro x hx
  obtain ⟨h0, h1⟩ := obj_key h.ok (hL x hx)
  unfold Wd; omega
theorem fin_m {s : HSt} (h : Idle s) {K1 x y : List Int} (h1 : K1.length ≤ 30) {k : Nat} (hk : 200000 ≤ k) {g1 g2 g3 g4 : Int → Bool}
    (e1 : ∀ p, g1 p = true ↔ Rch s.a x p) (e2 : ∀ p, g2 p = true ↔ Rch s.a y p) (e3 : ∀ p, g3 p = true ↔ Rch s.a (x ++ y) p) (e4 : ∀ p, g4 p = true ↔ Rch s.a x p) :
    ∀ (m j : Nat), j ≤ (hObjs s.a).length → (hObjs s.a).length - j < m → LiveParts.l12 K1 k s ((hObjs s.a).filter g1) ((hObjs s.a).filter g2) ((hObjs s.a).filter g3) ((hObjs s.a).filter fun p => !g4 p) s m (j : Int) = some true := by
  have hb := objs_bd h
  have hf : ∀ g : Int → Bool, ((hObjs s.a).filter g).length < 5000 := fun g => by have := List.length_filter_le g (hObjs s.a); omega
  intro m
  induction m with
  | zero => intro j _ h; omega
  | succ m ih =>
    intro j hj hm
    show LiveParts.l12b K1 k s _ _ _ _ s (LiveParts.l12 K1 k s _ _ _ _ s m) (j : Int) = _
    unfold LiveParts.l12b
    rw [← hObjsF_eq]
    by_cases hlt : j < (hObjs s.a).length
    · have hat : atI (hObjs s.a) (j : Int) = (hObjs s.a)[j] := by unfold atI; rw [List.getD_eq_getElem?_getD, Int.toNat_natCast, List.getElem?_eq_getElem hlt]; rfl
      have hin : (hObjs s.a)[j] ∈ hObjs s.a := List.getElem_mem hlt
      rw [if_pos (by rw [decide_eq_true_eq]; omega), if_pos (show inR (j : Int) (hObjs s.a).length = true by simp [inR]; omega), hat]
      generalize (hObjs s.a)[j] = o at hin ⊢
      have i1 : decide (o ∈ (hObjs s.a).filter g1) = g1 o := by simp [List.mem_filter, hin]
      have i2 : decide (o ∈ (hObjs s.a).filter g2) = g2 o := by simp [List.mem_filter, hin]
      have i3 : decide (o ∈ (hObjs s.a).filter g3) = g3 o := by simp [List.mem_filter, hin]
      have i4 : decide (o ∈ (hObjs s.a).filter fun p => !g4 p) = !g1 o := by
        have : g4 o = g1 o := by rw [Bool.eq_iff_iff, e4, e1]
        simp [List.mem_filter, hin, this]
      have i5 : g3 o = (g1 o || g2 o) := by rw [Bool.eq_iff_iff, Bool.or_eq_true, e3, e1, e2, Rch.append]
      have next := ih (j + 1) (by omega) (by omega)
      simp only [bind1, In_m o (hf _) (show 5000 ≤ k by omega), Option.bind_some, i1, i2, i3, i4, i5]
      unfold LiveParts.j13
      rw [wrap_s _ (by omega) (by omega)]
      cases g1 o <;> cases g2 o <;> exact next
    · rw [if_neg (by rw [decide_eq_true_eq]; omega)]
      have wf : ∀ g : Int → Bool, ∀ p ∈ (hObjs s.a).filter g, isObj s.a p = true := fun g p hp => mem_hObjs.1 (List.mem_filter.1 hp).1
      obtain ⟨g5, e5, m5⟩ := Reach_m h.ok (objs_wd h (wf g1)) (by have := hf g1; omega) hk
      obtain ⟨g6, e6, m6⟩ := Reach_m h.ok (roots := []) (fun x hx => by cases hx) (by simp) hk
      have same : (hObjs s.a).filter g5 = (hObjs s.a).filter g1 := by
        apply List.filter_congr
        intro o ho
        rw [Bool.eq_iff_iff, e5, e1]
        constructor
        · exact fun r => r.mono fun p hp _ => (e1 p).1 (List.mem_filter.1 hp).2
        · exact fun r => .root o (List.mem_filter.2 ⟨ho, (e1 o).2 r⟩) r.obj
      have none6 : (hObjs s.a).filter g6 = [] := by
        rw [List.filter_eq_nil_iff]
        intro o _ h6
        exact Rch.none ((e6 o).1 h6)
      simp only [bind2, bind1]
      rw [m5]
      simp only [Option.bind_some]
      rw [same, Plain_m (hf g1) (by omega)]
      simp only [Option.bind_some]
      rw [if_pos trivial, m6]
      simp only [Option.bind_some]
      rw [none6, if_pos (by rfl), ReachN_m h1 (by omega)]
      simp only [Option.bind_some]
      rw [if_pos (by rfl), LostN_m h1 (by omega)]
      simp only [Option.bind_some]
      rw [if_pos (by rfl), BrokenN_m h1 (by omega)]
      rfl
theorem mid_m {s : HSt} (h : Idle s) {K1 K2 x y : List Int} (h1 : K1.length ≤ 30) {k : Nat} (hk : 200000 ≤ k) (hx : ∀ p ∈ x, isObj s.a p = true) (hy : ∀ p ∈ y, isObj s.a p = true) (lx : x.length ≤ 30) (ly : y.length ≤ 30) (j : Int) (R : List Int → Int → Option Bool) :
    LiveParts.j9 K1 K2 k s s x y j R false = some true := by
  unfold LiveParts.j9
  rw [if_neg Bool.false_ne_true]
  have hb := objs_bd h
  obtain ⟨g1, e1, m1⟩ := Reach_m h.ok (objs_wd h hx) (by omega) hk
  obtain ⟨g2, e2, m2⟩ := Reach_m h.ok (objs_wd h hy) (by omega) hk
  obtain ⟨g3, e3, m3⟩ := Reach_m h.ok (roots := x ++ y) (objs_wd h (fun p hp => (List.mem_append.1 hp).elim (hx p) (hy p))) (by rw [List.length_append]; omega) hk
  obtain ⟨g4, e4, m4⟩ := Lost_m h.ok (objs_wd h hx) (by omega) hk
  simp only [bind2, bind1]
  rw [m1]
  simp only [Option.bind_some]
  rw [m2]
  simp only [Option.bind_some]
  have a1 : appM [] x = some x := by unfold appM; rw [if_pos (by simp; omega)]; simp
  have a2 : appM x y = some (x ++ y) := by unfold appM; rw [if_pos (by omega)]
  rw [a1]
  simp only [Option.bind_some]
  rw [a2]
  simp only [Option.bind_some]
  rw [m3]
  simp only [Option.bind_some]
  rw [m4]
  simp only [Option.bind_some]
  exact fin_m h h1 hk e1 e2 e3 e4 k 0 (by omega) (by omega)
theorem pick_at {s : HSt} (h : Idle s) (hl : 0 < (hObjs s.a).length) (a : Int) : ∃ c : Nat, c < (hObjs s.a).length ∧ IntKind.i64.wrap (Int.tmod (IntKind.u64.wrap a) (IntKind.u64.wrap ((hObjs s.a).length : Int))) = (c : Int) ∧ isObj s.a (atI (hObjs s.a) (c : Int)) = true := by
  have hb := objs_bd h
  obtain ⟨n, hn⟩ : ∃ n, (hObjs s.a).length = n := ⟨_, rfl⟩
  rw [hn] at hl hb
  obtain ⟨c, hc, ec⟩ := u_mod a n hl
  refine ⟨c, by omega, ?_, ?_⟩
  · rw [hn, show IntKind.u64.wrap (n : Int) = n by rw [IntKind.wrap_u64]; omega, ec, wrap_s _ (by omega) (by omega)]
  · have hlt : c < (hObjs s.a).length := by omega
    rw [← mem_hObjs]
    unfold atI
    rw [List.getD_eq_getElem?_getD, Int.toNat_natCast, List.getElem?_eq_getElem hlt]
    exact List.getElem_mem hlt
theorem l8_m {s : HSt} (h : Idle s) {K1 K2 x : List Int} (h1 : K1.length ≤ 30) (h2 : K2.length ≤ 30) {k : Nat} (hk : 200000 ≤ k) (hx : ∀ p ∈ x, isObj s.a p = true) (lx : x.length ≤ 30) :
    ∀ (m j : Nat) (y : List Int), (∀ p ∈ y, isObj s.a p = true) → y.length = j → j ≤ K2.length → K2.length - j < m → LiveParts.l8 K1 K2 k s s x m y (j : Int) = some true := by
  intro m
  induction m with
  | zero => intro j y _ _ _ h; omega
  | succ m ih =>
    intro j y hy ly hj hm
    show LiveParts.l8b K1 K2 k s s x (LiveParts.l8 K1 K2 k s s x m) y (j : Int) = _
    unfold LiveParts.l8b
    rw [← hObjsF_eq]
    by_cases hlt : j < K2.length
    · rw [if_pos (by rw [decide_eq_true_eq]; omega)]
      by_cases hl : 0 < (hObjs s.a).length
      · rw [show decide (((hObjs s.a).length : Int) > 0) = true by rw [decide_eq_true_eq]; omega]
        unfold LiveParts.j9
        rw [if_pos rfl, if_pos (show inR (j : Int) K2.length = true by simp [inR]; omega), ← hObjsF_eq]
        obtain ⟨c, hc, ec, ho⟩ := pick_at h hl (atI K2 (j : Int))
        have hb := objs_bd h
        rw [if_neg (by rw [IntKind.wrap_u64]; simp; omega), ec, if_pos (show inR (c : Int) (hObjs s.a).length = true by simp [inR]; omega)]
        unfold bind1 pushM
        rw [if_pos (by omega)]
        simp only [Option.bind_some]
        rw [wrap_s _ (by omega) (by omega)]
        exact ih (j + 1) _ (fun p hp => by
          rcases List.mem_append.1 hp with hp | hp
          · exact hy p hp
          · rw [List.mem_singleton] at hp; subst hp; exact ho) (by simp [ly]) (by omega) (by omega)
      · rw [show decide (((hObjs s.a).length : Int) > 0) = false by rw [decide_eq_false_iff_not]; omega]
        exact mid_m h h1 hk hx hy lx (by omega) _ _
    · rw [if_neg (by rw [decide_eq_true_eq]; omega)]
      exact mid_m h h1 hk hx hy lx (by omega) _ _
theorem l4_m {s : HSt} (h : Idle s) {K1 K2 : List Int} (h1 : K1.length ≤ 30) (h2 : K2.length ≤ 30) {k : Nat} (hk : 200000 ≤ k) :
    ∀ (m j : Nat) (x : List Int), (∀ p ∈ x, isObj s.a p = true) → x.length = j → j ≤ K1.length → K1.length - j < m → LiveParts.l4 K1 K2 k s s m x (j : Int) = some true := by
  intro m
  induction m with
  | zero => intro j x _ _ _ h; omega
  | succ m ih =>
    intro j x hx lx hj hm
    have stop : ∀ R, LiveParts.j5 K1 K2 k s s x (j : Int) R false = some true := by
      intro R
      unfold LiveParts.j5
      rw [if_neg Bool.false_ne_true]
      exact l8_m h h1 h2 hk hx (by omega) k 0 [] (fun p hp => by cases hp) rfl (by omega) (by omega)
    show LiveParts.l4b K1 K2 k s s (LiveParts.l4 K1 K2 k s s m) x (j : Int) = _
    unfold LiveParts.l4b
    rw [← hObjsF_eq]
    by_cases hlt : j < K1.length
    · rw [if_pos (by rw [decide_eq_true_eq]; omega)]
      by_cases hl : 0 < (hObjs s.a).length
      · rw [show decide (((hObjs s.a).length : Int) > 0) = true by rw [decide_eq_true_eq]; omega]
        unfold LiveParts.j5
        rw [if_pos rfl, if_pos (show inR (j : Int) K1.length = true by simp [inR]; omega), ← hObjsF_eq]
        obtain ⟨c, hc, ec, ho⟩ := pick_at h hl (atI K1 (j : Int))
        have hb := objs_bd h
        rw [if_neg (by rw [IntKind.wrap_u64]; simp; omega), ec, if_pos (show inR (c : Int) (hObjs s.a).length = true by simp [inR]; omega)]
        unfold bind1 pushM
        rw [if_pos (by omega)]
        simp only [Option.bind_some]
        rw [wrap_s _ (by omega) (by omega)]
        exact ih (j + 1) _ (fun p hp => by
          rcases List.mem_append.1 hp with hp | hp
          · exact hx p hp
          · rw [List.mem_singleton] at hp; subst hp; exact ho) (by simp [lx]) (by omega) (by omega)
      · rw [show decide (((hObjs s.a).length : Int) > 0) = false by rw [decide_eq_false_iff_not]; omega]
        exact stop _
    · rw [if_neg (by rw [decide_eq_true_eq]; omega)]
      exact stop _
theorem awakeT : law22_awake.m 200000 = some true := by decide +kernel
theorem pure (K0 : List Op22) (hw : ∀ o ∈ K0, Wd o.w) (K1 K2 : List Int) : LiveParts.m 200000 K0 K1 K2 = some true := by
  obtain ⟨s, h, e⟩ := builtQ_m K0 hw (k := 200000) (by omega)
  unfold LiveParts.m bind1 bind2
  rw [e]
  simp only [Option.bind_some]
  rw [awakeT]
  simp only [Option.bind_some, Bool.not_true, Bool.false_eq_true, if_false]
  have over : LiveParts.j1 K1 K2 200000 s s true = some true := by
    unfold LiveParts.j1 bind1
    rw [if_pos rfl, awakeT]; rfl
  by_cases h1 : K1.length > 30
  · rw [if_pos (by rw [decide_eq_true_eq]; omega)]
    exact over
  · rw [if_neg (by rw [decide_eq_true_eq]; omega)]
    by_cases h2 : K2.length > 30
    · rw [show decide ((K2.length : Int) > 30) = true by rw [decide_eq_true_eq]; omega]
      exact over
    · rw [show decide ((K2.length : Int) > 30) = false by rw [decide_eq_false_iff_not]; omega]
      unfold LiveParts.j1
      rw [if_neg Bool.false_ne_true]
      exact l4_m h (by omega) (by omega) (by omega) 200000 0 [] (fun p hp => by cases hp) rfl (by omega) (by omega)
theorem walk (a0 : Option Addr) (len0 cap0 : Nat) (f0 : Nat → Nat → Int) (a1 : Option Addr) (len1 cap1 : Nat) (z1 : List Int) (a2 : Option Addr) (len2 cap2 : Nat) (z2 : List Int) (w : World) (w0 : ArgOps w (.slice a0 len0 cap0) 6 len0 f0) (w1 : IsRow .i64 w a1 len1 cap1 z1) (w2 : IsRow .i64 w a2 len2 cap2 z2) :
    Calls Try.prog 5 #[.slice a0 len0 cap0, .slice a1 len1 cap1, .slice a2 len2 cap2] w fun e w' => e = .returned (.bool true) ∧ Below w.heap.size w w' := by
  obtain ⟨hA, hwd⟩ := argX_of kOp (fun f => ⟨f 0, f 1, f 2, f 3, f 4, f 5⟩) (fun f => rfl) w0
  obtain ⟨K0, e0, h0, hw⟩ : ∃ K0 : List Op22, K0.length = len0 ∧ ArgX kOp w (.slice a0 len0 cap0) K0 ∧ ∀ o ∈ K0, Wd o.w := ⟨_, by simp, hA, fun o ho => by
    simp only [List.mem_map, List.mem_range] at ho
    obtain ⟨i, hi, rfl⟩ := ho
    exact hwd i hi 4 (by decide)⟩
  obtain ⟨K1, e1, h1⟩ := argInts_len w1
  obtain ⟨K2, e2, h2⟩ := argInts_len w2
  subst e0; subst e1; subst e2
  exact (LiveParts.ok h0 h1 h2 (St.empty w) (pure K0 hw K1 K2)).mono fun e w' ⟨he, h⟩ => ⟨he, h.old⟩

end Go.Proofs.Ytinagphkkegmnaa.liveParts
/-
  'LivePartsSaid' ('dormouselaw22.LiveParts'): for every input the law returns true, and each argument reads behind the call as it did before.
  Conditions: none beyond the given row's own.
-/
namespace Go.Proofs.Ytinagphkkegmnaa.liveParts
open Go.ChangeShapes Go.WideShapes Go.ChangeAt Go.RowKit
set_option linter.unusedVariables false

theorem own : ownKnob Try.prog.godebug = none := by kernel_rfl
theorem laidOut : laidOutB Try.prog = true := by kernel_rfl

/-! ### THE ROW -/
set_option maxRecDepth 100000 in
theorem lifted (os : Os) (started : os.Started) (H : Type) (enc : TypeId × Value → H) :
    ReturnsInHanded {} Try.checked os 5 .any (Rows.livePartsSpec.pre6 enc Try.prog Try.f5 Rows.livePartsRow.domain false) (Rows.livePartsSpec.post enc Try.prog Try.f5 false true false false) := by
  refine returnsInHanded_of_change (C := Try.checked) own started (by kernel_rfl) Try.func5
    (ChangeSpec.witness6 (enc := enc) (C := Try.checked) false ⟨#[], #[.slice none 0 0, .slice none 0 0, .slice none 0 0], []⟩ 8 (by kernel_rfl) (by kernel_rfl) (by kernel_rfl) (by kernel_rfl)) ?_
  intro W base args ds gs before hval0 hW hcnd _
  have hval : ∀ (j : Nat) t v, Try.f5.params[j]? = some t → args[j]? = some v → Value.okWide Try.prog W .any base t v := hval0
  have hW' := hW
  obtain ⟨p, q, hA0, hV, rfl, hfz, hnd⟩ := hW
  have hA : DataW.TrodAll enc Try.prog W 0 (fun _ => true) true Try.f5.params.toList args.toList ds p := hA0
  rw [Try.params5] at hA hval
  obtain ⟨v0, vs0, d0, ds0, p0, q0, hargs, rfl, rfl, h0, r0⟩ := trodAll_cons hA
  obtain ⟨v1, vs1, d1, ds1, p1, q1, rfl, rfl, rfl, h1, r1⟩ := trodAll_cons r0
  obtain ⟨v2, vs2, d2, ds2, p2, q2, rfl, rfl, rfl, h2, r2⟩ := trodAll_cons r1
  obtain ⟨rfl, rfl, rfl⟩ := trodAll_nil r2
  obtain rfl : args = #[v0, v1, v2] := by cases args; simp_all
  obtain ⟨rfl, rfl⟩ := trodVars_none hV
  obtain ⟨a0, len0, cap0, rfl⟩ := okWide_slice Try.underlying47 (hval 0 47 v0 rfl rfl)
  have k0 := h0
  have lt0 : ∀ x ∈ p0, x.block < W.heap.size := by obtain ⟨m, hm⟩ := k0; exact DataW.trod_lt m _ _ _ hm
  obtain ⟨f0, w0⟩ : ∃ f, ArgOps W (.slice a0 len0 cap0) 6 len0 f := by
    obtain ⟨fuel, hf⟩ := h0
    exact ops_open Try.underlying47 Try.underlying91 (by kernel_rfl) (by kernel_rfl) (by intro j f hj; match j, hj with | 0, hj => (cases hj; exact Try.underlying3) | 1, hj => (cases hj; exact Try.underlying3) | 2, hj => (cases hj; exact Try.underlying3) | 3, hj => (cases hj; exact Try.underlying3) | 4, hj => (cases hj; exact Try.underlying3) | 5, hj => (cases hj; exact Try.underlying3) | (n + 6), hj => cases hj) (by decide) hf
  obtain ⟨a1, len1, cap1, rfl⟩ := okWide_slice Try.underlying34 (hval 1 34 v1 rfl rfl)
  have k1 := h1
  have lt1 : ∀ x ∈ p1, x.block < W.heap.size := by obtain ⟨m, hm⟩ := k1; exact DataW.trod_lt m _ _ _ hm
  obtain ⟨z1, w1⟩ : ∃ zs, IsRow .i64 W a1 len1 cap1 zs := by
    obtain ⟨fuel, hf⟩ := h1
    rcases open_ints Try.underlying34 Try.underlying3 (by kernel_rfl) hf with ⟨hcs, _⟩ | ⟨x, l, c, zs, hcs, _, hl, hm, hz, _, hcell, hwz⟩
    · simp [Value.cells] at hcs
      obtain ⟨rfl, rfl, rfl⟩ := hcs
      exact ⟨[], .inl ⟨rfl, rfl, rfl, rfl⟩⟩
    · simp [Value.cells] at hcs
      obtain ⟨rfl, rfl, rfl⟩ := hcs
      exact ⟨zs, .inr ⟨_, rfl, hl, hm, by simpa using hz, hcell, hwz⟩⟩
  obtain ⟨a2, len2, cap2, rfl⟩ := okWide_slice Try.underlying34 (hval 2 34 v2 rfl rfl)
  have k2 := h2
  have lt2 : ∀ x ∈ p2, x.block < W.heap.size := by obtain ⟨m, hm⟩ := k2; exact DataW.trod_lt m _ _ _ hm
  obtain ⟨z2, w2⟩ : ∃ zs, IsRow .i64 W a2 len2 cap2 zs := by
    obtain ⟨fuel, hf⟩ := h2
    rcases open_ints Try.underlying34 Try.underlying3 (by kernel_rfl) hf with ⟨hcs, _⟩ | ⟨x, l, c, zs, hcs, _, hl, hm, hz, _, hcell, hwz⟩
    · simp [Value.cells] at hcs
      obtain ⟨rfl, rfl, rfl⟩ := hcs
      exact ⟨[], .inl ⟨rfl, rfl, rfl, rfl⟩⟩
    · simp [Value.cells] at hcs
      obtain ⟨rfl, rfl, rfl⟩ := hcs
      exact ⟨zs, .inr ⟨_, rfl, hl, hm, by simpa using hz, hcell, hwz⟩⟩
  clear hA0 hval0
  refine (walk a0 len0 cap0 f0 a1 len1 cap1 z1 a2 len2 cap2 z2 W w0 w1 w2).mono fun e W' ⟨he, bel⟩ => ?_
  subst he
  exact ⟨_, rfl, _, _, _, [], _, [], hW', trodAll_mk1 (shut_bool Try.underlying4 _), (trodAll_cons_mk (Below.trod laidOut (by kernel_rfl) (of_decide_eq_true (by kernel_rfl)) k0 bel lt0) (trodAll_cons_mk (Below.trod laidOut (by kernel_rfl) (of_decide_eq_true (by kernel_rfl)) k1 bel lt1) (trodAll_cons_mk (Below.trod laidOut (by kernel_rfl) (of_decide_eq_true (by kernel_rfl)) k2 bel lt2) trodAll_mk0))), rfl, bel.frame _, fun h => by cases h⟩

theorem over : Rows.livePartsRow.holds Try.pinned (OpenSpec.ofChange Rows.livePartsSpec) :=
  OpenClaim.holds_of_wide 5 Try.f5 rfl rfl rfl rfl rfl rfl rfl ⟨rfl, rfl, rfl, rfl, rfl⟩ rfl rfl rfl rfl rfl (by kernel_rfl) Try.func5 (by kernel_rfl)
    (of_decide_eq_true (by kernel_rfl)) (by unfold Func.isWrapper; first | (rw [if_pos (by decide +kernel)]; kernel_rfl) | (rw [if_neg (by decide +kernel)]; exact ⟨rfl, rfl⟩))
    (fun os started H enc _ => lifted os started H enc)

/-- THE STATEMENT -/
theorem proved : Rows.LivePartsSaid := over
#print axioms proved
end Go.Proofs.Ytinagphkkegmnaa.liveParts
