/- HeapCyclesW HeapCycles -/
import Derived.Test.YtffnjpapggidlaaGreatKGHeapCycles
import Derived.Test.YtffnjpapggidlaaGreatKPlays09
import Derived.Test.YtffnjpapggidlaaGreatKRReach
import Derived.Test.YtffnjpapggidlaaGreatKPure5
import Derived.Test.YtffnjpapggidlaaGreatRows
import Derived.WalkKit
import Derived.WalkSpells
import Derived.WalkLawsBesides
import Derived.ProofKit
import Derived.OpenShut
import Derived.ShutString
import Derived.ChangeOld
import Derived.Below
/-
  The walk of 'dormouselaw09.HeapCycles': the call returns true, in a world with at most new blocks.
-/
namespace Go.Proofs.YtffnjpapggidlaaGreat.heapCycles
open Go.RowKit
set_option linter.unusedVariables false

theorem awakeT : law09_awake.m 200000 = some true := by decide +kernel
theorem at_w {K : List Op09} (hw : ∀ o ∈ K, Wd o.w) {i : Nat} (hi : i < K.length) : Wd (atX kOp09 K (i : Int)).w := by
  unfold atX
  rw [List.getD_eq_getElem?_getD, Int.toNat_natCast, List.getElem?_eq_getElem hi]
  exact hw _ (List.getElem_mem hi)
theorem new_y (i0 : Int) : ∃ n : Nat, 2 ≤ n ∧ n ≤ 6 ∧ IntKind.i64.wrap (2 + (IntKind.i64.wrap (Int.tmod (IntKind.u64.wrap i0) 5))) = (n : Int) ∧ pNew (n : Int) = some (hNew n) ∧ prNew (n : Int) = some (hNew n) := by
  obtain ⟨c, hc, ec⟩ := u_mod i0 5 (by omega)
  simp only [Int.cast_ofNat_Int] at ec
  rw [ec, wr_t (c : Int) (by omega) (by omega), wr_t (2 + (c : Int)) (by omega) (by omega)]
  refine ⟨2 + c, by omega, by omega, by omega, ?_, ?_⟩
  · unfold pNew; rw [if_pos (by omega), Int.toNat_natCast]
  · unfold prNew; rw [if_pos (by omega), Int.toNat_natCast]
/-- The ops are done: both heaps are the same, and idle. -/
structure Op0 (n : Nat) (s : HSt) : Prop where
  bi : BI s
  ph : s.ph = 0
  cy : s.cy = 0
  len : s.a.l.length = n
theorem ops_l8 {K1 : List Op09} {K2 : List Int} {n : Nat} (hw : ∀ o ∈ K1, Wd o.w) {k : Nat} (hk : 5000 ≤ k) {x5 : Int} : ∀ (m i : Nat) (s : HSt), Op0 n s → i ≤ 80 → 80 - i < m → ∃ s', Op0 n s' ∧ HeapCycles.l8 K1 K2 k x5 m s s (i : Int) = HeapCycles.l12 K2 k x5 s' k [] s' 0 := by
  intro m
  induction m with
  | zero => intro i _ _ _ h; omega
  | succ m ih =>
    intro i s ok hi hm
    show ∃ s', _ ∧ HeapCycles.l8b K1 K2 k x5 (HeapCycles.l8 K1 K2 k x5 m) s s (i : Int) = _
    unfold HeapCycles.l8b
    have stop : ∃ s', Op0 n s' ∧ HeapCycles.j9 K1 K2 k x5 s s (i : Int) (HeapCycles.l8 K1 K2 k x5 m) false = HeapCycles.l12 K2 k x5 s' k [] s' 0 := ⟨s, ok, by unfold HeapCycles.j9; rw [if_neg Bool.false_ne_true]⟩
    by_cases h1 : i < K1.length
    · rw [if_pos (lt_yes h1)]
      by_cases h2 : i < 80
      · rw [show decide ((i : Int) < 80) = true by rw [decide_eq_true_eq]; omega]
        have go : ∀ z : Int, ¬ (z = 3 ∨ z = 4) → ∃ s', Op0 n s' ∧ HeapCycles.j11 K1 k s s (i : Int) (HeapCycles.l8 K1 K2 k x5 m) z = HeapCycles.l12 K2 k x5 s' k [] s' 0 := by
          intro z hz
          unfold HeapCycles.j11
          obtain ⟨s', e, b, c⟩ := play09_m ok.bi (⟨z, (atX kOp09 K1 (i : Int)).of, (atX kOp09 K1 (i : Int)).at', (atX kOp09 K1 (i : Int)).i, (atX kOp09 K1 (i : Int)).w, (atX kOp09 K1 (i : Int)).to⟩ : Op09) (at_w hw h1) hk
          obtain ⟨c1, c2, c3⟩ := c hz
          rw [e, bind3_y, if_neg (by simp), wr_t _ (by omega) (by omega)]
          exact ih (i + 1) s' ⟨b, c1.trans ok.ph, c2.trans ok.cy, c3.trans ok.len⟩ (by omega) (by omega)
        unfold HeapCycles.j9
        rw [if_pos rfl, if_pos (inR_n h1)]
        unfold HeapCycles.j10
        by_cases g1 : (atX kOp09 K1 (i : Int)).kind ≥ 1
        · rw [if_pos (by rw [decide_eq_true_eq]; exact g1)]
          by_cases g2 : (atX kOp09 K1 (i : Int)).kind ≤ 4
          · rw [if_pos (by rw [decide_eq_true_eq]; exact g2)]
            exact go 5 (by omega)
          · rw [if_neg (by rw [decide_eq_true_eq]; exact g2)]
            exact go _ (by omega)
        · rw [if_neg (by rw [decide_eq_true_eq]; exact g1), if_neg Bool.false_ne_true]
          exact go _ (by omega)
      · rw [show decide ((i : Int) < 80) = false by rw [decide_eq_false_iff_not]; omega]
        exact stop
    · rw [if_neg (lt_no h1)]
      exact stop
theorem roots_l12 {K2 : List Int} {s : HSt} (ok : BI s) (h0 : s.ph = 0) {k : Nat} {x5 : Int} (hK : K2.length ≤ 20) : ∀ (m i : Nat) (L : List Int), i ≤ K2.length → K2.length - i < m → L.length = i → (∀ x ∈ L, Wd x) → ∃ L', L'.length ≤ 20 ∧ HeapCycles.l12 K2 k x5 s m L s (i : Int) = HeapCycles.l23 k x5 s k L' [] (hBegin L' s) s 0 := by
  intro m
  induction m with
  | zero => intro i _ _ h; omega
  | succ m ih =>
    intro i L hi hm hL hwd
    show ∃ L', _ ∧ HeapCycles.l12b K2 k x5 s (HeapCycles.l12 K2 k x5 s m) L s (i : Int) = _
    unfold HeapCycles.l12b
    by_cases h1 : i < K2.length
    · obtain ⟨p, ep, hp, _⟩ := pick09_m ok.ok (atI K2 (i : Int)) k
      rw [if_pos (lt_yes h1), if_pos (inR_n h1), ep, bind2_y]
      unfold pushM
      rw [if_pos (by omega), bind1_y, wr_t _ (by omega) (by omega)]
      exact ih (i + 1) (L ++ [p]) (by omega) (by omega) (by simp [hL]) (fun x hx => by
        rcases List.mem_append.1 hx with h | h
        · exact hwd x h
        · simp only [List.mem_singleton] at h; subst h; exact hp)
    · rw [if_neg (lt_no h1), pBegin_y hwd, bind2_y]
      have : hBeginE s = 0 := by unfold hBeginE; rw [if_pos h0]
      rw [this, if_neg (by simp)]
      unfold appM
      rw [if_pos (by simp; omega), bind1_y, List.nil_append]
      exact ⟨L, by omega, rfl⟩
theorem objs_filter {s s' : ASt} (hl : s'.c.length = s.c.length) {g : Int → Bool} (h : ∀ x, isObj s' x = true ↔ isObj s x = true ∧ g x = true) : hObjs s' = (hObjs s).filter g := by
  unfold hObjs aObjects
  rw [hl, List.filter_map, List.filter_filter]
  congr 1
  apply List.filter_congr
  intro i _
  have := h (i : Int)
  unfold isObj at this
  rw [Bool.eq_iff_iff, this]
  simp only [Function.comp, Bool.and_eq_true]
  exact and_comm
theorem end_l29 {k n : Nat} (hk : 200000 ≤ k) {s h : HSt} {a1 : ASt} {keep gone left' : List Int} {t : Nat} (F : FI keep a1 gone h) (hcy : h.cy = 1) (hs : hObjs s.a = hObjs a1) (hsn : (hObjs s.a).length ≤ 4096) (hn : n ≤ 6) (ht : t ≤ 2 * (hObjs s.a).length + 1 + n) (hg : gone.length ≤ 30000) {g : Int → Bool} (hg2 : ∀ p, g p = true ↔ Rch a1 keep p) (hl : left' = (hObjs a1).filter g) : ∀ (m i : Nat), i ≤ (hObjsF s.a).length → (hObjsF s.a).length - i < m → HeapCycles.l29 k (n : Int) s gone h (t : Int) left' m (i : Int) = some true := by
  rw [← hs] at hl
  have hll : left'.length ≤ 4096 := by rw [hl]; exact Nat.le_trans (List.length_filter_le _ _) hsn
  rw [hs] at hl
  intro m
  induction m with
  | zero => intro i _ h; omega
  | succ m ih =>
    intro i hi hm
    show HeapCycles.l29b k (n : Int) s gone h (t : Int) left' (HeapCycles.l29 k (n : Int) s gone h (t : Int) left' m) (i : Int) = _
    unfold HeapCycles.l29b
    by_cases hlt : i < (hObjsF s.a).length
    · have hob : isObj a1 (hObjsF s.a)[i] = true := by
        rw [← mem_hObjs, ← hs, hObjsF_eq]; exact List.getElem_mem hlt
      rw [if_pos (lt_yes hlt), if_pos (inR_n hlt), atI_n hlt, In_m _ (by omega) (by omega), bind1_y, In_m _ (by omega) (by omega), bind1_y]
      generalize (hObjsF s.a)[i] = x at *
      have e1 : decide (x ∈ left') = g x := by
        have hm : x ∈ left' ↔ g x = true := by rw [hl, List.mem_filter, mem_hObjs]; simp [hob]
        cases hgx : g x with
        | true => exact decide_eq_true (hm.2 hgx)
        | false => exact decide_eq_false fun h => by have := hm.1 h; rw [hgx] at this; cases this
      have e2 : decide (x ∈ gone) = !g x := by
        have := F.gone x
        rw [← hg2] at this
        cases hgx : g x with
        | true => rw [decide_eq_false]; rfl; intro hm; exact (this.1 hm).2 hgx
        | false => rw [decide_eq_true]; rfl; exact this.2 ⟨hob, by rw [hgx]; decide⟩
      rw [e1, e2, if_neg (by cases g x <;> decide), wr_t _ (by rw [← hObjsF_eq] at hi; omega) (by rw [← hObjsF_eq] at hi; omega)]
      exact ih (i + 1) (by omega) (by omega)
    · rw [if_neg (lt_no hlt), ← hObjsF_eq]
      generalize (hObjs s.a).length = N at *
      rw [wr_t (2 * (N : Int)) (by omega) (by omega), wr_t (2 * (N : Int) + n) (by omega) (by omega), wr_t (2 * (N : Int) + n + 2) (by omega) (by omega)]
      have hfin : hObjs h.a = left' := by
        rw [hl]
        refine objs_filter F.len.2 fun x => ?_
        rw [F.obj, hg2]
        exact ⟨fun hr => ⟨hr.obj, hr⟩, fun hr => hr.2⟩
      rw [if_pos (by rw [decide_eq_true_eq]; omega), if_pos (by simp [hcy]), ← hObjsF_eq, hfin, Plain_m (by omega) (by omega), bind1_y]
      unfold HeapCycles.j30
      simp
theorem gone_l27 {t : Int} {R : List Int → List Int → HSt → HSt → Int → Option Bool} {L : List Gn} {h2 : HSt} (hL : ∀ g ∈ L, g.kept = false) (hl : L.length ≤ 4096) {keep : List Int} {w : HSt} : ∀ (m j : Nat) (gone : List Int), gone.length + L.length ≤ 100000 + j → j ≤ L.length → L.length - j < m → HeapCycles.l27 t R L h2 m keep gone w (j : Int) = R keep (gone ++ (L.drop j).map Gn.at') h2 w (IntKind.i64.wrap (t + 1)) := by
  intro m
  induction m with
  | zero => intro j _ _ _ h; omega
  | succ m ih =>
    intro j gone hg hj hm
    show HeapCycles.l27b t R L h2 (HeapCycles.l27 t R L h2 m) keep gone w (j : Int) = _
    unfold HeapCycles.l27b
    by_cases hlt : j < L.length
    · have hat : atG L (j : Int) = L[j] := by unfold atG; rw [List.getD_eq_getElem?_getD, Int.toNat_natCast, List.getElem?_eq_getElem hlt]; rfl
      rw [if_pos (lt_yes hlt), if_pos (inR_n hlt), hat, hL _ (List.getElem_mem hlt), if_neg Bool.false_ne_true]
      unfold pushM
      rw [if_pos (by omega), bind1_y]
      unfold HeapCycles.j28
      rw [wr_t _ (by omega) (by omega), List.drop_eq_getElem_cons hlt]
      have := ih (j + 1) (gone ++ [L[j].at']) (by simp; omega) (by omega) (by omega)
      rw [show ((j : Int) + 1) = ((j + 1 : Nat) : Int) by omega, this, List.append_assoc]
      rfl
    · rw [if_neg (lt_no hlt), List.drop_of_length_le (by omega)]
      simp
theorem kept_l27 {t : Int} {R : List Int → List Int → HSt → HSt → Int → Option Bool} {g : Gn} {h2 : HSt} (hg : g.kept = true) {keep gone : List Int} {w : HSt} (hk : keep.length < 900000) {m : Nat} (hm : 2 ≤ m) : HeapCycles.l27 t R [g] h2 m keep gone w 0 = R (keep ++ [g.at']) gone h2 { w with a := aStoreS g.at' 1 0 w.a } (IntKind.i64.wrap (t + 1)) := by
  obtain ⟨m', rfl⟩ : ∃ m', m = m' + 2 := ⟨m - 2, by omega⟩
  show HeapCycles.l27b t R [g] h2 (HeapCycles.l27 t R [g] h2 (m' + 1)) keep gone w 0 = _
  unfold HeapCycles.l27b
  rw [if_pos (by simp), if_pos (by simp [inR]), show atG [g] 0 = g from rfl, hg, if_pos rfl]
  unfold pushM pAStore
  rw [if_pos (by omega), bind1_y, if_pos (by decide), bind2_y]
  unfold HeapCycles.j28
  show HeapCycles.l27b t R [g] h2 (HeapCycles.l27 t R [g] h2 m') _ gone _ _ = _
  unfold HeapCycles.l27b
  rw [if_neg (by rw [wr_t _ (by omega) (by omega)]; simp)]
/-- Where the cycle stands. -/
inductive CI (s : HSt) (n T : Nat) (keep gone : List Int) (h w : HSt) (t : Nat) : Prop
  | mark : MI keep h → gone = [] → w.a = h.a → HOk w → h.cy = 0 → hObjs s.a = hObjs h.a → h.a.l.length = n → t + left h ≤ T → keep.length ≤ 20 + t → CI s n T keep gone h w t
  | sweep : SI keep w.a gone h → HOk w → h.cy = 0 → hObjs s.a = hObjs w.a → w.a.l.length = n → t + left h ≤ T → keep.length ≤ 20 + T → gone.length ≤ 4096 * h.sp.toNat → CI s n T keep gone h w t
  | fin : FI keep w.a gone h → HOk w → h.cy = 1 → hObjs s.a = hObjs w.a → t ≤ T → keep.length ≤ 20 + T → gone.length ≤ 4096 * n → CI s n T keep gone h w t
theorem all_l23 {k n T : Nat} (hk : 200000 ≤ k) {s : HSt} (hsn : (hObjs s.a).length ≤ 400) (hn : n ≤ 6) (hT : T = 2 * (hObjs s.a).length + 1 + n) : ∀ (m : Nat) (keep gone : List Int) (h w : HSt) (t : Nat), CI s n T keep gone h w t → left h < m → HeapCycles.l23 k (n : Int) s m keep gone h w (t : Int) = some true := by
  intro m
  induction m with
  | zero => intro _ _ _ _ _ _ h; omega
  | succ m ih =>
    intro keep gone h w t C hm
    show HeapCycles.l23b k (n : Int) s (HeapCycles.l23 k (n : Int) s m) keep gone h w (t : Int) = _
    unfold HeapCycles.l23b HeapCycles.j24
    have hstep : pStep h = some (hStep h) := by unfold pStep; rw [hStepF_eq]
    cases C with
    | mark M e1 e2 e3 e4 e5 e6 e7 e8 =>
      rw [if_pos (by simp [M.ph]), if_pos (by rw [decide_eq_true_eq]; omega), hstep]
      rcases M.step with ⟨h2, e, M2, a2, c2, l2⟩ | ⟨p, h2, e, _, M2, a2, c2, l2⟩ | ⟨h2, e, S2, c2, l2⟩
      · rw [e, bind2_y]
        have := gone_l27 (t := (t : Int)) (R := HeapCycles.l23 k (n : Int) s m) (L := []) (h2 := h2) (by simp) (by simp) (keep := keep) (w := w) k 0 gone (by rw [e1]; simp) (by simp) (by simp; omega)
        rw [show ((0 : Int)) = ((0 : Nat) : Int) from rfl, this, wr_t _ (by omega) (by omega)]
        simp only [List.drop_nil, List.map_nil, List.append_nil]
        exact ih _ _ _ _ (t + 1) (.mark M2 e1 (by rw [a2]; exact e2) e3 (c2.trans e4) (by rw [a2]; exact e5) (by rw [a2]; exact e6) (by omega) (by omega)) (by omega)
      · rw [e, bind2_y, kept_l27 (by rfl) (by omega) (by omega), wr_t _ (by omega) (by omega)]
        have hok := M.bi.ok.a
        exact ih _ _ _ _ (t + 1) (.mark M2 e1 (by rw [a2, ← e2]; rfl) (e3.storeA p 1 (by unfold Wd; omega)) (c2.trans e4) (by rw [a2, objs_store hok]; exact e5) (by rw [a2, (store_ok hok p 1 0).2.2]; exact e6) (by omega) (by simp [gnOf]; omega)) (by omega)
      · rw [e, bind2_y]
        have := gone_l27 (t := (t : Int)) (R := HeapCycles.l23 k (n : Int) s m) (L := []) (h2 := h2) (by simp) (by simp) (keep := keep) (w := w) k 0 gone (by rw [e1]; simp) (by simp) (by simp; omega)
        rw [show ((0 : Int)) = ((0 : Nat) : Int) from rfl, this, wr_t _ (by omega) (by omega)]
        simp only [List.drop_nil, List.map_nil, List.append_nil]
        rw [e1]
        exact ih _ _ _ _ (t + 1) (.sweep (by rw [e2]; exact S2) e3 (c2.trans e4) (by rw [e2]; exact e5) (by rw [e2]; exact e6) (by omega) (by omega) (by simp)) (by omega)
    | sweep S e3 e4 e5 e6 e7 e8 e9 =>
      have h2ph := S.ph
      have hleft : left h = h.a.l.length - h.sp.toNat := by unfold left; rw [if_neg (by omega), if_pos h2ph]
      have hspn := S.ok.spn h2ph
      have hs0 := S.ok.sp0
      have hln := S.len.1
      have hgl : (hGone h).length ≤ 4096 := by
        unfold hGone
        have h1 := List.length_filter_le (fun p => decide (p / 32 = h.sp) && decide (h.col p = 0)) (hObjs h.a)
        have h2 := hObjs_len (s := h.a)
        have := S.ok.a.len; have := S.ok.len
        omega
      have hm24 : h.sp.toNat ≤ 6 := by omega
      rw [if_pos (by simp [h2ph]), if_pos (by rw [decide_eq_true_eq]; omega), hstep]
      obtain ⟨h2, e, l2, hh⟩ := S.step
      rw [e, bind2_y]
      have := gone_l27 (t := (t : Int)) (R := HeapCycles.l23 k (n : Int) s m) (L := (hGone h).map (gnOf h false)) (h2 := h2) (by intro g hg; obtain ⟨p, _, rfl⟩ := List.mem_map.1 hg; rfl) (by simpa using hgl) (keep := keep) (w := w) k 0 gone (by simp; omega) (by simp) (by simp; omega)
      rw [show ((0 : Int)) = ((0 : Nat) : Int) from rfl, this, wr_t _ (by omega) (by omega)]
      have eat : ((hGone h).map (gnOf h false)).map Gn.at' = hGone h := by rw [List.map_map]; exact List.map_id' _
      rw [List.drop_zero, eat]
      rcases hh with ⟨S2, c2⟩ | ⟨F2, c2⟩
      · have hsp2 : h2.sp = h.sp + 1 := by
          have es : hStep h = hSweep h := by unfold hStep; rw [if_neg (by omega), if_pos h2ph]
          rw [es] at e
          unfold hSweep at e
          have e' := congrArg (fun x : List Gn × HSt => x.2.sp) e
          simp only at e'
          split at e' <;> exact e'.symm
        exact ih _ _ _ _ (t + 1) (.sweep S2 e3 (c2.trans e4) e5 e6 (by omega) e8 (by rw [List.length_append, hsp2]; omega)) (by omega)
      · exact ih _ _ _ _ (t + 1) (.fin F2 e3 (by rw [c2, e4]; unfold Go.RowKit.wrap64; omega) e5 (by omega) e8 (by rw [List.length_append]; omega)) (by omega)
    | fin F e3 e4 e5 e6 e8 e9 =>
      rw [if_neg (by simp [F.ph]), if_neg Bool.false_ne_true]
      obtain ⟨g, hg, e⟩ := refReach_m e3 (roots := keep) (by omega) (k := k) hk
      rw [e, bind2_y]
      have := end_l29 hk (n := n) (s := s) F e4 e5 (by omega) hn (t := t) (by omega) (by omega) hg rfl k 0 (by omega) (by rw [← hObjsF_eq]; omega)
      exact this
theorem objs_400 {s : HSt} (ok : HOk s) (h6 : s.a.l.length ≤ 6) : (hObjs s.a).length ≤ 400 := by
  have := hObjs_len (s := s.a); have := ok.a.len; omega
theorem pureK {k : Nat} (hk : 200000 ≤ k) (ha : law09_awake.m k = some true) (i0 : Int) (K : List Op09) (hw : ∀ o ∈ K, Wd o.w) (K2 : List Int) : HeapCycles.m k i0 K K2 = some true := by
  obtain ⟨n, h2, h6, e1, e2, e3⟩ := new_y i0
  unfold HeapCycles.m
  rw [bind1_y, e1, e2, bind1_y, e3, bind1_y, ha, bind1_y, if_neg (by simp)]
  unfold HeapCycles.j1
  by_cases h20 : K2.length > 20
  · rw [if_pos (by rw [decide_eq_true_eq]; omega), ha]; rfl
  · rw [if_neg (by rw [decide_eq_true_eq]; omega)]
    have hl : (hNew n).a.l.length = n := by simp [hNew, aNew, sNew]
    obtain ⟨s, o, es⟩ := ops_l8 (K2 := K2) (n := n) hw (k := k) (by omega) (x5 := (n : Int)) k 0 (hNew n) ⟨BE.new n (by omega) (by omega), rfl, rfl, hl⟩ (by omega) (by omega)
    obtain ⟨L, hL, el⟩ := roots_l12 o.bi o.ph (k := k) (x5 := (n : Int)) (K2 := K2) (by omega) k 0 [] (by omega) (by omega) rfl (by simp)
    rw [show ((0 : Int)) = ((0 : Nat) : Int) from rfl, es]
    rw [show ((0 : Int)) = ((0 : Nat) : Int) from rfl, el]
    obtain ⟨M, ea, ec⟩ := MI.begin o.bi.ok o.ph L
    have hlen := o.len
    have h400 := objs_400 o.bi.ok (by omega)
    have hleft : left (hBegin L s) ≤ 2 * (hObjs s.a).length + 1 + n := by
      unfold left
      rw [if_pos M.ph]
      have := mu_le (hBegin L s)
      rw [ea] at this ⊢
      omega
    exact all_l23 hk h400 h6 rfl k L [] (hBegin L s) s 0 (.mark M rfl ea.symm o.bi.ok (ec.trans o.cy) (by rw [ea]) (by rw [ea]; exact hlen) (by omega) (by omega)) (by omega)
theorem pure (i0 : Int) (K : List Op09) (hw : ∀ o ∈ K, Wd o.w) (K2 : List Int) : HeapCycles.m 200000 i0 K K2 = some true := pureK (Nat.le_refl _) awakeT i0 K hw K2
theorem walk (a0 : Int) (a1 : Option Addr) (len1 cap1 : Nat) (f1 : Nat → Nat → Int) (a2 : Option Addr) (len2 cap2 : Nat) (z2 : List Int) (w : World) (w0 : (Lit.int .i64 a0).wf = true) (w1 : ArgOps w (.slice a1 len1 cap1) 6 len1 f1) (w2 : IsRow .i64 w a2 len2 cap2 z2) :
    Calls Tryz.prog 5 #[.int .i64 a0, .slice a1 len1 cap1, .slice a2 len2 cap2] w fun e w' => e = .returned (.bool true) ∧ Below w.heap.size w w' := by
  obtain ⟨hA, hwd⟩ := argX_of kOp09 (fun f => ⟨f 0, f 1, f 2, f 3, f 4, f 5⟩) (fun f => rfl) w1
  obtain ⟨K1, e1, h1, hw⟩ : ∃ K1 : List Op09, K1.length = len1 ∧ ArgX kOp09 w (.slice a1 len1 cap1) K1 ∧ ∀ o ∈ K1, Wd o.w := ⟨_, by simp, hA, fun o ho => by
    simp only [List.mem_map, List.mem_range] at ho
    obtain ⟨i, hi, rfl⟩ := ho
    exact hwd i hi 4 (by decide)⟩
  obtain ⟨K2, e2, h2⟩ := argInts_len w2
  subst e1; subst e2
  exact (HeapCycles.ok h1 h2 (St.empty w) (pure a0 K1 hw K2)).mono fun e w' ⟨he, h⟩ => ⟨he, h.old⟩

end Go.Proofs.YtffnjpapggidlaaGreat.heapCycles
/-
  'HeapCyclesSaid' ('dormouselaw09.HeapCycles'): for every input the law returns true, and each argument reads behind the call as it did before.
  Conditions: none beyond the given row's own.
-/
namespace Go.Proofs.YtffnjpapggidlaaGreat.heapCycles
open Go.ChangeShapes Go.WideShapes Go.ChangeAt Go.RowKit
set_option linter.unusedVariables false

theorem own : ownKnob Tryz.prog.godebug = none := by kernel_rfl
theorem laidOut : laidOutB Tryz.prog = true := by kernel_rfl

/-! ### THE ROW -/
set_option maxRecDepth 100000 in
theorem lifted (os : Os) (started : os.Started) (H : Type) (enc : TypeId × Value → H) :
    ReturnsInHanded {} Tryz.checked os 5 .any (Rows.heapCyclesSpec.pre6 enc Tryz.prog Tryz.f5 Rows.heapCyclesRow.domain false) (Rows.heapCyclesSpec.post enc Tryz.prog Tryz.f5 false true false false) := by
  refine returnsInHanded_of_change (C := Tryz.checked) own started (by kernel_rfl) Tryz.func5
    (ChangeSpec.witness6 (enc := enc) (C := Tryz.checked) false ⟨#[], #[.int .i64 0, .slice none 0 0, .slice none 0 0], []⟩ 8 (by kernel_rfl) (by kernel_rfl) (by kernel_rfl) (by kernel_rfl)) ?_
  intro W base args ds gs before hval0 hW hcnd _
  have hval : ∀ (j : Nat) t v, Tryz.f5.params[j]? = some t → args[j]? = some v → Value.okWide Tryz.prog W .any base t v := hval0
  have hW' := hW
  obtain ⟨p, q, hA0, hV, rfl, hfz, hnd⟩ := hW
  have hA : DataW.TrodAll enc Tryz.prog W 0 (fun _ => true) true Tryz.f5.params.toList args.toList ds p := hA0
  rw [Tryz.params5] at hA hval
  obtain ⟨v0, vs0, d0, ds0, p0, q0, hargs, rfl, rfl, h0, r0⟩ := trodAll_cons hA
  obtain ⟨v1, vs1, d1, ds1, p1, q1, rfl, rfl, rfl, h1, r1⟩ := trodAll_cons r0
  obtain ⟨v2, vs2, d2, ds2, p2, q2, rfl, rfl, rfl, h2, r2⟩ := trodAll_cons r1
  obtain ⟨rfl, rfl, rfl⟩ := trodAll_nil r2
  obtain rfl : args = #[v0, v1, v2] := by cases args; simp_all
  obtain ⟨rfl, rfl⟩ := trodVars_none hV
  obtain ⟨a0, rfl, rfl, rfl, w0⟩ := open_int Tryz.underlying3 (hval 0 3 v0 rfl rfl) h0
  obtain ⟨a1, len1, cap1, rfl⟩ := okWide_slice Tryz.underlying58 (hval 1 58 v1 rfl rfl)
  have k1 := h1
  have lt1 : ∀ x ∈ p1, x.block < W.heap.size := by obtain ⟨m, hm⟩ := k1; exact DataW.trod_lt m _ _ _ hm
  obtain ⟨f1, w1⟩ : ∃ f, ArgOps W (.slice a1 len1 cap1) 6 len1 f := by
    obtain ⟨fuel, hf⟩ := h1
    exact ops_open Tryz.underlying58 Tryz.underlying66 (by kernel_rfl) (by kernel_rfl) (by intro j f hj; match j, hj with | 0, hj => (cases hj; exact Tryz.underlying3) | 1, hj => (cases hj; exact Tryz.underlying3) | 2, hj => (cases hj; exact Tryz.underlying3) | 3, hj => (cases hj; exact Tryz.underlying3) | 4, hj => (cases hj; exact Tryz.underlying3) | 5, hj => (cases hj; exact Tryz.underlying3) | (n + 6), hj => cases hj) (by decide) hf
  obtain ⟨a2, len2, cap2, rfl⟩ := okWide_slice Tryz.underlying47 (hval 2 47 v2 rfl rfl)
  have k2 := h2
  have lt2 : ∀ x ∈ p2, x.block < W.heap.size := by obtain ⟨m, hm⟩ := k2; exact DataW.trod_lt m _ _ _ hm
  obtain ⟨z2, w2⟩ : ∃ zs, IsRow .i64 W a2 len2 cap2 zs := by
    obtain ⟨fuel, hf⟩ := h2
    rcases open_ints Tryz.underlying47 Tryz.underlying3 (by kernel_rfl) hf with ⟨hcs, _⟩ | ⟨x, l, c, zs, hcs, _, hl, hm, hz, _, hcell, hwz⟩
    · simp [Value.cells] at hcs
      obtain ⟨rfl, rfl, rfl⟩ := hcs
      exact ⟨[], .inl ⟨rfl, rfl, rfl, rfl⟩⟩
    · simp [Value.cells] at hcs
      obtain ⟨rfl, rfl, rfl⟩ := hcs
      exact ⟨zs, .inr ⟨_, rfl, hl, hm, by simpa using hz, hcell, hwz⟩⟩
  clear hA0 hval0
  refine (walk a0 a1 len1 cap1 f1 a2 len2 cap2 z2 W w0 w1 w2).mono fun e W' ⟨he, bel⟩ => ?_
  subst he
  exact ⟨_, rfl, _, _, _, [], _, [], hW', trodAll_mk1 (shut_bool Tryz.underlying4 _), (trodAll_cons_mk (shut_int Tryz.underlying3 w0) (trodAll_cons_mk (Below.trod laidOut (by kernel_rfl) (of_decide_eq_true (by kernel_rfl)) k1 bel lt1) (trodAll_cons_mk (Below.trod laidOut (by kernel_rfl) (of_decide_eq_true (by kernel_rfl)) k2 bel lt2) trodAll_mk0))), rfl, bel.frame _, fun h => by cases h⟩

theorem over : Rows.heapCyclesRow.holds Tryz.pinned (OpenSpec.ofChange Rows.heapCyclesSpec) :=
  OpenClaim.holds_of_wide 5 Tryz.f5 rfl rfl rfl rfl rfl rfl rfl ⟨rfl, rfl, rfl, rfl, rfl⟩ rfl rfl rfl rfl rfl (by kernel_rfl) Tryz.func5 (by kernel_rfl)
    (of_decide_eq_true (by kernel_rfl)) (by unfold Func.isWrapper; first | (rw [if_pos (by decide +kernel)]; kernel_rfl) | (rw [if_neg (by decide +kernel)]; exact ⟨rfl, rfl⟩))
    (fun os started H enc _ => lifted os started H enc)

/-- THE STATEMENT -/
theorem proved : Rows.HeapCyclesSaid := over
#print axioms proved
end Go.Proofs.YtffnjpapggidlaaGreat.heapCycles
