/- ViewTellsW -/
import Derived.Test.YtffnjpapggidlaaGreatKGViewTells
import Derived.Test.YtffnjpapggidlaaGreatKSame11
import Derived.Test.YtffnjpapggidlaaGreatKRBegin
import Derived.Test.YtffnjpapggidlaaGreatKSepArena
import Derived.Test.YtffnjpapggidlaaGreatKArgS
import Derived.Test.YtffnjpapggidlaaGreatRows
import Derived.WalkKit
import Derived.WalkSpells
import Derived.WalkLawsBesides
/-
  The walk of 'dormouselaw11.ViewTells': the call returns true, in a world with at most new blocks.
-/
namespace Go.Proofs.YtffnjpapggidlaaGreat.viewTells
open Go.RowKit
set_option linter.unusedVariables false

theorem awakeT : law11_awake.m 5000 = some true := by decide +kernel
theorem both_l3 {b : Bool} : ∀ (m i : Nat) (s : HSt), HOk s → i ≤ 4 → 4 - i < m → ∃ s', HOk s' ∧ law11_bothM.l3 b m s s (i : Int) = some (s', s') := by
  intro m
  induction m with
  | zero => intro i _ _ _ h; omega
  | succ m ih =>
    intro i s ok hi hm
    show ∃ s', _ ∧ law11_bothM.l3b b (law11_bothM.l3 b m) s s (i : Int) = _
    unfold law11_bothM.l3b
    by_cases hlt : i < 4
    · rw [if_pos (by rw [decide_eq_true_eq]; omega), if_pos (show inR (i : Int) [1, 3, 4, 5].length = true from inR_n hlt), if_pos (show inR (i : Int) [9, 7, 10, 2].length = true from inR_n hlt)]
      unfold pAlloc
      rw [bind3_y, bind3_y, if_neg (by simp)]
      unfold law11_bothM.j4
      rw [if_neg (by simp), wr_t _ (by omega) (by omega)]
      exact ih (i + 1) _ (ok.alloc _ _) (by omega) (by omega)
    · rw [if_neg (by rw [decide_eq_true_eq]; omega)]
      unfold law11_bothM.j5
      cases b with
      | true =>
        rw [if_pos rfl]
        unfold pBegin
        rw [if_pos (show ([] : List Int).all wdB = true from rfl), bind2_y, bind2_y]
        exact ⟨_, ok.begin [], rfl⟩
      | false => exact ⟨s, ok, by rw [if_neg Bool.false_ne_true]⟩
theorem both_m (b : Bool) {k : Nat} (hk : 5 ≤ k) : ∃ s, HOk s ∧ law11_bothM.m k b = some (s, s) := by
  have e1 : pNew 4 = some (hNew 4) := rfl
  have e2 : prNew 4 = some (hNew 4) := rfl
  unfold law11_bothM.m
  rw [e1, e2, bind1_y, bind1_y]
  exact both_l3 k 0 (hNew 4) (HOk.new 4 (by omega) (by omega)) (by omega) (by omega)
theorem objs_n' {s : HSt} (ok : HOk s) : (hObjsF s.a).length ≤ 4096 := by
  rw [← hObjsF_eq]; have := hObjs_len (s := s.a); have := ok.a.len; have := ok.len; omega
theorem objs_in' {s : HSt} (ok : HOk s) {x : Int} (h : x ∈ hObjsF s.a) : isObj s.a x = true ∧ inR x s.a.c.length = true ∧ 0 ≤ x ∧ x < 4096 := by
  rw [← hObjsF_eq, mem_hObjs] at h
  obtain ⟨r0, r1⟩ := isObj_range h
  have := ok.a.len; have := ok.len
  exact ⟨h, by simp [inR]; omega, r0, by omega⟩
theorem places_l7 {s : HSt} (ok : HOk s) : ∀ (m i : Nat) (a b c d : Int), i ≤ (hObjsF s.a).length → (hObjsF s.a).length - i < m → ∃ a' b' c' d', law11_places.l7 s m (i : Int) a b c d = some (a', b', c', d', s) := by
  have hn := objs_n' ok
  intro m
  induction m with
  | zero => intro i _ _ _ _ _ h; omega
  | succ m ih =>
    intro i a b c d hi hm
    show ∃ a' b' c' d', law11_places.l7b s (law11_places.l7 s m) (i : Int) a b c d = _
    unfold law11_places.l7b law11_places.j10 law11_places.j9 law11_places.j8
    by_cases hlt : i < (hObjsF s.a).length
    · rw [if_pos (lt_yes hlt), if_pos (inR_n hlt), wr_t _ (by omega) (by omega)]
      have go := fun a b c d => ih (i + 1) a b c d (by omega) (by omega)
      split
      · exact go _ _ _ _
      · split
        · exact go _ _ _ _
        · split
          · exact go _ _ _ _
          · exact go _ _ _ _
    · rw [if_neg (lt_no hlt)]
      exact ⟨_, _, _, _, rfl⟩
theorem places_m {s : HSt} (ok : HOk s) {k : Nat} (hk : 5000 ≤ k) : ∃ a b c d, law11_places.m k s = some (a, b, c, d, s) := places_l7 ok k 0 _ _ _ _ (by omega) (by have := objs_n' ok; omega)
theorem alike_l4 {s : HSt} (ok : HOk s) {i : Nat} (hi : i < (hObjsF s.a).length) {R : Int → Option (Bool × HSt × HSt)} : ∀ (m j : Nat), (j : Int) ≤ aLen s.a.c (hObjsF s.a)[i] → (aLen s.a.c (hObjsF s.a)[i]).toNat - j < m → law11_alike.l4 s s (i : Int) R m (j : Int) = R (IntKind.i64.wrap ((i : Int) + 1)) := by
  have hb := alen_bd ok.a (hObjsF s.a)[i]
  intro m
  induction m with
  | zero => intro j _ h; omega
  | succ m ih =>
    intro j hj hm
    show law11_alike.l4b s s (i : Int) R (law11_alike.l4 s s (i : Int) R m) (j : Int) = _
    unfold law11_alike.l4b
    rw [if_pos (inR_n hi), atI_n hi]
    by_cases hlt : (j : Int) < aLen s.a.c (hObjsF s.a)[i]
    · rw [if_pos (by rw [decide_eq_true_eq]; exact hlt)]
      unfold pLoad
      rw [bind2_y, bind2_y, if_neg (by simp), wr_t _ (by omega) (by omega)]
      exact ih (j + 1) (by omega) (by omega)
    · rw [if_neg (by rw [decide_eq_true_eq]; exact hlt)]
theorem alike_l3 {s : HSt} (ok : HOk s) {k : Nat} (hk : 5000 ≤ k) : ∀ (m i : Nat), i ≤ (hObjsF s.a).length → (hObjsF s.a).length - i < m → law11_alike.l3 s s k m (i : Int) = some (true, s, s) := by
  have hn := objs_n' ok
  intro m
  induction m with
  | zero => intro i _ h; omega
  | succ m ih =>
    intro i hi hm
    show law11_alike.l3b s s k (law11_alike.l3 s s k m) (i : Int) = _
    unfold law11_alike.l3b
    by_cases hlt : i < (hObjsF s.a).length
    · obtain ⟨o1, o2, o3, o4⟩ := objs_in' ok (List.getElem_mem hlt)
      have hb := alen_bd ok.a (hObjsF s.a)[i]
      rw [if_pos (lt_yes hlt), if_pos (inR_n hlt), atI_n hlt, if_pos o2]
      unfold pColour
      rw [if_pos (wd_yes (by unfold Wd; omega)), bind1_y]
      have hc : hColour s (hObjsF s.a)[i] = s.col (hObjsF s.a)[i] := by unfold hColour; rw [if_pos o1]
      rw [if_neg (by simp [hc])]
      have := alike_l4 ok hlt (R := law11_alike.l3 s s k m) k 0 (by omega) (by omega)
      rw [show ((0 : Int)) = ((0 : Nat) : Int) from rfl, this, wr_t _ (by omega) (by omega)]
      exact ih (i + 1) (by omega) (by omega)
    · rw [if_neg (lt_no hlt)]
theorem alike_m {s : HSt} (ok : HOk s) {k : Nat} (hk : 5000 ≤ k) : law11_alike.m k s s = some (true, s, s) := alike_l3 ok hk k 0 (by omega) (by have := objs_n' ok; omega)
theorem small_m (k : Nat) (x : Int) : law11_small.m k x = some (Int.tmod x 1099511627776) := rfl
theorem eqL_self : ∀ L : List Int, eqL L L = true
  | [] => rfl
  | x :: L => by unfold eqL; simp [eqL_self L]
theorem seen_l6 {s : HSt} (ok : HOk s) {k : Nat} (hk : 5000 ≤ k) {i6 a b c : Int} : ∀ (m i : Nat), i ≤ 4 → 4 - i < m → ViewTells.l6 i6 k a b c m s s (i : Int) = some true := by
  intro m
  induction m with
  | zero => intro i _ h; omega
  | succ m ih =>
    intro i hi hm
    show ViewTells.l6b i6 k a b c (ViewTells.l6 i6 k a b c m) s s (i : Int) = _
    unfold ViewTells.l6b
    by_cases hlt : i < 4
    · rw [if_pos (by rw [decide_eq_true_eq]; omega), if_pos (show inR (i : Int) [a, b, c, i6].length = true from inR_n hlt)]
      rw [pChan_e, bind2_y, rChan_m ok _ (by omega), bind3_y, pSudog_e, bind2_y, rSudog_m ok _ (by omega), bind3_y, vGor_m ok _ (by omega), bind3_y, rGor_m ok _ (by omega), bind3_y]
      rw [if_neg (by simp), if_neg (by simp), if_neg (by simp), if_neg (by simp), if_neg (by simp [eqL_self])]
      unfold ViewTells.j7
      rw [if_neg (by simp), wr_t _ (by omega) (by omega)]
      exact ih (i + 1) (by omega) (by omega)
    · rw [if_neg (by rw [decide_eq_true_eq]; omega)]
theorem pStore_v {s : HSt} (p i : Int) {x : Int} (hx : Wd x) : pStore p i x s = some (aErr p i s.a, hStore p i x s) := by unfold pStore; rw [if_pos (wd_yes hx)]
theorem last_j2 {s : HSt} (ok : HOk s) {k : Nat} (hk : 5000 ≤ k) {i4 i5 i6 a b c : Int} (hw : Wd i5) : ViewTells.j2 i4 i5 i6 k a b c s s true = some true := by
  unfold ViewTells.j2
  rw [bind1_y, pStore_v _ _ hw, bind2_y, bind2_y, pStore_v _ _ hw, bind2_y, bind2_y, pStore_v _ _ hw, bind2_y, bind2_y]
  have ok3 := ((ok.store a (IntKind.i64.wrap (Int.tmod (IntKind.u64.wrap i4) 10)) hw).store b (IntKind.i64.wrap (Int.tmod (IntKind.u64.wrap i4) 10)) hw).store c (IntKind.i64.wrap (Int.tmod (IntKind.u64.wrap i4) 10)) hw
  rw [if_neg (by simp), alike_m ok3 hk, bind3_y]
  unfold ViewTells.j3
  rw [if_neg (by simp)]
  exact seen_l6 ok3 hk k 0 (by omega) (by omega)
theorem pureK {k : Nat} (hk : 5000 ≤ k) (ha : law11_awake.m k = some true) (i0 : Bool) (i1 : Ch) (i2 : Su) (i3 : Gr) (i4 i5 i6 : Int) (h1 : Wd i2.value) (h2 : GoWd i3) (h5 : Wd i5) : ViewTells.m k i0 i1 i2 i3 i4 i5 i6 = some true := by
  obtain ⟨s, ok, e⟩ := both_m i0 (k := k) (by omega)
  unfold ViewTells.m
  rw [e, bind2_y, ha, bind1_y, if_neg (by simp)]
  unfold ViewTells.j1
  obtain ⟨a, b, c, d, ep⟩ := places_m ok hk
  rw [if_neg Bool.false_ne_true, ep]
  show bind1 _ _ = _
  simp only [small_m, bind1_y]
  rw [rPutChan_m ok _ _ (by omega)]
  unfold pPutChan
  rw [bind2_y, bind2_y, if_pos (by simp)]
  have ok1 := (ok.put a 1 9 (chW_wd ⟨Int.tmod i1.cap 1099511627776, Int.tmod i1.closed 1099511627776, Int.tmod i1.count 1099511627776, Int.tmod i1.start 1099511627776, Int.tmod i1.buf 1099511627776, Int.tmod i1.th 1099511627776, Int.tmod i1.tt 1099511627776, Int.tmod i1.sh 1099511627776, Int.tmod i1.st 1099511627776⟩)).1
  generalize hPut a 1 9 _ s = s1 at *
  rw [rPutSudog_m ok1 b (⟨Int.tmod i2.gor 1099511627776, Int.tmod i2.chan 1099511627776, i2.value, Int.tmod i2.next 1099511627776, Int.tmod i2.to 1099511627776, Int.tmod i2.reg 1099511627776, Int.tmod i2.more 1099511627776⟩ : Su) h1 (by omega)]
  unfold pPutSudog
  rw [if_pos (wd_yes h1), bind2_y, bind2_y, if_pos (by simp)]
  have ok2 := (ok1.put b 3 7 (suW_wd ⟨Int.tmod i2.gor 1099511627776, Int.tmod i2.chan 1099511627776, i2.value, Int.tmod i2.next 1099511627776, Int.tmod i2.to 1099511627776, Int.tmod i2.reg 1099511627776, Int.tmod i2.more 1099511627776⟩ h1)).1
  generalize hPut b 3 7 _ s1 = s2 at *
  have hg : GoWd (⟨Int.tmod i3.id 1099511627776, Int.tmod i3.status 1099511627776, Int.tmod i3.pc 1099511627776, i3.a, i3.b, i3.c, i3.d, i3.e, i3.f, Int.tmod i3.sudogs 1099511627776⟩ : Gr) := h2
  rw [rPutGor_m ok2 _ _ hg (by omega)]
  have ok3 := (ok2.put c 4 10 (goW_wd _ hg)).1
  obtain ⟨g1, g2, g3, g4, g5, g6⟩ := h2
  unfold pPutGor
  simp only [wd_yes g1, wd_yes g2, wd_yes g3, wd_yes g4, wd_yes g5, wd_yes g6, Bool.and_self, if_true]
  rw [bind2_y, bind2_y]
  simp only [beq_self_eq_true]
  exact last_j2 ok3 hk h5
theorem pure (i0 : Bool) (i1 : Ch) (i2 : Su) (i3 : Gr) (i4 i5 i6 : Int) (h1 : Wd i2.value) (h2 : GoWd i3) (h5 : Wd i5) : ViewTells.m 5000 i0 i1 i2 i3 i4 i5 i6 = some true := pureK (Nat.le_refl _) awakeT i0 i1 i2 i3 i4 i5 i6 h1 h2 h5
theorem walk (a0 : Bool) (x1_0 x1_1 x1_2 x1_3 x1_4 x1_5 x1_6 x1_7 x1_8 : Int) (x2_0 x2_1 x2_2 x2_3 x2_4 x2_5 x2_6 : Int) (x3_0 x3_1 x3_2 x3_3 x3_4 x3_5 x3_6 x3_7 x3_8 x3_9 : Int) (a4 : Int) (a5 : Int) (a6 : Int) (w : World) (w1 : ∀ x ∈ [x1_0, x1_1, x1_2, x1_3, x1_4, x1_5, x1_6, x1_7, x1_8], Wd x) (w2 : ∀ x ∈ [x2_0, x2_1, x2_2, x2_3, x2_4, x2_5, x2_6], Wd x) (w3 : ∀ x ∈ [x3_0, x3_1, x3_2, x3_3, x3_4, x3_5, x3_6, x3_7, x3_8, x3_9], Wd x) (w4 : (Lit.int .i64 a4).wf = true) (w5 : (Lit.int .i64 a5).wf = true) (w6 : (Lit.int .i64 a6).wf = true) :
    Calls Tryz.prog 3 #[.bool a0, .agg #[.int .i64 x1_0, .int .i64 x1_1, .int .i64 x1_2, .int .i64 x1_3, .int .i64 x1_4, .int .i64 x1_5, .int .i64 x1_6, .int .i64 x1_7, .int .i64 x1_8], .agg #[.int .i64 x2_0, .int .i64 x2_1, .int .i64 x2_2, .int .i64 x2_3, .int .i64 x2_4, .int .i64 x2_5, .int .i64 x2_6], .agg #[.int .i64 x3_0, .int .i64 x3_1, .int .i64 x3_2, .int .i64 x3_3, .int .i64 x3_4, .int .i64 x3_5, .int .i64 x3_6, .int .i64 x3_7, .int .i64 x3_8, .int .i64 x3_9], .int .i64 a4, .int .i64 a5, .int .i64 a6] w fun e w' => e = .returned (.bool true) ∧ Below w.heap.size w w' := by
  have v1 : Wd x2_2 := w2 _ (by simp)
  have v2 : GoWd ⟨x3_0, x3_1, x3_2, x3_3, x3_4, x3_5, x3_6, x3_7, x3_8, x3_9⟩ := ⟨w3 _ (by simp), w3 _ (by simp), w3 _ (by simp), w3 _ (by simp), w3 _ (by simp), w3 _ (by simp)⟩
  have v5 : Wd a5 := wd_of_wf w5
  exact (ViewTells.ok (i1 := ⟨x1_0, x1_1, x1_2, x1_3, x1_4, x1_5, x1_6, x1_7, x1_8⟩) (i2 := ⟨x2_0, x2_1, x2_2, x2_3, x2_4, x2_5, x2_6⟩) (i3 := ⟨x3_0, x3_1, x3_2, x3_3, x3_4, x3_5, x3_6, x3_7, x3_8, x3_9⟩) (St.empty w) (pure _ _ _ _ _ _ _ v1 v2 v5)).mono fun e w' ⟨he, h⟩ => ⟨he, h.old⟩

end Go.Proofs.YtffnjpapggidlaaGreat.viewTells
