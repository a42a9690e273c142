/- StoreKeepsW -/
import Derived.Test.YtffnjpapggidlaaKGStoreKeeps
import Derived.Test.YtffnjpapggidlaaKStoreM
import Derived.Test.YtffnjpapggidlaaKPureArena
import Derived.Test.YtffnjpapggidlaaKSepLit
import Derived.Test.YtffnjpapggidlaaRows
import Derived.WalkKit
import Derived.WalkSpells
import Derived.WalkLawsBesides
/-
  The walk of 'dormouselaw21.StoreKeeps': the call returns true, in a world with at most new blocks.
-/
namespace Go.Proofs.Ytffnjpapggidlaa.storeKeeps
open Go.RowKit
set_option linter.unusedVariables false

theorem awakeT : law21_awake.m 150000 = some true := by decide +kernel
def Pl (k : Int) (ws : List Int) : Prop := (∀ w ∈ ws, vIsPtr w = false) ∧ k ≠ 5
theorem bar : Bar Pl := fun k ws h => ⟨h.1, fun e => absurd e h.2⟩
theorem pl_zero {k : Int} (h : k ≠ 5) (n : Nat) : Pl k (List.replicate n 0) := ⟨fun w hw => by have := List.eq_of_mem_replicate hw; subst this; rfl, h⟩
theorem mod_m (a : Int) (m : Nat) (h0 : 0 < m) (h1 : m < 1000) (k : Nat) : ∃ c : Nat, c < m ∧ play_mod.m k a (m : Int) = some (c : Int) := by
  unfold play_mod.m
  have hu : IntKind.u64.wrap (m : Int) = m := by rw [IntKind.wrap_u64]; omega
  obtain ⟨c, hc, ec⟩ := u_mod a m h0
  rw [hu, if_neg (by simp; omega), ec, wr_t _ (by omega) (by omega), bind1_y]
  exact ⟨c, hc, rfl⟩
theorem config_m (i0 : Cf) (k : Nat) : ∃ a b c : Nat, a < 12 ∧ b < 100 ∧ c < 9 ∧ play_Config.m k i0 = some ⟨(2 + a : Nat), (1 + b : Nat), (c : Nat)⟩ := by
  unfold play_Config.m
  obtain ⟨a, ha, ea⟩ := mod_m i0.spans 12 (by omega) (by omega) k
  obtain ⟨b, hb, eb⟩ := mod_m i0.start 100 (by omega) (by omega) k
  obtain ⟨c, hc, ec⟩ := mod_m i0.assist 9 (by omega) (by omega) k
  simp only [Int.cast_ofNat_Int] at ea eb ec
  rw [ea, bind1_y, eb, bind1_y, ec, bind1_y, wr_t (2 + (a : Int)) (by omega) (by omega), wr_t (1 + (b : Int)) (by omega) (by omega)]
  exact ⟨a, b, c, ha, hb, hc, rfl⟩
theorem new_m {n a b : Int} (hn : 2 ≤ n ∧ n ≤ 128) (ha : 1 ≤ a ∧ a ≤ 100) (hb : 0 ≤ b ∧ b ≤ 8) (k : Nat) : store_New.m k ⟨n, a, b⟩ = some (hNew n.toNat, n, a, b, 0) := by
  unfold store_New.m store_New.j1
  simp only
  rw [if_neg (by rw [decide_eq_true_eq]; omega), if_neg (by rw [decide_eq_true_eq]; omega), if_neg (by rw [decide_eq_true_eq]; omega), if_neg (by rw [decide_eq_true_eq]; omega)]
  unfold pNew
  rw [if_pos hn, bind1_y]
theorem new_obj (n : Nat) (x : Int) : isObj (hNew n).a x = false := by
  cases h : isObj (hNew n).a x with
  | false => rfl
  | true =>
    obtain ⟨q, k, m, rfl, hq⟩ := isObj_some h
    exfalso
    unfold hNew aNew at hq
    simp only at hq
    rw [List.getElem?_replicate] at hq
    split at hq <;> cases hq
theorem new_fl {Q : Int → List Int → Prop} {n : Nat} (h2 : 2 ≤ n) (h8 : n ≤ 8) : Fl Q (hNew n) :=
  ⟨BE.new n h2 (by omega), by show (sNew n).length ≤ 8; simp [sNew]; omega, fun x hx => (by rw [new_obj] at hx; cases hx), fun _ x hx => (by rw [new_obj] at hx; cases hx), fun r hr => .inl (by have : r ∈ List.replicate n noRow := hr; rw [List.eq_of_mem_replicate this]; rfl)⟩
theorem new_len (n : Nat) : (hNew n).a.l.length = n := by show (sNew n).length = n; simp [sNew]
/-- What a word is stored as. -/
def enc (x : Int) : Int := wrap64 ((Int.tmod x 1000) * 2)
theorem enc_plain (x : Int) : vIsPtr (enc x) = false := by
  unfold enc
  have : wrap64 (Int.tmod x 1000 * 2) % 2 = 0 := by unfold wrap64; omega
  generalize wrap64 (Int.tmod x 1000 * 2) = y at *
  unfold vIsPtr
  simp
  omega
def W (K : List Int) (i : Nat) : List Int := (List.range 10).map fun j => if j < i ∧ j < K.length then enc (atI K (j : Int)) else 0
theorem W_get (K : List Int) (i j : Nat) : (W K i)[j]? = if j < 10 then some (if j < i ∧ j < K.length then enc (atI K (j : Int)) else 0) else none := by
  unfold W
  rw [List.getElem?_map]
  by_cases h : j < 10
  · rw [List.getElem?_range h, if_pos h]; rfl
  · rw [List.getElem?_eq_none (by simp; omega), if_neg h]; rfl
theorem W_zero (K : List Int) : W K 0 = List.replicate 10 0 := by
  apply List.ext_getElem?
  intro j
  rw [W_get, List.getElem?_replicate, if_neg (by omega : ¬ (j < 0 ∧ j < K.length))]
theorem W_set (K : List Int) {i : Nat} (hi : i < K.length) (h10 : i < 10) : (W K i).set i (enc (atI K (i : Int))) = W K (i + 1) := by
  apply List.ext_getElem?
  intro j
  have hl : (W K i).length = 10 := by simp [W]
  rw [List.getElem?_set, hl, W_get, W_get]
  by_cases e : i = j
  · subst e
    rw [if_pos rfl, if_pos h10, if_pos h10, if_pos (by omega)]
  · rw [if_neg e]
    by_cases hj : j < 10
    · rw [if_pos hj, if_pos hj]
      by_cases h : j < i ∧ j < K.length
      · rw [if_pos h, if_pos (by omega)]
      · rw [if_neg h, if_neg (by omega)]
    · rw [if_neg hj, if_neg hj]
theorem W_last (K : List Int) {i : Nat} (h : K.length ≤ i ∨ 10 ≤ i) : W K i = W K 10 := by
  apply List.ext_getElem?
  intro j
  rw [W_get, W_get]
  by_cases hj : j < 10
  · rw [if_pos hj, if_pos hj]
    by_cases h : j < i ∧ j < K.length
    · rw [if_pos h, if_pos (by omega)]
    · rw [if_neg h, if_neg (by omega)]
  · rw [if_neg hj, if_neg hj]
theorem W_plain (K : List Int) (i : Nat) : ∀ w ∈ W K i, vIsPtr w = false := by
  intro w hw
  unfold W at hw
  obtain ⟨j, _, rfl⟩ := List.mem_map.1 hw
  split
  · exact enc_plain _
  · rfl
/-- The first object stands, and its words are ws. -/
structure St1 (p : Int) (ws : List Int) (s : HSt) : Prop where
  fl : Fl Pl s
  nw : Nw s p
  len : 3 ≤ s.a.l.length
  kind : aKind s.a.c p = 4
  words : aWords s.a p = ws
theorem St1.store {p : Int} {K : List Int} {i : Nat} {s : HSt} (t : St1 p (W K i) s) (hi : i < K.length) (h10 : i < 10) : pStore p (i : Int) (enc (atI K (i : Int))) s = some (0, hStore p (i : Int) (enc (atI K (i : Int))) s) ∧ St1 p (W K (i + 1)) (hStore p (i : Int) (enc (atI K (i : Int))) s) := by
  have hwd : Wd (enc (atI K (i : Int))) := w64_wd _
  have he : aErr p (i : Int) s.a = 0 := by
    refine (word_is (i := i) (w := if i < i ∧ i < K.length then enc (atI K (i : Int)) else 0) ?_).2
    rw [t.words, W_get, if_pos h10]
  have hok := t.fl.bi.ok.a
  have e : hStore p (i : Int) (enc (atI K (i : Int))) s = { s with a := aStoreS p (i : Int) (enc (atI K (i : Int))) s.a } := by
    unfold hStore hShadeW
    rw [if_pos he, if_neg (by rw [enc_plain]; decide)]
  have hb := t.fl.bi.store p (i : Int) hwd
  have hws : aWords (aStoreS p (i : Int) (enc (atI K (i : Int))) s.a) p = W K (i + 1) := by
    rw [words_store_self hok _ _ _ he, t.words, Int.toNat_natCast, W_set K hi h10]
  refine ⟨by unfold pStore; rw [if_pos (wd_yes hwd), he], ?_⟩
  rw [e] at hb ⊢
  obtain ⟨_, _, el⟩ := store_ok hok p (i : Int) (enc (atI K (i : Int)))
  refine ⟨⟨hb, by simp only; rw [el]; exact t.fl.ln, ?_, ?_, t.fl.cl.store _ _ _⟩, ⟨?_, t.nw.2⟩, by simp only; rw [el]; exact t.len, ?_, hws⟩
  · intro x hx
    simp only at hx ⊢
    rw [obj_store hok] at hx
    rw [kind_store hok]
    by_cases ex : x = p
    · subst ex
      rw [hws, t.kind]
      exact ⟨W_plain _ _, by decide⟩
    · rw [words_store_far hok _ _ _ ex]
      exact t.fl.q x hx
  · intro h2 x hx hc
    simp only at hx
    rw [obj_store hok] at hx
    exact t.fl.sw h2 x hx hc
  · simp only
    rw [obj_store hok]
    exact t.nw.1
  · simp only
    rw [kind_store hok]
    exact t.kind
theorem loads_l12 {K : List Int} {k : Nat} {x42 x43 x44 p : Int} {s : HSt} (t : St1 p (W K 10) s) : ∀ (m i : Nat), i ≤ 10 → 10 - i < m → StoreKeeps.l12 K k x42 x43 x44 [p] m s (i : Int) = some true := by
  intro m
  induction m with
  | zero => intro i _ h; omega
  | succ m ih =>
    intro i hi hm
    show StoreKeeps.l12b K k x42 x43 x44 [p] (StoreKeeps.l12 K k x42 x43 x44 [p] m) s (i : Int) = _
    unfold StoreKeeps.l12b
    by_cases h : i < 10
    · have hj : ∀ v, (W K 10)[i]? = some v → StoreKeeps.j13 k x42 x43 x44 [p] s (i : Int) (StoreKeeps.l12 K k x42 x43 x44 [p] m) v = some true := by
        intro v hv
        rw [← t.words] at hv
        obtain ⟨e1, e2⟩ := word_is hv
        unfold StoreKeeps.j13 StoreKeeps.j14 store_Heap.m pLoad
        rw [if_pos (by rfl), bind1_y]
        show bind2 (some (aWord p (i : Int) s.a, aErr p (i : Int) s.a)) _ = _
        rw [bind2_y, e1, e2, if_neg (by simp), if_neg (by simp), wr_t _ (by omega) (by omega)]
        exact ih (i + 1) (by omega) (by omega)
      rw [if_pos (by rw [decide_eq_true_eq]; omega)]
      by_cases hl : i < K.length
      · rw [if_pos (lt_yes hl), if_pos (inR_n hl), bind1_y]
        refine hj _ ?_
        rw [W_get, if_pos h, if_pos ⟨h, hl⟩]
        rfl
      · rw [if_neg (lt_no hl)]
        refine hj _ ?_
        rw [W_get, if_pos h, if_neg (by omega)]
    · rw [if_neg (by rw [decide_eq_true_eq]; omega)]
theorem need_buf (i : Nat) (h : i < 120) : ∃ n : Int, IntKind.i64.wrap (1 + Int.tmod (i : Int) 3) = n ∧ rKnown 2 n = true ∧ aBad 2 (rNeed 2 n) = false := by
  have : Int.tmod (i : Int) 3 = ((i % 3 : Nat) : Int) := by rw [Int.tmod_eq_emod_of_nonneg (by omega)]; omega
  rw [this]
  rcases (show i % 3 = 0 ∨ i % 3 = 1 ∨ i % 3 = 2 by omega) with h | h | h <;> rw [h] <;> exact ⟨_, rfl, by decide, by decide⟩
theorem allocs_l7 {K : List Int} {k : Nat} (hk : 140010 ≤ k) {n : Nat} (hn : n < 120) {x42 x43 x44 p : Int} (hp : 0 ≤ p ∧ p < 256) : ∀ (m i : Nat) (s : HSt), St1 p (W K 10) s → i ≤ n → n - i < m → StoreKeeps.l7 K k (n : Int) x42 x43 x44 [p] m s (i : Int) = some true := by
  intro m
  induction m with
  | zero => intro i _ _ _ h; omega
  | succ m ih =>
    intro i s t hi hm
    show StoreKeeps.l7b K k (n : Int) x42 x43 x44 [p] (StoreKeeps.l7 K k (n : Int) x42 x43 x44 [p] m) s (i : Int) = _
    unfold StoreKeeps.l7b
    by_cases h : i < n
    · obtain ⟨b, eb, hkn, hbd⟩ := need_buf i (by omega)
      rw [if_pos (lt_yes h), eb]
      have hR : ∀ r ∈ [p], Nw s r := by intro r hr; simp only [List.mem_singleton] at hr; subst hr; exact t.nw
      have hw : ∀ r ∈ [p], Wd r := by intro r hr; simp only [List.mem_singleton] at hr; subst hr; unfold Wd; omega
      rcases alloc1_m bar (x := x42) (y := x43) (z := x44) hk hw (by simp) t.fl hR hkn hbd (pl_zero (by decide) _) with ⟨q, told, s', e, g⟩ | ⟨told, s', e, g⟩
      · rw [e]
        show (if (0 : Int) != 0 then some false else StoreKeeps.l7 K k (n : Int) x42 x43 x44 [p] m s' (IntKind.i64.wrap ((i : Int) + 1))) = _
        rw [if_neg (by decide), wr_t _ (by omega) (by omega)]
        have ho := g.old p (by simp)
        exact ih (i + 1) s' ⟨g.fl, g.rt p (by simp), by rw [g.len]; exact t.len, ho.2.trans t.kind, ho.1.trans t.words⟩ (by omega) (by omega)
      · exfalso
        refine room_one g.fl.bi.ok.a hbd (by rw [g.len]; have := t.len; omega) (p / 32) ?_ g.none
        intro x hx
        have := (g.obj x).1 hx
        simp only [List.mem_singleton] at this
        rw [this]
    · rw [if_neg (lt_no h)]
      exact loads_l12 t k 0 (by omega) (by omega)
theorem stores_l5 {K : List Int} {k : Nat} (hk : 140010 ≤ k) {n : Nat} (hn : n < 120) {x42 x43 x44 p : Int} (hp : 0 ≤ p ∧ p < 256) : ∀ (m i : Nat) (s : HSt), St1 p (W K i) s → i ≤ 10 → 10 - i < m → StoreKeeps.l5 K k (n : Int) x42 x43 x44 [p] m s (i : Int) = some true := by
  intro m
  induction m with
  | zero => intro i _ _ _ h; omega
  | succ m ih =>
    intro i s t hi hm
    show StoreKeeps.l5b K k (n : Int) x42 x43 x44 [p] (StoreKeeps.l5 K k (n : Int) x42 x43 x44 [p] m) s (i : Int) = _
    unfold StoreKeeps.l5b
    have stop : (K.length ≤ i ∨ 10 ≤ i) → StoreKeeps.j6 K k (n : Int) x42 x43 x44 [p] s (i : Int) (StoreKeeps.l5 K k (n : Int) x42 x43 x44 [p] m) false = some true := by
      intro h
      unfold StoreKeeps.j6
      rw [if_neg Bool.false_ne_true]
      exact allocs_l7 hk hn hp k 0 s (by rw [← W_last K h]; exact t) (by omega) (by omega)
    by_cases h1 : i < K.length
    · rw [if_pos (lt_yes h1)]
      by_cases h2 : i < 10
      · rw [show decide ((i : Int) < 10) = true by rw [decide_eq_true_eq]; omega]
        unfold StoreKeeps.j6 store_Heap.m
        obtain ⟨e, t'⟩ := t.store h1 h2
        rw [if_pos rfl, if_pos (by rfl), if_pos (inR_n h1), bind1_y]
        show bind2 (pStore p (i : Int) (enc (atI K (i : Int))) s) _ = _
        rw [e, bind2_y, wr_t _ (by omega) (by omega)]
        exact ih (i + 1) _ t' (by omega) (by omega)
      · rw [show decide ((i : Int) < 10) = false by rw [decide_eq_false_iff_not]; omega]
        exact stop (.inr (by omega))
    · rw [if_neg (lt_no h1)]
      exact stop (.inl (by omega))
theorem pureK {k : Nat} (hk : 140010 ≤ k) (ha : law21_awake.m k = some true) (i0 : Cf) (K : List Int) (i2 : Int) : StoreKeeps.m k i0 K i2 = some true := by
  obtain ⟨a, b, c, h1, h2, h3, e⟩ := config_m i0 k
  obtain ⟨n, hn, en⟩ := u_mod i2 120 (by omega)
  simp only [Int.cast_ofNat_Int] at en
  unfold StoreKeeps.m
  rw [e, bind1_y, en, wr_t (n : Int) (by omega) (by omega), bind1_y]
  simp only
  have et : Int.tmod ((2 + a : Nat) : Int) 5 = (((2 + a) % 5 : Nat) : Int) := by rw [Int.tmod_eq_emod_of_nonneg (by omega)]; omega
  rw [et, wr_t (3 + (((2 + a) % 5 : Nat) : Int)) (by omega) (by omega), new_m (by omega) (by omega) (by omega)]
  show bind1 (law21_awake.m k) _ = _
  rw [ha, bind1_y, if_neg (by simp), if_neg (by simp)]
  unfold store_Heap.m StoreKeeps.j1
  rw [bind1_y, if_neg Bool.false_ne_true]
  generalize hz : (3 + (((2 + a) % 5 : Nat) : Int)).toNat = z
  have f : Fl Pl (hNew z) := new_fl (by omega) (by omega)
  have hb4 : aBad 4 (rNeed 4 0) = false := by decide
  rcases alloc1_m bar (x := 3 + (((2 + a) % 5 : Nat) : Int)) (y := ((1 + b : Nat) : Int)) (z := (c : Int)) (kd := 4) (n := 0) (R := []) hk (by simp) (by simp) f (by simp) (by decide) hb4 (pl_zero (by decide) _) with ⟨p, told, s', e, g⟩ | ⟨told, s', e, g⟩
  · rw [e]
    show StoreKeeps.j2 K k (n : Int) (3 + (((2 + a) % 5 : Nat) : Int)) ((1 + b : Nat) : Int) (c : Int) [p] s' ((([p] : List Int).length : Int) != 1) = some true
    unfold StoreKeeps.j2
    rw [if_neg (by simp)]
    refine stores_l5 hk hn g.wd k 0 s' ⟨g.fl, g.nw, by rw [g.len, new_len]; omega, g.kind, ?_⟩ (by omega) (by omega)
    rw [g.words, W_zero]
    rfl
  · exfalso
    refine room_one g.fl.bi.ok.a hb4 (by rw [g.len, new_len]; omega) 0 ?_ g.none
    intro x hx
    have := (g.obj x).1 hx
    cases this
theorem pure (i0 : Cf) (K : List Int) (i2 : Int) : StoreKeeps.m 150000 i0 K i2 = some true := pureK (by omega) awakeT i0 K i2
theorem walk (x0_0 x0_1 x0_2 : Int) (a1 : Option Addr) (len1 cap1 : Nat) (z1 : List Int) (a2 : Int) (w : World) (w0 : ∀ x ∈ [x0_0, x0_1, x0_2], Wd x) (w1 : IsRow .i64 w a1 len1 cap1 z1) (w2 : (Lit.int .i64 a2).wf = true) :
    Calls Try.prog 6 #[.agg #[.int .i64 x0_0, .int .i64 x0_1, .int .i64 x0_2], .slice a1 len1 cap1, .int .i64 a2] w fun e w' => e = .returned (.bool true) ∧ Below w.heap.size w w' := by
  obtain ⟨L, e, hA⟩ := argInts_len w1
  subst e
  exact (StoreKeeps.ok (i0 := ⟨x0_0, x0_1, x0_2⟩) hA (St.empty w) (pure _ L _)).mono fun e w' ⟨he, h⟩ => ⟨he, h.old⟩

end Go.Proofs.Ytffnjpapggidlaa.storeKeeps
