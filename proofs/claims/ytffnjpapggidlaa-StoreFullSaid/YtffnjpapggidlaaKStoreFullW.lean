/- StoreFullW -/
import Derived.Test.YtffnjpapggidlaaKGStoreFull
import Derived.Test.YtffnjpapggidlaaKStoreM
import Derived.Test.YtffnjpapggidlaaKPureArena
import Derived.Test.YtffnjpapggidlaaKSepLit
import Derived.Test.YtffnjpapggidlaaKHelpM
import Derived.Test.YtffnjpapggidlaaKArg
import Derived.Test.YtffnjpapggidlaaRows
import Derived.WalkKit
import Derived.WalkSpells
import Derived.WalkLawsBesides
/-
  The walk of 'dormouselaw21.StoreFull': the call returns true, in a world with at most new blocks.
-/
namespace Go.Proofs.Ytffnjpapggidlaa.storeFull
open Go.RowKit
set_option linter.unusedVariables false

theorem awakeT : law21_awake.m 150000 = some true := by decide +kernel
theorem mod_m (a : Int) (m : Nat) (h0 : 0 < m) (h1 : m < 1000) (k : Nat) : ∃ c : Nat, c < m ∧ play_mod.m k a (m : Int) = some (c : Int) := by
  unfold play_mod.m
  have hu : IntKind.u64.wrap (m : Int) = m := by rw [IntKind.wrap_u64]; omega
  obtain ⟨c, hc, ec⟩ := u_mod a m h0
  rw [hu, if_neg (by simp; omega), ec, wr_t _ (by omega) (by omega), bind1_y]
  exact ⟨c, hc, rfl⟩
theorem config_m (i0 : Cf) (k : Nat) : ∃ a b c : Nat, a < 12 ∧ b < 100 ∧ c < 9 ∧ play_Config.m k i0 = some ⟨(2 + a : Nat), (1 + b : Nat), (c : Nat)⟩ := by
  unfold play_Config.m
  obtain ⟨a, ha, ea⟩ := mod_m i0.spans 12 (by omega) (by omega) k
  obtain ⟨b, hb, eb⟩ := mod_m i0.start 100 (by omega) (by omega) k
  obtain ⟨c, hc, ec⟩ := mod_m i0.assist 9 (by omega) (by omega) k
  simp only [Int.cast_ofNat_Int] at ea eb ec
  rw [ea, bind1_y, eb, bind1_y, ec, bind1_y, wr_t (2 + (a : Int)) (by omega) (by omega), wr_t (1 + (b : Int)) (by omega) (by omega)]
  exact ⟨a, b, c, ha, hb, hc, rfl⟩
theorem new_m {n a b : Int} (hn : 2 ≤ n ∧ n ≤ 128) (ha : 1 ≤ a ∧ a ≤ 100) (hb : 0 ≤ b ∧ b ≤ 8) (k : Nat) : store_New.m k ⟨n, a, b⟩ = some (hNew n.toNat, n, a, b, 0) := by
  unfold store_New.m store_New.j1
  simp only
  rw [if_neg (by rw [decide_eq_true_eq]; omega), if_neg (by rw [decide_eq_true_eq]; omega), if_neg (by rw [decide_eq_true_eq]; omega), if_neg (by rw [decide_eq_true_eq]; omega)]
  unfold pNew
  rw [if_pos hn, bind1_y]
theorem new_obj (n : Nat) (x : Int) : isObj (hNew n).a x = false := by
  cases h : isObj (hNew n).a x with
  | false => rfl
  | true =>
    obtain ⟨q, k, m, rfl, hq⟩ := isObj_some h
    exfalso
    unfold hNew aNew at hq
    simp only at hq
    rw [List.getElem?_replicate] at hq
    split at hq <;> cases hq
theorem new_fl {Q : Int → List Int → Prop} {n : Nat} (h2 : 2 ≤ n) (h8 : n ≤ 8) : Fl Q (hNew n) :=
  ⟨BE.new n h2 (by omega), by show (sNew n).length ≤ 8; simp [sNew]; omega, fun x hx => (by rw [new_obj] at hx; cases hx), fun _ x hx => (by rw [new_obj] at hx; cases hx), fun r hr => .inl (by have : r ∈ List.replicate n noRow := hr; rw [List.eq_of_mem_replicate this]; rfl)⟩
theorem new_len (n : Nat) : (hNew n).a.l.length = n := by show (sNew n).length = n; simp [sNew]

/-! ### Lists -/
theorem nodup_len : ∀ (L M : List Int), L.Nodup → (∀ x ∈ L, x ∈ M) → L.length ≤ M.length := by
  intro L
  induction L with
  | nil => intro M _ _; simp
  | cons x L ih =>
    intro M hn hs
    obtain ⟨hx, hn⟩ := List.nodup_cons.1 hn
    have hm := hs x (by simp)
    have := ih (M.erase x) hn (fun y hy => (List.mem_erase_of_ne (by rintro rfl; exact hx hy)).2 (hs y (by simp [hy])))
    have h2 := List.length_erase_of_mem hm
    have h3 := List.length_pos_of_mem hm
    simp only [List.length_cons]
    omega
theorem sorted_eq : ∀ (L M : List Int), L.Pairwise (· < ·) → M.Pairwise (· < ·) → (∀ x, x ∈ L ↔ x ∈ M) → L = M := by
  intro L
  induction L with
  | nil =>
    intro M _ _ h
    cases M with
    | nil => rfl
    | cons y M => have := (h y).2 (by simp); cases this
  | cons x L ih =>
    intro M hL hM h
    cases M with
    | nil => have := (h x).1 (by simp); cases this
    | cons y M =>
      obtain ⟨hx, hL2⟩ := List.pairwise_cons.1 hL
      obtain ⟨hy, hM2⟩ := List.pairwise_cons.1 hM
      have e : x = y := by
        rcases List.mem_cons.1 ((h x).1 (by simp)) with e | hxm
        · exact e
        · rcases List.mem_cons.1 ((h y).2 (by simp)) with e | hym
          · exact e.symm
          · have := hy x hxm; have := hx y hym; omega
      subst e
      congr 1
      refine ih M hL2 hM2 fun z => ?_
      constructor
      · intro hz
        have := hx z hz
        rcases List.mem_cons.1 ((h z).1 (by simp [hz])) with e | hz'
        · omega
        · exact hz'
      · intro hz
        have := hy z hz
        rcases List.mem_cons.1 ((h z).2 (by simp [hz])) with e | hz'
        · omega
        · exact hz'
/-! ### sorted -/
theorem ins_l11 {L out : List Int} {i : Nat} (hi : i < L.length) (hL : L.length ≤ 1000) (ho : out.Pairwise (· < ·)) (hl : out.length ≤ 1000) (hx : L[i] ∉ out) {rec21 : List Int → Int → Option (List Int)} : ∀ (m k : Nat), k ≤ out.length → k < m → (∀ j (h : j < out.length), k ≤ j → L[i] < out[j]) → ∃ R : List Int, law21_sorted.l11 L out (i : Int) rec21 m (k : Int) = rec21 R ((i + 1 : Nat) : Int) ∧ R.Pairwise (· < ·) ∧ (∀ y, y ∈ R ↔ y ∈ out ∨ y = L[i]) ∧ R.length = out.length + 1 := by
  intro m
  induction m with
  | zero => intro k _ h; omega
  | succ m ih =>
    intro k hk hm hab
    show ∃ R : List Int, law21_sorted.l11b L out (i : Int) rec21 (law21_sorted.l11 L out (i : Int) rec21 m) (k : Int) = _ ∧ _
    unfold law21_sorted.l11b
    have put : (∀ j (h : j < out.length), j < k → out[j] < L[i]) → ∃ R : List Int, law21_sorted.j12 L out (i : Int) rec21 (k : Int) (law21_sorted.l11 L out (i : Int) rec21 m) false = rec21 R ((i + 1 : Nat) : Int) ∧ R.Pairwise (· < ·) ∧ (∀ y, y ∈ R ↔ y ∈ out ∨ y = L[i]) ∧ R.length = out.length + 1 := by
      intro hbe
      unfold law21_sorted.j12
      rw [if_neg Bool.false_ne_true, if_pos (inR_n hi), if_pos (by unfold leR; simp; omega), Int.toNat_natCast, atI_n hi]
      unfold appM pushM
      have hlt : (out.take k).length = k := by rw [List.length_take]; omega
      have hld : (out.drop k).length = out.length - k := List.length_drop ..
      rw [if_pos (by simp; omega), bind1_y, List.nil_append, if_pos (by omega), bind1_y, if_pos (by rw [List.length_append, hlt, hld]; simp; omega), bind1_y]
      unfold law21_sorted.j13
      rw [wr_t _ (by omega) (by omega)]
      refine ⟨_, rfl, ?_, ?_, ?_⟩
      · have h1 : (out.take k ++ out.drop k).Pairwise (· < ·) := by rw [List.take_append_drop]; exact ho
        obtain ⟨p1, p2, p3⟩ := List.pairwise_append.1 h1
        rw [List.append_assoc, List.pairwise_append]
        refine ⟨p1, ?_, ?_⟩
        · rw [List.singleton_append, List.pairwise_cons]
          refine ⟨fun y hy => ?_, p2⟩
          obtain ⟨j, hj, rfl⟩ := List.mem_iff_getElem.1 hy
          rw [List.getElem_drop]
          exact hab _ _ (by omega)
        · intro y hy z hz
          rcases List.mem_cons.1 (by simpa using hz) with e | hz
          · subst e
            obtain ⟨j, hj, rfl⟩ := List.mem_iff_getElem.1 hy
            rw [List.getElem_take]
            exact hbe _ _ (by omega)
          · exact p3 y hy z hz
      · intro y
        constructor
        · intro hy
          simp only [List.mem_append, List.mem_singleton] at hy
          rcases hy with (h | h) | h
          · exact .inl (List.mem_of_mem_take h)
          · exact .inr h
          · exact .inl (List.mem_of_mem_drop h)
        · rintro (h | h)
          · rw [← List.take_append_drop k out] at h
            simp only [List.mem_append, List.mem_singleton] at h ⊢
            rcases h with h | h
            · exact .inl (.inl h)
            · exact .inr h
          · simp only [List.mem_append, List.mem_singleton]; exact .inl (.inr h)
      · simp only [List.length_append, hlt, hld, List.length_singleton]; omega
    by_cases h0 : k = 0
    · subst h0
      rw [if_neg (by simp)]
      exact put fun j _ h => by omega
    · obtain ⟨k', rfl⟩ : ∃ k', k = k' + 1 := ⟨k - 1, by omega⟩
      have hw : IntKind.i64.wrap (((k' + 1 : Nat) : Int) - 1) = (k' : Int) := by rw [IntKind.wrap_i64]; omega
      rw [if_pos (by rw [decide_eq_true_eq]; omega), hw, if_pos (inR_n (by omega)), if_pos (inR_n hi), atI_n (show k' < out.length by omega), atI_n hi]
      by_cases hgt : out[k'] > L[i]
      · rw [show decide (out[k'] > L[i]) = true by rw [decide_eq_true_eq]; exact hgt]
        unfold law21_sorted.j12
        rw [if_pos rfl, hw]
        refine ih k' (by omega) (by omega) fun j h hj => ?_
        by_cases e : j = k'
        · subst e; exact hgt
        · exact hab j h (by omega)
      · rw [show decide (out[k'] > L[i]) = false by rw [decide_eq_false_iff_not]; exact hgt]
        refine put fun j h hj => ?_
        have hne : out[k'] ≠ L[i] := fun e => hx (e ▸ List.getElem_mem _)
        by_cases e : j = k'
        · subst e; omega
        · have := (List.pairwise_iff_getElem.1 ho) j k' h (by omega) (by omega)
          omega
theorem sorted_l8 {L : List Int} (hL : L.length ≤ 1000) (hn : L.Nodup) {k : Nat} (hk : 1001 < k) : ∀ (m i : Nat) (out : List Int), i ≤ L.length → L.length - i < m → out.length = i → out.Pairwise (· < ·) → (∀ y, y ∈ out ↔ ∃ j, ∃ h : j < L.length, j < i ∧ L[j] = y) → ∃ R : List Int, law21_sorted.l8 L k m out (i : Int) = some R ∧ R.Pairwise (· < ·) ∧ ∀ y, y ∈ R ↔ y ∈ L := by
  intro m
  induction m with
  | zero => intro i _ _ h; omega
  | succ m ih =>
    intro i out hi hm hlen ho hmem
    show ∃ R : List Int, law21_sorted.l8b L k (law21_sorted.l8 L k m) out (i : Int) = _ ∧ _
    unfold law21_sorted.l8b
    by_cases h : i < L.length
    · rw [if_pos (lt_yes h)]
      have hx : L[i] ∉ out := by
        intro hc
        obtain ⟨j, hj, hji, e⟩ := (hmem _).1 hc
        have := (List.getElem_inj hn).1 e
        omega
      obtain ⟨R, e, p, q, r⟩ := ins_l11 h hL ho (by omega) hx (rec21 := law21_sorted.l8 L k m) k out.length (Nat.le_refl _) (by omega) (fun j h1 h2 => by omega)
      rw [e]
      refine ih (i + 1) R (by omega) (by omega) (by omega) p fun y => ?_
      rw [q, hmem]
      constructor
      · rintro (⟨j, hj, hji, e⟩ | e)
        · exact ⟨j, hj, by omega, e⟩
        · exact ⟨i, h, by omega, e.symm⟩
      · rintro ⟨j, hj, hji, e2⟩
        by_cases ej : j = i
        · subst ej; exact .inr e2.symm
        · exact .inl ⟨j, hj, by omega, e2⟩
    · rw [if_neg (lt_no h)]
      refine ⟨out, rfl, ho, fun y => ?_⟩
      rw [hmem, List.mem_iff_getElem]
      constructor
      · rintro ⟨j, hj, _, e⟩; exact ⟨j, hj, e⟩
      · rintro ⟨j, hj, e⟩; exact ⟨j, hj, by omega, e⟩
theorem sorted_m {L : List Int} (hL : L.length ≤ 1000) (hn : L.Nodup) {k : Nat} (hk : 1001 < k) : ∃ R : List Int, law21_sorted.m k L = some R ∧ R.Pairwise (· < ·) ∧ ∀ y, y ∈ R ↔ y ∈ L := by
  unfold law21_sorted.m
  exact sorted_l8 hL hn hk k 0 [] (by omega) (by omega) rfl List.Pairwise.nil (fun y => ⟨fun h => (by cases h), fun ⟨j, _, h, _⟩ => (by omega)⟩)
theorem hObjs_lt (s : ASt) : (hObjs s).Pairwise (· < ·) := by
  unfold hObjs aObjects
  rw [List.pairwise_map]
  refine List.Pairwise.imp ?_ (List.Pairwise.filter _ List.pairwise_lt_range)
  intro a b h
  exact Int.ofNat_lt.2 h
/-! ### Places -/
/-- A class: so many slots, of so many words. -/
structure Geo (C : Int) (S W : Nat) : Prop where
  sw : (S = 8 ∧ W = 4) ∨ (S = 4 ∧ W = 8) ∨ (S = 2 ∧ W = 16) ∨ (S = 1 ∧ W = 32)
  s : cSlots C = (S : Int)
  w : (cWords C).toNat = W
theorem geo_of {C : Int} (h0 : 0 ≤ C) (h3 : C < 4) : ∃ S W, Geo C S W := by
  rcases (show C = 0 ∨ C = 1 ∨ C = 2 ∨ C = 3 by omega) with rfl | rfl | rfl | rfl
  · exact ⟨8, 4, by simp, rfl, rfl⟩
  · exact ⟨4, 8, by simp, rfl, rfl⟩
  · exact ⟨2, 16, by simp, rfl, rfl⟩
  · exact ⟨1, 32, by simp, rfl, rfl⟩
def places (n S W : Nat) : List Int := (List.range (n * S)).map fun t => ((t * W : Nat) : Int)
theorem places_len (n S W : Nat) : (places n S W).length = n * S := by simp [places]
theorem places_nodup {C : Int} {n S W : Nat} (g : Geo C S W) : (places n S W).Nodup := by
  unfold places
  rw [List.nodup_iff_pairwise_ne, List.pairwise_map]
  refine List.Pairwise.imp ?_ (List.pairwise_lt_range)
  intro a b h e
  rcases g.sw with ⟨_, rfl⟩ | ⟨_, rfl⟩ | ⟨_, rfl⟩ | ⟨_, rfl⟩ <;> omega
theorem row_cls {a : ASt} (hok : AOk a) {C : Int} (hr : ∀ r ∈ a.l, r.1 = -1 ∨ r.1 = C) {i u : Nat} (h : sUsed a.l i u = true) : sClass a.l i = C := by
  obtain ⟨r, e, hu⟩ := sUsed_iff.1 h
  have hm := List.mem_of_getElem? e
  have : r.1 = C := by
    rcases hr r hm with h1 | h1
    · rcases hok.rows r hm with ⟨_, h2⟩ | ⟨h2, _⟩
      · rw [h2] at hu; simp at hu
      · omega
    · exact h1
  unfold sClass
  rw [if_pos (by omega), Int.toNat_natCast, e]
  exact this
theorem obj_place {a : ASt} (hok : AOk a) {C : Int} {S W : Nat} (g : Geo C S W) (hr : ∀ r ∈ a.l, r.1 = -1 ∨ r.1 = C) {x : Int} (hx : isObj a x = true) : x ∈ places a.l.length S W := by
  obtain ⟨q, k, m, rfl, hq⟩ := isObj_some hx
  obtain ⟨i, u, e, hu, _⟩ := hok.head q k m hq
  obtain ⟨hi, _, hlt, _⟩ := used_geo hok.rows hu
  have hc := row_cls hok hr hu
  have hW : nW a.l i = W := by unfold nW; rw [hc, g.w]
  rw [hW] at e hlt
  unfold places
  refine List.mem_map.2 ⟨i * S + u, ?_, ?_⟩
  · rw [List.mem_range]
    rcases g.sw with ⟨rfl, rfl⟩ | ⟨rfl, rfl⟩ | ⟨rfl, rfl⟩ | ⟨rfl, rfl⟩ <;> omega
  · rcases g.sw with ⟨rfl, rfl⟩ | ⟨rfl, rfl⟩ | ⟨rfl, rfl⟩ | ⟨rfl, rfl⟩ <;> omega
theorem place_obj {a : ASt} (hok : AOk a) {C : Int} {S W : Nat} (g : Geo C S W) (hr : ∀ r ∈ a.l, r.1 = -1 ∨ r.1 = C) (hf : ∀ r ∈ a.l, isNone r = false ∧ rowFree C r = false) {x : Int} (hx : x ∈ places a.l.length S W) : isObj a x = true := by
  unfold places at hx
  obtain ⟨t, ht, rfl⟩ := List.mem_map.1 hx
  rw [List.mem_range] at ht
  have hi : t / S < a.l.length := by rcases g.sw with ⟨rfl, rfl⟩ | ⟨rfl, rfl⟩ | ⟨rfl, rfl⟩ | ⟨rfl, rfl⟩ <;> omega
  have hu : t % S < S := by rcases g.sw with ⟨rfl, rfl⟩ | ⟨rfl, rfl⟩ | ⟨rfl, rfl⟩ | ⟨rfl, rfl⟩ <;> omega
  have hm := List.getElem_mem hi
  obtain ⟨h1, h2⟩ := hf _ hm
  have hc : (a.l[t / S]).1 = C := by
    rcases hr _ hm with h | h
    · unfold isNone at h1; rw [h] at h1; simp at h1
    · exact h
  have hlen : (a.l[t / S]).2.length = S := by
    rcases hok.rows _ hm with ⟨h, _⟩ | ⟨_, _, h, _⟩
    · unfold isNone at h1; rw [h] at h1; simp at h1
    · rw [hc, g.s] at h; omega
  have hall : (a.l[t / S]).2[t % S]? = some true := by
    unfold rowFree at h2
    rw [hc] at h2
    simp only [decide_true, Bool.true_and] at h2
    have hn : firstFree (a.l[t / S]).2 = none := by
      cases e : firstFree (a.l[t / S]).2 with
      | none => rfl
      | some _ => rw [e] at h2; cases h2
    unfold firstFree at hn
    rw [List.findIdx?_eq_none_iff] at hn
    rw [List.getElem?_eq_getElem (by omega)]
    have := hn _ (List.getElem_mem (show t % S < (a.l[t / S]).2.length by omega))
    simpa using this
  have hus : sUsed a.l (t / S : Nat) (t % S : Nat) = true := sUsed_iff.2 ⟨_, List.getElem?_eq_getElem hi, hall⟩
  have hob := (used_obj hok hus).1
  have hW : nW a.l (t / S) = W := by unfold nW; rw [row_cls hok hr hus, g.w]
  rw [hW] at hob
  have e : t / S * 32 + t % S * W = t * W := by rcases g.sw with ⟨rfl, rfl⟩ | ⟨rfl, rfl⟩ | ⟨rfl, rfl⟩ | ⟨rfl, rfl⟩ <;> omega
  rw [e] at hob
  exact hob
/-! ### The law -/
theorem bind4_y {α β γ δ R : Type} (x : α) (y : β) (z : γ) (u : δ) (f : α → β → γ → δ → Option R) : bind4 (some (x, y, z, u)) f = f x y z u := rfl
def Qf (K : Int) (k : Int) (ws : List Int) : Prop := k = K ∧ ws = List.replicate (rNeed K 3).toNat 0
theorem bar (K : Int) : Bar (Qf K) := by
  rintro k ws ⟨_, rfl⟩
  refine ⟨fun w hw => by rw [List.eq_of_mem_replicate hw]; rfl, fun _ => ?_⟩
  rw [List.getD_eq_getElem?_getD, List.getElem?_replicate]
  split <;> rfl
theorem rows_of {K : Int} (hK : 0 ≤ rNeed K 3) {a : ASt} (h : RowsOf (Qf K) a) : ∀ r ∈ a.l, r.1 = -1 ∨ r.1 = cOf (rNeed K 3) := by
  intro r hr
  rcases h r hr with h | ⟨k, ws, ⟨_, rfl⟩, e⟩
  · exact .inl h
  · right
    rw [← e, List.length_replicate]
    congr 1
    omega
structure LI (K : Int) (n : Nat) (L : List Int) (s : HSt) : Prop where
  fl : Fl (Qf K) s
  len : s.a.l.length = n
  nw : ∀ r ∈ L, Nw s r
  nd : L.Nodup
  wd : ∀ r ∈ L, 0 ≤ r ∧ r < 256
theorem LI.le {K : Int} (hK : 0 ≤ rNeed K 3) {n S W : Nat} (g : Geo (cOf (rNeed K 3)) S W) {L : List Int} {s : HSt} (h : LI K n L s) : L.length ≤ n * S := by
  have := nodup_len L (places n S W) h.nd (fun x hx => by rw [← h.len]; exact obj_place h.fl.bi.ok.a g (rows_of hK h.fl.cl) (h.nw x hx).1)
  rw [places_len] at this
  exact this
theorem need_ok {c : Nat} (hc : c < 6) : rKnown (((1 + c : Nat) : Int)) 3 = true ∧ aBad ((1 + c : Nat) : Int) (rNeed ((1 + c : Nat) : Int) 3) = false ∧ 0 ≤ rNeed ((1 + c : Nat) : Int) 3 ∧ 0 ≤ cOf (rNeed ((1 + c : Nat) : Int) 3) ∧ cOf (rNeed ((1 + c : Nat) : Int) 3) < 4 := by
  rcases (show c = 0 ∨ c = 1 ∨ c = 2 ∨ c = 3 ∨ c = 4 ∨ c = 5 by omega) with rfl | rfl | rfl | rfl | rfl | rfl <;> decide
theorem all_l10 {K2 : List Bool} {k : Nat} (hk : 140010 ≤ k) {q9 : Cf} {K : Int} (hkn : rKnown K 3 = true) (hb : aBad K (rNeed K 3) = false) (hK : 0 ≤ rNeed K 3) {n S W : Nat} (g : Geo (cOf (rNeed K 3)) S W) (hn : n ≤ 5)
    (hM : IntKind.i64.wrap ((IntKind.i64.wrap (2 + (Int.tmod q9.spans 4))) * (cSlots (cOf (rNeed K 3)))) = ((n * S : Nat) : Int)) {x y z : Int} : ∀ (m i : Nat) (L : List Int) (s : HSt), LI K n L s → i ≤ 3 * (n * S) → 3 * (n * S) - i < m → StoreFull.l10 K2 k q9 K x y z m L s (i : Int) = some true := by
  have hM40 : n * S ≤ 40 := by rcases g.sw with ⟨rfl, _⟩ | ⟨rfl, _⟩ | ⟨rfl, _⟩ | ⟨rfl, _⟩ <;> omega
  intro m
  induction m with
  | zero => intro i _ _ _ _ h; omega
  | succ m ih =>
    intro i L s I hi hm
    have hle := I.le hK g
    generalize hMM : n * S = M at *
    show StoreFull.l10b K2 k q9 K x y z (StoreFull.l10 K2 k q9 K x y z m) L s (i : Int) = _
    unfold StoreFull.l10b
    rw [hM, wr_t (3 * (M : Int)) (by omega) (by omega)]
    by_cases hlt : i < 3 * M
    · rw [if_pos (by rw [decide_eq_true_eq]; omega)]
      have hwd : ∀ r ∈ L, Wd r := fun r hr => by have := I.wd r hr; unfold Wd; omega
      rcases alloc1_m (bar K) (x := x) (y := y) (z := z) (kd := K) (n := 3) hk hwd (by omega) I.fl I.nw hkn hb ⟨rfl, rfl⟩ with ⟨p, told, s', e, G⟩ | ⟨told, s', e, G⟩
      · rw [e, bind4_y, if_neg (by decide), if_neg (by simp), if_pos (by rfl), show atI [p] (0 : Int) = p from rfl, In_m p (by omega) (by omega), bind1_y, decide_eq_false G.fresh]
        have I1 : LI K n L s' := ⟨G.fl, by rw [G.len]; exact I.len, G.rt, I.nd, I.wd⟩
        have I2 : LI K n (L ++ [p]) s' := ⟨G.fl, by rw [G.len]; exact I.len, fun r hr => by
          rcases List.mem_append.1 hr with h | h
          · exact G.rt r h
          · simp only [List.mem_singleton] at h; subst h; exact G.nw, by
          rw [List.nodup_append]
          refine ⟨I.nd, by simp, fun a ha b hb => ?_⟩
          simp only [List.mem_singleton] at hb
          subst hb
          rintro rfl
          exact G.fresh ha, fun r hr => by
          rcases List.mem_append.1 hr with h | h
          · exact I.wd r h
          · simp only [List.mem_singleton] at h; subst h; exact G.wd⟩
        have go : ∀ L', LI K n L' s' → StoreFull.j14 q9 K (i : Int) (StoreFull.l10 K2 k q9 K x y z m) s' L' = some true := by
          intro L' I'
          have hl' := I'.le hK g
          rw [hMM] at hl'
          unfold StoreFull.j14
          rw [hM, if_neg (by rw [decide_eq_true_eq]; omega), wr_t _ (by omega) (by omega)]
          exact ih (i + 1) L' s' I' (by omega) (by omega)
        have pick : ∀ b, StoreFull.j13 q9 K L (i : Int) (StoreFull.l10 K2 k q9 K x y z m) [p] s' b = some true := by
          intro b
          unfold StoreFull.j13
          cases b with
          | false => rw [if_neg Bool.false_ne_true]; exact go L I1
          | true =>
            rw [if_pos rfl, if_pos (by rfl), show atI [p] (0 : Int) = p from rfl]
            unfold pushM
            rw [if_pos (by omega), bind1_y]
            exact go _ I2
        unfold StoreFull.j12
        rw [if_neg Bool.false_ne_true]
        by_cases hkl : i < K2.length
        · rw [if_pos (lt_yes hkl), if_pos (inR_n hkl)]
          split
          · exact pick _
          · exact pick _
        · rw [if_neg (lt_no hkl)]
          exact pick _
      · rw [e, bind4_y]
        have hfull := room_none hb G.none
        have hrow := rows_of hK G.fl.cl
        have hle2 : M ≤ L.length := by
          have := nodup_len (places n S W) L (places_nodup g) (fun q hq => (G.obj q).1 (place_obj G.fl.bi.ok.a g hrow hfull (by rw [G.len, I.len]; exact hq)))
          rw [places_len, hMM] at this
          exact this
        rw [if_pos (by decide), if_pos (by decide), if_pos (by rfl), if_pos (by rw [show L.length = M by omega]; simp)]
        unfold store_Heap.m
        rw [bind1_y, if_pos (by simp [G.ph]), bind1_y]
        obtain ⟨R, eR, pR, mR⟩ := sorted_m (L := L) (by omega) I.nd (k := k) (by omega)
        have hob : hObjsF s'.a = R := by
          rw [← hObjsF_eq]
          refine sorted_eq _ _ (hObjs_lt _) pR fun q => ?_
          rw [mem_hObjs, G.obj, mR]
        have hol := G.fl.objs
        rw [hObjsF_eq, hob] at hol
        rw [eR, bind1_y, hob, Plain_m (by omega) (by omega), bind1_y]
        unfold StoreFull.j11
        simp
    · rw [if_neg (by rw [decide_eq_true_eq]; omega)]
theorem pureK {k : Nat} (hk : 140010 ≤ k) (ha : law21_awake.m k = some true) (i0 : Cf) (i1 : Int) (K2 : List Bool) : StoreFull.m k i0 i1 K2 = some true := by
  obtain ⟨a, b, c, h1, h2, h3, e⟩ := config_m i0 k
  obtain ⟨d, hd, ed⟩ := u_mod i1 6 (by omega)
  simp only [Int.cast_ofNat_Int] at ed
  unfold StoreFull.m
  rw [e, bind1_y, ed, wr_t (d : Int) (by omega) (by omega), show (1 + (d : Int)) = ((1 + d : Nat) : Int) by omega, wr_t ((1 + d : Nat) : Int) (by omega) (by omega), bind1_y]
  simp only
  have et : Int.tmod ((2 + a : Nat) : Int) 4 = (((2 + a) % 4 : Nat) : Int) := by rw [Int.tmod_eq_emod_of_nonneg (by omega)]; omega
  rw [et, wr_t (2 + (((2 + a) % 4 : Nat) : Int)) (by omega) (by omega), new_m (by omega) (by omega) (by omega)]
  show bind1 (law21_awake.m k) _ = _
  rw [ha, bind1_y, if_neg (by simp), if_neg (by simp)]
  unfold store_Heap.m StoreFull.j1
  rw [bind1_y, if_neg Bool.false_ne_true]
  obtain ⟨hkn, hb, hK, c0, c4⟩ := need_ok hd
  obtain ⟨S, W, g⟩ := geo_of c0 c4
  generalize hz : (2 + (((2 + a) % 4 : Nat) : Int)).toNat = n
  have hn : n ≤ 5 := by omega
  refine all_l10 hk hkn hb hK g hn ?_ k 0 [] (hNew n) ⟨new_fl (by omega) (by omega), new_len n, by simp, List.nodup_nil, by simp⟩ (by omega) ?_
  · simp only
    rw [et, wr_t (2 + (((2 + a) % 4 : Nat) : Int)) (by omega) (by omega), g.s]
    have e2 : (2 + (((2 + a) % 4 : Nat) : Int)) * (S : Int) = ((n * S : Nat) : Int) := by rw [show (2 + (((2 + a) % 4 : Nat) : Int)) = (n : Int) by omega, Int.natCast_mul]
    rw [e2]
    refine wr_t _ (by omega) ?_
    rcases g.sw with ⟨rfl, _⟩ | ⟨rfl, _⟩ | ⟨rfl, _⟩ | ⟨rfl, _⟩ <;> omega
  · rcases g.sw with ⟨rfl, _⟩ | ⟨rfl, _⟩ | ⟨rfl, _⟩ | ⟨rfl, _⟩ <;> omega
theorem pure (i0 : Cf) (i1 : Int) (K2 : List Bool) : StoreFull.m 150000 i0 i1 K2 = some true := pureK (by omega) awakeT i0 i1 K2
theorem walk (x0_0 x0_1 x0_2 : Int) (a1 : Int) (a2 : Option Addr) (len2 cap2 : Nat) (z2 : List Bool) (w : World) (w0 : ∀ x ∈ [x0_0, x0_1, x0_2], Wd x) (w1 : (Lit.int .i64 a1).wf = true) (w2 : ArgBools w (.slice a2 len2 cap2) z2) :
    Calls Try.prog 5 #[.agg #[.int .i64 x0_0, .int .i64 x0_1, .int .i64 x0_2], .int .i64 a1, .slice a2 len2 cap2] w fun e w' => e = .returned (.bool true) ∧ Below w.heap.size w w' := by
  obtain ⟨_, p', c', e, _⟩ := id w2
  injection e with e1 e2 e3
  subst e2
  exact (StoreFull.ok (i0 := ⟨x0_0, x0_1, x0_2⟩) w2 (St.empty w) (pure _ _ _)).mono fun e w' ⟨he, h⟩ => ⟨he, h.old⟩

end Go.Proofs.Ytffnjpapggidlaa.storeFull
