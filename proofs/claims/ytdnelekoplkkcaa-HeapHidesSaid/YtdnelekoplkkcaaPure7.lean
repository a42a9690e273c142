/- Things in words, as lists. -/
import Derived.Test.YtdnelekoplkkcaaPureSpan
namespace Go.Proofs.Ytdnelekoplkkcaa

/-- What stands at a place: nothing, a header, or a word. -/
inductive ACell where
  | none | head (k n : Int) | word (w : Int)
deriving DecidableEq
/-- The rows, and what stands at each place. -/
structure ASt where
  l : List SRow
  c : List ACell
def aHead (c : List ACell) (a : Int) : Option (Int × Int) :=
  if 0 ≤ a then (match c[a.toNat]? with | some (.head k n) => some (k, n) | _ => none) else none
def aKind (c : List ACell) (a : Int) : Int := match aHead c a with | some h => h.1 | none => 0
def aLen (c : List ACell) (a : Int) : Int := match aHead c a with | some h => h.2 | none => 0
def aFill (c : List ACell) (p : Nat) (v : ACell) : Nat → List ACell
  | 0 => c
  | n + 1 => (aFill c p v n).set (p + n) v
theorem aFill_len (c : List ACell) (p : Nat) (v : ACell) (n : Nat) : (aFill c p v n).length = c.length := by
  induction n with
  | zero => rfl
  | succ n ih => simp [aFill, ih]
theorem aFill_get (c : List ACell) (p : Nat) (v : ACell) (n q : Nat) : (aFill c p v n)[q]? = if p ≤ q ∧ q < p + n ∧ q < c.length then some v else c[q]? := by
  induction n with
  | zero => rw [if_neg (by omega)]; rfl
  | succ n ih =>
    unfold aFill
    rw [List.getElem?_set, aFill_len, ih]
    by_cases e : p + n = q
    · subst e
      rw [if_pos rfl]
      by_cases hl : p + n < c.length
      · rw [if_pos hl, if_pos ⟨by omega, by omega, hl⟩]
      · rw [if_neg hl, if_neg (by omega), List.getElem?_eq_none (by omega)]
    · rw [if_neg e]
      by_cases h : p ≤ q ∧ q < p + n ∧ q < c.length
      · rw [if_pos h, if_pos ⟨h.1, by omega, h.2.2⟩]
      · rw [if_neg h, if_neg (by omega)]

def aBad (kind n : Int) : Bool := decide (kind < 1) || decide (6 < kind) || !cFits n
def aAlloc (kind n : Int) (s : ASt) : Option (Nat × ASt) :=
  match sAlloc (cOf n) s.l with
  | some (i, t, l') => some (i * 32 + t * (cWords (cOf n)).toNat, ⟨l', aFill (s.c.set (i * 32 + t * (cWords (cOf n)).toNat) (.head kind n)) (i * 32 + t * (cWords (cOf n)).toNat + 1) (.word 0) n.toNat⟩)
  | none => none
def aAllocV (kind n : Int) (s : ASt) : Value :=
  if aBad kind n then .tuple #[.int .i64 0, .int .i64 1] else match aAlloc kind n s with
  | some (p, _) => .tuple #[.int .i64 p, .int .i64 0]
  | none => .tuple #[.int .i64 0, .int .i64 9]
def aAllocS (kind n : Int) (s : ASt) : ASt :=
  if aBad kind n then s else match aAlloc kind n s with
  | some (_, s') => s'
  | none => s
def aFreeS (a : Int) (s : ASt) : ASt := match aHead s.c a with
  | some h => ⟨sFree s.l (a.toNat / 32 : Nat) (a.toNat % 32 / nW s.l (a.toNat / 32) : Nat), aFill s.c a.toNat .none (h.2.toNat + 1)⟩
  | none => s
def aFreeE (a : Int) (s : ASt) : Int := if (aHead s.c a).isSome then 0 else 8
def wordOf : Option ACell → Int
  | some (.word w) => w
  | _ => 0
def aErr (a i : Int) (s : ASt) : Int := match aHead s.c a with
  | some h => if 0 ≤ i ∧ i < h.2 then 0 else 1
  | none => 8
def aWord (a i : Int) (s : ASt) : Int := if aErr a i s = 0 then wordOf s.c[a.toNat + 1 + i.toNat]? else 0
def aStoreS (a i w : Int) (s : ASt) : ASt := if aErr a i s = 0 then ⟨s.l, s.c.set (a.toNat + 1 + i.toNat) (.word w)⟩ else s
def aObjects (c : List ACell) : List Nat := (List.range c.length).filter fun p => (aHead c p).isSome
def aNew (n : Nat) : ASt := ⟨sNew n, List.replicate (32 * n) .none⟩

structure AOk (s : ASt) : Prop where
  rows : ∀ r ∈ s.l, RowOk r
  len : s.c.length = 32 * s.l.length
  head : ∀ (p : Nat) (k n : Int), s.c[p]? = some (.head k n) → ∃ i u : Nat, p = i * 32 + u * nW s.l i ∧ sUsed s.l i u = true ∧ 1 ≤ k ∧ k ≤ 6 ∧ 0 ≤ n ∧ n.toNat < nW s.l i ∧ ∀ j, j < n.toNat → ∃ w, s.c[p + 1 + j]? = some (.word w)
  slot : ∀ i u : Nat, sUsed s.l i u = true → ∃ k n, s.c[i * 32 + u * nW s.l i]? = some (.head k n)

theorem coord {W i t j : Nat} (hW : W = 4 ∨ W = 8 ∨ W = 16 ∨ W = 32) (ht : t * W + W ≤ 32) (hj : j < W) : (i * 32 + t * W + j) / 32 = i ∧ (i * 32 + t * W + j) % 32 / W = t ∧ (i * 32 + t * W + j) % 32 % W = j := by
  rcases hW with rfl | rfl | rfl | rfl <;> omega
/-- Two slots do not share a place. -/
theorem slots_apart {W i t j W' i' t' j' : Nat} (hW : W = 4 ∨ W = 8 ∨ W = 16 ∨ W = 32) (ht : t * W + W ≤ 32) (hj : j < W) (hW' : W' = 4 ∨ W' = 8 ∨ W' = 16 ∨ W' = 32) (ht' : t' * W' + W' ≤ 32) (hj' : j' < W') (hs : i = i' → W = W') (e : i * 32 + t * W + j = i' * 32 + t' * W' + j') : i = i' ∧ t = t' ∧ j = j' := by
  obtain ⟨a, b, c⟩ := coord (i := i) hW ht hj
  obtain ⟨a', b', c'⟩ := coord (i := i') hW' ht' hj'
  have ei : i = i' := by rw [← a, e, a']
  have eW := hs ei
  subst eW
  exact ⟨ei, by rw [← b, e, b'], by rw [← c, e, c']⟩

theorem aHead_some {c : List ACell} {a k n : Int} (h : aHead c a = some (k, n)) : ∃ p : Nat, a = p ∧ c[p]? = some (.head k n) := by
  unfold aHead at h
  split at h
  · rename_i h0
    obtain ⟨p, rfl⟩ := Int.eq_ofNat_of_zero_le h0
    simp only [Int.toNat_natCast] at h
    split at h
    · rename_i k' n' hc
      injection h with h
      injection h with e1 e2
      subst e1 e2
      exact ⟨p, rfl, hc⟩
    · cases h
  · cases h
theorem aHead_nat {c : List ACell} {p : Nat} {k n : Int} (h : c[p]? = some (.head k n)) : aHead c p = some (k, n) := by
  unfold aHead
  rw [if_pos (by omega)]
  simp only [Int.toNat_natCast]
  rw [h]

theorem aNew_ok (n : Nat) : AOk (aNew n) := by
  refine ⟨?_, by simp [aNew, sNew], ?_, ?_⟩
  · intro r hr
    have := List.eq_of_mem_replicate hr
    subst this; exact .inl ⟨rfl, rfl⟩
  · intro p k m h
    simp only [aNew, List.getElem?_replicate] at h
    split at h <;> simp at h
  · intro i u h
    obtain ⟨r, hr, hu⟩ := sUsed_iff.1 h
    simp only [aNew, sNew, List.getElem?_replicate] at hr
    split at hr
    · injection hr with hr; subst hr; simp [noRow] at hu
    · cases hr

theorem cOf_fits {n : Int} (h : cFits n = true) : 0 ≤ n ∧ n < 32 ∧ 0 ≤ cOf n ∧ cOf n < 4 ∧ n.toNat < (cWords (cOf n)).toNat := by
  unfold cFits at h
  rw [decide_eq_true_eq] at h
  refine ⟨h.1, h.2, ?_⟩
  unfold cOf
  split
  · exact ⟨by omega, by omega, by rw [show (cWords 0).toNat = 4 from rfl]; omega⟩
  split
  · exact ⟨by omega, by omega, by rw [show (cWords 1).toNat = 8 from rfl]; omega⟩
  split
  · exact ⟨by omega, by omega, by rw [show (cWords 2).toNat = 16 from rfl]; omega⟩
  split
  · exact ⟨by omega, by omega, by rw [show (cWords 3).toNat = 32 from rfl]; omega⟩
  · omega
theorem aBad_no {kind n : Int} (h : aBad kind n = false) : 1 ≤ kind ∧ kind ≤ 6 ∧ cFits n = true := by
  unfold aBad at h
  simp at h
  exact ⟨h.1.1, h.1.2, h.2⟩

theorem alloc_ok {kind n : Int} {s : ASt} (hok : AOk s) (hb : aBad kind n = false) {p : Nat} {s' : ASt} (h : aAlloc kind n s = some (p, s')) : AOk s' ∧ s'.c.length = s.c.length ∧ s'.l.length = s.l.length ∧ p + 1 + n.toNat ≤ s.c.length := by
  obtain ⟨k1, k6, hf⟩ := aBad_no hb
  obtain ⟨n0, n32, c0, c3, nW'⟩ := cOf_fits hf
  unfold aAlloc at h
  split at h
  · rename_i i t l' ha
    injection h with h
    injection h with e1 e2
    have fa := alloc_facts hok.rows ha
    obtain ⟨gW, gs, gc⟩ := ws_geo c0 c3
    have gt := slot_fit fa.slot gs
    generalize hWd : (cWords (cOf n)).toNat = W at *
    have hni : nW l' i = W := by unfold nW; rw [fa.cls, hWd]
    have hlt := fa.lt
    have hL := hok.len
    -- a used slot is another one
    have hap : ∀ (i' u j m : Nat), sUsed s.l i' u = true → j < nW s.l i' → m < W → i' * 32 + u * nW s.l i' + j ≠ i * 32 + t * W + m := by
      intro i' u j m hu hj hm e
      obtain ⟨_, uW, ut, _⟩ := used_geo hok.rows hu
      have hcl : i' = i → nW s.l i' = W := by
        intro ei
        subst ei
        rcases fa.old with h | h
        · unfold nW; rw [h, hWd]
        · rw [none_used hok.rows h u] at hu; cases hu
      obtain ⟨a, b, c⟩ := slots_apart uW ut hj gW gt hm hcl e
      subst a b
      rw [fa.new] at hu; cases hu
    have hkeep : ∀ i' u : Nat, sUsed s.l i' u = true → nW l' i' = nW s.l i' := by
      intro i' u hu
      by_cases e : i' = i
      · subst e
        rcases fa.old with h | h
        · unfold nW; rw [h, fa.cls]
        · rw [none_used hok.rows h u] at hu; cases hu
      · unfold nW; rw [class_far (fa.far i' e)]
    have hget : ∀ q : Nat, s'.c[q]? = if i * 32 + t * W + 1 ≤ q ∧ q < i * 32 + t * W + 1 + n.toNat then some (.word 0) else if q = i * 32 + t * W then some (.head kind n) else s.c[q]? := by
      intro q
      rw [← e2]
      simp only
      rw [aFill_get, List.length_set]
      by_cases h1 : i * 32 + t * W + 1 ≤ q ∧ q < i * 32 + t * W + 1 + n.toNat
      · rw [if_pos h1, if_pos ⟨h1.1, h1.2, by omega⟩]
      · rw [if_neg h1, if_neg (by omega), List.getElem?_set]
        by_cases h2 : q = i * 32 + t * W
        · rw [if_pos h2, if_pos h2.symm, if_pos (by omega)]
        · rw [if_neg h2, if_neg (fun x => h2 x.symm)]
    have el : s'.l = l' := by rw [← e2]
    have ec : s'.c.length = s.c.length := by rw [← e2]; simp only; rw [aFill_len, List.length_set]
    refine ⟨⟨by rw [el]; exact fa.ok, by rw [ec, el, fa.len]; exact hL, ?_, ?_⟩, ec, by rw [el, fa.len], by omega⟩
    · intro q k m hq
      rw [hget] at hq
      split at hq
      · cases hq
      rename_i h1
      split at hq
      · rename_i h2
        injection hq with hq
        injection hq with ek en
        subst ek en
        refine ⟨i, t, by rw [el, hni]; exact h2, by rw [el, fa.use]; simp, k1, k6, n0, by rw [el, hni]; exact nW', ?_⟩
        intro j hj
        exact ⟨0, by rw [hget, if_pos (by omega)]⟩
      · rename_i h2
        obtain ⟨i', u, hp, hu, a, b, c, d, f⟩ := hok.head q k m hq
        have hk := hkeep i' u hu
        refine ⟨i', u, by rw [el, hk]; exact hp, ?_, a, b, c, by rw [el, hk]; exact d, ?_⟩
        · rw [el]
          by_cases e : i' = i
          · subst e; rw [fa.use, hu]; rfl
          · rw [used_far (fa.far i' e)]; exact hu
        · intro j hj
          obtain ⟨w, hw⟩ := f j hj
          refine ⟨w, ?_⟩
          have hne := fun mm hmm => hap i' u (1 + j) mm hu (by omega) hmm
          rw [hget, if_neg, if_neg]
          · exact hw
          · intro e; exact hne 0 (by omega) (by omega)
          · intro e; exact hne (q + 1 + j - (i * 32 + t * W)) (by omega) (by omega)
    · intro i' u hu
      rw [el] at hu ⊢
      by_cases e : i' = i ∧ u = t
      · obtain ⟨rfl, rfl⟩ := e
        exact ⟨kind, n, by rw [hni, hget, if_neg (by omega), if_pos rfl]⟩
      · have hu0 : sUsed s.l i' u = true := by
          by_cases e1 : i' = i
          · subst e1
            rw [fa.use, Bool.or_eq_true] at hu
            rcases hu with hu | hu
            · exact hu
            · exact absurd ⟨rfl, by simpa using hu⟩ e
          · rw [used_far (fa.far i' e1)] at hu; exact hu
        obtain ⟨k, m, hkm⟩ := hok.slot i' u hu0
        have hk := hkeep i' u hu0
        refine ⟨k, m, ?_⟩
        obtain ⟨_, uW, _⟩ := used_geo hok.rows hu0
        have hne := fun mm hmm => hap i' u 0 mm hu0 (by omega) hmm
        rw [hk, hget, if_neg, if_neg]
        · exact hkm
        · intro e; exact hne 0 (by omega) (by omega)
        · intro e; exact hne (i' * 32 + u * nW s.l i' - (i * 32 + t * W)) (by omega) (by omega)
  · cases h

theorem head_geo {s : ASt} (hok : AOk s) {p : Nat} {k n : Int} (h : s.c[p]? = some (.head k n)) : p / 32 < s.l.length ∧ sUsed s.l (p / 32 : Nat) (p % 32 / nW s.l (p / 32) : Nat) = true ∧ p = p / 32 * 32 + p % 32 / nW s.l (p / 32) * nW s.l (p / 32) ∧ cWords (sClass s.l (p / 32 : Nat)) = (nW s.l (p / 32) : Int) ∧ 0 < nW s.l (p / 32) ∧ nW s.l (p / 32) ≤ 32 ∧ 0 ≤ n ∧ n.toNat < nW s.l (p / 32) ∧ p + 1 + n.toNat ≤ s.c.length ∧ 1 ≤ k ∧ k ≤ 6 := by
  obtain ⟨i, u, hp, hu, a, b, c, d, f⟩ := hok.head p k n h
  obtain ⟨hi, uW, ut, _, _, hc⟩ := used_geo hok.rows hu
  obtain ⟨x, y, z⟩ := coord (i := i) (j := 0) uW ut (by omega)
  rw [Nat.add_zero, ← hp] at x y
  have hL := hok.len
  rw [x, y]
  exact ⟨hi, hu, hp, hc, by omega, by omega, c, d, by omega, a, b⟩

theorem free_ok {s : ASt} (hok : AOk s) (a : Int) : AOk (aFreeS a s) ∧ (aFreeS a s).c.length = s.c.length ∧ (aFreeS a s).l.length = s.l.length := by
  unfold aFreeS
  split
  · rename_i h e
    obtain ⟨k, n⟩ := h
    obtain ⟨p, rfl, hp⟩ := aHead_some e
    simp only [Int.toNat_natCast]
    obtain ⟨g1, g2, g3, g4, g5, g6, g7, g8, g9, g10, g11⟩ := head_geo hok hp
    generalize hi : p / 32 = i at *
    generalize hu : p % 32 / nW s.l i = u at *
    have fa := free_facts hok.rows g2
    obtain ⟨_, uW, ut, _⟩ := used_geo hok.rows g2
    have hL := hok.len
    have hap : ∀ (i' v j m : Nat), sUsed s.l i' v = true → ¬ (i' = i ∧ v = u) → j < nW s.l i' → m < nW s.l i → i' * 32 + v * nW s.l i' + j ≠ p + m := by
      intro i' v j m hv hne hj hm e
      obtain ⟨_, vW, vt, _⟩ := used_geo hok.rows hv
      rw [g3] at e
      obtain ⟨x, y, z⟩ := slots_apart vW vt hj uW ut hm (fun e => by rw [e]) e
      exact hne ⟨x, y⟩
    have hget : ∀ q : Nat, (aFill s.c p .none (n.toNat + 1))[q]? = if p ≤ q ∧ q < p + (n.toNat + 1) then some .none else s.c[q]? := by
      intro q
      rw [aFill_get]
      by_cases h1 : p ≤ q ∧ q < p + (n.toNat + 1)
      · rw [if_pos h1, if_pos ⟨h1.1, h1.2, by omega⟩]
      · rw [if_neg h1, if_neg (by omega)]
    refine ⟨⟨fa.ok, by simp only; rw [aFill_len, fa.len]; exact hL, ?_, ?_⟩, aFill_len _ _ _ _, fa.len⟩
    · intro q k' m hq
      simp only at hq ⊢
      rw [hget] at hq
      split at hq
      · cases hq
      rename_i h1
      obtain ⟨i', v, hp', hv, a, b, c, d, f⟩ := hok.head q k' m hq
      have hne : ¬ (i' = i ∧ v = u) := by rintro ⟨rfl, rfl⟩; rw [← g3] at hp'; omega
      have hv' : sUsed (sFree s.l i u) i' v = true := by
        rw [fa.use, hv]
        simp; exact Decidable.not_and_iff_or_not.1 hne
      have hk : nW (sFree s.l i u) i' = nW s.l i' := by unfold nW; rw [fa.cls i' v hv']
      refine ⟨i', v, by rw [hk]; exact hp', hv', a, b, c, by rw [hk]; exact d, ?_⟩
      intro j hj
      obtain ⟨w, hw⟩ := f j hj
      refine ⟨w, ?_⟩
      rw [hget, if_neg]
      · exact hw
      · intro e; exact hap i' v (1 + j) (q + 1 + j - p) hv hne (by omega) (by omega) (by omega)
    · intro i' v hv'
      simp only at hv' ⊢
      have hk : nW (sFree s.l i u) i' = nW s.l i' := by unfold nW; rw [fa.cls i' v hv']
      rw [fa.use, Bool.and_eq_true] at hv'
      obtain ⟨hv, hne⟩ := hv'
      have hne : ¬ (i' = i ∧ v = u) := by rintro ⟨rfl, rfl⟩; simp at hne
      obtain ⟨k', m, hkm⟩ := hok.slot i' v hv
      obtain ⟨_, vW, _⟩ := used_geo hok.rows hv
      refine ⟨k', m, ?_⟩
      rw [hk, hget, if_neg]
      · exact hkm
      · intro e; exact hap i' v 0 (i' * 32 + v * nW s.l i' - p) hv hne (by omega) (by omega) (by omega)
  · exact ⟨hok, rfl, rfl⟩

theorem err_zero {a i : Int} {s : ASt} (h : aErr a i s = 0) : ∃ (p j : Nat) (k n : Int), a = p ∧ i = j ∧ s.c[p]? = some (.head k n) ∧ j < n.toNat := by
  unfold aErr at h
  split at h
  · rename_i hd e
    obtain ⟨k, n⟩ := hd
    obtain ⟨p, rfl, hp⟩ := aHead_some e
    split at h
    · rename_i hc
      obtain ⟨j, rfl⟩ := Int.eq_ofNat_of_zero_le hc.1
      exact ⟨p, j, k, n, rfl, rfl, hp, by have := hc.2; simp only at this; omega⟩
    · cases h
  · cases h
theorem err_word {s : ASt} (hok : AOk s) {p j : Nat} {k n : Int} (h : s.c[p]? = some (.head k n)) (hj : j < n.toNat) : ∃ w, s.c[p + 1 + j]? = some (.word w) := by
  obtain ⟨i, u, hp, hu, a, b, c, d, f⟩ := hok.head p k n h
  exact f j hj
theorem store_ok {s : ASt} (hok : AOk s) (a i w : Int) : AOk (aStoreS a i w s) ∧ (aStoreS a i w s).c.length = s.c.length ∧ (aStoreS a i w s).l = s.l := by
  unfold aStoreS
  split
  · rename_i he
    obtain ⟨p, j, k, n, rfl, rfl, hp, hj⟩ := err_zero he
    obtain ⟨x, hx⟩ := err_word hok hp hj
    simp only [Int.toNat_natCast]
    have hlt := (List.getElem?_eq_some_iff.1 hx).1
    have hget : ∀ q : Nat, (s.c.set (p + 1 + j) (.word w))[q]? = if q = p + 1 + j then some (.word w) else s.c[q]? := by
      intro q
      rw [List.getElem?_set]
      by_cases e : q = p + 1 + j
      · rw [if_pos e, if_pos e.symm, if_pos (by omega)]
      · rw [if_neg e, if_neg (fun x => e x.symm)]
    refine ⟨⟨hok.rows, by simpa using hok.len, ?_, ?_⟩, by simp, trivial⟩
    · intro q k' m hq
      simp only at hq ⊢
      rw [hget] at hq
      split at hq
      · cases hq
      obtain ⟨i', v, hp', hv, a, b, c, d, f⟩ := hok.head q k' m hq
      refine ⟨i', v, hp', hv, a, b, c, d, fun y hy => ?_⟩
      rw [hget]
      split
      · exact ⟨w, rfl⟩
      · exact f y hy
    · intro i' v hv
      obtain ⟨k', m, hkm⟩ := hok.slot i' v hv
      refine ⟨k', m, ?_⟩
      simp only
      rw [hget, if_neg]
      · exact hkm
      · intro e; rw [e, hx] at hkm; cases hkm
  · exact ⟨hok, rfl, rfl⟩
end Go.Proofs.Ytdnelekoplkkcaa
