/- Things in words, as lists: what stands where, behind each call. -/
import Derived.Test.YtdnelekoplkkcaaPure7
namespace Go.Proofs.Ytdnelekoplkkcaa

structure AllocMore (kind n : Int) (s : ASt) (p : Nat) (s' : ASt) : Prop where
  get : ∀ q : Nat, s'.c[q]? = if p + 1 ≤ q ∧ q < p + 1 + n.toNat then some (.word 0) else if q = p then some (.head kind n) else s.c[q]?
  apart : ∀ (q j : Nat) (k m : Int), s.c[q]? = some (.head k m) → j < m.toNat + 1 → q + j < p ∨ p + n.toNat < q + j
  lt : p + 1 + n.toNat ≤ s.c.length
  four : p % 4 = 0
  n0 : 0 ≤ n
  row : ∃ i t l', sAlloc (cOf n) s.l = some (i, t, l') ∧ s'.l = l'
  ok : AOk s'
  len : s'.c.length = s.c.length

theorem alloc_more {kind n : Int} {s : ASt} (hok : AOk s) (hb : aBad kind n = false) {p : Nat} {s' : ASt} (h : aAlloc kind n s = some (p, s')) : AllocMore kind n s p s' := by
  obtain ⟨aok, alen, _, alt⟩ := alloc_ok hok hb h
  obtain ⟨k1, k6, hf⟩ := aBad_no hb
  obtain ⟨n0, n32, c0, c3, nW'⟩ := cOf_fits hf
  unfold aAlloc at h
  split at h
  · rename_i i t l' ha
    injection h with h
    injection h with e1 e2
    have e20 := e2
    have fa := alloc_facts hok.rows ha
    obtain ⟨gW, gs, gc⟩ := ws_geo c0 c3
    have gt := slot_fit fa.slot gs
    generalize hWd : (cWords (cOf n)).toNat = W at *
    have hni : nW l' i = W := by unfold nW; rw [fa.cls, hWd]
    have hlt := fa.lt
    have hL := hok.len
    -- a used slot is another one
    have hap : ∀ (i' u j m : Nat), sUsed s.l i' u = true → j < nW s.l i' → m < W → i' * 32 + u * nW s.l i' + j ≠ i * 32 + t * W + m := by
      intro i' u j m hu hj hm e
      obtain ⟨_, uW, ut, _⟩ := used_geo hok.rows hu
      have hcl : i' = i → nW s.l i' = W := by
        intro ei
        subst ei
        rcases fa.old with h | h
        · unfold nW; rw [h, hWd]
        · rw [none_used hok.rows h u] at hu; cases hu
      obtain ⟨a, b, c⟩ := slots_apart uW ut hj gW gt hm hcl e
      subst a b
      rw [fa.new] at hu; cases hu
    have hkeep : ∀ i' u : Nat, sUsed s.l i' u = true → nW l' i' = nW s.l i' := by
      intro i' u hu
      by_cases e : i' = i
      · subst e
        rcases fa.old with h | h
        · unfold nW; rw [h, fa.cls]
        · rw [none_used hok.rows h u] at hu; cases hu
      · unfold nW; rw [class_far (fa.far i' e)]
    have hget : ∀ q : Nat, s'.c[q]? = if i * 32 + t * W + 1 ≤ q ∧ q < i * 32 + t * W + 1 + n.toNat then some (.word 0) else if q = i * 32 + t * W then some (.head kind n) else s.c[q]? := by
      intro q
      rw [← e2]
      simp only
      rw [aFill_get, List.length_set]
      by_cases h1 : i * 32 + t * W + 1 ≤ q ∧ q < i * 32 + t * W + 1 + n.toNat
      · rw [if_pos h1, if_pos ⟨h1.1, h1.2, by omega⟩]
      · rw [if_neg h1, if_neg (by omega), List.getElem?_set]
        by_cases h2 : q = i * 32 + t * W
        · rw [if_pos h2, if_pos h2.symm, if_pos (by omega)]
        · rw [if_neg h2, if_neg (fun x => h2 x.symm)]
    refine ⟨?_, ?_, alt, ?_, n0, ⟨i, t, l', ha, by rw [← e20]⟩, aok, alen⟩
    · intro q; rw [hget, e1]
    · intro q j k m hq hj
      obtain ⟨i', u, hp, hu, a, b, c, d, f⟩ := hok.head q k m hq
      have hne := fun mm hmm => hap i' u j mm hu (by omega) hmm
      rw [← hp, e1] at hne
      by_cases h1 : q + j < p
      · exact .inl h1
      · by_cases h2 : p + n.toNat < q + j
        · exact .inr h2
        · exact absurd (show q + j = p + (q + j - p) by omega) (hne (q + j - p) (by omega))
    · rw [← e1]; rcases gW with h | h | h | h <;> rw [h] <;> omega
  · cases h

theorem head_iff {c : List ACell} {p : Nat} {k n : Int} : aHead c p = some (k, n) ↔ c[p]? = some (.head k n) := by
  constructor
  · intro h; obtain ⟨q, e, hq⟩ := aHead_some h
    rw [show p = q by omega]; exact hq
  · exact aHead_nat
theorem head_none {c : List ACell} {p : Nat} (h : ∀ k n, c[p]? ≠ some (.head k n)) : aHead c p = none := by
  cases e : aHead c p with
  | none => rfl
  | some kn => obtain ⟨k, n⟩ := kn; exact absurd (head_iff.1 e) (h k n)
theorem head_congr {c c' : List ACell} {p : Nat} (h : c'[p]? = c[p]?) : aHead c' p = aHead c p := by
  unfold aHead; simp only [Int.toNat_natCast]; rw [h]
theorem AllocMore.head {kind n : Int} {s : ASt} {p : Nat} {s' : ASt} (h : AllocMore kind n s p s') (q : Nat) : aHead s'.c q = if q = p then some (kind, n) else aHead s.c q := by
  by_cases e : q = p
  · subst e
    rw [if_pos rfl]
    exact aHead_nat (by rw [h.get, if_neg (by omega), if_pos rfl])
  · rw [if_neg e]
    by_cases h1 : p + 1 ≤ q ∧ q < p + 1 + n.toNat
    · rw [head_none (fun k m hq => by rw [h.get, if_pos h1] at hq; cases hq), head_none (fun k m hq => by have := h.apart q 0 k m hq (by omega); omega)]
    · exact head_congr (by rw [h.get, if_neg h1, if_neg e])
theorem AllocMore.fresh {kind n : Int} {s : ASt} {p : Nat} {s' : ASt} (h : AllocMore kind n s p s') : aHead s.c p = none := head_none (fun k m hq => by have := h.apart p 0 k m hq (by omega); omega)

theorem filter_one {f g : Nat → Bool} {p : Nat} (hne : ∀ q, q ≠ p → g q = f q) (hf : f p = false) (hg : g p = true) : ∀ N, ((List.range N).filter g).length = ((List.range N).filter f).length + if p < N then 1 else 0 := by
  intro N
  induction N with
  | zero => simp
  | succ N ih =>
    rw [List.range_succ, List.filter_append, List.filter_append, List.length_append, List.length_append, ih]
    by_cases e : N = p
    · subst e
      simp [hf, hg]
    · have hx : g N = f N := hne N e
      simp only [List.filter_cons, hx, List.filter_nil]
      have e2 : (if p < N + 1 then 1 else 0 : Nat) = (if p < N then 1 else 0) := by split <;> split <;> omega
      rw [e2]; omega
theorem AllocMore.count {kind n : Int} {s : ASt} {p : Nat} {s' : ASt} (h : AllocMore kind n s p s') : (aObjects s'.c).length = (aObjects s.c).length + 1 := by
  unfold aObjects
  rw [h.len]
  have hlt : p < s.c.length := by have := h.lt; omega
  rw [filter_one (f := fun q => (aHead s.c q).isSome) (p := p) (fun q hq => by rw [h.head, if_neg hq]) (by rw [h.fresh]; rfl) (by rw [h.head, if_pos rfl]; rfl), if_pos hlt]

structure FreeMore (s : ASt) (p : Nat) (k n : Int) : Prop where
  get : ∀ q : Nat, (aFreeS p s).c[q]? = if p ≤ q ∧ q < p + (n.toNat + 1) then some .none else s.c[q]?
  apart : ∀ (q j : Nat) (k' m : Int), s.c[q]? = some (.head k' m) → q ≠ p → j < m.toNat + 1 → q + j < p ∨ p + n.toNat < q + j
  lt : p + 1 + n.toNat ≤ s.c.length
  n0 : 0 ≤ n
  ok : AOk (aFreeS p s)
  len : (aFreeS p s).c.length = s.c.length
  rows : (aFreeS p s).l = sFree s.l (p / 32 : Nat) (p % 32 / nW s.l (p / 32) : Nat)
theorem free_more {s : ASt} (hok : AOk s) {p : Nat} {k n : Int} (h : s.c[p]? = some (.head k n)) : FreeMore s p k n := by
  obtain ⟨aok, alen, _⟩ := free_ok hok (p : Int)
  obtain ⟨g1, g2, g3, g4, g5, g6, g7, g8, g9, g10, g11⟩ := head_geo hok h
  have hs : aFreeS p s = ⟨sFree s.l (p / 32 : Nat) (p % 32 / nW s.l (p / 32) : Nat), aFill s.c p .none (n.toNat + 1)⟩ := by
    unfold aFreeS; rw [aHead_nat h]; simp only [Int.toNat_natCast]
  refine ⟨?_, ?_, g9, g7, aok, alen, by rw [hs]⟩
  · intro q
    rw [hs]
    simp only
    rw [aFill_get]
    by_cases h1 : p ≤ q ∧ q < p + (n.toNat + 1)
    · rw [if_pos h1, if_pos ⟨h1.1, h1.2, by omega⟩]
    · rw [if_neg h1, if_neg (by omega)]
  · intro q j k' m hq hne hj
    obtain ⟨i', v, hp', hv, a, b, c, d, f⟩ := hok.head q k' m hq
    obtain ⟨_, vW, vt, _⟩ := used_geo hok.rows hv
    obtain ⟨_, uW, ut, _⟩ := used_geo hok.rows g2
    by_cases h1 : q + j < p
    · exact .inl h1
    · by_cases h2 : p + n.toNat < q + j
      · exact .inr h2
      · exfalso
        obtain ⟨x, y, z⟩ := slots_apart vW vt (show j < nW s.l i' by omega) uW ut (show q + j - p < nW s.l (p / 32) by omega) (fun e => congrArg (nW s.l) e) (by rw [← g3, ← hp']; omega)
        apply hne
        rw [hp', y, x, ← g3]
theorem FreeMore.head {s : ASt} {p : Nat} {k n : Int} (h : FreeMore s p k n) (q : Nat) : aHead (aFreeS p s).c q = if q = p then none else aHead s.c q := by
  by_cases e : q = p
  · subst e
    rw [if_pos rfl]
    exact head_none (fun k m hq => by rw [h.get, if_pos (by omega)] at hq; cases hq)
  · rw [if_neg e]
    by_cases h1 : p ≤ q ∧ q < p + (n.toNat + 1)
    · rw [head_none (fun k m hq => by rw [h.get, if_pos h1] at hq; cases hq), head_none (fun k m hq => by have := h.apart q 0 k m hq e (by omega); omega)]
    · exact head_congr (by rw [h.get, if_neg h1])
theorem FreeMore.count {s : ASt} {p : Nat} {k n : Int} (h : FreeMore s p k n) (hp : s.c[p]? = some (.head k n)) : (aObjects s.c).length = (aObjects (aFreeS p s).c).length + 1 := by
  unfold aObjects
  rw [h.len]
  have hlt : p < s.c.length := by have := h.lt; omega
  rw [filter_one (f := fun q => (aHead (aFreeS p s).c q).isSome) (g := fun q => (aHead s.c q).isSome) (p := p) (fun q hq => by rw [h.head, if_neg hq]) (by rw [h.head, if_pos rfl]; rfl) (by rw [aHead_nat hp]; rfl), if_pos hlt]

/-- What is not at four words' distance is no object's place. -/
theorem off_none {s : ASt} (hok : AOk s) {p : Nat} (h : ¬ p % 4 = 0) : aHead s.c p = none := by
  refine head_none (fun k m hq => ?_)
  obtain ⟨i', v, hp', hv, a, b, c, d, f⟩ := hok.head p k m hq
  obtain ⟨_, vW, vt, _⟩ := used_geo hok.rows hv
  apply h
  rw [hp']
  rcases vW with h | h | h | h <;> rw [h] <;> omega
end Go.Proofs.Ytdnelekoplkkcaa
