/- Rows of slots, as lists: what turns, and what does not. -/
import Derived.Test.YtdnelekoplkkcaaSpan6
namespace Go.Proofs.Ytdnelekoplkkcaa

theorem sUsed_nat (l : List SRow) (i t : Nat) : sUsed l i t = (match l[i]? with | some r => r.2[t]? == some true | none => false) := by
  unfold sUsed
  rw [decide_eq_true (⟨by omega, by omega⟩ : (0 : Int) ≤ i ∧ (0 : Int) ≤ t)]
  simp only [Int.toNat_natCast, Bool.true_and]
  rfl
theorem sClass_nat (l : List SRow) (i : Nat) : sClass l i = (match l[i]? with | some r => r.1 | none => -1) := by
  unfold sClass
  rw [if_pos (by omega : (0 : Int) ≤ i)]
  simp only [Int.toNat_natCast]
  rfl
theorem sUsed_iff {l : List SRow} {i t : Nat} : sUsed l i t = true ↔ ∃ r, l[i]? = some r ∧ r.2[t]? = some true := by
  rw [sUsed_nat]
  cases h : l[i]? with
  | none => simp
  | some r => simp
theorem sClass_at {l : List SRow} {i : Nat} {r : SRow} (h : l[i]? = some r) : sClass l i = r.1 := by rw [sClass_nat, h]
/-- The words of one slot of a span. -/
def nW (l : List SRow) (i : Nat) : Nat := (cWords (sClass l i)).toNat
theorem ws_geo {k : Int} (h0 : 0 ≤ k) (h3 : k < 4) : ((cWords k).toNat = 4 ∨ (cWords k).toNat = 8 ∨ (cWords k).toNat = 16 ∨ (cWords k).toNat = 32) ∧ (cSlots k).toNat * (cWords k).toNat = 32 ∧ cWords k = ((cWords k).toNat : Int) := by
  rcases (show k = 0 ∨ k = 1 ∨ k = 2 ∨ k = 3 by omega) with rfl | rfl | rfl | rfl <;> decide
theorem slot_fit {t s W : Nat} (h : t < s) (e : s * W = 32) : t * W + W ≤ 32 := by
  rw [← e, ← Nat.succ_mul]
  exact Nat.mul_le_mul_right _ h
theorem used_geo {l : List SRow} (hok : ∀ r ∈ l, RowOk r) {i u : Nat} (h : sUsed l i u = true) : i < l.length ∧ (nW l i = 4 ∨ nW l i = 8 ∨ nW l i = 16 ∨ nW l i = 32) ∧ u * nW l i + nW l i ≤ 32 ∧ 0 ≤ sClass l i ∧ sClass l i < 4 ∧ cWords (sClass l i) = (nW l i : Int) := by
  obtain ⟨r, hr, hu⟩ := sUsed_iff.1 h
  obtain ⟨hi, _⟩ := List.getElem?_eq_some_iff.1 hr
  have hm : r ∈ l := List.mem_of_getElem? hr
  obtain ⟨hlt, _⟩ := List.getElem?_eq_some_iff.1 hu
  unfold nW
  rw [sClass_at hr]
  rcases hok r hm with ⟨_, h2⟩ | ⟨h0, h3, hl, _⟩
  · rw [h2] at hlt; simp at hlt
  · obtain ⟨a, b, c⟩ := ws_geo h0 h3
    exact ⟨hi, a, slot_fit (by omega) b, h0, h3, c⟩
theorem none_used {l : List SRow} (hok : ∀ r ∈ l, RowOk r) {i : Nat} (h : sClass l i = -1) (u : Nat) : sUsed l i u = false := by
  cases e : sUsed l i u with
  | false => rfl
  | true => obtain ⟨_, _, _, a, _⟩ := used_geo hok e; omega

theorem class_far {l l' : List SRow} {j : Nat} (h : l'[j]? = l[j]?) : sClass l' j = sClass l j := by rw [sClass_nat, sClass_nat, h]
theorem used_far {l l' : List SRow} {j u : Nat} (h : l'[j]? = l[j]?) : sUsed l' j u = sUsed l j u := by rw [sUsed_nat, sUsed_nat, h]

structure AllocFacts (k : Int) (l : List SRow) (i t : Nat) (l' : List SRow) : Prop where
  lt : i < l.length
  k0 : 0 ≤ k
  k3 : k < 4
  slot : t < (cSlots k).toNat
  len : l'.length = l.length
  cls : sClass l' i = k
  far : ∀ j : Nat, j ≠ i → l'[j]? = l[j]?
  old : sClass l i = k ∨ sClass l i = -1
  new : sUsed l i t = false
  use : ∀ u : Nat, sUsed l' i u = (sUsed l i u || u == t)
  ok : ∀ r ∈ l', RowOk r

theorem firstFree_at {m : List Bool} (h : (firstFree m).isSome = true) : m[(firstFree m).getD 0]? = some false := by
  obtain ⟨s, hs⟩ := Option.isSome_iff_exists.1 h
  rw [hs]
  unfold firstFree at hs
  rw [List.findIdx?_eq_some_iff_getElem] at hs
  obtain ⟨h1, h2, _⟩ := hs
  rw [Option.getD_some, List.getElem?_eq_getElem h1]
  simpa using h2

theorem alloc_facts {k : Int} {l : List SRow} (hok : ∀ r ∈ l, RowOk r) {i t : Nat} {l' : List SRow} (h : sAlloc k l = some (i, t, l')) : AllocFacts k l i t l' := by
  unfold sAlloc at h
  split at h
  · cases h
  rename_i hz
  obtain ⟨k0, k3, s1, s8⟩ := slots_pos hz
  split at h
  · rename_i j hj
    rw [List.findIdx?_eq_some_iff_getElem] at hj
    obtain ⟨hlt, hr, _⟩ := hj
    simp only [hlt, List.getElem?_eq_getElem, Option.getD_some] at h
    injection h with h
    injection h with e1 h
    injection h with e2 e3
    subst e1
    unfold rowFree at hr
    rw [Bool.and_eq_true, decide_eq_true_eq] at hr
    obtain ⟨hc, hf⟩ := hr
    have hs := firstFree_lt hf
    have hsf := firstFree_at hf
    rw [e2] at hs hsf e3
    have hmo := hok _ (List.getElem_mem hlt)
    have hll : (l[j].2.length : Int) = cSlots k := by
      rcases hmo with ⟨h1, _⟩ | ⟨_, _, h3, _⟩
      · omega
      · rw [h3, hc]
    subst e3
    have hgi : l[j]? = some l[j] := List.getElem?_eq_getElem hlt
    have hgn : (l.set j (l[j].1, l[j].2.set t true))[j]? = some (l[j].1, l[j].2.set t true) := by simp [hlt]
    refine ⟨hlt, k0, k3, by omega, by simp, by rw [sClass_at hgn]; exact hc, fun x hx => by rw [List.getElem?_set_ne (by omega)], .inl (by rw [sClass_at hgi]; exact hc), ?_, ?_, set_ok hok _ (set_true_ok hmo t hs)⟩
    · rw [sUsed_nat, hgi]; simp only; rw [hsf]; rfl
    · intro u
      rw [sUsed_nat, sUsed_nat, hgi, hgn]
      simp only
      rw [List.getElem?_set]
      by_cases e : t = u
      · subst e; rw [if_pos rfl, if_pos hs]; simp
      · rw [if_neg e, beq_eq_false_iff_ne.2 (fun x => e x.symm), Bool.or_false]
  · split at h
    · rename_i j hj
      rw [List.findIdx?_eq_some_iff_getElem] at hj
      obtain ⟨hlt, hr, _⟩ := hj
      injection h with h
      injection h with e1 h
      injection h with e2 e3
      subst e1
      subst e2
      subst e3
      unfold isNone at hr
      rw [decide_eq_true_eq] at hr
      have hmo := hok _ (List.getElem_mem hlt)
      have hgi : l[j]? = some l[j] := List.getElem?_eq_getElem hlt
      have hgn : (l.set j (k, true :: List.replicate ((cSlots k).toNat - 1) false))[j]? = some (k, true :: List.replicate ((cSlots k).toNat - 1) false) := by simp [hlt]
      have hcl : sClass l j = -1 := by rw [sClass_at hgi]; exact hr
      have hro : RowOk (k, true :: List.replicate ((cSlots k).toNat - 1) false) := .inr ⟨k0, k3, by simp; omega, by simp⟩
      refine ⟨hlt, k0, k3, by omega, by simp, by rw [sClass_at hgn], fun x hx => by rw [List.getElem?_set_ne (by omega)], .inr hcl, none_used hok hcl 0, ?_, set_ok hok _ hro⟩
      intro u
      rw [none_used hok hcl u, sUsed_nat, hgn]
      simp only
      cases u with
      | zero => rfl
      | succ u =>
        rw [List.getElem?_cons_succ, List.getElem?_replicate]
        split <;> rfl
    · cases h

structure FreeFacts (l : List SRow) (i u : Nat) (l' : List SRow) : Prop where
  len : l'.length = l.length
  ok : ∀ r ∈ l', RowOk r
  use : ∀ j v : Nat, sUsed l' j v = (sUsed l j v && !(j == i && v == u))
  cls : ∀ j v : Nat, sUsed l' j v = true → sClass l' j = sClass l j

theorem used_zero {m : List Bool} (h : used m = 0) (v : Nat) : (m[v]? == some true) = false := by
  cases e : m[v]? with
  | none => rfl
  | some b =>
    cases b with
    | false => rfl
    | true => exact absurd (List.count_eq_zero.1 h) (by simpa using List.mem_of_getElem? e)

theorem free_facts {l : List SRow} (hok : ∀ r ∈ l, RowOk r) {i u : Nat} (h : sUsed l i u = true) : FreeFacts l i u (sFree l i u) := by
  obtain ⟨i', k, hi, hk, e1, e2, hv, hf⟩ := sUsed_some h
  have e1 : i = i' := by omega
  have e2 : u = k := by omega
  subst e1 e2
  rw [hf]
  have hmo := hok _ (List.getElem_mem hi)
  have hgi : l[i]? = some l[i] := List.getElem?_eq_getElem hi
  have hgn : (l.set i (freeRow l[i] u))[i]? = some (freeRow l[i] u) := by simp [hi]
  have huse : ∀ j v : Nat, sUsed (l.set i (freeRow l[i] u)) j v = (sUsed l j v && !(j == i && v == u)) := by
    intro j v
    by_cases e : j = i
    · subst e
      rw [sUsed_nat, sUsed_nat, hgn, hgi]
      simp only [beq_self_eq_true, Bool.true_and]
      unfold freeRow
      split
      · rename_i hz
        have h0 := used_zero hz v
        rw [List.getElem?_set] at h0
        by_cases e : u = v
        · subst e; simp [noRow]
        · rw [if_neg e] at h0; rw [h0]; simp [noRow]
      · simp only
        rw [List.getElem?_set]
        by_cases e : u = v
        · subst e; rw [if_pos rfl, if_pos hk]; simp
        · rw [if_neg e, beq_eq_false_iff_ne.2 (fun x => e x.symm)]; simp
    · rw [used_far (l := l) (by rw [List.getElem?_set_ne (by omega)]), beq_eq_false_iff_ne.2 e]; simp
  refine ⟨by simp, set_ok hok _ (freeRow_ok hmo u hk), huse, ?_⟩
  intro j v hjv
  by_cases e : j = i
  · subst e
    rw [sUsed_nat, hgn] at hjv
    simp only at hjv
    rw [sClass_at hgn, sClass_at hgi]
    unfold freeRow at hjv ⊢
    split
    · rename_i hz; rw [if_pos hz] at hjv; simp [noRow] at hjv
    · rfl
  · exact class_far (by rw [List.getElem?_set_ne (by omega)])
end Go.Proofs.Ytdnelekoplkkcaa
