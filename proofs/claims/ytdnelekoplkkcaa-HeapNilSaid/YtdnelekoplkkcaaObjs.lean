/- Objects, as a list: where each stands, and its words. -/
import Derived.Test.YtdnelekoplkkcaaArenaRows
namespace Go.Proofs.Ytdnelekoplkkcaa

structure Ob where
  p : Nat
  kind : Int
  ws : List Int
/-- The objects os are there, and no others. -/
structure Objs (s : ASt) (os : List Ob) : Prop where
  ok : AOk s
  all : (aObjects s.c).length = os.length
  head : ∀ o ∈ os, s.c[o.p]? = some (.head o.kind o.ws.length)
  word : ∀ o ∈ os, ∀ m (h : m < o.ws.length), s.c[o.p + 1 + m]? = some (.word (o.ws[m]'h))
  nodup : (os.map (·.p)).Nodup

theorem nd_inj {l : List Nat} (h : l.Nodup) {i j : Nat} (hi : i < l.length) (hj : j < l.length) (e : l[i] = l[j]) : i = j := by
  have hp := List.pairwise_iff_getElem.1 h
  rcases Nat.lt_trichotomy i j with hl | hl | hl
  · exact absurd e (hp i j hi hj hl)
  · exact hl
  · exact absurd e.symm (hp j i hj hi hl)
/-- Two objects do not share a place. -/
theorem obs_apart {s : ASt} (hok : AOk s) {p q : Nat} {k k' n n' : Int} (hp : s.c[p]? = some (.head k n)) (hq : s.c[q]? = some (.head k' n')) (hne : q ≠ p) (j j' : Nat) (hj : j < n.toNat + 1) (hj' : j' < n'.toNat + 1) : q + j' ≠ p + j := by
  have := (free_more hok hp).apart q j' k' n' hq hne hj'
  omega

theorem Objs.alloc {s s' : ASt} {os : List Ob} (h : Objs s os) {kind n : Int} {p : Nat} (hm : AllocMore kind n s p s') : Objs s' (os ++ [⟨p, kind, List.replicate n.toNat 0⟩]) := by
  have hn := hm.n0
  have hold : ∀ (q : Nat) (k m : Int), s.c[q]? = some (.head k m) → ∀ j, j < m.toNat + 1 → s'.c[q + j]? = s.c[q + j]? := by
    intro q k m hq j hj
    have := hm.apart q j k m hq hj
    rw [hm.get, if_neg (by omega), if_neg (by omega)]
  refine ⟨hm.ok, by rw [hm.count, h.all]; simp, ?_, ?_, ?_⟩
  · intro o ho
    rcases List.mem_append.1 ho with ho | ho
    · have := h.head o ho
      rw [← this]; exact hold o.p _ _ this 0 (by omega)
    · simp at ho; subst ho
      simp only [List.length_replicate]
      rw [hm.get, if_neg (by omega), if_pos rfl, Int.toNat_of_nonneg hn]
  · intro o ho m hlt
    rcases List.mem_append.1 ho with ho | ho
    · rw [← h.word o ho m hlt]
      have := hold o.p _ _ (h.head o ho) (1 + m) (by simp; omega)
      rw [show o.p + 1 + m = o.p + (1 + m) by omega]
      exact this
    · simp at ho; subst ho
      simp only [List.length_replicate] at hlt
      simp only [List.getElem_replicate]
      rw [hm.get, if_pos (by omega)]
  · rw [List.map_append, List.nodup_append]
    refine ⟨h.nodup, by simp, ?_⟩
    intro a ha c hc
    simp at hc; subst hc
    rintro rfl
    obtain ⟨o, ho, e⟩ := List.mem_map.1 ha
    have := hm.fresh
    rw [← e, aHead_nat (h.head o ho)] at this
    cases this
theorem Objs.new_place {s s' : ASt} {os : List Ob} (h : Objs s os) {kind n : Int} {p : Nat} (hm : AllocMore kind n s p s') : ∀ o ∈ os, o.p ≠ p := by
  intro o ho e
  have := hm.fresh
  rw [← e, aHead_nat (h.head o ho)] at this
  cases this

theorem Objs.err {s : ASt} {os : List Ob} (h : Objs s os) {o : Ob} (ho : o ∈ os) (m : Nat) : aErr o.p m s = if m < o.ws.length then 0 else 1 := by
  unfold aErr
  rw [aHead_nat (h.head o ho)]
  simp only
  by_cases hm : m < o.ws.length
  · rw [if_pos hm, if_pos (by omega)]
  · rw [if_neg hm, if_neg (by omega)]
theorem Objs.load {s : ASt} {os : List Ob} (h : Objs s os) {o : Ob} (ho : o ∈ os) {m : Nat} (hm : m < o.ws.length) : loadV s o.p m = .tuple #[.int .i64 (o.ws[m]'hm), .int .i64 0] := by
  have he := h.err ho m
  rw [if_pos hm] at he
  unfold loadV aWord
  rw [he, if_pos rfl, Int.toNat_natCast, Int.toNat_natCast, h.word o ho m hm]
  rfl
theorem Objs.store {s : ASt} {os : List Ob} (h : Objs s os) {j : Nat} (hj : j < os.length) {m : Nat} (hm : m < os[j].ws.length) (x : Int) :
    aErr os[j].p m s = 0 ∧ (aStoreS os[j].p m x s).l = s.l ∧ (aStoreS os[j].p m x s).c.length = s.c.length ∧ Objs (aStoreS os[j].p m x s) (os.set j ⟨os[j].p, os[j].kind, os[j].ws.set m x⟩) := by
  have ho := List.getElem_mem hj
  have he := h.err ho m
  rw [if_pos hm] at he
  obtain ⟨sok, slen, sl⟩ := store_ok h.ok os[j].p m x
  have hs : aStoreS os[j].p m x s = ⟨s.l, s.c.set (os[j].p + 1 + m) (.word x)⟩ := by unfold aStoreS; rw [if_pos he]; simp only [Int.toNat_natCast]
  have hw := h.word _ ho m hm
  have hlt := (List.getElem?_eq_some_iff.1 hw).1
  have hget : ∀ q : Nat, (aStoreS os[j].p m x s).c[q]? = if q = os[j].p + 1 + m then some (.word x) else s.c[q]? := by
    intro q
    rw [hs]
    simp only
    rw [List.getElem?_set]
    by_cases e : q = os[j].p + 1 + m
    · rw [if_pos e, if_pos e.symm, if_pos (by omega)]
    · rw [if_neg e, if_neg (fun x => e x.symm)]
  have hhd : ∀ q : Nat, aHead (aStoreS os[j].p m x s).c q = aHead s.c q := by
    intro q
    by_cases e : q = os[j].p + 1 + m
    · rw [head_none (fun k n hq => by rw [hget, if_pos e] at hq; cases hq), head_none (fun k n hq => by rw [e, hw] at hq; cases hq)]
    · exact head_congr (by rw [hget, if_neg e])
  have hmem : ∀ o ∈ os.set j ⟨os[j].p, os[j].kind, os[j].ws.set m x⟩, (o.p = os[j].p ∧ o.kind = os[j].kind ∧ o.ws = os[j].ws.set m x) ∨ (o ∈ os ∧ o.p ≠ os[j].p) := by
    intro o hmo
    obtain ⟨i, hi, e⟩ := List.mem_iff_getElem.1 hmo
    rw [List.length_set] at hi
    by_cases hij : j = i
    · subst hij
      rw [List.getElem_set_self] at e
      exact .inl (by rw [← e]; exact ⟨rfl, rfl, rfl⟩)
    · rw [List.getElem_set_ne hij] at e
      refine .inr ⟨by rw [← e]; exact List.getElem_mem _, ?_⟩
      intro ep
      have e1 : (os.map (·.p))[i]'(by simpa using hi) = (os.map (·.p))[j]'(by simpa using hj) := by simp only [List.getElem_map]; rw [e]; exact ep
      exact hij (nd_inj h.nodup _ _ e1).symm
  refine ⟨he, sl, slen, sok, ?_, ?_, ?_, ?_⟩
  · unfold aObjects
    rw [slen, List.length_set, ← h.all]
    unfold aObjects
    congr 1
    apply List.filter_congr
    intro q _
    rw [hhd]
  · intro o hmo
    rcases hmem o hmo with ⟨e1, e2, e3⟩ | ⟨hin, hne⟩
    · rw [e1, e2, e3, List.length_set, hget, if_neg (by omega)]
      exact h.head _ ho
    · rw [hget, if_neg]
      · exact h.head o hin
      · have := obs_apart h.ok (h.head _ ho) (h.head o hin) hne (1 + m) 0 (by simp; omega) (by omega)
        omega
  · intro o hmo y hy
    rcases hmem o hmo with ⟨e1, e2, e3⟩ | ⟨hin, hne⟩
    · have hy' : y < os[j].ws.length := by rw [e3, List.length_set] at hy; exact hy
      have ex : o.ws[y] = (os[j].ws.set m x)[y]'(by rw [List.length_set]; exact hy') := by simp only [e3]
      rw [ex, e1, hget, List.getElem_set]
      by_cases e : m = y
      · subst e; rw [if_pos rfl, if_pos rfl]
      · rw [if_neg (by omega), if_neg e]
        exact h.word _ ho y hy'
    · rw [hget, if_neg]
      · exact h.word o hin y hy
      · have := obs_apart h.ok (h.head _ ho) (h.head o hin) hne (1 + m) (1 + y) (by simp; omega) (by simp; omega)
        omega
  · have e : (os.set j ⟨os[j].p, os[j].kind, os[j].ws.set m x⟩).map (·.p) = os.map (·.p) := by
      rw [List.map_set]
      apply List.ext_getElem?
      intro i
      rw [List.getElem?_set]
      split
      · rename_i e; subst e; simp [hj]
      · rfl
    rw [e]; exact h.nodup
theorem store_bad {s : ASt} {a i x : Int} (h : aErr a i s ≠ 0) : aStoreS a i x s = s := by unfold aStoreS; rw [if_neg h]
theorem Objs.free {s : ASt} {os : List Ob} (h : Objs s os) {j : Nat} (hj : j < os.length) : aFreeE os[j].p s = 0 ∧ Objs (aFreeS os[j].p s) (os.eraseIdx j) ∧ freeRows s.l ≤ freeRows (aFreeS os[j].p s).l + 1 ∧ (aFreeS os[j].p s).c.length = s.c.length := by
  have ho := List.getElem_mem hj
  have hh := h.head _ ho
  have hm := free_more h.ok hh
  have hmem : ∀ o ∈ os.eraseIdx j, o ∈ os ∧ o.p ≠ os[j].p := by
    intro o hmo
    obtain ⟨i, hi, e⟩ := List.mem_eraseIdx_iff_getElem.1 hmo
    refine ⟨by rw [← e.2]; exact List.getElem_mem _, ?_⟩
    intro ep
    have e1 : (os.map (·.p))[i]'(by simpa using hi) = (os.map (·.p))[j]'(by simpa using hj) := by simp only [List.getElem_map]; rw [e.2]; exact ep
    exact e.1 (nd_inj h.nodup _ _ e1)
  refine ⟨by unfold aFreeE; rw [aHead_nat hh]; rfl, ⟨hm.ok, ?_, ?_, ?_, ?_⟩, ?_, hm.len⟩
  · have := hm.count hh
    rw [h.all] at this
    rw [List.length_eraseIdx, if_pos hj]; omega
  · intro o hmo
    obtain ⟨hin, hne⟩ := hmem o hmo
    rw [hm.get, if_neg]
    · exact h.head o hin
    · have := hm.apart o.p 0 _ _ (h.head o hin) hne (by omega); omega
  · intro o hmo y hy
    obtain ⟨hin, hne⟩ := hmem o hmo
    rw [hm.get, if_neg]
    · exact h.word o hin y hy
    · have := hm.apart o.p (1 + y) _ _ (h.head o hin) hne (by simp; omega); omega
  · exact h.nodup.sublist ((List.eraseIdx_sublist os j).map _)
  · rw [hm.rows]
    unfold sFree
    split
    · exact countP_set _ _ _ _
    · omega
theorem new_head (n : Nat) (a : Int) : aHead (aNew n).c a = none := by
  rcases cell_cases (aNew n).c a with ⟨_, e⟩ | ⟨_, e⟩ | ⟨p, rfl, hp, ⟨_, e⟩ | ⟨k, m, h, _⟩ | ⟨x, h, _⟩⟩
  · exact e
  · exact e
  · exact e
  · simp only [aNew, List.getElem?_replicate] at h
    split at h <;> simp at h
  · simp only [aNew, List.getElem?_replicate] at h
    split at h <;> simp at h
theorem new_objs (n : Nat) : aObjects (aNew n).c = [] := by
  unfold aObjects
  rw [List.filter_eq_nil_iff]
  intro p _
  rw [new_head]; simp
theorem new_rows (n : Nat) : freeRows (aNew n).l = n := by
  show (List.replicate n noRow).countP isNone = n
  rw [List.countP_replicate]; rfl
theorem objs_new (n : Nat) : Objs (aNew n) [] := ⟨aNew_ok n, by rw [new_objs]; rfl, by simp, by simp, by simp⟩
end Go.Proofs.Ytdnelekoplkkcaa
