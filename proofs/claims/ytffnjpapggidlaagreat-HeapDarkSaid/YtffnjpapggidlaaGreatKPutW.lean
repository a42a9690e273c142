/- PutW -/
import Derived.Test.YtffnjpapggidlaaGreatKPureView
import Derived.Test.YtffnjpapggidlaaGreatKPureArena
/- The words of things behind hPut, hStore. -/
namespace Go.Proofs.YtffnjpapggidlaaGreat
set_option linter.unusedVariables false
set_option linter.unusedSimpArgs false
theorem hStore_far {h : HSt} (k : HOk h) (p i w : Int) {q : Int} (hne : q ≠ p) : aWords (hStore p i w h).a q = aWords h.a q := by rw [store_a]; exact words_store_far k.a p i w hne
theorem hStore_self {h : HSt} (k : HOk h) (p i w : Int) (he : aErr p i h.a = 0) : aWords (hStore p i w h).a p = (aWords h.a p).set i.toNat w := by rw [store_a]; exact words_store_self k.a p i w he
theorem hStore_ph (p i x : Int) (s : HSt) : (hStore p i x s).ph = s.ph := by
  unfold hStore
  split
  · rw [shadeW_ph]
  · rfl
theorem hAlloc_ph (k n : Int) (s : HSt) : (hAlloc k n s).ph = s.ph := by
  unfold hAlloc
  split
  · rfl
  · split <;> rfl
theorem putTo_ph (p : Int) (old l : List Int) (s : HSt) : ∀ n, (hPutTo p old l n s).ph = s.ph
  | 0 => rfl
  | n + 1 => by
    unfold hPutTo
    split
    · exact putTo_ph p old l s n
    · rw [hStore_ph]; exact putTo_ph p old l s n
theorem hPut_ph (p kind : Int) (n : Nat) (l : List Int) (s : HSt) : (hPut p kind n l s).ph = s.ph := by
  unfold hPut; split
  · exact putTo_ph _ _ _ _ _
  · rfl
theorem putTo_far {h : HSt} (k : HOk h) (p : Int) (old : List Int) {l : List Int} (hl : ∀ x ∈ l, Wd x) {q : Int} (hne : q ≠ p) : ∀ n, aWords (hPutTo p old l n h).a q = aWords h.a q
  | 0 => rfl
  | n + 1 => by
    unfold hPutTo
    split
    · exact putTo_far k p old hl hne n
    · rw [hStore_far (k.putTo p old hl n).1 _ _ _ hne]; exact putTo_far k p old hl hne n
theorem putTo_self {h : HSt} (k : HOk h) {p kind : Int} {n : Nat} {l : List Int} (hi : Is h.a p kind n) (hL : l.length = n) (hl : ∀ x ∈ l, Wd x) : ∀ j, j ≤ n → aWords (hPutTo p (aWords h.a p) l j h).a p = l.take j ++ (aWords h.a p).drop j
  | 0, _ => by simp [hPutTo]
  | j + 1, hj => by
    have ih := putTo_self k hi hL hl j (by omega)
    have hlen := hi.len
    have e1 : (aWords h.a p).getD j 0 = (aWords h.a p)[j]'(by omega) := by rw [List.getD_eq_getElem?_getD, List.getElem?_eq_getElem (by omega)]; rfl
    have e2 : l.getD j 0 = l[j]'(by omega) := by rw [List.getD_eq_getElem?_getD, List.getElem?_eq_getElem (by omega)]; rfl
    have t1 : l.take (j + 1) = l.take j ++ [l[j]'(by omega)] := List.take_succ_eq_append_getElem (by omega)
    have t2 : (aWords h.a p).drop j = (aWords h.a p)[j]'(by omega) :: (aWords h.a p).drop (j + 1) := List.drop_eq_getElem_cons (by omega)
    unfold hPutTo
    rw [e1, e2]
    split
    · rename_i he
      rw [ih, t1, t2, he]; simp
    · obtain ⟨ok, hd⟩ := k.putTo p (aWords h.a p) hl j
      rw [hStore_self ok p j _ (by rw [err_of_head (hd p)]; exact hi.err (by omega)), ih, t1, t2, Int.toNat_natCast]
      rw [List.set_append_right _ _ (by rw [List.length_take]; omega)]
      rw [show j - (l.take j).length = 0 by rw [List.length_take]; omega]
      show l.take j ++ (l[j]'(by omega) :: (aWords h.a p).drop (j + 1)) = (l.take j ++ [l[j]'(by omega)]) ++ (aWords h.a p).drop (j + 1)
      rw [List.append_assoc]; rfl
theorem hPut_far {h : HSt} (k : HOk h) (p kind : Int) (n : Nat) {l : List Int} (hl : ∀ x ∈ l, Wd x) {q : Int} (hne : q ≠ p) : aWords (hPut p kind n l h).a q = aWords h.a q := by
  unfold hPut; split
  · exact putTo_far k p _ hl hne n
  · rfl
theorem hPut_self {h : HSt} (k : HOk h) {p kind : Int} {n : Nat} {l : List Int} (hi : Is h.a p kind n) (hL : l.length = n) (hl : ∀ x ∈ l, Wd x) : aWords (hPut p kind n l h).a p = l := by
  unfold hPut
  rw [if_pos hi, putTo_self k hi hL hl n (Nat.le_refl n), List.drop_of_length_le (by rw [hi.len]; exact Nat.le_refl n), List.append_nil, List.take_of_length_le (by omega)]
theorem is_head {s s' : ASt} {p : Int} (h : aHead s'.c p = aHead s.c p) {kind : Int} {n : Nat} : Is s' p kind n ↔ Is s p kind n := by
  unfold Is; rw [kind_of_head h, len_of_head h]
end Go.Proofs.YtffnjpapggidlaaGreat
