/- Package span: Words. -/
import Derived.Test.YtdnelekoplkkcaaSpan2
namespace Go.Proofs.Ytdnelekoplkkcaa
open Go.RowKit

theorem sWords_snoc (l : List SRow) (i : Nat) (h : i < l.length) : sWords (l.take (i + 1)) = sWords (l.take i) + (used (l[i]'h).2 : Int) * cWords (l[i]'h).1 := by
  unfold sWords; rw [List.take_succ_eq_append_getElem h, List.map_append, List.sum_append]; simp
theorem cWords_bd (c : Int) : 0 ≤ cWords c ∧ cWords c ≤ 32 := by
  unfold cWords
  (repeat' split) <;> omega
theorem used_le (m : List Bool) : used m ≤ m.length := List.count_le_length
theorem prod_bd {r : SRow} (h : RowOk r) : 0 ≤ (used r.2 : Int) * cWords r.1 ∧ (used r.2 : Int) * cWords r.1 ≤ 256 := by
  have h1 := used_le r.2
  have h2 := h.len
  have h3 := cWords_bd r.1
  constructor
  · exact Int.mul_nonneg (by omega) h3.1
  · have a : (used r.2 : Int) * cWords r.1 ≤ (used r.2 : Int) * 32 := Int.mul_le_mul_of_nonneg_left h3.2 (by omega)
    omega
theorem sWords_bd (l : List SRow) (hok : ∀ r ∈ l, RowOk r) : ∀ i, i ≤ l.length → 0 ≤ sWords (l.take i) ∧ sWords (l.take i) ≤ 256 * (i : Int) := by
  intro i
  induction i with
  | zero => intro _; simp [sWords]
  | succ i ih =>
    intro h
    have := ih (by omega)
    have hp := prod_bd (hok _ (List.getElem_mem (show i < l.length by omega)))
    rw [sWords_snoc l i (by omega)]
    omega

end Go.Proofs.Ytdnelekoplkkcaa
