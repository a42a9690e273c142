/- Is a number among some? -/
import Derived.Test.YtfnhfhoafnpfoaaArenaRows
namespace Go.Proofs.Ytfnhfhoafnpfoaa
open Go.RowKit
def memI (x : Int) (xs : List Int) : Bool := xs.any fun y => decide (y = x)
theorem memI_yes {x : Int} {xs : List Int} (h : x ∈ xs) : memI x xs = true := by unfold memI; rw [List.any_eq_true]; exact ⟨x, h, by simp⟩
theorem memI_no {x : Int} {xs : List Int} (h : x ∉ xs) : memI x xs = false := by
  unfold memI; rw [List.any_eq_false]; intro y hy e; simp at e; subst e; exact h hy
theorem in_int (v : Value) (xs : List Int) (x : Int) (w : World) (h1 : w.ownsRow 0 3 1 v xs.length (intV xs)) :
    Calls Try.prog 51 #[v, .int .i64 x] w fun e w' => e = .returned (.bool (memI x xs)) ∧ w = w' := by
  have hv : xs.length ≤ maxLen ∧ ∃ p c, v = .slice p xs.length c ∧ (xs.length = 0 ∨ ∃ g, p = some ⟨g, 0, none⟩) := by
    rcases own_cases h1 with ⟨rfl, hn⟩ | ⟨g, cap, rfl, h2, h3, _⟩
    · exact ⟨by rw [hn]; exact Nat.zero_le _, _, _, by rw [hn], .inl hn⟩
    · exact ⟨Nat.le_trans h2 h3, _, _, rfl, .inr ⟨g, rfl⟩⟩
  obtain ⟨hm, p, c, rfl, hp⟩ := hv
  have H1 := Lib.hid h1
  have HP := Lib.hid hp
  unfold maxLen at hm
  clear h1 hp
  go_enter Try.func51, Try.ntmps51
  go_wp2
  go_loopw [5] (fun i wr => ∃ k : Nat, k ≤ xs.length ∧ i = .int .i64 k ∧ Hid (wr = w ∧ x ∉ xs.take k)) (fun i _ => xs.length - (intOf i).toNat)
  case atStart => exact ⟨0, by omega, rfl, Lib.hid (by simp)⟩
  case round =>
    obtain ⟨k, hk, rfl, HT0⟩ := hrel
    obtain ⟨hwr, ht⟩ := HT0.out
    subst hwr
    have HT := Lib.hid ht
    clear ht HT0
    by_cases hlt : k < xs.length
    · obtain ⟨g, rfl⟩ := HP.out.resolve_left (by omega)
      have d1 := own_cell H1.out (g := g) rfl k (by simp [intV]; omega)
      simp only [intV, List.getElem_map] at d1
      have i0 : (0 : Int) ≤ k := by omega
      by_cases he : xs[k] = x
      · have hq : (xs[k] == x) = true := by simpa using he
        have HE := Lib.hid he
        clear he
        go_wp2
        go_ret
        exact ⟨ret_b (memI_yes (by rw [← HE.out]; exact List.getElem_mem _)).symm, rfl⟩
      · have hq : (xs[k] == x) = false := by simpa using he
        have HE := Lib.hid he
        clear he
        go_wp2
        go_roundw
        case rel =>
          refine ⟨k + 1, by omega, by go_num, Lib.hid ⟨by trivial, ?_⟩⟩
          rw [List.take_succ_eq_append_getElem hlt]
          intro hm
          rcases List.mem_append.1 hm with h | h
          · exact HT.out h
          · simp at h; exact HE.out h.symm
        case measure => simp [intOf]; omega
    · go_wp2
      go_ret
      have hk' : xs.take k = xs := List.take_of_length_le (by omega)
      have := HT.out
      rw [hk'] at this
      exact ⟨ret_b (memI_no this).symm, rfl⟩
end Go.Proofs.Ytfnhfhoafnpfoaa
