/- Is a string among some? -/
import Derived.Test.YtkjncehcabhljaaRecordAwake
namespace Go.Proofs.Ytkjncehcabhljaa
open Go.RowKit
theorem own_lt {w : World} {B e : Nat} {v : Value} {n : Nat} {xs : List Value} (h : w.ownsRow B e 1 v n xs) : ∀ b, v.ownBlock = some b → b < w.heap.size := by
  intro b hb
  obtain ⟨_, ⟨rfl, _⟩ | ⟨g, cap, cur, rfl, _, hg, _⟩⟩ := h
  · cases hb
  · cases hb; exact (Array.getElem?_eq_some_iff.1 hg).1
theorem row_later {w w' : World} {B e : Nat} {v : Value} {n : Nat} {xs : List Value} (h : w.ownsRow B e 1 v n xs) (hb : Below w.heap.size w w') : Row w' v xs :=
  (Row.of_own h).below hb (own_lt h)
theorem row_lt {w w' : World} {v : Value} {xs : List Value} {B : Nat} (h : Row w v xs) (hb : Below B w w') (hv : ∀ b, v.ownBlock = some b → b < B) : Row w' v xs := h.below hb hv

/-- Is a text among some? -/
def memB (x : ByteArray) (xs : List ByteArray) : Bool := xs.any fun y => decide (y = x)
theorem memB_yes {x : ByteArray} {xs : List ByteArray} (h : x ∈ xs) : memB x xs = true := by unfold memB; rw [List.any_eq_true]; exact ⟨x, h, by simp⟩
theorem memB_no {x : ByteArray} {xs : List ByteArray} (h : x ∉ xs) : memB x xs = false := by
  unfold memB; rw [List.any_eq_false]; intro y hy e; simp at e; subst e; exact h hy

theorem in_str (v : Value) (xs : List ByteArray) (x : ByteArray) (w : World) (h1 : Row w v (xs.map .string)) :
    Calls Try.prog 39 #[v, .string x] w fun e w' => e = .returned (.bool (memB x xs)) ∧ ∃ n, w' = w.drewN n := by
  obtain ⟨l1, p1, c1, rfl, h1⟩ := h1
  simp only [List.length_map] at *
  unfold maxLen at l1
  have H1 := Lib.hid h1
  clear h1
  go_enter Try.func39, Try.ntmps39
  go_wp2
  go_loopw [5] (fun i wr => ∃ k n : Nat, k ≤ xs.length ∧ i = .int .i64 k ∧ wr = w.drewN n ∧ x ∉ xs.take k) (fun i _ => xs.length - (intOf i).toNat)
  case atStart => exact ⟨0, 0, by omega, rfl, rfl, by simp⟩
  case round =>
    obtain ⟨k, n, hk, rfl, rfl, ht⟩ := hrel
    have HT := Lib.hid ht
    clear ht
    by_cases hlt : k < xs.length
    · obtain ⟨b1, o1, rfl, hc1⟩ := H1.out.resolve_left (by omega)
      have d1 := hc1 k (.string xs[k]) (by simp)
      have i0 : (0 : Int) ≤ k := by omega
      clear hc1
      by_cases he : xs[k] = x
      · have hq : (xs[k].toList == x.toList) = true := by rw [bytes_beq]; simpa using he
        have HE := Lib.hid he
        clear he
        go_wp2
        go_ret
        exact ⟨ret_b (memB_yes (by rw [← HE.out]; exact List.getElem_mem _)).symm, n, rfl⟩
      · have hq : (xs[k].toList == x.toList) = false := by rw [bytes_beq]; simpa using he
        have HE := Lib.hid he
        clear he
        go_wp2
        go_roundw
        case rel =>
          refine ⟨k + 1, n, by omega, by go_num, rfl, ?_⟩
          rw [List.take_succ_eq_append_getElem hlt]
          intro hm
          rcases List.mem_append.1 hm with h | h
          · exact HT.out h
          · simp at h; exact HE.out h.symm
        case measure => simp [intOf]; omega
    · go_wp2
      go_ret
      have hk' : xs.take k = xs := List.take_of_length_le (by omega)
      have := HT.out
      rw [hk'] at this
      exact ⟨ret_b (memB_no this).symm, n, rfl⟩
end Go.Proofs.Ytkjncehcabhljaa
