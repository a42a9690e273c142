/- 'awake' of the statements of layer 8. -/
import Derived.Test.YtkjncehcabhljaaGreyRef
namespace Go.Proofs.Ytkjncehcabhljaa
open Go.RowKit
/-- What a list's two ends are: its length reads off GreyAt. -/
theorem GreyAt.sign {w : World} {b : Nat} {L : List Int} {ov : Bool} {F : List Nat} (h : GreyAt w b L ov F) : w.cell? ⟨b, 1, none⟩ = some (.string (ones L.length)) ∧ L.length ≤ 8 := by
  obtain ⟨lv, h1, h2, h3, rfl⟩ := h
  exact ⟨by have := h1.cell 1; simpa using this, h3⟩

theorem grey_LenG (b : Nat) (L : List Int) (ov : Bool) (F : List Nat) (w : World) (hG : GreyAt w b L ov F) :
    Calls Try.prog 47 #[.pointer (some ⟨b, 0, none⟩)] w fun e w' => e = .returned (.int .i64 L.length) ∧ Below w.heap.size w w' := by
  obtain ⟨h1, h2⟩ := hG.sign
  exact grey_Len b L.length (by omega) w h1

theorem awake08 (w : World) :
    Calls Try.prog 41 #[] w fun e w' => e = .returned (.bool true) ∧ Below w.heap.size w w' := by
  go_enter Try.func41, Try.ntmps41
  go_wp2_with fail
  refine (grey_New _).mono ?_
  rintro e w1 ⟨rfl, F1, g1, k1, f1⟩
  have K1 := Lib.hid k1
  clear k1
  go_wp2_with fail
  refine (grey_Push _ _ _ _ _ _ g1 (by simp)).mono ?_
  rintro e w2 ⟨rfl, F2, g2, k2, f2⟩
  go_wp2_with fail
  refine (grey_LenG _ _ _ _ _ g2).mono ?_
  rintro e w3 ⟨rfl, b3⟩
  have g3 := g2.keep (Keeps.of_below b3 []) (by simp)
  go_wp2_with fail
  refine (grey_Pop _ [] 5 _ _ _ g3).mono ?_
  rintro e w4 ⟨rfl, F4, g4, k4, f4⟩
  go_wp2_with fail
  refine (grey_Over _ _ _ _ _ g4).mono ?_
  rintro e w5 ⟨rfl, rfl⟩
  go_wp2
  go_ret
  refine ⟨rfl, Keeps.below ?_⟩
  have a := (K1.out.trans k2 (fun i hi => f1 i hi)).next b3
  refine a.trans k4 ?_
  intro i hi
  rcases f2 i hi with h | h
  · exact f1 i h
  · exact .inr (Nat.le_trans K1.out.size h)

/-- The blocks F are all of the call's own, and nothing else has turned. -/
def Fresh (w wr : World) (F : List Nat) : Prop := Keeps [] w wr ∧ ∀ i ∈ F, w.heap.size ≤ i
theorem Fresh.step {w a c : World} {F F' : List Nat} (h : Fresh w a F) (k : Keeps F a c) (hf : ∀ i ∈ F', i ∈ F ∨ a.heap.size ≤ i) : Fresh w c F' :=
  ⟨h.1.trans k (fun i hi => .inr (h.2 i hi)), fun i hi => (hf i hi).elim (h.2 i) (fun x => Nat.le_trans h.1.size x)⟩
theorem Fresh.below {w a c : World} {F : List Nat} (h : Fresh w a F) (k : Below a.heap.size a c) : Fresh w c F := ⟨h.1.next k, h.2⟩

/-- The numbers a, a + 1, .. -/
def runs (a : Int) (k : Nat) : List Int := (List.range k).map fun j : Nat => a + (j : Int)
theorem runs_snoc (a : Int) (k : Nat) : runs a (k + 1) = runs a k ++ [a + k] := by simp [runs, List.range_succ]
theorem runs_len (a : Int) (k : Nat) : (runs a k).length = k := by simp [runs]
end Go.Proofs.Ytkjncehcabhljaa
