/- Package grey: what each call keeps, whatever it answers. -/
import Derived.Test.YtkjncehcabhljaaGreyAwake
namespace Go.Proofs.Ytkjncehcabhljaa
open Go.RowKit
def GreyAny (b : Nat) (ov : Bool) (F : List Nat) (w : World) (e : Ending) (w' : World) : Prop :=
  ∃ v L' F', e = .returned v ∧ GreyAt w' b L' ov F' ∧ Keeps F w w' ∧ ∀ i ∈ F', i ∈ F ∨ w.heap.size ≤ i
theorem GreyDoes.any {v : Value} {b : Nat} {L' : List Int} {ov : Bool} {F : List Nat} {w : World} {e : Ending} {w' : World} (h : GreyDoes (.returned v) b L' ov F w e w') : GreyAny b ov F w e w' := by
  obtain ⟨he, F', h1, h2, h3⟩ := h
  exact ⟨v, L', F', he, h1, h2, h3⟩
theorem grey_Pop_any (b : Nat) (L : List Int) (ov : Bool) (F : List Nat) (w : World) (hG : GreyAt w b L ov F) :
    Calls Try.prog 42 #[.pointer (some ⟨b, 0, none⟩)] w (GreyAny b ov F w) := by
  rcases List.eq_nil_or_concat L with rfl | ⟨L', x, rfl⟩
  · exact (grey_Pop_none b ov F w hG).mono fun _ _ h => h.any
  · rw [List.concat_eq_append] at hG
    exact (grey_Pop b L' x ov F w hG).mono fun _ _ h => h.any
theorem grey_Push_over (b : Nat) (L : List Int) (F : List Nat) (a : Int) (w : World) (hG : GreyAt w b L true F) :
    Calls Try.prog 45 #[.pointer (some ⟨b, 0, none⟩), .int .i64 a] w (GreyAny b true F w) := by
  by_cases h : L.length < 8
  · exact (grey_Push b L true F a w hG h).mono fun _ _ h => h.any
  · exact (grey_Push_full b L true F a w hG (by have := hG.sign.2; omega)).mono fun _ _ h => h.any
end Go.Proofs.Ytkjncehcabhljaa
