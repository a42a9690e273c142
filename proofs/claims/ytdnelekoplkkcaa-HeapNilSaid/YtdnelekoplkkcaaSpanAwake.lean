/- 'awake' of the statements of layer 6. -/
import Derived.Test.YtdnelekoplkkcaaSpan6
namespace Go.Proofs.Ytdnelekoplkkcaa
open Go.RowKit

/-- The blocks F are all of the call's own, and nothing else has turned. -/
def Fresh (w wr : World) (F : List Nat) : Prop := Keeps [] w wr ∧ ∀ i ∈ F, w.heap.size ≤ i
theorem Fresh.step {w a c : World} {F F' : List Nat} (h : Fresh w a F) (k : Keeps F a c) (hf : ∀ i ∈ F', i ∈ F ∨ a.heap.size ≤ i) : Fresh w c F' :=
  ⟨h.1.trans k (fun i hi => .inr (h.2 i hi)), fun i hi => (hf i hi).elim (h.2 i) (fun x => Nat.le_trans h.1.size x)⟩
theorem Fresh.below {w a c : World} {F : List Nat} (h : Fresh w a F) (k : Below a.heap.size a c) : Fresh w c F := ⟨h.1.next k, h.2⟩

/-- The rows l stand in the call's own memory. -/
def SpanIn (w : World) (b : Nat) (l : List SRow) (wr : World) : Prop := ∃ F, SpanAt wr b l F ∧ Fresh w wr F
theorem GivesSpan.inn {l : List SRow} {w : World} {e : Ending} {w' : World} (h : GivesSpan l w e w') : e = .returned (.tuple #[.pointer (some ⟨w.heap.size, 0, none⟩), .int .i64 0]) ∧ Hid (SpanIn w w.heap.size l w') := by
  obtain ⟨he, F, h1, h2, h3⟩ := h
  exact ⟨he, F, h1, h2, h3⟩
theorem SpanIn.below {w wr wc : World} {b : Nat} {l : List SRow} (h : SpanIn w b l wr) (hb : Below wr.heap.size wr wc) : SpanIn w b l wc := by
  obtain ⟨F, h1, h2⟩ := h
  exact ⟨F, h1.keep (Keeps.of_below hb []) (by simp), h2.below hb⟩
theorem SpanIn.drew {w wr : World} {b : Nat} {l : List SRow} (h : SpanIn w b l wr) : SpanIn w b l wr.drew := by
  obtain ⟨F, h1, h2⟩ := h
  exact ⟨F, h1, h2.1.drew, h2.2⟩
theorem SpanIn.old {w wr : World} {b : Nat} {l : List SRow} (h : SpanIn w b l wr) : Below w.heap.size w wr := by
  obtain ⟨F, h1, h2⟩ := h
  exact h2.1.below

theorem spanI_Alloc {w wr : World} {b : Nat} {l : List SRow} (h : Hid (SpanIn w b l wr)) (k : Int) :
    Calls Try.prog 74 #[.pointer (some ⟨b, 0, none⟩), .int .i64 k] wr fun e w' => e = .returned (sAllocV k l) ∧ Hid (SpanIn w b (sAllocL k l) w') := by
  obtain ⟨F, h1, h2⟩ := h.out
  exact (span_Alloc _ _ _ _ _ h1).mono fun e w' ⟨he, a, k⟩ => ⟨he, F, a, h2.step k (fun i hi => .inl hi)⟩
theorem spanI_Free {w wr : World} {b : Nat} {l : List SRow} (h : Hid (SpanIn w b l wr)) (a s : Int) :
    Calls Try.prog 98 #[.pointer (some ⟨b, 0, none⟩), .int .i64 a, .int .i64 s] wr fun e w' => e = .returned (.bool (sUsed l a s)) ∧ Hid (SpanIn w b (sFree l a s) w') := by
  obtain ⟨F, h1, h2⟩ := h.out
  exact (span_Free _ _ _ _ _ _ h1).mono fun e w' ⟨he, a, k⟩ => ⟨he, F, a, h2.step k (fun i hi => .inl hi)⟩
theorem spanI_Used {w wr : World} {b : Nat} {l : List SRow} (h : Hid (SpanIn w b l wr)) (a s : Int) :
    Calls Try.prog 109 #[.pointer (some ⟨b, 0, none⟩), .int .i64 a, .int .i64 s] wr fun e w' => e = .returned (.bool (sUsed l a s)) ∧ Hid (SpanIn w b l w') := by
  have h0 := h.out
  obtain ⟨F, h1, h2⟩ := h.out
  exact (span_Used _ _ _ _ _ _ h1).mono fun e w' ⟨he, k⟩ => ⟨he, h0.below k⟩
theorem spanI_Class {w wr : World} {b : Nat} {l : List SRow} (h : Hid (SpanIn w b l wr)) (a : Int) :
    Calls Try.prog 99 #[.pointer (some ⟨b, 0, none⟩), .int .i64 a] wr fun e w' => e = .returned (.int .i64 (sClass l a)) ∧ wr = w' := by
  obtain ⟨F, h1, h2⟩ := h.out
  exact span_Class _ _ _ _ _ h1
end Go.Proofs.Ytdnelekoplkkcaa
