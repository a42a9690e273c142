/- 'awake' of the statements of layer 6. -/
import Derived.Test.YtfnhfhoafnpfoaaSpan6
namespace Go.Proofs.Ytfnhfhoafnpfoaa
open Go.RowKit

/-- The blocks F are all of the call's own, and nothing else has turned. -/
def Fresh (w wr : World) (F : List Nat) : Prop := Keeps [] w wr ∧ ∀ i ∈ F, w.heap.size ≤ i
theorem Fresh.step {w a c : World} {F F' : List Nat} (h : Fresh w a F) (k : Keeps F a c) (hf : ∀ i ∈ F', i ∈ F ∨ a.heap.size ≤ i) : Fresh w c F' :=
  ⟨h.1.trans k (fun i hi => .inr (h.2 i hi)), fun i hi => (hf i hi).elim (h.2 i) (fun x => Nat.le_trans h.1.size x)⟩
theorem Fresh.below {w a c : World} {F : List Nat} (h : Fresh w a F) (k : Below a.heap.size a c) : Fresh w c F := ⟨h.1.next k, h.2⟩

/-- The rows l stand in the call's own memory. -/
def SpanIn (w : World) (b : Nat) (l : List SRow) (wr : World) : Prop := ∃ F, SpanAt wr b l F ∧ Fresh w wr F
theorem GivesSpan.inn {l : List SRow} {w : World} {e : Ending} {w' : World} (h : GivesSpan l w e w') : e = .returned (.tuple #[.pointer (some ⟨w.heap.size, 0, none⟩), .int .i64 0]) ∧ Hid (SpanIn w w.heap.size l w') := by
  obtain ⟨he, F, h1, h2, h3⟩ := h
  exact ⟨he, F, h1, h2, h3⟩
theorem SpanIn.below {w wr wc : World} {b : Nat} {l : List SRow} (h : SpanIn w b l wr) (hb : Below wr.heap.size wr wc) : SpanIn w b l wc := by
  obtain ⟨F, h1, h2⟩ := h
  exact ⟨F, h1.keep (Keeps.of_below hb []) (by simp), h2.below hb⟩
theorem SpanIn.drew {w wr : World} {b : Nat} {l : List SRow} (h : SpanIn w b l wr) : SpanIn w b l wr.drew := by
  obtain ⟨F, h1, h2⟩ := h
  exact ⟨F, h1, h2.1.drew, h2.2⟩
theorem SpanIn.old {w wr : World} {b : Nat} {l : List SRow} (h : SpanIn w b l wr) : Below w.heap.size w wr := by
  obtain ⟨F, h1, h2⟩ := h
  exact h2.1.below

theorem spanI_Alloc {w wr : World} {b : Nat} {l : List SRow} (h : Hid (SpanIn w b l wr)) (k : Int) :
    Calls Try.prog 20 #[.pointer (some ⟨b, 0, none⟩), .int .i64 k] wr fun e w' => e = .returned (sAllocV k l) ∧ Hid (SpanIn w b (sAllocL k l) w') := by
  obtain ⟨F, h1, h2⟩ := h.out
  exact (span_Alloc _ _ _ _ _ h1).mono fun e w' ⟨he, a, k⟩ => ⟨he, F, a, h2.step k (fun i hi => .inl hi)⟩
theorem spanI_Free {w wr : World} {b : Nat} {l : List SRow} (h : Hid (SpanIn w b l wr)) (a s : Int) :
    Calls Try.prog 18 #[.pointer (some ⟨b, 0, none⟩), .int .i64 a, .int .i64 s] wr fun e w' => e = .returned (.bool (sUsed l a s)) ∧ Hid (SpanIn w b (sFree l a s) w') := by
  obtain ⟨F, h1, h2⟩ := h.out
  exact (span_Free _ _ _ _ _ _ h1).mono fun e w' ⟨he, a, k⟩ => ⟨he, F, a, h2.step k (fun i hi => .inl hi)⟩
theorem spanI_Used {w wr : World} {b : Nat} {l : List SRow} (h : Hid (SpanIn w b l wr)) (a s : Int) :
    Calls Try.prog 27 #[.pointer (some ⟨b, 0, none⟩), .int .i64 a, .int .i64 s] wr fun e w' => e = .returned (.bool (sUsed l a s)) ∧ Hid (SpanIn w b l w') := by
  have h0 := h.out
  obtain ⟨F, h1, h2⟩ := h.out
  exact (span_Used _ _ _ _ _ _ h1).mono fun e w' ⟨he, k⟩ => ⟨he, h0.below k⟩
theorem spanI_Words {w wr : World} {b : Nat} {l : List SRow} (h : Hid (SpanIn w b l wr)) :
    Calls Try.prog 22 #[.pointer (some ⟨b, 0, none⟩)] wr fun e w' => e = .returned (.int .i64 (sWords l)) ∧ Hid (SpanIn w b l w') := by
  have h0 := h.out
  obtain ⟨F, h1, h2⟩ := h.out
  exact (span_Words _ _ _ _ h1).mono fun e w' ⟨he, k⟩ => ⟨he, h0.below k⟩
theorem spanI_Class {w wr : World} {b : Nat} {l : List SRow} (h : Hid (SpanIn w b l wr)) (a : Int) :
    Calls Try.prog 25 #[.pointer (some ⟨b, 0, none⟩), .int .i64 a] wr fun e w' => e = .returned (.int .i64 (sClass l a)) ∧ wr = w' := by
  obtain ⟨F, h1, h2⟩ := h.out
  exact span_Class _ _ _ _ _ h1
theorem spanI_Len {w wr : World} {b : Nat} {l : List SRow} (h : Hid (SpanIn w b l wr)) :
    Calls Try.prog 24 #[.pointer (some ⟨b, 0, none⟩)] wr fun e w' => e = .returned (.int .i64 l.length) ∧ wr = w' := by
  obtain ⟨F, h1, h2⟩ := h.out
  exact span_Len _ _ _ _ h1

set_option maxHeartbeats 1000000 in
theorem awake06 (w : World) :
    Calls Try.prog 17 #[] w fun e w' => e = .returned (.bool true) ∧ Below w.heap.size w w' := by
  have v1 : sAllocV 3 (sNew 2) = .tuple #[.int .i64 0, .int .i64 0, .bool true] := by rfl
  have v2 : sAllocL 3 (sNew 2) = [(3, [true]), noRow] := by rfl
  have v3 : sClass [(3, [true]), noRow] 0 = 3 := by decide
  have v4 : sUsed [(3, [true]), noRow] 0 0 = true := by decide
  have v5 : sWords [(3, [true]), noRow] = 32 := by decide
  go_enter Try.func17, Try.ntmps17
  go_wp2_with fail
  refine (span_New 2 (by omega) (by omega) _).mono ?_
  intro e w1 h1
  obtain ⟨rfl, s1⟩ := h1.inn
  clear h1
  go_wp2_with fail
  refine (spanI_Alloc s1 _).mono ?_
  rintro e w2 ⟨rfl, s2⟩
  rw [v1]
  rw [v2] at s2
  clear v1 v2 s1
  go_wp2_with (first
    | (go_at_call 25; refine (spanI_Class (by assumption) _).mono ?_; rintro e w3 ⟨rfl, rfl⟩; rw [v3])
    | (go_at_call 27; refine (spanI_Used (by assumption) _ _).mono ?_; rintro e w4 ⟨rfl, s4⟩; rw [v4])
    | (go_at_call 22; refine (spanI_Words (by assumption)).mono ?_; rintro e w5 ⟨rfl, s5⟩; rw [v5])
    | (go_at_call 24; refine (spanI_Len (by assumption)).mono ?_; rintro e w6 ⟨rfl, rfl⟩))
  go_ret
  exact ⟨rfl, (show Hid (SpanIn w _ [(3, [true]), noRow] _) by assumption).out.old⟩
end Go.Proofs.Ytfnhfhoafnpfoaa
