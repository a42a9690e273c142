/- Package span, with its pieces side by side. -/
import Derived.Test.YtfnhfhoafnpfoaaSep
import Derived.Test.YtfnhfhoafnpfoaaPureSpan
namespace Go.Proofs.Ytfnhfhoafnpfoaa
open Go.RowKit
set_option linter.unusedVariables false

def SpanP (b : Nat) (l : List SRow) : Piece where
  at' w F := SpanAt w b l F
  keep h k hd := h.keep k hd
  lt h := h.lt
theorem sFree_length (l : List SRow) (a s : Int) : (sFree l a s).length = l.length := by unfold sFree; split; simp; rfl
theorem sAllocL_length (k : Int) (l : List SRow) : (sAllocL k l).length = l.length := by
  unfold sAllocL sAlloc
  split
  · rename_i h
    split at h
    · cases h
    · split at h
      · injection h with h; injection h with _ h; injection h with _ h; subst h; simp
      · split at h
        · injection h with h; injection h with _ h; injection h with _ h; subst h; simp
        · cases h
  · rfl
theorem sAllocV_form (k : Int) (l : List SRow) : ∃ (x y : Int) (z : Bool), sAllocV k l = .tuple #[.int .i64 x, .int .i64 y, .bool z] := by
  unfold sAllocV; split <;> exact ⟨_, _, _, rfl⟩
section
variable {w0 w : World} {F0 : List Nat} {ps : List Piece} {b : Nat} {l : List SRow}
theorem sp_Free (h : St w0 F0 (SpanP b l :: ps) w) (a s : Int) :
    Calls Try.prog 18 #[.pointer (some ⟨b, 0, none⟩), .int .i64 a, .int .i64 s] w fun e w' => e = .returned (.bool (sUsed l a s)) ∧ St w0 F0 (SpanP b (sFree l a s) :: ps) w' :=
  h.call (p' := SpanP b (sFree l a s)) fun F h1 => (span_Free _ _ _ _ _ _ h1).mono fun e w' ⟨he, a, k⟩ => ⟨he, F, a, k, fun i hi => .inl hi⟩
theorem sp_Alloc (h : St w0 F0 (SpanP b l :: ps) w) (k : Int) :
    Calls Try.prog 20 #[.pointer (some ⟨b, 0, none⟩), .int .i64 k] w fun e w' => e = .returned (sAllocV k l) ∧ St w0 F0 (SpanP b (sAllocL k l) :: ps) w' :=
  h.call (p' := SpanP b (sAllocL k l)) fun F h1 => (span_Alloc _ _ _ _ _ h1).mono fun e w' ⟨he, a, k⟩ => ⟨he, F, a, k, fun i hi => .inl hi⟩
theorem sp_Used (h : St w0 F0 (SpanP b l :: ps) w) (a s : Int) :
    Calls Try.prog 27 #[.pointer (some ⟨b, 0, none⟩), .int .i64 a, .int .i64 s] w fun e w' => e = .returned (.bool (sUsed l a s)) ∧ St w0 F0 (SpanP b l :: ps) w' := h.ask fun F h1 => span_Used _ _ _ _ _ _ h1
theorem sp_Words (h : St w0 F0 (SpanP b l :: ps) w) :
    Calls Try.prog 22 #[.pointer (some ⟨b, 0, none⟩)] w fun e w' => e = .returned (.int .i64 (sWords l)) ∧ St w0 F0 (SpanP b l :: ps) w' := h.ask fun F h1 => span_Words _ _ _ _ h1
theorem sp_Class (h : St w0 F0 (SpanP b l :: ps) w) (a : Int) :
    Calls Try.prog 25 #[.pointer (some ⟨b, 0, none⟩), .int .i64 a] w fun e w' => e = .returned (.int .i64 (sClass l a)) ∧ w = w' := by
  obtain ⟨F, h1⟩ := h.head; exact span_Class _ _ _ _ _ h1
theorem sp_Len (h : St w0 F0 (SpanP b l :: ps) w) :
    Calls Try.prog 24 #[.pointer (some ⟨b, 0, none⟩)] w fun e w' => e = .returned (.int .i64 l.length) ∧ w = w' := by
  obtain ⟨F, h1⟩ := h.head; exact span_Len _ _ _ _ h1
theorem sp_New {n : Nat} (h0 : St w0 F0 ps w) (hn2 : 2 ≤ n) (hn : n ≤ 128) :
    Calls Try.prog 15 #[.int .i64 n] w fun e w' => ∃ b, e = .returned (.tuple #[.pointer (some ⟨b, 0, none⟩), .int .i64 0]) ∧ St w0 F0 (SpanP b (sNew n) :: ps) w' :=
  (span_New n hn2 hn w).mono fun e w' ⟨he, F, a, k, f⟩ => ⟨_, he, h0.push k.below ⟨F, a, f⟩⟩
end
end Go.Proofs.Ytfnhfhoafnpfoaa
