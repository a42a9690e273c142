/- Classes, as numbers. -/
import Derived.WalkKit
namespace Go.Proofs.Ytdnelekoplkkcaa
/-- The words of a class. -/
def cWords (a : Int) : Int := if a = 0 then 4 else if a = 1 then 8 else if a = 2 then 16 else if a = 3 then 32 else 0
/-- How many of a class are in a span. -/
def cSlots (a : Int) : Int := if a = 0 then 8 else if a = 1 then 4 else if a = 2 then 2 else if a = 3 then 1 else 0
/-- The class of so many words. -/
def cOf (n : Int) : Int := if n < 4 then 0 else if n < 8 then 1 else if n < 16 then 2 else if n < 32 then 3 else 0
def cFits (n : Int) : Bool := decide (0 ≤ n ∧ n < 32)
/-- The text of the classes' words. -/
def cText : ByteArray := ⟨#[4, 8, 16, 32]⟩

theorem cWords_none {a : Int} (h : ¬ (0 ≤ a ∧ a < 4)) : cWords a = 0 := by unfold cWords; split; omega; split; omega; split; omega; split; omega; rfl
theorem cSlots_none {a : Int} (h : ¬ (0 ≤ a ∧ a < 4)) : cSlots a = 0 := by unfold cSlots; split; omega; split; omega; split; omega; split; omega; rfl
theorem class_cases (a : Int) : a = 0 ∨ a = 1 ∨ a = 2 ∨ a = 3 ∨ ¬ (0 ≤ a ∧ a < 4) := by omega
end Go.Proofs.Ytdnelekoplkkcaa
