/- 'awake' of the statements of layer 5. -/
import Derived.Test.YtkjncehcabhljaaClassRef
namespace Go.Proofs.Ytkjncehcabhljaa
open Go.RowKit
theorem awake05 (w : World) :
    Calls Try.prog 28 #[] w fun e w' => e = .returned (.bool true) ∧ Below w.heap.size w w' := by
  go_enter Try.func28, Try.ntmps28
  go_wp2_with (first
    | (go_at_call 26; refine (class_Of _ _).mono ?_; rintro e w1 ⟨rfl, hb1⟩; rw [show cOf 9 = 2 from rfl, show cFits 9 = true from rfl])
    | (go_at_call 29; refine (class_Words _ _).mono ?_; rintro e w2 ⟨rfl, hb2⟩; rw [show cWords 2 = 16 from rfl])
    | (go_at_call 31; refine (class_Slots _ _).mono ?_; rintro e w3 ⟨rfl, hb3⟩; rw [show cSlots 2 = 2 from rfl]))
  go_ret
  exact ⟨rfl, by repeat (first | exact Below.refl _ _ | (refine below_next ?_ (by assumption) (Nat.le_refl _)))⟩

end Go.Proofs.Ytkjncehcabhljaa
