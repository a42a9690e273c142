/- 'awake' of the statements of layer 4. -/
import Derived.Test.YtkjncehcabhljaaValue
namespace Go.Proofs.Ytkjncehcabhljaa
open Go.RowKit
theorem awake04 (w : World) :
    Calls Try.prog 15 #[] w fun e w' => e = .returned (.bool true) ∧ w = w' := by
  have o11 : (bits BinOp.and IntKind.i64 11 1 != 0) = true := odd_of 11 (by decide)
  have o10 : (bits BinOp.and IntKind.i64 10 1 != 0) = false := even_of 10 (by decide)
  go_enter Try.func15, Try.ntmps15
  go_wp2
  go_ret
  exact ⟨rfl, rfl⟩
end Go.Proofs.Ytkjncehcabhljaa
