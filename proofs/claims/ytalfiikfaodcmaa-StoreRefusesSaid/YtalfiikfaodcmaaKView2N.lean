/- View2N Arr8 NilP -/
import Derived.Test.YtalfiikfaodcmaaKView
import Derived.Test.YtalfiikfaodcmaaKSpan5
import Derived.Test.YtalfiikfaodcmaaKNilHeap
import Derived.Test.YtalfiikfaodcmaaKPrim
import Derived.Laws.ResultCell
import Derived.Deep.RegionHeld3
namespace Go.Proofs.Ytalfiikfaodcmaa
open Go.RowKit
set_option linter.unusedVariables false
set_option linter.unusedSimpArgs false
section
variable {w0 w:World} {F0:List Nat} {ps:List Piece} {b ab:Nat} {h:HSt}
end
end Go.Proofs.Ytalfiikfaodcmaa
namespace Go.Proofs.Ytalfiikfaodcmaa
open Go.RowKit
end Go.Proofs.Ytalfiikfaodcmaa
namespace Go.Proofs.Ytalfiikfaodcmaa
open Go.RowKit
set_option linter.unusedVariables false
section
variable {w0 w:World} {F0:List Nat} {ps:List Piece}
theorem p_PhaseN (hs:St w0 F0 ps w):Calls Try.prog 17 #[.pointer none] w fun e w'=>e=.returned (.int .i64 0)∧St w0 F0 ps w' :=
  (heap_Phase_nil w).mono fun e w' ⟨he,hw⟩=>⟨he,hw ▸ hs⟩
theorem p_BeginN {v:Value} {L:List Int} (hs:St w0 F0 (RowP v L::ps) w):Calls Try.prog 37 #[.pointer none,v] w fun e w'=>e=.returned (.int .i64 2)∧St w0 F0 (RowP v L::ps) w' :=
  (heap_Begin_nil v w).mono fun e w' ⟨he,hw⟩=>⟨he,hw ▸ hs⟩
theorem p_StepN (hs:St w0 F0 ps w):Calls Try.prog 41 #[.pointer none] w fun e w'=>e=.returned (.slice none 0 0)∧St w0 F0 ps w' :=
  (heap_Step_nil w).mono fun e w' ⟨he,hw⟩=>⟨he,hw ▸ hs⟩
end
end Go.Proofs.Ytalfiikfaodcmaa
