/- View2N -/
import Derived.Test.YtalfiikfaodcmaaKView
import Derived.Laws.ResultCell
import Derived.Deep.RegionHeld3
namespace Go.Proofs.Ytalfiikfaodcmaa
open Go.RowKit
set_option linter.unusedVariables false
set_option linter.unusedSimpArgs false
section
variable {w0 w:World} {F0:List Nat} {ps:List Piece} {b ab:Nat} {h:HSt}
end
end Go.Proofs.Ytalfiikfaodcmaa
