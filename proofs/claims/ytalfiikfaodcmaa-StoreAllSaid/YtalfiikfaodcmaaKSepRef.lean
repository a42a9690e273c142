/- SepRef -/
import Derived.Test.YtalfiikfaodcmaaKMem
import Derived.Test.YtalfiikfaodcmaaKRefSpan3
import Derived.Test.YtalfiikfaodcmaaKClass
namespace Go.Proofs.Ytalfiikfaodcmaa
open Go.RowKit
set_option linter.unusedVariables false
section
variable {w0 w:World} {F0:List Nat} {ps:List Piece} {b:Nat} {l:List SRow}
end
end Go.Proofs.Ytalfiikfaodcmaa
