/- RowB -/
import Derived.Test.YtgejcjcpchofiaaGreatKEv2
/- Rows of truths of the call's own, as pieces. -/
namespace Go.Proofs.YtgejcjcpchofiaaGreat
open Go.RowKit
set_option linter.unusedVariables false
set_option linter.unusedSimpArgs false
end Go.Proofs.YtgejcjcpchofiaaGreat
