/- Fast Arr8 -/
import Derived.Test.YtgejcjcpchofiaaGreatKPureArena
import Derived.Test.YtgejcjcpchofiaaGreatKSpan5
namespace Go.Proofs.YtgejcjcpchofiaaGreat
set_option linter.unusedVariables false
set_option linter.unusedSimpArgs false
end Go.Proofs.YtgejcjcpchofiaaGreat
namespace Go.Proofs.YtgejcjcpchofiaaGreat
open Go.RowKit
end Go.Proofs.YtgejcjcpchofiaaGreat
