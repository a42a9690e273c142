/- Arr8 -/
import Derived.Test.YtgejcjcpchofiaaGreatKSpan5
/- Eight truth values held against eight that are false. -/
namespace Go.Proofs.YtgejcjcpchofiaaGreat
open Go.RowKit
end Go.Proofs.YtgejcjcpchofiaaGreat
