/- ArgK -/
import Derived.Test.YtgejcjcpchofiaaGreatKArg
import Derived.Test.YtgejcjcpchofiaaGreatKEv2
import Derived.Test.YtgejcjcpchofiaaGreatKRowB
import Derived.Deep.Grids
import Derived.OpenShut
import Derived.ChangeSame
/- Slices of numbers, or of truths, that came in with the call, looked into where the slots are known. -/
namespace Go.Proofs.YtgejcjcpchofiaaGreat
open Go.RowKit
set_option linter.unusedVariables false
set_option linter.unusedSimpArgs false
end Go.Proofs.YtgejcjcpchofiaaGreat
