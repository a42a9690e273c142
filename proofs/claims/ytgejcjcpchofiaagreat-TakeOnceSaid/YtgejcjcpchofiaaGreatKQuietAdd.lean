/- QuietAdd SameStr ArgK -/
import Derived.Test.YtgejcjcpchofiaaGreatKPlain
import Derived.Test.YtgejcjcpchofiaaGreatKRowOf
import Derived.Test.YtgejcjcpchofiaaGreatKArg
import Derived.Test.YtgejcjcpchofiaaGreatKEv2
import Derived.Test.YtgejcjcpchofiaaGreatKRowB
import Derived.WalkKit
import Derived.Deep.QuietTactic
import Derived.Test.YtgejcjcpchofiaaGreatRows
import Derived.WalkSpells
import Derived.WalkLawsBesides
import Derived.BigQuiet
import Derived.Lib.Hide
import Derived.Deep.Grids
import Derived.OpenShut
import Derived.ChangeSame
namespace Go.Proofs.YtgejcjcpchofiaaGreat
end Go.Proofs.YtgejcjcpchofiaaGreat
namespace Go.Proofs.YtgejcjcpchofiaaGreat
open Go.RowKit
end Go.Proofs.YtgejcjcpchofiaaGreat
namespace Go.Proofs.YtgejcjcpchofiaaGreat
open Go.RowKit
set_option linter.unusedVariables false
set_option linter.unusedSimpArgs false
end Go.Proofs.YtgejcjcpchofiaaGreat
