/- ArgK -/
import Derived.Test.YtaojmbkmicjecaaGreatKArg
import Derived.Test.YtaojmbkmicjecaaGreatKEv2
import Derived.Test.YtaojmbkmicjecaaGreatKRowB
import Derived.Deep.Grids
import Derived.OpenShut
import Derived.ChangeSame
namespace Go.Proofs.YtaojmbkmicjecaaGreat
open Go.RowKit
set_option linter.unusedVariables false
set_option linter.unusedSimpArgs false
end Go.Proofs.YtaojmbkmicjecaaGreat
