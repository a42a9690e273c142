/- RowB -/
import Derived.Test.YtaojmbkmicjecaaGreatKEv2
namespace Go.Proofs.YtaojmbkmicjecaaGreat
open Go.RowKit
set_option linter.unusedVariables false
set_option linter.unusedSimpArgs false
end Go.Proofs.YtaojmbkmicjecaaGreat
