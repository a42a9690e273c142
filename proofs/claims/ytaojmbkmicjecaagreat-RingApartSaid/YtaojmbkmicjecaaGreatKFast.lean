/- Fast Arr8 -/
import Derived.Test.YtaojmbkmicjecaaGreatKPureArena
import Derived.Test.YtaojmbkmicjecaaGreatKSpan5
namespace Go.Proofs.YtaojmbkmicjecaaGreat
set_option linter.unusedVariables false
set_option linter.unusedSimpArgs false
end Go.Proofs.YtaojmbkmicjecaaGreat
namespace Go.Proofs.YtaojmbkmicjecaaGreat
open Go.RowKit
end Go.Proofs.YtaojmbkmicjecaaGreat
