/- Fast -/
import Derived.Test.YtaojmbkmicjecaaGreatKPureArena
namespace Go.Proofs.YtaojmbkmicjecaaGreat
set_option linter.unusedVariables false
set_option linter.unusedSimpArgs false
end Go.Proofs.YtaojmbkmicjecaaGreat
