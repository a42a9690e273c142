/- Fast -/
import Derived.Test.YtaihdiccmaincaaGreatKPureArena
/- The heap's functions once more, as the kernel reckons them fast. -/
namespace Go.Proofs.YtaihdiccmaincaaGreat
set_option linter.unusedVariables false
set_option linter.unusedSimpArgs false
end Go.Proofs.YtaihdiccmaincaaGreat
