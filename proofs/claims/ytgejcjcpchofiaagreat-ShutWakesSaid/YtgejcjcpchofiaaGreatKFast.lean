/- Fast -/
import Derived.Test.YtgejcjcpchofiaaGreatKPureArena
/- The heap's functions once more, as the kernel reckons them fast. -/
namespace Go.Proofs.YtgejcjcpchofiaaGreat
set_option linter.unusedVariables false
set_option linter.unusedSimpArgs false
end Go.Proofs.YtgejcjcpchofiaaGreat
