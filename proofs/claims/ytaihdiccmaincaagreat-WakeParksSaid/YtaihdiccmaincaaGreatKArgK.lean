/- ArgK -/
import Derived.Test.YtaihdiccmaincaaGreatKArg
import Derived.Test.YtaihdiccmaincaaGreatKEv2
import Derived.Test.YtaihdiccmaincaaGreatKRowB
/- Slices of numbers, or of truths, that came in with the call, looked into where the slots are known. -/
namespace Go.Proofs.YtaihdiccmaincaaGreat
open Go.RowKit
set_option linter.unusedVariables false
set_option linter.unusedSimpArgs false
end Go.Proofs.YtaihdiccmaincaaGreat
