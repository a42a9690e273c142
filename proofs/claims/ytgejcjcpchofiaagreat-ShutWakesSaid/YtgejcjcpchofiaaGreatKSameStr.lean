/- SameStr -/
import Derived.Test.YtgejcjcpchofiaaGreatKPlain
import Derived.Test.YtgejcjcpchofiaaGreatKRowOf
import Derived.Test.YtgejcjcpchofiaaGreatKQuietAdd
import Derived.Test.YtgejcjcpchofiaaGreatRows
import Derived.WalkKit
import Derived.WalkSpells
import Derived.WalkLawsBesides
import Derived.Deep.QuietTactic
import Derived.BigQuiet
import Derived.Lib.Hide
/- Two lists of strings held against each other. -/
namespace Go.Proofs.YtgejcjcpchofiaaGreat
open Go.RowKit

end Go.Proofs.YtgejcjcpchofiaaGreat
