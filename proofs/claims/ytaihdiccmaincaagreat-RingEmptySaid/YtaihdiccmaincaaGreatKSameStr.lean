/- SameStr -/
import Derived.Test.YtaihdiccmaincaaGreatKPlain
import Derived.Test.YtaihdiccmaincaaGreatKRowOf
import Derived.Test.YtaihdiccmaincaaGreatKQuietAdd
import Derived.Test.YtaihdiccmaincaaGreatRows
import Derived.WalkKit
import Derived.WalkSpells
import Derived.WalkLawsBesides
import Derived.Deep.QuietTactic
import Derived.BigQuiet
import Derived.Lib.Hide
/- Two lists of strings held against each other. -/
namespace Go.Proofs.YtaihdiccmaincaaGreat
open Go.RowKit

end Go.Proofs.YtaihdiccmaincaaGreat
