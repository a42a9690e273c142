/- SameStr -/
import Derived.Test.YtaojmbkmicjecaaGreatKPlain
import Derived.Test.YtaojmbkmicjecaaGreatKRowOf
import Derived.Test.YtaojmbkmicjecaaGreatKQuietAdd
import Derived.Test.YtaojmbkmicjecaaGreatRows
import Derived.WalkKit
import Derived.WalkSpells
import Derived.WalkLawsBesides
import Derived.Deep.QuietTactic
import Derived.BigQuiet
import Derived.Lib.Hide
namespace Go.Proofs.YtaojmbkmicjecaaGreat
open Go.RowKit
end Go.Proofs.YtaojmbkmicjecaaGreat
