/- QuietAdd SameStr -/
import Derived.Test.YtaojmbkmicjecaaGreatKPlain
import Derived.Test.YtaojmbkmicjecaaGreatKRowOf
import Derived.WalkKit
import Derived.Deep.QuietTactic
import Derived.Test.YtaojmbkmicjecaaGreatRows
import Derived.WalkSpells
import Derived.WalkLawsBesides
import Derived.BigQuiet
import Derived.Lib.Hide
namespace Go.Proofs.YtaojmbkmicjecaaGreat
end Go.Proofs.YtaojmbkmicjecaaGreat
namespace Go.Proofs.YtaojmbkmicjecaaGreat
open Go.RowKit
end Go.Proofs.YtaojmbkmicjecaaGreat
