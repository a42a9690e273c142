/- Arr8 -/
import Derived.Test.YtaojmbkmicjecaaGreatKSpan5
namespace Go.Proofs.YtaojmbkmicjecaaGreat
open Go.RowKit
end Go.Proofs.YtaojmbkmicjecaaGreat
