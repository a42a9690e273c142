/- Umod -/
import Derived.WalkKit
/- int(uint(a) % m). -/
namespace Go.Proofs.YtaihdiccmaincaaGreat
open Go.RowKit
end Go.Proofs.YtaihdiccmaincaaGreat
