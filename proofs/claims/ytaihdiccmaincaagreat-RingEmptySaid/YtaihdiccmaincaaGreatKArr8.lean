/- Arr8 -/
import Derived.Test.YtaihdiccmaincaaGreatKSpan5
/- Eight truth values held against eight that are false. -/
namespace Go.Proofs.YtaihdiccmaincaaGreat
open Go.RowKit
end Go.Proofs.YtaihdiccmaincaaGreat
