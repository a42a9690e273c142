/- Arr8 -/
import Derived.Test.YtalfiikfaodcmaaKSpan5
namespace Go.Proofs.Ytalfiikfaodcmaa
open Go.RowKit
end Go.Proofs.Ytalfiikfaodcmaa
