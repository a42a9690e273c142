/- QuietAdd -/
import Derived.WalkKit
import Derived.Deep.QuietTactic
/- A second quiet region behind a first one (the kit's extra lemmas, laid over this seat). -/
namespace Go.Proofs.YtgejcjcpchofiaaGreat
end Go.Proofs.YtgejcjcpchofiaaGreat
