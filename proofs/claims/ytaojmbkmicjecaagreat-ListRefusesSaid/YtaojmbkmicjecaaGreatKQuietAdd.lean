/- QuietAdd -/
import Derived.WalkKit
import Derived.Deep.QuietTactic
namespace Go.Proofs.YtaojmbkmicjecaaGreat
end Go.Proofs.YtaojmbkmicjecaaGreat
