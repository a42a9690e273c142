/- GHelp -/
import Derived.Test.YtgejcjcpchofiaaGreatKPrim
import Derived.Test.YtgejcjcpchofiaaGreatKEv2
import Derived.Test.YtgejcjcpchofiaaGreatKEvMap
import Derived.Test.YtgejcjcpchofiaaGreatKRowB
import Derived.Test.YtgejcjcpchofiaaGreatKArgK
import Derived.Test.YtgejcjcpchofiaaGreatKAppM
import Derived.Test.YtgejcjcpchofiaaGreatKMem
import Derived.Deep.LoopGhost
import Derived.KernelRfl
/- The walks of GHelp, printed by gen/walk.py. -/
namespace Go.Proofs.YtgejcjcpchofiaaGreat
open Go.RowKit
set_option linter.unusedVariables false

end Go.Proofs.YtgejcjcpchofiaaGreat
