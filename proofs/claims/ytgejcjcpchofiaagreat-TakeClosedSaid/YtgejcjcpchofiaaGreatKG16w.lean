/- G16w -/
import Derived.Test.YtgejcjcpchofiaaGreatKG16b
import Derived.Test.YtgejcjcpchofiaaGreatKGRef11
import Derived.Test.YtgejcjcpchofiaaGreatKGView
import Derived.Deep.LoopGhost
import Derived.KernelRfl
/- The walks of G16w, printed by gen/walk.py. -/
namespace Go.Proofs.YtgejcjcpchofiaaGreat
open Go.RowKit
set_option linter.unusedVariables false

end Go.Proofs.YtgejcjcpchofiaaGreat
