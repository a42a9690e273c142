/- View3 View4 SepRef -/
import Derived.Test.YtalfiikfaodcmaaKView
import Derived.Test.YtalfiikfaodcmaaKMem
import Derived.Test.YtalfiikfaodcmaaKRefSpan3
import Derived.Test.YtalfiikfaodcmaaKClass
namespace Go.Proofs.Ytalfiikfaodcmaa
open Go.RowKit
set_option linter.unusedVariables false
set_option linter.unusedSimpArgs false
def putE (s:ASt) (p kind:Int) (n:Nat):Int:=if Is s p kind n then 0 else 10
section
variable {w0 w:World} {F0:List Nat} {ps:List Piece} {b ab:Nat} {h:HSt}
end
end Go.Proofs.Ytalfiikfaodcmaa
namespace Go.Proofs.Ytalfiikfaodcmaa
open Go.RowKit
set_option linter.unusedVariables false
set_option linter.unusedSimpArgs false
section
variable {w0 w:World} {F0:List Nat} {ps:List Piece} {b ab:Nat} {h:HSt}
end
end Go.Proofs.Ytalfiikfaodcmaa
namespace Go.Proofs.Ytalfiikfaodcmaa
open Go.RowKit
set_option linter.unusedVariables false
section
variable {w0 w:World} {F0:List Nat} {ps:List Piece} {b:Nat} {l:List SRow}
end
end Go.Proofs.Ytalfiikfaodcmaa
