/- View2N View3 View4 Arr8 -/
import Derived.Test.YtinagphkkegmnaaKView
import Derived.Test.YtinagphkkegmnaaKSpan5
import Derived.Laws.ResultCell
import Derived.Deep.RegionHeld3
namespace Go.Proofs.Ytinagphkkegmnaa
open Go.RowKit
set_option linter.unusedVariables false
set_option linter.unusedSimpArgs false
section
variable {w0 w:World} {F0:List Nat} {ps:List Piece} {b ab:Nat} {h:HSt}
end
end Go.Proofs.Ytinagphkkegmnaa
namespace Go.Proofs.Ytinagphkkegmnaa
open Go.RowKit
set_option linter.unusedVariables false
set_option linter.unusedSimpArgs false
def putE (s:ASt) (p kind:Int) (n:Nat):Int:=if Is s p kind n then 0 else 10
section
variable {w0 w:World} {F0:List Nat} {ps:List Piece} {b ab:Nat} {h:HSt}
end
end Go.Proofs.Ytinagphkkegmnaa
namespace Go.Proofs.Ytinagphkkegmnaa
open Go.RowKit
set_option linter.unusedVariables false
set_option linter.unusedSimpArgs false
section
variable {w0 w:World} {F0:List Nat} {ps:List Piece} {b ab:Nat} {h:HSt}
end
end Go.Proofs.Ytinagphkkegmnaa
namespace Go.Proofs.Ytinagphkkegmnaa
open Go.RowKit
theorem arr8 (q0 q1 q2 q3 q4 q5 q6 q7:Bool) (w:World) :
    (Op.equalIn 10000 83 (.agg #[.bool q0,.bool q1,.bool q2,.bool q3,.bool q4,.bool q5,.bool q6,.bool q7]) (.agg #[.bool false,.bool false,.bool false,.bool false,.bool false,.bool false,.bool false,.bool false])).run Try.prog w =
      .ok (!(q0 || q1 || q2 || q3 || q4 || q5 || q6 || q7)) w:=by
  cases q0 <;> cases q1 <;> cases q2 <;> cases q3 <;> cases q4 <;> cases q5 <;> cases q6 <;> cases q7 <;> kernel_rfl
end Go.Proofs.Ytinagphkkegmnaa
