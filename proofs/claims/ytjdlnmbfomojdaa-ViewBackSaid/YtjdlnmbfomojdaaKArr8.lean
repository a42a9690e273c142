/- Arr8 -/
import Derived.Test.YtjdlnmbfomojdaaKSpan5
namespace Go.Proofs.Ytjdlnmbfomojdaa
open Go.RowKit
theorem arr8 (q0 q1 q2 q3 q4 q5 q6 q7:Bool) (w:World) :
    (Op.equalIn 10000 160 (.agg #[.bool q0,.bool q1,.bool q2,.bool q3,.bool q4,.bool q5,.bool q6,.bool q7]) (.agg #[.bool false,.bool false,.bool false,.bool false,.bool false,.bool false,.bool false,.bool false])).run Try.prog w =
      .ok (!(q0 || q1 || q2 || q3 || q4 || q5 || q6 || q7)) w:=by
  cases q0 <;> cases q1 <;> cases q2 <;> cases q3 <;> cases q4 <;> cases q5 <;> cases q6 <;> cases q7 <;> kernel_rfl
end Go.Proofs.Ytjdlnmbfomojdaa
