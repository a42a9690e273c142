/- EvMap -/
import Derived.Test.YtaihdiccmaincaaGreatKEv2
import Derived.Test.YtaihdiccmaincaaGreatKSepMap
import Derived.Test.YtaihdiccmaincaaGreatKStepAt
/- A map of a function's own, looked into and set, where the slots are known; append in a region that draws its order. -/
namespace Go.Proofs.YtaihdiccmaincaaGreat
open Go.RowKit
set_option linter.unusedVariables false
section
variable {ops : Array Oper} {rest : List Oper} {o : Oper} {n : Nat} {a : Act} {l l' : Asc} {Q : Exit → Act → World → Prop} {w0 : World} {F0 : List Nat} {ps : List Piece} {w : World} {mb : Nat} {f : Int → Int}
end
end Go.Proofs.YtaihdiccmaincaaGreat
