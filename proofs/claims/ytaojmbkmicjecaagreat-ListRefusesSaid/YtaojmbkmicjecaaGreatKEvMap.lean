/- EvMap -/
import Derived.Test.YtaojmbkmicjecaaGreatKEv2
import Derived.Test.YtaojmbkmicjecaaGreatKSepMap
import Derived.Test.YtaojmbkmicjecaaGreatKStepAt
namespace Go.Proofs.YtaojmbkmicjecaaGreat
open Go.RowKit
set_option linter.unusedVariables false
section
variable {ops:Array Oper} {rest:List Oper} {o:Oper} {n:Nat} {a:Act} {l l':Asc} {Q:Exit→Act→World→Prop} {w0:World} {F0:List Nat} {ps:List Piece} {w:World} {mb:Nat} {f:Int→Int}
end
end Go.Proofs.YtaojmbkmicjecaaGreat
