/- AppM -/
import Derived.Test.YtaihdiccmaincaaGreatKEvMap
import Derived.Test.YtaihdiccmaincaaGreatKRowB
/- append of a whole row onto a row; a row's beginning; truths laid in a region that draws its order. -/
namespace Go.Proofs.YtaihdiccmaincaaGreat
open Go.RowKit
set_option linter.unusedVariables false
set_option linter.unusedSimpArgs false
section
variable {ops : Array Oper} {rest : List Oper} {o : Oper} {n : Nat} {a : Act} {l l' : Asc} {w0 : World} {F0 : List Nat} {ps : List Piece} {w : World}
end
end Go.Proofs.YtaihdiccmaincaaGreat
