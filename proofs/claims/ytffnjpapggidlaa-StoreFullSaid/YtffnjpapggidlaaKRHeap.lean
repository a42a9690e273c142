/- RHeap RHeap2 -/
import Derived.Test.YtffnjpapggidlaaKRefArena3
import Derived.Test.YtffnjpapggidlaaKPureArena
import Derived.Test.YtffnjpapggidlaaKGrey
import Derived.Test.YtffnjpapggidlaaKPlain
namespace Go.Proofs.Ytffnjpapggidlaa
open Go.RowKit
set_option linter.unusedVariables false
def cols (f:Int→Int) (n:Nat):List Int:=(List.range n).map fun i:Nat=>f i
theorem cols_len (f:Int→Int) (n:Nat):(cols f n).length=n:=by simp [cols]
theorem cols_at (f:Int→Int) (n i:Nat) (h:i<n):(cols f n)[i]?=some (f i):=by simp [cols,h]
theorem cols_set (f:Int→Int) (n p:Nat) (v:Int):(cols f n).set p v=cols (upd f p v) n:=by
  apply List.ext_getElem
  · simp [cols]
  · intro i h1 h2
    rw [List.getElem_set]
    simp only [cols,List.getElem_map,List.getElem_range,upd]
    by_cases e:p=i
    · subst e; simp
    · rw [if_neg e,if_neg (by omega)]
section
variable {w0 w:World} {F0:List Nat} {ps:List Piece} {b ab sb g cb gl n:Nat} {h:HSt}
theorem push_formR (p:Int) (h:HSt):hPush p h={ h with g:=(hPush p h).g,ov:=(hPush p h).ov }:=by unfold hPush; split <;> rfl
theorem made_cols (m:Nat):madeCells #[Value.int .i64 0] m=iA (cols (fun _=>0) m):=by
  rw [made_zero]
  congr 1
  apply List.ext_getElem <;> simp [cols]
end
end Go.Proofs.Ytffnjpapggidlaa
namespace Go.Proofs.Ytffnjpapggidlaa
open Go.RowKit
set_option linter.unusedVariables false
section
variable {w0 w:World} {F0:List Nat} {ps:List Piece} {b ab sb g cb gl n:Nat} {h:HSt}
end
end Go.Proofs.Ytffnjpapggidlaa
