/- RefArena RefArena2 -/
import Derived.Test.YtalfiikfaodcmaaKRefSpan4
import Derived.Test.YtalfiikfaodcmaaKPureRefArena
import Derived.Test.YtalfiikfaodcmaaKSpan5
import Derived.Deep.QuietTactic
import Derived.BigQuiet
import Derived.BigGuardPart
import Derived.Deep.RegionWith
namespace Go.Proofs.Ytalfiikfaodcmaa
open Go.RowKit
set_option linter.unusedVariables false
def iA (W:List Int):Array Value:=(iV W).toArray
theorem iA_get (W:List Int) (i:Nat):(iA W)[i]?=W[i]?.map (Value.int .i64):=by simp [iA,iV]
theorem iA_at (W:List Int) (i:Nat) {x:Int} (h:W[i]?=some x):(iA W)[i]?=some (.int .i64 x):=by rw [iA_get,h]; rfl
theorem iA_set (W:List Int) (i:Nat) (x:Int):(iA W).setIfInBounds i (.int .i64 x)=iA (W.set i x):=by
  apply Array.ext_getElem?
  intro j
  rw [Array.getElem?_setIfInBounds,iA_get,iA_get,List.getElem?_set]
  simp [iA,iV]
  split <;> simp
section
variable {w0 w:World} {F0:List Nat} {ps:List Piece} {b sb g:Nat} {s:ASt}
end
end Go.Proofs.Ytalfiikfaodcmaa
namespace Go.Proofs.Ytalfiikfaodcmaa
open Go.RowKit
set_option linter.unusedVariables false
section
variable {w0 w:World} {F0:List Nat} {ps:List Piece} {b sb g:Nat} {s:ASt}
theorem loadV_form (s:ASt) (a i:Int):loadV s a i=.tuple #[.int .i64 (aWord a i s),.int .i64 (aErr a i s)]:=rfl
end
end Go.Proofs.Ytalfiikfaodcmaa
