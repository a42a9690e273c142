/- RefArena3 -/
import Derived.Test.YtalfiikfaodcmaaKRefArena
import Derived.Test.YtalfiikfaodcmaaKSpan5
import Derived.Test.YtalfiikfaodcmaaKPureArena
namespace Go.Proofs.Ytalfiikfaodcmaa
open Go.RowKit
set_option linter.unusedVariables false
section
variable {w0 w:World} {F0:List Nat} {ps:List Piece} {b sb g:Nat} {s:ASt}
theorem oV_to (s:ASt) (k:Nat):(List.map (fun p=>((p:Nat):Int)) (objsTo s.c (k+1)))=List.map (fun p=>((p:Nat):Int)) (objsTo s.c k) ++ (if (aHead s.c k).isSome then [(k:Int)] else []):=by
  rw [objs_succ,List.map_append]; split <;> rfl
theorem made_zero (m:Nat):madeCells #[Value.int .i64 0] m=iA (List.replicate m 0):=by
  apply Array.ext_getElem?
  intro j
  rw [iA_get]
  unfold madeCells
  simp [List.getElem?_replicate,Array.getElem?_map,Array.getElem?_range]
  split <;> simp [Nat.mod_one]
end
end Go.Proofs.Ytalfiikfaodcmaa
