/- Idle -/
import Derived.Test.YtffnjpapggidlaaGreatKPrimV
import Derived.Test.YtffnjpapggidlaaGreatKEv2
namespace Go.Proofs.YtffnjpapggidlaaGreat
open Go.RowKit
theorem bind1_some {α R:Type} (x:α) (f:α→Option R):bind1 (some x) f=f x:=rfl
theorem bind2_some {α β R:Type} (x:α) (y:β) (f:α→β→Option R):bind2 (some (x,y)) f=f x y:=rfl
theorem bind3_some {α β γ R:Type} (x:α) (y:β) (z:γ) (f:α→β→γ→Option R):bind3 (some (x,y,z)) f=f x y z:=rfl
end Go.Proofs.YtffnjpapggidlaaGreat
