/- GHelp -/
import Derived.Test.YtaojmbkmicjecaaGreatKPrim
import Derived.Test.YtaojmbkmicjecaaGreatKEv2
import Derived.Test.YtaojmbkmicjecaaGreatKEvMap
import Derived.Test.YtaojmbkmicjecaaGreatKRowB
import Derived.Test.YtaojmbkmicjecaaGreatKArgK
import Derived.Test.YtaojmbkmicjecaaGreatKAppM
import Derived.Test.YtaojmbkmicjecaaGreatKMem
import Derived.Deep.LoopGhost
import Derived.KernelRfl
namespace Go.Proofs.YtaojmbkmicjecaaGreat
open Go.RowKit
set_option linter.unusedVariables false
def help_eq.m (k:Nat) (i0:Int) (i1:Int):Option (Bool):=some (i0 == i1)
set_option maxRecDepth 100000 in
set_option maxHeartbeats 1500000 in
theorem help_eq.ok {w0 w:World} {F0:List Nat} {ps:List Piece} {k:Nat} {i0:Int} {i1:Int} {r0:Bool} (hS:St w0 F0 (ps) w) (hm:help_eq.m k i0 i1=some r0) :
    Calls Tryz.prog 71 #[nI i0,nI i1] w fun e w'=>e=.returned (.bool r0)∧St w0 F0 (ps) w':=by
 refine ev_enterL 8 [nI i0,nI i1] Tryz.func71 rfl rfl (by simp) ?_
 intro a hF
 have hF0:Fr 8 a [(0,nI i0),(1,nI i1)]:=hF; clear hF
 unfold help_eq.m at hm
 refine wp_seq (wp_region_lit ?_)
 refine ev_runK 1 hF0 [0,1] (l':=[(0,nI i0),(1,nI i1)]) (w':=w) (by kernel_rfl) ?_
 intro a2 hF1; clear hF0
 refine wpList_nil (thenN (wp_seq (wp_region_lit ?_)))
 refine ev_runK 4 hF1 [4] (l':=[(4,.bool (i0 == i1))]) (w':=w) (by kernel_rfl) ?_
 intro a4 hF3; clear hF1
 refine wpList_nil (thenN ?_)
 refine wp_ret ?_
 obtain rfl:=Option.some.inj hm
 refine ev_ret hF3 [4] (.bool (i0 == i1)) rfl rfl rfl ?_
 exact ⟨rfl,hS⟩
end Go.Proofs.YtaojmbkmicjecaaGreat
