/- QuietAdd SameStr Arr8 -/
import Derived.Test.YtjdlnmbfomojdaaKPlain
import Derived.Test.YtjdlnmbfomojdaaKSepLit
import Derived.Test.YtjdlnmbfomojdaaKSpan5
import Derived.WalkKit
import Derived.Deep.QuietTactic
import Derived.Test.YtjdlnmbfomojdaaRows
import Derived.WalkSpells
import Derived.WalkLawsBesides
import Derived.BigQuiet
import Derived.Lib.Hide
namespace Go.Proofs.Ytjdlnmbfomojdaa
theorem quiet_add {P:Program} {f:FuncId} {args:Array Value} {w:World} {a n:Nat} {v:Value}
    (h:Calls P f args (w.drewN (a+n)) fun e w'=>e=.returned v∧∃ m,w'=(w.drewN (a+n)).drewN m) :
    Calls P f args (w.drewN (a+n)) fun e w''=>e=.returned v∧∃ m,w''=w.drewN (a+m) :=
  h.mono fun _ _ ⟨he,m,hm⟩=>⟨he,n+m,by rw [hm,World.drewN_drewN,Nat.add_assoc]⟩
theorem quiet_add_left {P:Program} {f:FuncId} {args:Array Value} {w:World} {a n:Nat} {v:Value}
    (h:Calls P f args (w.drewN (a+n)) fun e w'=>e=.returned v∧w.drewN (a+n)=w') :
    Calls P f args (w.drewN (a+n)) fun e w''=>e=.returned v∧∃ m,w''=w.drewN (a+m) :=
  h.mono fun _ _ ⟨he,hm⟩=>⟨he,n,hm.symm⟩
theorem quiet_left {P:Program} {f:FuncId} {args:Array Value} {w:World} {n:Nat} {v:Value}
    (h:Calls P f args (w.drewN n) fun e w'=>e=.returned v∧w.drewN n=w'):Calls P f args (w.drewN n) fun e w''=>e=.returned v∧∃ m,w''=w.drewN m :=
  h.mono fun _ _ ⟨he,hm⟩=>⟨he,n,hm.symm⟩
end Go.Proofs.Ytjdlnmbfomojdaa
namespace Go.Proofs.Ytjdlnmbfomojdaa
open Go.RowKit
theorem bytes_beq (a b:ByteArray):(a.toList == b.toList)=decide (a=b):=by
  by_cases h:a=b
  · subst h; simp
  · have:a.toList≠b.toList:=fun e=>h (by
      rw [ByteArray.toList_eq,ByteArray.toList_eq] at e
      exact ByteArray.ext (Array.toList_inj.mp e))
    simp [h,this]
end Go.Proofs.Ytjdlnmbfomojdaa
namespace Go.Proofs.Ytjdlnmbfomojdaa
open Go.RowKit
theorem arr8 (q0 q1 q2 q3 q4 q5 q6 q7:Bool) (w:World) :
    (Op.equalIn 10000 160 (.agg #[.bool q0,.bool q1,.bool q2,.bool q3,.bool q4,.bool q5,.bool q6,.bool q7]) (.agg #[.bool false,.bool false,.bool false,.bool false,.bool false,.bool false,.bool false,.bool false])).run Try.prog w =
      .ok (!(q0 || q1 || q2 || q3 || q4 || q5 || q6 || q7)) w:=by
  cases q0 <;> cases q1 <;> cases q2 <;> cases q3 <;> cases q4 <;> cases q5 <;> cases q6 <;> cases q7 <;> kernel_rfl
end Go.Proofs.Ytjdlnmbfomojdaa
