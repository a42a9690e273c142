/- QuietAdd Umod -/
import Derived.WalkKit
import Derived.Deep.QuietTactic
namespace Go.Proofs.Ytinagphkkegmnaa
theorem quiet_add {P:Program} {f:FuncId} {args:Array Value} {w:World} {a n:Nat} {v:Value}
    (h:Calls P f args (w.drewN (a+n)) fun e w'=>e=.returned v∧∃ m,w'=(w.drewN (a+n)).drewN m) :
    Calls P f args (w.drewN (a+n)) fun e w''=>e=.returned v∧∃ m,w''=w.drewN (a+m) :=
  h.mono fun _ _ ⟨he,m,hm⟩=>⟨he,n+m,by rw [hm,World.drewN_drewN,Nat.add_assoc]⟩
theorem quiet_add_left {P:Program} {f:FuncId} {args:Array Value} {w:World} {a n:Nat} {v:Value}
    (h:Calls P f args (w.drewN (a+n)) fun e w'=>e=.returned v∧w.drewN (a+n)=w') :
    Calls P f args (w.drewN (a+n)) fun e w''=>e=.returned v∧∃ m,w''=w.drewN (a+m) :=
  h.mono fun _ _ ⟨he,hm⟩=>⟨he,n,hm.symm⟩
theorem quiet_left {P:Program} {f:FuncId} {args:Array Value} {w:World} {n:Nat} {v:Value}
    (h:Calls P f args (w.drewN n) fun e w'=>e=.returned v∧w.drewN n=w'):Calls P f args (w.drewN n) fun e w''=>e=.returned v∧∃ m,w''=w.drewN m :=
  h.mono fun _ _ ⟨he,hm⟩=>⟨he,n,hm.symm⟩
end Go.Proofs.Ytinagphkkegmnaa
namespace Go.Proofs.Ytinagphkkegmnaa
open Go.RowKit
theorem u64_range (a:Int):0≤IntKind.u64.wrap a∧IntKind.u64.wrap a<18446744073709551616:=by
  have h:IntKind.u64.wrap a=a % 18446744073709551616:=by rfl
  rw [h]; omega
theorem u_mod (a:Int) (m:Nat) (h0:0<m):∃ n:Nat,n<m∧Int.tmod (IntKind.u64.wrap a) m=n:=by
  obtain ⟨h1,h2⟩:=u64_range a
  refine ⟨(Int.tmod (IntKind.u64.wrap a) m).toNat,?_,?_⟩
  · rw [Int.tmod_eq_emod_of_nonneg h1]
    have:=Int.emod_lt_of_pos (IntKind.u64.wrap a) (b:=(m:Int)) (by omega)
    have:=Int.emod_nonneg (IntKind.u64.wrap a) (b:=(m:Int)) (by omega)
    omega
  · rw [Int.tmod_eq_emod_of_nonneg h1]
    have:=Int.emod_nonneg (IntKind.u64.wrap a) (b:=(m:Int)) (by omega)
    omega
theorem u_same (n m:Nat) (h:n<m) (hm:m<18446744073709551616):Int.tmod (IntKind.u64.wrap (n:Int)) m=n:=by
  have h1:IntKind.u64.wrap (n:Int)=(n:Int) % 18446744073709551616:=rfl
  rw [h1,Int.emod_eq_of_lt (by omega) (by omega),Int.tmod_eq_emod_of_nonneg (by omega),Int.emod_eq_of_lt (by omega) (by omega)]
end Go.Proofs.Ytinagphkkegmnaa
