/- LcB1 Umod -/
import Derived.Test.YtjdlnmbfomojdaaKGLiveChain
import Derived.KernelRfl
import Derived.WalkKit
namespace Go.Proofs.Ytjdlnmbfomojdaa
open Go.RowKit
set_option maxRecDepth 100000
set_option maxHeartbeats 40000000
theorem lc_29_6:∀ b<6,LcOk 29 (b+6)=true:=by decide +kernel
theorem lc_27_0:∀ b<6,LcOk 27 (b+0)=true:=by decide +kernel
theorem lc_25_0:∀ b<6,LcOk 25 (b+0)=true:=by decide +kernel
theorem lc_24_18:∀ b<6,LcOk 24 (b+18)=true:=by decide +kernel
theorem lc_21_0:∀ b<6,LcOk 21 (b+0)=true:=by decide +kernel
theorem lc_19_0:∀ b<6,LcOk 19 (b+0)=true:=by decide +kernel
theorem lc_17_12:∀ b<6,LcOk 17 (b+12)=true:=by decide +kernel
theorem lc_14_0:∀ b<6,LcOk 14 (b+0)=true:=by decide +kernel
theorem lc_15_12:∀ b<4,LcOk 15 (b+12)=true:=by decide +kernel
theorem lc_8_0:∀ b<6,LcOk 8 (b+0)=true:=by decide +kernel
theorem lc_5_0:∀ b<6,LcOk 5 (b+0)=true:=by decide +kernel
theorem lc_0_0:∀ b<1,LcOk 0 (b+0)=true:=by decide +kernel
end Go.Proofs.Ytjdlnmbfomojdaa
namespace Go.Proofs.Ytjdlnmbfomojdaa
open Go.RowKit
theorem u64_range (a:Int):0≤IntKind.u64.wrap a∧IntKind.u64.wrap a<18446744073709551616:=by
  have h:IntKind.u64.wrap a=a % 18446744073709551616:=by rfl
  rw [h]; omega
theorem u_mod (a:Int) (m:Nat) (h0:0<m):∃ n:Nat,n<m∧Int.tmod (IntKind.u64.wrap a) m=n:=by
  obtain ⟨h1,h2⟩:=u64_range a
  refine ⟨(Int.tmod (IntKind.u64.wrap a) m).toNat,?_,?_⟩
  · rw [Int.tmod_eq_emod_of_nonneg h1]
    have:=Int.emod_lt_of_pos (IntKind.u64.wrap a) (b:=(m:Int)) (by omega)
    have:=Int.emod_nonneg (IntKind.u64.wrap a) (b:=(m:Int)) (by omega)
    omega
  · rw [Int.tmod_eq_emod_of_nonneg h1]
    have:=Int.emod_nonneg (IntKind.u64.wrap a) (b:=(m:Int)) (by omega)
    omega
theorem u_same (n m:Nat) (h:n<m) (hm:m<18446744073709551616):Int.tmod (IntKind.u64.wrap (n:Int)) m=n:=by
  have h1:IntKind.u64.wrap (n:Int)=(n:Int) % 18446744073709551616:=rfl
  rw [h1,Int.emod_eq_of_lt (by omega) (by omega),Int.tmod_eq_emod_of_nonneg (by omega),Int.emod_eq_of_lt (by omega) (by omega)]
end Go.Proofs.Ytjdlnmbfomojdaa
