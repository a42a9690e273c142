/- LcB3 LcB5 -/
import Derived.Test.YtjdlnmbfomojdaaKGLiveChain
import Derived.KernelRfl
namespace Go.Proofs.Ytjdlnmbfomojdaa
open Go.RowKit
set_option maxRecDepth 100000
set_option maxHeartbeats 40000000
theorem lc_29_18:∀ b<6,LcOk 29 (b+18)=true:=by decide +kernel
theorem lc_27_12:∀ b<6,LcOk 27 (b+12)=true:=by decide +kernel
theorem lc_25_12:∀ b<6,LcOk 25 (b+12)=true:=by decide +kernel
theorem lc_23_6:∀ b<6,LcOk 23 (b+6)=true:=by decide +kernel
theorem lc_21_12:∀ b<6,LcOk 21 (b+12)=true:=by decide +kernel
theorem lc_19_12:∀ b<6,LcOk 19 (b+12)=true:=by decide +kernel
theorem lc_21_18:∀ b<4,LcOk 21 (b+18)=true:=by decide +kernel
theorem lc_13_0:∀ b<6,LcOk 13 (b+0)=true:=by decide +kernel
theorem lc_11_6:∀ b<6,LcOk 11 (b+6)=true:=by decide +kernel
theorem lc_7_0:∀ b<6,LcOk 7 (b+0)=true:=by decide +kernel
theorem lc_4_0:∀ b<5,LcOk 4 (b+0)=true:=by decide +kernel
end Go.Proofs.Ytjdlnmbfomojdaa
namespace Go.Proofs.Ytjdlnmbfomojdaa
open Go.RowKit
set_option maxRecDepth 100000
set_option maxHeartbeats 40000000
theorem lc_28_0:∀ b<6,LcOk 28 (b+0)=true:=by decide +kernel
theorem lc_26_0:∀ b<6,LcOk 26 (b+0)=true:=by decide +kernel
theorem lc_28_24:∀ b<5,LcOk 28 (b+24)=true:=by decide +kernel
theorem lc_23_18:∀ b<6,LcOk 23 (b+18)=true:=by decide +kernel
theorem lc_20_0:∀ b<6,LcOk 20 (b+0)=true:=by decide +kernel
theorem lc_18_6:∀ b<6,LcOk 18 (b+6)=true:=by decide +kernel
theorem lc_16_6:∀ b<6,LcOk 16 (b+6)=true:=by decide +kernel
theorem lc_20_18:∀ b<3,LcOk 20 (b+18)=true:=by decide +kernel
theorem lc_19_18:∀ b<2,LcOk 19 (b+18)=true:=by decide +kernel
theorem lc_13_12:∀ b<2,LcOk 13 (b+12)=true:=by decide +kernel
theorem lc_3_0:∀ b<4,LcOk 3 (b+0)=true:=by decide +kernel
end Go.Proofs.Ytjdlnmbfomojdaa
