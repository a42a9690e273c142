/- LcB4 LcB6 -/
import Derived.Test.YtjdlnmbfomojdaaKGLiveChain
import Derived.KernelRfl
namespace Go.Proofs.Ytjdlnmbfomojdaa
open Go.RowKit
set_option maxRecDepth 100000
set_option maxHeartbeats 40000000
theorem lc_29_24:∀ b<6,LcOk 29 (b+24)=true:=by decide +kernel
theorem lc_27_18:∀ b<6,LcOk 27 (b+18)=true:=by decide +kernel
theorem lc_25_18:∀ b<6,LcOk 25 (b+18)=true:=by decide +kernel
theorem lc_23_12:∀ b<6,LcOk 23 (b+12)=true:=by decide +kernel
theorem lc_27_24:∀ b<4,LcOk 27 (b+24)=true:=by decide +kernel
theorem lc_18_0:∀ b<6,LcOk 18 (b+0)=true:=by decide +kernel
theorem lc_16_0:∀ b<6,LcOk 16 (b+0)=true:=by decide +kernel
theorem lc_13_6:∀ b<6,LcOk 13 (b+6)=true:=by decide +kernel
theorem lc_10_0:∀ b<6,LcOk 10 (b+0)=true:=by decide +kernel
theorem lc_9_6:∀ b<4,LcOk 9 (b+6)=true:=by decide +kernel
theorem lc_7_6:∀ b<2,LcOk 7 (b+6)=true:=by decide +kernel
end Go.Proofs.Ytjdlnmbfomojdaa
namespace Go.Proofs.Ytjdlnmbfomojdaa
open Go.RowKit
set_option maxRecDepth 100000
set_option maxHeartbeats 40000000
theorem lc_28_6:∀ b<6,LcOk 28 (b+6)=true:=by decide +kernel
theorem lc_26_6:∀ b<6,LcOk 26 (b+6)=true:=by decide +kernel
theorem lc_24_0:∀ b<6,LcOk 24 (b+0)=true:=by decide +kernel
theorem lc_22_0:∀ b<6,LcOk 22 (b+0)=true:=by decide +kernel
theorem lc_20_6:∀ b<6,LcOk 20 (b+6)=true:=by decide +kernel
theorem lc_18_12:∀ b<6,LcOk 18 (b+12)=true:=by decide +kernel
theorem lc_15_0:∀ b<6,LcOk 15 (b+0)=true:=by decide +kernel
theorem lc_25_24:∀ b<2,LcOk 25 (b+24)=true:=by decide +kernel
theorem lc_9_0:∀ b<6,LcOk 9 (b+0)=true:=by decide +kernel
theorem lc_6_0:∀ b<6,LcOk 6 (b+0)=true:=by decide +kernel
theorem lc_6_6:∀ b<1,LcOk 6 (b+6)=true:=by decide +kernel
end Go.Proofs.Ytjdlnmbfomojdaa
