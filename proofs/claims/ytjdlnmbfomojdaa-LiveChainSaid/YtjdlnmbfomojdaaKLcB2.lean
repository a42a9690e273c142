/- LcB2 LcB7 -/
import Derived.Test.YtjdlnmbfomojdaaKGLiveChain
import Derived.KernelRfl
namespace Go.Proofs.Ytjdlnmbfomojdaa
open Go.RowKit
set_option maxRecDepth 100000
set_option maxHeartbeats 40000000
theorem lc_29_12:∀ b<6,LcOk 29 (b+12)=true:=by decide +kernel
theorem lc_27_6:∀ b<6,LcOk 27 (b+6)=true:=by decide +kernel
theorem lc_25_6:∀ b<6,LcOk 25 (b+6)=true:=by decide +kernel
theorem lc_23_0:∀ b<6,LcOk 23 (b+0)=true:=by decide +kernel
theorem lc_21_6:∀ b<6,LcOk 21 (b+6)=true:=by decide +kernel
theorem lc_19_6:∀ b<6,LcOk 19 (b+6)=true:=by decide +kernel
theorem lc_26_24:∀ b<3,LcOk 26 (b+24)=true:=by decide +kernel
theorem lc_14_6:∀ b<6,LcOk 14 (b+6)=true:=by decide +kernel
theorem lc_11_0:∀ b<6,LcOk 11 (b+0)=true:=by decide +kernel
theorem lc_24_24:∀ b<1,LcOk 24 (b+24)=true:=by decide +kernel
theorem lc_12_12:∀ b<1,LcOk 12 (b+12)=true:=by decide +kernel
end Go.Proofs.Ytjdlnmbfomojdaa
namespace Go.Proofs.Ytjdlnmbfomojdaa
open Go.RowKit
set_option maxRecDepth 100000
set_option maxHeartbeats 40000000
theorem lc_28_12:∀ b<6,LcOk 28 (b+12)=true:=by decide +kernel
theorem lc_26_12:∀ b<6,LcOk 26 (b+12)=true:=by decide +kernel
theorem lc_24_6:∀ b<6,LcOk 24 (b+6)=true:=by decide +kernel
theorem lc_22_6:∀ b<6,LcOk 22 (b+6)=true:=by decide +kernel
theorem lc_20_12:∀ b<6,LcOk 20 (b+12)=true:=by decide +kernel
theorem lc_17_0:∀ b<6,LcOk 17 (b+0)=true:=by decide +kernel
theorem lc_15_6:∀ b<6,LcOk 15 (b+6)=true:=by decide +kernel
theorem lc_12_0:∀ b<6,LcOk 12 (b+0)=true:=by decide +kernel
theorem lc_10_6:∀ b<5,LcOk 10 (b+6)=true:=by decide +kernel
theorem lc_18_18:∀ b<1,LcOk 18 (b+18)=true:=by decide +kernel
theorem lc_2_0:∀ b<3,LcOk 2 (b+0)=true:=by decide +kernel
end Go.Proofs.Ytjdlnmbfomojdaa
