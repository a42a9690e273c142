/- VwB1 VwB2 -/
import Derived.Test.YtjdlnmbfomojdaaKGView
import Derived.KernelRfl
namespace Go.Proofs.Ytjdlnmbfomojdaa
open Go.RowKit
set_option maxHeartbeats 0 in
theorem Vw_125:∀ b<25,∀ a<9,VwOk a (b+125)=true:=by decide +kernel
set_option maxHeartbeats 0 in
theorem Vw_150:∀ b<25,∀ a<9,VwOk a (b+150)=true:=by decide +kernel
set_option maxHeartbeats 0 in
theorem Vw_175:∀ b<25,∀ a<9,VwOk a (b+175)=true:=by decide +kernel
set_option maxHeartbeats 0 in
theorem Vw_200:∀ b<25,∀ a<9,VwOk a (b+200)=true:=by decide +kernel
set_option maxHeartbeats 0 in
theorem Vw_225:∀ b<25,∀ a<9,VwOk a (b+225)=true:=by decide +kernel
end Go.Proofs.Ytjdlnmbfomojdaa
namespace Go.Proofs.Ytjdlnmbfomojdaa
open Go.RowKit
set_option maxHeartbeats 0 in
theorem Vw_250:∀ b<25,∀ a<9,VwOk a (b+250)=true:=by decide +kernel
set_option maxHeartbeats 0 in
theorem Vw_275:∀ b<25,∀ a<9,VwOk a (b+275)=true:=by decide +kernel
set_option maxHeartbeats 0 in
theorem Vw_300:∀ b<25,∀ a<9,VwOk a (b+300)=true:=by decide +kernel
set_option maxHeartbeats 0 in
theorem Vw_325:∀ b<25,∀ a<9,VwOk a (b+325)=true:=by decide +kernel
set_option maxHeartbeats 0 in
theorem Vw_350:∀ b<25,∀ a<9,VwOk a (b+350)=true:=by decide +kernel
end Go.Proofs.Ytjdlnmbfomojdaa
