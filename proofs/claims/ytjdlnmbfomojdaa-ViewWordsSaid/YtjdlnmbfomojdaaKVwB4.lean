/- VwB4 -/
import Derived.Test.YtjdlnmbfomojdaaKGView
import Derived.KernelRfl
namespace Go.Proofs.Ytjdlnmbfomojdaa
open Go.RowKit
set_option maxHeartbeats 0 in
theorem Vw_500:∀ b<25,∀ a<9,VwOk a (b+500)=true:=by decide +kernel
set_option maxHeartbeats 0 in
theorem Vw_525:∀ b<25,∀ a<9,VwOk a (b+525)=true:=by decide +kernel
set_option maxHeartbeats 0 in
theorem Vw_550:∀ b<25,∀ a<9,VwOk a (b+550)=true:=by decide +kernel
set_option maxHeartbeats 0 in
theorem Vw_575:∀ b<25,∀ a<9,VwOk a (b+575)=true:=by decide +kernel
set_option maxHeartbeats 0 in
theorem Vw_600:∀ b<25,∀ a<9,VwOk a (b+600)=true:=by decide +kernel
end Go.Proofs.Ytjdlnmbfomojdaa
