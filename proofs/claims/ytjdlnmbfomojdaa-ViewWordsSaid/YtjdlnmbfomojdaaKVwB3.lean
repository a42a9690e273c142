/- VwB3 -/
import Derived.Test.YtjdlnmbfomojdaaKGView
import Derived.KernelRfl
namespace Go.Proofs.Ytjdlnmbfomojdaa
open Go.RowKit
set_option maxHeartbeats 0 in
theorem Vw_375:∀ b<25,∀ a<9,VwOk a (b+375)=true:=by decide +kernel
set_option maxHeartbeats 0 in
theorem Vw_400:∀ b<25,∀ a<9,VwOk a (b+400)=true:=by decide +kernel
set_option maxHeartbeats 0 in
theorem Vw_425:∀ b<25,∀ a<9,VwOk a (b+425)=true:=by decide +kernel
set_option maxHeartbeats 0 in
theorem Vw_450:∀ b<25,∀ a<9,VwOk a (b+450)=true:=by decide +kernel
set_option maxHeartbeats 0 in
theorem Vw_475:∀ b<25,∀ a<9,VwOk a (b+475)=true:=by decide +kernel
end Go.Proofs.Ytjdlnmbfomojdaa
