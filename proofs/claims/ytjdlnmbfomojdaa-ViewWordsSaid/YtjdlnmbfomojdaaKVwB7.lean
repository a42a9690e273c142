/- VwB7 -/
import Derived.Test.YtjdlnmbfomojdaaKGView
import Derived.KernelRfl
namespace Go.Proofs.Ytjdlnmbfomojdaa
open Go.RowKit
set_option maxHeartbeats 0 in
theorem Vw_875:∀ b<25,∀ a<9,VwOk a (b+875)=true:=by decide +kernel
set_option maxHeartbeats 0 in
theorem Vw_900:∀ b<25,∀ a<9,VwOk a (b+900)=true:=by decide +kernel
set_option maxHeartbeats 0 in
theorem Vw_925:∀ b<25,∀ a<9,VwOk a (b+925)=true:=by decide +kernel
set_option maxHeartbeats 0 in
theorem Vw_950:∀ b<25,∀ a<9,VwOk a (b+950)=true:=by decide +kernel
set_option maxHeartbeats 0 in
theorem Vw_975:∀ b<25,∀ a<9,VwOk a (b+975)=true:=by decide +kernel
end Go.Proofs.Ytjdlnmbfomojdaa
