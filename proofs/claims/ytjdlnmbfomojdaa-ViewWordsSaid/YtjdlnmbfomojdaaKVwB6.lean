/- VwB6 -/
import Derived.Test.YtjdlnmbfomojdaaKGView
import Derived.KernelRfl
namespace Go.Proofs.Ytjdlnmbfomojdaa
open Go.RowKit
set_option maxHeartbeats 0 in
theorem Vw_750:∀ b<25,∀ a<9,VwOk a (b+750)=true:=by decide +kernel
set_option maxHeartbeats 0 in
theorem Vw_775:∀ b<25,∀ a<9,VwOk a (b+775)=true:=by decide +kernel
set_option maxHeartbeats 0 in
theorem Vw_800:∀ b<25,∀ a<9,VwOk a (b+800)=true:=by decide +kernel
set_option maxHeartbeats 0 in
theorem Vw_825:∀ b<25,∀ a<9,VwOk a (b+825)=true:=by decide +kernel
set_option maxHeartbeats 0 in
theorem Vw_850:∀ b<25,∀ a<9,VwOk a (b+850)=true:=by decide +kernel
end Go.Proofs.Ytjdlnmbfomojdaa
