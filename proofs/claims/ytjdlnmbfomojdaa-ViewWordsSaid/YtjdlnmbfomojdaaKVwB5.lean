/- VwB5 -/
import Derived.Test.YtjdlnmbfomojdaaKGView
import Derived.KernelRfl
namespace Go.Proofs.Ytjdlnmbfomojdaa
open Go.RowKit
set_option maxHeartbeats 0 in
theorem Vw_625:∀ b<25,∀ a<9,VwOk a (b+625)=true:=by decide +kernel
set_option maxHeartbeats 0 in
theorem Vw_650:∀ b<25,∀ a<9,VwOk a (b+650)=true:=by decide +kernel
set_option maxHeartbeats 0 in
theorem Vw_675:∀ b<25,∀ a<9,VwOk a (b+675)=true:=by decide +kernel
set_option maxHeartbeats 0 in
theorem Vw_700:∀ b<25,∀ a<9,VwOk a (b+700)=true:=by decide +kernel
set_option maxHeartbeats 0 in
theorem Vw_725:∀ b<25,∀ a<9,VwOk a (b+725)=true:=by decide +kernel
end Go.Proofs.Ytjdlnmbfomojdaa
