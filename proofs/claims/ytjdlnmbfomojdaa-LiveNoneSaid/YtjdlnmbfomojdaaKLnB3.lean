/- LnB3 LnB4 -/
import Derived.Test.YtjdlnmbfomojdaaKG22
import Derived.KernelRfl
namespace Go.Proofs.Ytjdlnmbfomojdaa
open Go.RowKit
set_option maxHeartbeats 0 in
theorem Ln_375:∀ a<25,∀ b<10,LnOk (a+375) b=true:=by decide +kernel
set_option maxHeartbeats 0 in
theorem Ln_400:∀ a<25,∀ b<10,LnOk (a+400) b=true:=by decide +kernel
set_option maxHeartbeats 0 in
theorem Ln_425:∀ a<25,∀ b<10,LnOk (a+425) b=true:=by decide +kernel
set_option maxHeartbeats 0 in
theorem Ln_450:∀ a<25,∀ b<10,LnOk (a+450) b=true:=by decide +kernel
set_option maxHeartbeats 0 in
theorem Ln_475:∀ a<25,∀ b<10,LnOk (a+475) b=true:=by decide +kernel
end Go.Proofs.Ytjdlnmbfomojdaa
namespace Go.Proofs.Ytjdlnmbfomojdaa
open Go.RowKit
set_option maxHeartbeats 0 in
theorem Ln_500:∀ a<25,∀ b<10,LnOk (a+500) b=true:=by decide +kernel
set_option maxHeartbeats 0 in
theorem Ln_525:∀ a<25,∀ b<10,LnOk (a+525) b=true:=by decide +kernel
set_option maxHeartbeats 0 in
theorem Ln_550:∀ a<25,∀ b<10,LnOk (a+550) b=true:=by decide +kernel
set_option maxHeartbeats 0 in
theorem Ln_575:∀ a<25,∀ b<10,LnOk (a+575) b=true:=by decide +kernel
set_option maxHeartbeats 0 in
theorem Ln_600:∀ a<25,∀ b<10,LnOk (a+600) b=true:=by decide +kernel
end Go.Proofs.Ytjdlnmbfomojdaa
