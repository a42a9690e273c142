/- LnB1 LnB2 -/
import Derived.Test.YtjdlnmbfomojdaaKG22
import Derived.KernelRfl
namespace Go.Proofs.Ytjdlnmbfomojdaa
open Go.RowKit
set_option maxHeartbeats 0 in
theorem Ln_125:∀ a<25,∀ b<10,LnOk (a+125) b=true:=by decide +kernel
set_option maxHeartbeats 0 in
theorem Ln_150:∀ a<25,∀ b<10,LnOk (a+150) b=true:=by decide +kernel
set_option maxHeartbeats 0 in
theorem Ln_175:∀ a<25,∀ b<10,LnOk (a+175) b=true:=by decide +kernel
set_option maxHeartbeats 0 in
theorem Ln_200:∀ a<25,∀ b<10,LnOk (a+200) b=true:=by decide +kernel
set_option maxHeartbeats 0 in
theorem Ln_225:∀ a<25,∀ b<10,LnOk (a+225) b=true:=by decide +kernel
end Go.Proofs.Ytjdlnmbfomojdaa
namespace Go.Proofs.Ytjdlnmbfomojdaa
open Go.RowKit
set_option maxHeartbeats 0 in
theorem Ln_250:∀ a<25,∀ b<10,LnOk (a+250) b=true:=by decide +kernel
set_option maxHeartbeats 0 in
theorem Ln_275:∀ a<25,∀ b<10,LnOk (a+275) b=true:=by decide +kernel
set_option maxHeartbeats 0 in
theorem Ln_300:∀ a<25,∀ b<10,LnOk (a+300) b=true:=by decide +kernel
set_option maxHeartbeats 0 in
theorem Ln_325:∀ a<25,∀ b<10,LnOk (a+325) b=true:=by decide +kernel
set_option maxHeartbeats 0 in
theorem Ln_350:∀ a<25,∀ b<10,LnOk (a+350) b=true:=by decide +kernel
end Go.Proofs.Ytjdlnmbfomojdaa
