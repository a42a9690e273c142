/- LnB7 -/
import Derived.Test.YtjdlnmbfomojdaaKG22
import Derived.KernelRfl
namespace Go.Proofs.Ytjdlnmbfomojdaa
open Go.RowKit
set_option maxHeartbeats 0 in
theorem Ln_875:∀ a<25,∀ b<10,LnOk (a+875) b=true:=by decide +kernel
set_option maxHeartbeats 0 in
theorem Ln_900:∀ a<25,∀ b<10,LnOk (a+900) b=true:=by decide +kernel
set_option maxHeartbeats 0 in
theorem Ln_925:∀ a<25,∀ b<10,LnOk (a+925) b=true:=by decide +kernel
set_option maxHeartbeats 0 in
theorem Ln_950:∀ a<25,∀ b<10,LnOk (a+950) b=true:=by decide +kernel
set_option maxHeartbeats 0 in
theorem Ln_975:∀ a<25,∀ b<10,LnOk (a+975) b=true:=by decide +kernel
end Go.Proofs.Ytjdlnmbfomojdaa
