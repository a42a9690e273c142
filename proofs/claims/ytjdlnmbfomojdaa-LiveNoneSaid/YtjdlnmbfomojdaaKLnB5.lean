/- LnB5 LnB6 -/
import Derived.Test.YtjdlnmbfomojdaaKG22
import Derived.KernelRfl
namespace Go.Proofs.Ytjdlnmbfomojdaa
open Go.RowKit
set_option maxHeartbeats 0 in
theorem Ln_625:∀ a<25,∀ b<10,LnOk (a+625) b=true:=by decide +kernel
set_option maxHeartbeats 0 in
theorem Ln_650:∀ a<25,∀ b<10,LnOk (a+650) b=true:=by decide +kernel
set_option maxHeartbeats 0 in
theorem Ln_675:∀ a<25,∀ b<10,LnOk (a+675) b=true:=by decide +kernel
set_option maxHeartbeats 0 in
theorem Ln_700:∀ a<25,∀ b<10,LnOk (a+700) b=true:=by decide +kernel
set_option maxHeartbeats 0 in
theorem Ln_725:∀ a<25,∀ b<10,LnOk (a+725) b=true:=by decide +kernel
end Go.Proofs.Ytjdlnmbfomojdaa
namespace Go.Proofs.Ytjdlnmbfomojdaa
open Go.RowKit
set_option maxHeartbeats 0 in
theorem Ln_750:∀ a<25,∀ b<10,LnOk (a+750) b=true:=by decide +kernel
set_option maxHeartbeats 0 in
theorem Ln_775:∀ a<25,∀ b<10,LnOk (a+775) b=true:=by decide +kernel
set_option maxHeartbeats 0 in
theorem Ln_800:∀ a<25,∀ b<10,LnOk (a+800) b=true:=by decide +kernel
set_option maxHeartbeats 0 in
theorem Ln_825:∀ a<25,∀ b<10,LnOk (a+825) b=true:=by decide +kernel
set_option maxHeartbeats 0 in
theorem Ln_850:∀ a<25,∀ b<10,LnOk (a+850) b=true:=by decide +kernel
end Go.Proofs.Ytjdlnmbfomojdaa
