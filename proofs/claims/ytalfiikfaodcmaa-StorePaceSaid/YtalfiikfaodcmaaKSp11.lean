/- Sp11 Sp13 -/
import Derived.Test.YtalfiikfaodcmaaKGStore
import Derived.KernelRfl
namespace Go.Proofs.Ytalfiikfaodcmaa
open Go.RowKit
set_option maxHeartbeats 0 in
theorem sp_33_8:∀ a<3,∀ b<1,spOk (a+33) (b+8)=true:=by decide +kernel
set_option maxHeartbeats 0 in
theorem sp_15_7:∀ a<3,∀ b<1,spOk (a+15) (b+7)=true:=by decide +kernel
set_option maxHeartbeats 0 in
theorem sp_24_6:∀ a<4,∀ b<1,spOk (a+24) (b+6)=true:=by decide +kernel
set_option maxHeartbeats 0 in
theorem sp_0_4:∀ a<5,∀ b<1,spOk (a+0) (b+4)=true:=by decide +kernel
set_option maxHeartbeats 0 in
theorem sp_36_3:∀ a<1,∀ b<1,spOk (a+36) (b+3)=true:=by decide +kernel
end Go.Proofs.Ytalfiikfaodcmaa
namespace Go.Proofs.Ytalfiikfaodcmaa
open Go.RowKit
set_option maxHeartbeats 0 in
theorem sp_37_0:∀ a<9,∀ b<9,spOk (a+37) (b+0)=true:=by decide +kernel
set_option maxHeartbeats 0 in
theorem sp_21_7:∀ a<3,∀ b<1,spOk (a+21) (b+7)=true:=by decide +kernel
set_option maxHeartbeats 0 in
theorem sp_32_6:∀ a<4,∀ b<1,spOk (a+32) (b+6)=true:=by decide +kernel
set_option maxHeartbeats 0 in
theorem sp_10_4:∀ a<5,∀ b<1,spOk (a+10) (b+4)=true:=by decide +kernel
set_option maxHeartbeats 0 in
theorem sp_8_2:∀ a<8,∀ b<1,spOk (a+8) (b+2)=true:=by decide +kernel
end Go.Proofs.Ytalfiikfaodcmaa
