/- Sp9 Sp12 -/
import Derived.Test.YtalfiikfaodcmaaKGStore
import Derived.KernelRfl
namespace Go.Proofs.Ytalfiikfaodcmaa
open Go.RowKit
set_option maxHeartbeats 0 in
theorem sp_27_8:∀ a<3,∀ b<1,spOk (a+27) (b+8)=true:=by decide +kernel
set_option maxHeartbeats 0 in
theorem sp_9_7:∀ a<3,∀ b<1,spOk (a+9) (b+7)=true:=by decide +kernel
set_option maxHeartbeats 0 in
theorem sp_16_6:∀ a<4,∀ b<1,spOk (a+16) (b+6)=true:=by decide +kernel
set_option maxHeartbeats 0 in
theorem sp_32_5:∀ a<4,∀ b<1,spOk (a+32) (b+5)=true:=by decide +kernel
set_option maxHeartbeats 0 in
theorem sp_24_3:∀ a<6,∀ b<1,spOk (a+24) (b+3)=true:=by decide +kernel
end Go.Proofs.Ytalfiikfaodcmaa
namespace Go.Proofs.Ytalfiikfaodcmaa
open Go.RowKit
set_option maxHeartbeats 0 in
theorem sp_36_8:∀ a<1,∀ b<1,spOk (a+36) (b+8)=true:=by decide +kernel
set_option maxHeartbeats 0 in
theorem sp_18_7:∀ a<3,∀ b<1,spOk (a+18) (b+7)=true:=by decide +kernel
set_option maxHeartbeats 0 in
theorem sp_28_6:∀ a<4,∀ b<1,spOk (a+28) (b+6)=true:=by decide +kernel
set_option maxHeartbeats 0 in
theorem sp_5_4:∀ a<5,∀ b<1,spOk (a+5) (b+4)=true:=by decide +kernel
set_option maxHeartbeats 0 in
theorem sp_0_2:∀ a<8,∀ b<1,spOk (a+0) (b+2)=true:=by decide +kernel
end Go.Proofs.Ytalfiikfaodcmaa
