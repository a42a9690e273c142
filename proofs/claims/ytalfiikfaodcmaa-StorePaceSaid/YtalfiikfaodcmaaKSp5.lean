/- Sp5 Sp8 -/
import Derived.Test.YtalfiikfaodcmaaKGStore
import Derived.KernelRfl
namespace Go.Proofs.Ytalfiikfaodcmaa
open Go.RowKit
set_option maxHeartbeats 0 in
theorem sp_15_8:∀ a<3,∀ b<1,spOk (a+15) (b+8)=true:=by decide +kernel
set_option maxHeartbeats 0 in
theorem sp_91_0:∀ a<9,∀ b<9,spOk (a+91) (b+0)=true:=by decide +kernel
set_option maxHeartbeats 0 in
theorem sp_0_6:∀ a<4,∀ b<1,spOk (a+0) (b+6)=true:=by decide +kernel
set_option maxHeartbeats 0 in
theorem sp_16_5:∀ a<4,∀ b<1,spOk (a+16) (b+5)=true:=by decide +kernel
set_option maxHeartbeats 0 in
theorem sp_0_3:∀ a<6,∀ b<1,spOk (a+0) (b+3)=true:=by decide +kernel
set_option maxHeartbeats 0 in
theorem sp_24_1:∀ a<12,∀ b<1,spOk (a+24) (b+1)=true:=by decide +kernel
end Go.Proofs.Ytalfiikfaodcmaa
namespace Go.Proofs.Ytalfiikfaodcmaa
open Go.RowKit
set_option maxHeartbeats 0 in
theorem sp_24_8:∀ a<3,∀ b<1,spOk (a+24) (b+8)=true:=by decide +kernel
set_option maxHeartbeats 0 in
theorem sp_6_7:∀ a<3,∀ b<1,spOk (a+6) (b+7)=true:=by decide +kernel
set_option maxHeartbeats 0 in
theorem sp_12_6:∀ a<4,∀ b<1,spOk (a+12) (b+6)=true:=by decide +kernel
set_option maxHeartbeats 0 in
theorem sp_28_5:∀ a<4,∀ b<1,spOk (a+28) (b+5)=true:=by decide +kernel
set_option maxHeartbeats 0 in
theorem sp_18_3:∀ a<6,∀ b<1,spOk (a+18) (b+3)=true:=by decide +kernel
set_option maxHeartbeats 0 in
theorem sp_19_0:∀ a<18,∀ b<1,spOk (a+19) (b+0)=true:=by decide +kernel
end Go.Proofs.Ytalfiikfaodcmaa
