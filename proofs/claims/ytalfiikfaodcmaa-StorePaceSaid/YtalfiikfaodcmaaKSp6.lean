/- Sp6 Sp10 -/
import Derived.Test.YtalfiikfaodcmaaKGStore
import Derived.KernelRfl
namespace Go.Proofs.Ytalfiikfaodcmaa
open Go.RowKit
set_option maxHeartbeats 0 in
theorem sp_18_8:∀ a<3,∀ b<1,spOk (a+18) (b+8)=true:=by decide +kernel
set_option maxHeartbeats 0 in
theorem sp_0_7:∀ a<3,∀ b<1,spOk (a+0) (b+7)=true:=by decide +kernel
set_option maxHeartbeats 0 in
theorem sp_4_6:∀ a<4,∀ b<1,spOk (a+4) (b+6)=true:=by decide +kernel
set_option maxHeartbeats 0 in
theorem sp_20_5:∀ a<4,∀ b<1,spOk (a+20) (b+5)=true:=by decide +kernel
set_option maxHeartbeats 0 in
theorem sp_6_3:∀ a<6,∀ b<1,spOk (a+6) (b+3)=true:=by decide +kernel
set_option maxHeartbeats 0 in
theorem sp_36_1:∀ a<1,∀ b<1,spOk (a+36) (b+1)=true:=by decide +kernel
end Go.Proofs.Ytalfiikfaodcmaa
namespace Go.Proofs.Ytalfiikfaodcmaa
open Go.RowKit
set_option maxHeartbeats 0 in
theorem sp_30_8:∀ a<3,∀ b<1,spOk (a+30) (b+8)=true:=by decide +kernel
set_option maxHeartbeats 0 in
theorem sp_12_7:∀ a<3,∀ b<1,spOk (a+12) (b+7)=true:=by decide +kernel
set_option maxHeartbeats 0 in
theorem sp_20_6:∀ a<4,∀ b<1,spOk (a+20) (b+6)=true:=by decide +kernel
set_option maxHeartbeats 0 in
theorem sp_36_5:∀ a<1,∀ b<1,spOk (a+36) (b+5)=true:=by decide +kernel
set_option maxHeartbeats 0 in
theorem sp_30_3:∀ a<6,∀ b<1,spOk (a+30) (b+3)=true:=by decide +kernel
end Go.Proofs.Ytalfiikfaodcmaa
