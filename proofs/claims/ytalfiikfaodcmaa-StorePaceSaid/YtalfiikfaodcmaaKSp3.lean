/- Sp3 Sp7 -/
import Derived.Test.YtalfiikfaodcmaaKGStore
import Derived.KernelRfl
namespace Go.Proofs.Ytalfiikfaodcmaa
open Go.RowKit
set_option maxHeartbeats 0 in
theorem sp_9_8:∀ a<3,∀ b<1,spOk (a+9) (b+8)=true:=by decide +kernel
set_option maxHeartbeats 0 in
theorem sp_73_0:∀ a<9,∀ b<9,spOk (a+73) (b+0)=true:=by decide +kernel
set_option maxHeartbeats 0 in
theorem sp_33_7:∀ a<3,∀ b<1,spOk (a+33) (b+7)=true:=by decide +kernel
set_option maxHeartbeats 0 in
theorem sp_8_5:∀ a<4,∀ b<1,spOk (a+8) (b+5)=true:=by decide +kernel
set_option maxHeartbeats 0 in
theorem sp_30_4:∀ a<5,∀ b<1,spOk (a+30) (b+4)=true:=by decide +kernel
set_option maxHeartbeats 0 in
theorem sp_0_1:∀ a<12,∀ b<1,spOk (a+0) (b+1)=true:=by decide +kernel
end Go.Proofs.Ytalfiikfaodcmaa
namespace Go.Proofs.Ytalfiikfaodcmaa
open Go.RowKit
set_option maxHeartbeats 0 in
theorem sp_21_8:∀ a<3,∀ b<1,spOk (a+21) (b+8)=true:=by decide +kernel
set_option maxHeartbeats 0 in
theorem sp_3_7:∀ a<3,∀ b<1,spOk (a+3) (b+7)=true:=by decide +kernel
set_option maxHeartbeats 0 in
theorem sp_8_6:∀ a<4,∀ b<1,spOk (a+8) (b+6)=true:=by decide +kernel
set_option maxHeartbeats 0 in
theorem sp_24_5:∀ a<4,∀ b<1,spOk (a+24) (b+5)=true:=by decide +kernel
set_option maxHeartbeats 0 in
theorem sp_12_3:∀ a<6,∀ b<1,spOk (a+12) (b+3)=true:=by decide +kernel
set_option maxHeartbeats 0 in
theorem sp_0_0:∀ a<19,∀ b<1,spOk (a+0) (b+0)=true:=by decide +kernel
end Go.Proofs.Ytalfiikfaodcmaa
