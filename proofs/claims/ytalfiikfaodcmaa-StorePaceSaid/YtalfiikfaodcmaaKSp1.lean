/- Sp1 Sp2 -/
import Derived.Test.YtalfiikfaodcmaaKGStore
import Derived.KernelRfl
namespace Go.Proofs.Ytalfiikfaodcmaa
open Go.RowKit
set_option maxHeartbeats 0 in
theorem sp_3_8:∀ a<3,∀ b<1,spOk (a+3) (b+8)=true:=by decide +kernel
set_option maxHeartbeats 0 in
theorem sp_55_0:∀ a<9,∀ b<9,spOk (a+55) (b+0)=true:=by decide +kernel
set_option maxHeartbeats 0 in
theorem sp_27_7:∀ a<3,∀ b<1,spOk (a+27) (b+7)=true:=by decide +kernel
set_option maxHeartbeats 0 in
theorem sp_0_5:∀ a<4,∀ b<1,spOk (a+0) (b+5)=true:=by decide +kernel
set_option maxHeartbeats 0 in
theorem sp_20_4:∀ a<5,∀ b<1,spOk (a+20) (b+4)=true:=by decide +kernel
set_option maxHeartbeats 0 in
theorem sp_24_2:∀ a<8,∀ b<1,spOk (a+24) (b+2)=true:=by decide +kernel
end Go.Proofs.Ytalfiikfaodcmaa
namespace Go.Proofs.Ytalfiikfaodcmaa
open Go.RowKit
set_option maxHeartbeats 0 in
theorem sp_6_8:∀ a<3,∀ b<1,spOk (a+6) (b+8)=true:=by decide +kernel
set_option maxHeartbeats 0 in
theorem sp_64_0:∀ a<9,∀ b<9,spOk (a+64) (b+0)=true:=by decide +kernel
set_option maxHeartbeats 0 in
theorem sp_30_7:∀ a<3,∀ b<1,spOk (a+30) (b+7)=true:=by decide +kernel
set_option maxHeartbeats 0 in
theorem sp_4_5:∀ a<4,∀ b<1,spOk (a+4) (b+5)=true:=by decide +kernel
set_option maxHeartbeats 0 in
theorem sp_25_4:∀ a<5,∀ b<1,spOk (a+25) (b+4)=true:=by decide +kernel
set_option maxHeartbeats 0 in
theorem sp_32_2:∀ a<5,∀ b<1,spOk (a+32) (b+2)=true:=by decide +kernel
end Go.Proofs.Ytalfiikfaodcmaa
