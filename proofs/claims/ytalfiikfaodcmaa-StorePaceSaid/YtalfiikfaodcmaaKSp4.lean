/- Sp4 -/
import Derived.Test.YtalfiikfaodcmaaKGStore
import Derived.KernelRfl
namespace Go.Proofs.Ytalfiikfaodcmaa
open Go.RowKit
set_option maxHeartbeats 0 in
theorem sp_12_8:∀ a<3,∀ b<1,spOk (a+12) (b+8)=true:=by decide +kernel
set_option maxHeartbeats 0 in
theorem sp_82_0:∀ a<9,∀ b<9,spOk (a+82) (b+0)=true:=by decide +kernel
set_option maxHeartbeats 0 in
theorem sp_36_7:∀ a<1,∀ b<1,spOk (a+36) (b+7)=true:=by decide +kernel
set_option maxHeartbeats 0 in
theorem sp_12_5:∀ a<4,∀ b<1,spOk (a+12) (b+5)=true:=by decide +kernel
set_option maxHeartbeats 0 in
theorem sp_35_4:∀ a<2,∀ b<1,spOk (a+35) (b+4)=true:=by decide +kernel
set_option maxHeartbeats 0 in
theorem sp_12_1:∀ a<12,∀ b<1,spOk (a+12) (b+1)=true:=by decide +kernel
end Go.Proofs.Ytalfiikfaodcmaa
