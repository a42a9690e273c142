/- Wn2w -/
import Derived.Test.YtaojmbkmicjecaaGreatKWnL
import Derived.KernelRfl
namespace Go.Proofs.YtaojmbkmicjecaaGreat
open Go.RowKit
set_option linter.unusedVariables false
set_option maxRecDepth 100000
namespace wn
theorem made2:law14_made.m 100 [0,0,0] 1=some (NW 2 0 9 [],NW 2 0 9 [],[0,16,32],gsN 2):=by kernel_rfl
theorem w2_0_t:waitW 2 0 [true]:=by unfold waitW; kernel_rfl
theorem w2_0_f:waitW 2 0 [false]:=by unfold waitW; kernel_rfl
theorem w2_0:∀ b:List Bool,b.length=1→waitW 2 0 (b)
  | [true],_=>w2_0_t
  | [false],_=>w2_0_f
  | [],h=>by simp at h
  | _::_::_,h=>by simp at h
theorem w2_1_tt:waitW 2 1 [true,true]:=by unfold waitW; kernel_rfl
theorem w2_1_tf:waitW 2 1 [true,false]:=by unfold waitW; kernel_rfl
theorem w2_1_ft:waitW 2 1 [false,true]:=by unfold waitW; kernel_rfl
theorem w2_1_ff:waitW 2 1 [false,false]:=by unfold waitW; kernel_rfl
theorem w2_1:∀ b:List Bool,b.length=2→waitW 2 1 (b)
  | [true,true],_=>w2_1_tt
  | [true,false],_=>w2_1_tf
  | [false,true],_=>w2_1_ft
  | [false,false],_=>w2_1_ff
  | [],h=>by simp at h
  | [_],h=>by simp at h
  | _::_::_::_,h=>by simp at h
end wn
end Go.Proofs.YtaojmbkmicjecaaGreat
