/- Wn3w -/
import Derived.Test.YtaojmbkmicjecaaGreatKWnL
import Derived.KernelRfl
namespace Go.Proofs.YtaojmbkmicjecaaGreat
open Go.RowKit
set_option linter.unusedVariables false
set_option maxRecDepth 100000
namespace wn
theorem made3:law14_made.m 100 [0,0,0] 2=some (NW 3 0 9 [],NW 3 0 9 [],[0,16,32],gsN 3):=by kernel_rfl
theorem w3_0_t:waitW 3 0 [true]:=by unfold waitW; kernel_rfl
theorem w3_0_f:waitW 3 0 [false]:=by unfold waitW; kernel_rfl
theorem w3_0:∀ b:List Bool,b.length=1→waitW 3 0 (b)
  | [true],_=>w3_0_t
  | [false],_=>w3_0_f
  | [],h=>by simp at h
  | _::_::_,h=>by simp at h
theorem w3_1_tt:waitW 3 1 [true,true]:=by unfold waitW; kernel_rfl
theorem w3_1_tf:waitW 3 1 [true,false]:=by unfold waitW; kernel_rfl
theorem w3_1_ft:waitW 3 1 [false,true]:=by unfold waitW; kernel_rfl
theorem w3_1_ff:waitW 3 1 [false,false]:=by unfold waitW; kernel_rfl
theorem w3_1:∀ b:List Bool,b.length=2→waitW 3 1 (b)
  | [true,true],_=>w3_1_tt
  | [true,false],_=>w3_1_tf
  | [false,true],_=>w3_1_ft
  | [false,false],_=>w3_1_ff
  | [],h=>by simp at h
  | [_],h=>by simp at h
  | _::_::_::_,h=>by simp at h
theorem w3_2_ttt:waitW 3 2 [true,true,true]:=by unfold waitW; kernel_rfl
theorem w3_2_ttf:waitW 3 2 [true,true,false]:=by unfold waitW; kernel_rfl
theorem w3_2_tft:waitW 3 2 [true,false,true]:=by unfold waitW; kernel_rfl
theorem w3_2_tff:waitW 3 2 [true,false,false]:=by unfold waitW; kernel_rfl
theorem w3_2_ftt:waitW 3 2 [false,true,true]:=by unfold waitW; kernel_rfl
theorem w3_2_ftf:waitW 3 2 [false,true,false]:=by unfold waitW; kernel_rfl
theorem w3_2_fft:waitW 3 2 [false,false,true]:=by unfold waitW; kernel_rfl
theorem w3_2_fff:waitW 3 2 [false,false,false]:=by unfold waitW; kernel_rfl
theorem w3_2:∀ b:List Bool,b.length=3→waitW 3 2 (b)
  | [true,true,true],_=>w3_2_ttt
  | [true,true,false],_=>w3_2_ttf
  | [true,false,true],_=>w3_2_tft
  | [true,false,false],_=>w3_2_tff
  | [false,true,true],_=>w3_2_ftt
  | [false,true,false],_=>w3_2_ftf
  | [false,false,true],_=>w3_2_fft
  | [false,false,false],_=>w3_2_fff
  | [],h=>by simp at h
  | [_],h=>by simp at h
  | [_,_],h=>by simp at h
  | _::_::_::_::_,h=>by simp at h
end wn
end Go.Proofs.YtaojmbkmicjecaaGreat
