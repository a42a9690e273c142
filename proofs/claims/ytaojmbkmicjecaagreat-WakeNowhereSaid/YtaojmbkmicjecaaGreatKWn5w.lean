/- Wn5w -/
import Derived.Test.YtaojmbkmicjecaaGreatKWnL
import Derived.KernelRfl
namespace Go.Proofs.YtaojmbkmicjecaaGreat
open Go.RowKit
set_option linter.unusedVariables false
set_option maxRecDepth 100000
namespace wn
theorem made5:law14_made.m 100 [0,0,0] 4=some (NW 5 0 9 [],NW 5 0 9 [],[0,16,32],gsN 5):=by kernel_rfl
theorem w5_0_t:waitW 5 0 [true]:=by unfold waitW; kernel_rfl
theorem w5_0_f:waitW 5 0 [false]:=by unfold waitW; kernel_rfl
theorem w5_0:∀ b:List Bool,b.length=1→waitW 5 0 (b)
  | [true],_=>w5_0_t
  | [false],_=>w5_0_f
  | [],h=>by simp at h
  | _::_::_,h=>by simp at h
theorem w5_1_tt:waitW 5 1 [true,true]:=by unfold waitW; kernel_rfl
theorem w5_1_tf:waitW 5 1 [true,false]:=by unfold waitW; kernel_rfl
theorem w5_1_ft:waitW 5 1 [false,true]:=by unfold waitW; kernel_rfl
theorem w5_1_ff:waitW 5 1 [false,false]:=by unfold waitW; kernel_rfl
theorem w5_1:∀ b:List Bool,b.length=2→waitW 5 1 (b)
  | [true,true],_=>w5_1_tt
  | [true,false],_=>w5_1_tf
  | [false,true],_=>w5_1_ft
  | [false,false],_=>w5_1_ff
  | [],h=>by simp at h
  | [_],h=>by simp at h
  | _::_::_::_,h=>by simp at h
theorem w5_2_ttt:waitW 5 2 [true,true,true]:=by unfold waitW; kernel_rfl
theorem w5_2_ttf:waitW 5 2 [true,true,false]:=by unfold waitW; kernel_rfl
theorem w5_2_tft:waitW 5 2 [true,false,true]:=by unfold waitW; kernel_rfl
theorem w5_2_tff:waitW 5 2 [true,false,false]:=by unfold waitW; kernel_rfl
theorem w5_2_ftt:waitW 5 2 [false,true,true]:=by unfold waitW; kernel_rfl
theorem w5_2_ftf:waitW 5 2 [false,true,false]:=by unfold waitW; kernel_rfl
theorem w5_2_fft:waitW 5 2 [false,false,true]:=by unfold waitW; kernel_rfl
theorem w5_2_fff:waitW 5 2 [false,false,false]:=by unfold waitW; kernel_rfl
theorem w5_2:∀ b:List Bool,b.length=3→waitW 5 2 (b)
  | [true,true,true],_=>w5_2_ttt
  | [true,true,false],_=>w5_2_ttf
  | [true,false,true],_=>w5_2_tft
  | [true,false,false],_=>w5_2_tff
  | [false,true,true],_=>w5_2_ftt
  | [false,true,false],_=>w5_2_ftf
  | [false,false,true],_=>w5_2_fft
  | [false,false,false],_=>w5_2_fff
  | [],h=>by simp at h
  | [_],h=>by simp at h
  | [_,_],h=>by simp at h
  | _::_::_::_::_,h=>by simp at h
theorem w5_3_tttt:waitW 5 3 [true,true,true,true]:=by unfold waitW; kernel_rfl
theorem w5_3_tttf:waitW 5 3 [true,true,true,false]:=by unfold waitW; kernel_rfl
theorem w5_3_ttft:waitW 5 3 [true,true,false,true]:=by unfold waitW; kernel_rfl
theorem w5_3_ttff:waitW 5 3 [true,true,false,false]:=by unfold waitW; kernel_rfl
theorem w5_3_tftt:waitW 5 3 [true,false,true,true]:=by unfold waitW; kernel_rfl
theorem w5_3_tftf:waitW 5 3 [true,false,true,false]:=by unfold waitW; kernel_rfl
theorem w5_3_tfft:waitW 5 3 [true,false,false,true]:=by unfold waitW; kernel_rfl
theorem w5_3_tfff:waitW 5 3 [true,false,false,false]:=by unfold waitW; kernel_rfl
theorem w5_3_fttt:waitW 5 3 [false,true,true,true]:=by unfold waitW; kernel_rfl
theorem w5_3_fttf:waitW 5 3 [false,true,true,false]:=by unfold waitW; kernel_rfl
theorem w5_3_ftft:waitW 5 3 [false,true,false,true]:=by unfold waitW; kernel_rfl
theorem w5_3_ftff:waitW 5 3 [false,true,false,false]:=by unfold waitW; kernel_rfl
theorem w5_3_fftt:waitW 5 3 [false,false,true,true]:=by unfold waitW; kernel_rfl
theorem w5_3_fftf:waitW 5 3 [false,false,true,false]:=by unfold waitW; kernel_rfl
theorem w5_3_ffft:waitW 5 3 [false,false,false,true]:=by unfold waitW; kernel_rfl
theorem w5_3_ffff:waitW 5 3 [false,false,false,false]:=by unfold waitW; kernel_rfl
theorem w5_3:∀ b:List Bool,b.length=4→waitW 5 3 (b)
  | [true,true,true,true],_=>w5_3_tttt
  | [true,true,true,false],_=>w5_3_tttf
  | [true,true,false,true],_=>w5_3_ttft
  | [true,true,false,false],_=>w5_3_ttff
  | [true,false,true,true],_=>w5_3_tftt
  | [true,false,true,false],_=>w5_3_tftf
  | [true,false,false,true],_=>w5_3_tfft
  | [true,false,false,false],_=>w5_3_tfff
  | [false,true,true,true],_=>w5_3_fttt
  | [false,true,true,false],_=>w5_3_fttf
  | [false,true,false,true],_=>w5_3_ftft
  | [false,true,false,false],_=>w5_3_ftff
  | [false,false,true,true],_=>w5_3_fftt
  | [false,false,true,false],_=>w5_3_fftf
  | [false,false,false,true],_=>w5_3_ffft
  | [false,false,false,false],_=>w5_3_ffff
  | [],h=>by simp at h
  | [_],h=>by simp at h
  | [_,_],h=>by simp at h
  | [_,_,_],h=>by simp at h
  | _::_::_::_::_::_,h=>by simp at h
end wn
end Go.Proofs.YtaojmbkmicjecaaGreat
