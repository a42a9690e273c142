/- Wn6y2 -/
import Derived.Test.YtaojmbkmicjecaaGreatKWnL
import Derived.KernelRfl
namespace Go.Proofs.YtaojmbkmicjecaaGreat
open Go.RowKit
set_option linter.unusedVariables false
set_option maxRecDepth 100000
namespace wn
theorem w6_5_2_tttt:waitW 6 5 [false,true,true,true,true,true]:=by unfold waitW; kernel_rfl
theorem w6_5_2_tttf:waitW 6 5 [false,true,true,true,true,false]:=by unfold waitW; kernel_rfl
theorem w6_5_2_ttft:waitW 6 5 [false,true,true,true,false,true]:=by unfold waitW; kernel_rfl
theorem w6_5_2_ttff:waitW 6 5 [false,true,true,true,false,false]:=by unfold waitW; kernel_rfl
theorem w6_5_2_tftt:waitW 6 5 [false,true,true,false,true,true]:=by unfold waitW; kernel_rfl
theorem w6_5_2_tftf:waitW 6 5 [false,true,true,false,true,false]:=by unfold waitW; kernel_rfl
theorem w6_5_2_tfft:waitW 6 5 [false,true,true,false,false,true]:=by unfold waitW; kernel_rfl
theorem w6_5_2_tfff:waitW 6 5 [false,true,true,false,false,false]:=by unfold waitW; kernel_rfl
theorem w6_5_2_fttt:waitW 6 5 [false,true,false,true,true,true]:=by unfold waitW; kernel_rfl
theorem w6_5_2_fttf:waitW 6 5 [false,true,false,true,true,false]:=by unfold waitW; kernel_rfl
theorem w6_5_2_ftft:waitW 6 5 [false,true,false,true,false,true]:=by unfold waitW; kernel_rfl
theorem w6_5_2_ftff:waitW 6 5 [false,true,false,true,false,false]:=by unfold waitW; kernel_rfl
theorem w6_5_2_fftt:waitW 6 5 [false,true,false,false,true,true]:=by unfold waitW; kernel_rfl
theorem w6_5_2_fftf:waitW 6 5 [false,true,false,false,true,false]:=by unfold waitW; kernel_rfl
theorem w6_5_2_ffft:waitW 6 5 [false,true,false,false,false,true]:=by unfold waitW; kernel_rfl
theorem w6_5_2_ffff:waitW 6 5 [false,true,false,false,false,false]:=by unfold waitW; kernel_rfl
theorem w6_5_2:∀ b:List Bool,b.length=4→waitW 6 5 (false::true::b)
  | [true,true,true,true],_=>w6_5_2_tttt
  | [true,true,true,false],_=>w6_5_2_tttf
  | [true,true,false,true],_=>w6_5_2_ttft
  | [true,true,false,false],_=>w6_5_2_ttff
  | [true,false,true,true],_=>w6_5_2_tftt
  | [true,false,true,false],_=>w6_5_2_tftf
  | [true,false,false,true],_=>w6_5_2_tfft
  | [true,false,false,false],_=>w6_5_2_tfff
  | [false,true,true,true],_=>w6_5_2_fttt
  | [false,true,true,false],_=>w6_5_2_fttf
  | [false,true,false,true],_=>w6_5_2_ftft
  | [false,true,false,false],_=>w6_5_2_ftff
  | [false,false,true,true],_=>w6_5_2_fftt
  | [false,false,true,false],_=>w6_5_2_fftf
  | [false,false,false,true],_=>w6_5_2_ffft
  | [false,false,false,false],_=>w6_5_2_ffff
  | [],h=>by simp at h
  | [_],h=>by simp at h
  | [_,_],h=>by simp at h
  | [_,_,_],h=>by simp at h
  | _::_::_::_::_::_,h=>by simp at h
end wn
end Go.Proofs.YtaojmbkmicjecaaGreat
