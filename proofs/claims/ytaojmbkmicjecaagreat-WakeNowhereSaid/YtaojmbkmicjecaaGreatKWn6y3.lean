/- Wn6y3 -/
import Derived.Test.YtaojmbkmicjecaaGreatKWnL
import Derived.KernelRfl
namespace Go.Proofs.YtaojmbkmicjecaaGreat
open Go.RowKit
set_option linter.unusedVariables false
set_option maxRecDepth 100000
namespace wn
theorem w6_5_3_tttt:waitW 6 5 [false,false,true,true,true,true]:=by unfold waitW; kernel_rfl
theorem w6_5_3_tttf:waitW 6 5 [false,false,true,true,true,false]:=by unfold waitW; kernel_rfl
theorem w6_5_3_ttft:waitW 6 5 [false,false,true,true,false,true]:=by unfold waitW; kernel_rfl
theorem w6_5_3_ttff:waitW 6 5 [false,false,true,true,false,false]:=by unfold waitW; kernel_rfl
theorem w6_5_3_tftt:waitW 6 5 [false,false,true,false,true,true]:=by unfold waitW; kernel_rfl
theorem w6_5_3_tftf:waitW 6 5 [false,false,true,false,true,false]:=by unfold waitW; kernel_rfl
theorem w6_5_3_tfft:waitW 6 5 [false,false,true,false,false,true]:=by unfold waitW; kernel_rfl
theorem w6_5_3_tfff:waitW 6 5 [false,false,true,false,false,false]:=by unfold waitW; kernel_rfl
theorem w6_5_3_fttt:waitW 6 5 [false,false,false,true,true,true]:=by unfold waitW; kernel_rfl
theorem w6_5_3_fttf:waitW 6 5 [false,false,false,true,true,false]:=by unfold waitW; kernel_rfl
theorem w6_5_3_ftft:waitW 6 5 [false,false,false,true,false,true]:=by unfold waitW; kernel_rfl
theorem w6_5_3_ftff:waitW 6 5 [false,false,false,true,false,false]:=by unfold waitW; kernel_rfl
theorem w6_5_3_fftt:waitW 6 5 [false,false,false,false,true,true]:=by unfold waitW; kernel_rfl
theorem w6_5_3_fftf:waitW 6 5 [false,false,false,false,true,false]:=by unfold waitW; kernel_rfl
theorem w6_5_3_ffft:waitW 6 5 [false,false,false,false,false,true]:=by unfold waitW; kernel_rfl
theorem w6_5_3_ffff:waitW 6 5 [false,false,false,false,false,false]:=by unfold waitW; kernel_rfl
theorem w6_5_3:∀ b:List Bool,b.length=4→waitW 6 5 (false::false::b)
  | [true,true,true,true],_=>w6_5_3_tttt
  | [true,true,true,false],_=>w6_5_3_tttf
  | [true,true,false,true],_=>w6_5_3_ttft
  | [true,true,false,false],_=>w6_5_3_ttff
  | [true,false,true,true],_=>w6_5_3_tftt
  | [true,false,true,false],_=>w6_5_3_tftf
  | [true,false,false,true],_=>w6_5_3_tfft
  | [true,false,false,false],_=>w6_5_3_tfff
  | [false,true,true,true],_=>w6_5_3_fttt
  | [false,true,true,false],_=>w6_5_3_fttf
  | [false,true,false,true],_=>w6_5_3_ftft
  | [false,true,false,false],_=>w6_5_3_ftff
  | [false,false,true,true],_=>w6_5_3_fftt
  | [false,false,true,false],_=>w6_5_3_fftf
  | [false,false,false,true],_=>w6_5_3_ffft
  | [false,false,false,false],_=>w6_5_3_ffff
  | [],h=>by simp at h
  | [_],h=>by simp at h
  | [_,_],h=>by simp at h
  | [_,_,_],h=>by simp at h
  | _::_::_::_::_::_,h=>by simp at h
end wn
end Go.Proofs.YtaojmbkmicjecaaGreat
