/- Wn6y1 -/
import Derived.Test.YtaojmbkmicjecaaGreatKWnL
import Derived.KernelRfl
namespace Go.Proofs.YtaojmbkmicjecaaGreat
open Go.RowKit
set_option linter.unusedVariables false
set_option maxRecDepth 100000
namespace wn
theorem w6_5_1_tttt:waitW 6 5 [true,false,true,true,true,true]:=by unfold waitW; kernel_rfl
theorem w6_5_1_tttf:waitW 6 5 [true,false,true,true,true,false]:=by unfold waitW; kernel_rfl
theorem w6_5_1_ttft:waitW 6 5 [true,false,true,true,false,true]:=by unfold waitW; kernel_rfl
theorem w6_5_1_ttff:waitW 6 5 [true,false,true,true,false,false]:=by unfold waitW; kernel_rfl
theorem w6_5_1_tftt:waitW 6 5 [true,false,true,false,true,true]:=by unfold waitW; kernel_rfl
theorem w6_5_1_tftf:waitW 6 5 [true,false,true,false,true,false]:=by unfold waitW; kernel_rfl
theorem w6_5_1_tfft:waitW 6 5 [true,false,true,false,false,true]:=by unfold waitW; kernel_rfl
theorem w6_5_1_tfff:waitW 6 5 [true,false,true,false,false,false]:=by unfold waitW; kernel_rfl
theorem w6_5_1_fttt:waitW 6 5 [true,false,false,true,true,true]:=by unfold waitW; kernel_rfl
theorem w6_5_1_fttf:waitW 6 5 [true,false,false,true,true,false]:=by unfold waitW; kernel_rfl
theorem w6_5_1_ftft:waitW 6 5 [true,false,false,true,false,true]:=by unfold waitW; kernel_rfl
theorem w6_5_1_ftff:waitW 6 5 [true,false,false,true,false,false]:=by unfold waitW; kernel_rfl
theorem w6_5_1_fftt:waitW 6 5 [true,false,false,false,true,true]:=by unfold waitW; kernel_rfl
theorem w6_5_1_fftf:waitW 6 5 [true,false,false,false,true,false]:=by unfold waitW; kernel_rfl
theorem w6_5_1_ffft:waitW 6 5 [true,false,false,false,false,true]:=by unfold waitW; kernel_rfl
theorem w6_5_1_ffff:waitW 6 5 [true,false,false,false,false,false]:=by unfold waitW; kernel_rfl
theorem w6_5_1:∀ b:List Bool,b.length=4→waitW 6 5 (true::false::b)
  | [true,true,true,true],_=>w6_5_1_tttt
  | [true,true,true,false],_=>w6_5_1_tttf
  | [true,true,false,true],_=>w6_5_1_ttft
  | [true,true,false,false],_=>w6_5_1_ttff
  | [true,false,true,true],_=>w6_5_1_tftt
  | [true,false,true,false],_=>w6_5_1_tftf
  | [true,false,false,true],_=>w6_5_1_tfft
  | [true,false,false,false],_=>w6_5_1_tfff
  | [false,true,true,true],_=>w6_5_1_fttt
  | [false,true,true,false],_=>w6_5_1_fttf
  | [false,true,false,true],_=>w6_5_1_ftft
  | [false,true,false,false],_=>w6_5_1_ftff
  | [false,false,true,true],_=>w6_5_1_fftt
  | [false,false,true,false],_=>w6_5_1_fftf
  | [false,false,false,true],_=>w6_5_1_ffft
  | [false,false,false,false],_=>w6_5_1_ffff
  | [],h=>by simp at h
  | [_],h=>by simp at h
  | [_,_],h=>by simp at h
  | [_,_,_],h=>by simp at h
  | _::_::_::_::_::_,h=>by simp at h
end wn
end Go.Proofs.YtaojmbkmicjecaaGreat
