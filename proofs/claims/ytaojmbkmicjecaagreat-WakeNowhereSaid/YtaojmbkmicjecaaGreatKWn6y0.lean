/- Wn6y0 -/
import Derived.Test.YtaojmbkmicjecaaGreatKWnL
import Derived.KernelRfl
namespace Go.Proofs.YtaojmbkmicjecaaGreat
open Go.RowKit
set_option linter.unusedVariables false
set_option maxRecDepth 100000
namespace wn
theorem w6_5_0_tttt:waitW 6 5 [true,true,true,true,true,true]:=by unfold waitW; kernel_rfl
theorem w6_5_0_tttf:waitW 6 5 [true,true,true,true,true,false]:=by unfold waitW; kernel_rfl
theorem w6_5_0_ttft:waitW 6 5 [true,true,true,true,false,true]:=by unfold waitW; kernel_rfl
theorem w6_5_0_ttff:waitW 6 5 [true,true,true,true,false,false]:=by unfold waitW; kernel_rfl
theorem w6_5_0_tftt:waitW 6 5 [true,true,true,false,true,true]:=by unfold waitW; kernel_rfl
theorem w6_5_0_tftf:waitW 6 5 [true,true,true,false,true,false]:=by unfold waitW; kernel_rfl
theorem w6_5_0_tfft:waitW 6 5 [true,true,true,false,false,true]:=by unfold waitW; kernel_rfl
theorem w6_5_0_tfff:waitW 6 5 [true,true,true,false,false,false]:=by unfold waitW; kernel_rfl
theorem w6_5_0_fttt:waitW 6 5 [true,true,false,true,true,true]:=by unfold waitW; kernel_rfl
theorem w6_5_0_fttf:waitW 6 5 [true,true,false,true,true,false]:=by unfold waitW; kernel_rfl
theorem w6_5_0_ftft:waitW 6 5 [true,true,false,true,false,true]:=by unfold waitW; kernel_rfl
theorem w6_5_0_ftff:waitW 6 5 [true,true,false,true,false,false]:=by unfold waitW; kernel_rfl
theorem w6_5_0_fftt:waitW 6 5 [true,true,false,false,true,true]:=by unfold waitW; kernel_rfl
theorem w6_5_0_fftf:waitW 6 5 [true,true,false,false,true,false]:=by unfold waitW; kernel_rfl
theorem w6_5_0_ffft:waitW 6 5 [true,true,false,false,false,true]:=by unfold waitW; kernel_rfl
theorem w6_5_0_ffff:waitW 6 5 [true,true,false,false,false,false]:=by unfold waitW; kernel_rfl
theorem w6_5_0:∀ b:List Bool,b.length=4→waitW 6 5 (true::true::b)
  | [true,true,true,true],_=>w6_5_0_tttt
  | [true,true,true,false],_=>w6_5_0_tttf
  | [true,true,false,true],_=>w6_5_0_ttft
  | [true,true,false,false],_=>w6_5_0_ttff
  | [true,false,true,true],_=>w6_5_0_tftt
  | [true,false,true,false],_=>w6_5_0_tftf
  | [true,false,false,true],_=>w6_5_0_tfft
  | [true,false,false,false],_=>w6_5_0_tfff
  | [false,true,true,true],_=>w6_5_0_fttt
  | [false,true,true,false],_=>w6_5_0_fttf
  | [false,true,false,true],_=>w6_5_0_ftft
  | [false,true,false,false],_=>w6_5_0_ftff
  | [false,false,true,true],_=>w6_5_0_fftt
  | [false,false,true,false],_=>w6_5_0_fftf
  | [false,false,false,true],_=>w6_5_0_ffft
  | [false,false,false,false],_=>w6_5_0_ffff
  | [],h=>by simp at h
  | [_],h=>by simp at h
  | [_,_],h=>by simp at h
  | [_,_,_],h=>by simp at h
  | _::_::_::_::_::_,h=>by simp at h
end wn
end Go.Proofs.YtaojmbkmicjecaaGreat
