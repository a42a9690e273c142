/- Wn5x -/
import Derived.Test.YtaojmbkmicjecaaGreatKWnL
import Derived.KernelRfl
namespace Go.Proofs.YtaojmbkmicjecaaGreat
open Go.RowKit
set_option linter.unusedVariables false
set_option maxRecDepth 100000
namespace wn
theorem w5_4_ttttt:waitW 5 4 [true,true,true,true,true]:=by unfold waitW; kernel_rfl
theorem w5_4_ttttf:waitW 5 4 [true,true,true,true,false]:=by unfold waitW; kernel_rfl
theorem w5_4_tttft:waitW 5 4 [true,true,true,false,true]:=by unfold waitW; kernel_rfl
theorem w5_4_tttff:waitW 5 4 [true,true,true,false,false]:=by unfold waitW; kernel_rfl
theorem w5_4_ttftt:waitW 5 4 [true,true,false,true,true]:=by unfold waitW; kernel_rfl
theorem w5_4_ttftf:waitW 5 4 [true,true,false,true,false]:=by unfold waitW; kernel_rfl
theorem w5_4_ttfft:waitW 5 4 [true,true,false,false,true]:=by unfold waitW; kernel_rfl
theorem w5_4_ttfff:waitW 5 4 [true,true,false,false,false]:=by unfold waitW; kernel_rfl
theorem w5_4_tfttt:waitW 5 4 [true,false,true,true,true]:=by unfold waitW; kernel_rfl
theorem w5_4_tfttf:waitW 5 4 [true,false,true,true,false]:=by unfold waitW; kernel_rfl
theorem w5_4_tftft:waitW 5 4 [true,false,true,false,true]:=by unfold waitW; kernel_rfl
theorem w5_4_tftff:waitW 5 4 [true,false,true,false,false]:=by unfold waitW; kernel_rfl
theorem w5_4_tfftt:waitW 5 4 [true,false,false,true,true]:=by unfold waitW; kernel_rfl
theorem w5_4_tfftf:waitW 5 4 [true,false,false,true,false]:=by unfold waitW; kernel_rfl
theorem w5_4_tffft:waitW 5 4 [true,false,false,false,true]:=by unfold waitW; kernel_rfl
theorem w5_4_tffff:waitW 5 4 [true,false,false,false,false]:=by unfold waitW; kernel_rfl
theorem w5_4_ftttt:waitW 5 4 [false,true,true,true,true]:=by unfold waitW; kernel_rfl
theorem w5_4_ftttf:waitW 5 4 [false,true,true,true,false]:=by unfold waitW; kernel_rfl
theorem w5_4_fttft:waitW 5 4 [false,true,true,false,true]:=by unfold waitW; kernel_rfl
theorem w5_4_fttff:waitW 5 4 [false,true,true,false,false]:=by unfold waitW; kernel_rfl
theorem w5_4_ftftt:waitW 5 4 [false,true,false,true,true]:=by unfold waitW; kernel_rfl
theorem w5_4_ftftf:waitW 5 4 [false,true,false,true,false]:=by unfold waitW; kernel_rfl
theorem w5_4_ftfft:waitW 5 4 [false,true,false,false,true]:=by unfold waitW; kernel_rfl
theorem w5_4_ftfff:waitW 5 4 [false,true,false,false,false]:=by unfold waitW; kernel_rfl
theorem w5_4_ffttt:waitW 5 4 [false,false,true,true,true]:=by unfold waitW; kernel_rfl
theorem w5_4_ffttf:waitW 5 4 [false,false,true,true,false]:=by unfold waitW; kernel_rfl
theorem w5_4_fftft:waitW 5 4 [false,false,true,false,true]:=by unfold waitW; kernel_rfl
theorem w5_4_fftff:waitW 5 4 [false,false,true,false,false]:=by unfold waitW; kernel_rfl
theorem w5_4_ffftt:waitW 5 4 [false,false,false,true,true]:=by unfold waitW; kernel_rfl
theorem w5_4_ffftf:waitW 5 4 [false,false,false,true,false]:=by unfold waitW; kernel_rfl
theorem w5_4_fffft:waitW 5 4 [false,false,false,false,true]:=by unfold waitW; kernel_rfl
theorem w5_4_fffff:waitW 5 4 [false,false,false,false,false]:=by unfold waitW; kernel_rfl
theorem w5_4:∀ b:List Bool,b.length=5→waitW 5 4 (b)
  | [true,true,true,true,true],_=>w5_4_ttttt
  | [true,true,true,true,false],_=>w5_4_ttttf
  | [true,true,true,false,true],_=>w5_4_tttft
  | [true,true,true,false,false],_=>w5_4_tttff
  | [true,true,false,true,true],_=>w5_4_ttftt
  | [true,true,false,true,false],_=>w5_4_ttftf
  | [true,true,false,false,true],_=>w5_4_ttfft
  | [true,true,false,false,false],_=>w5_4_ttfff
  | [true,false,true,true,true],_=>w5_4_tfttt
  | [true,false,true,true,false],_=>w5_4_tfttf
  | [true,false,true,false,true],_=>w5_4_tftft
  | [true,false,true,false,false],_=>w5_4_tftff
  | [true,false,false,true,true],_=>w5_4_tfftt
  | [true,false,false,true,false],_=>w5_4_tfftf
  | [true,false,false,false,true],_=>w5_4_tffft
  | [true,false,false,false,false],_=>w5_4_tffff
  | [false,true,true,true,true],_=>w5_4_ftttt
  | [false,true,true,true,false],_=>w5_4_ftttf
  | [false,true,true,false,true],_=>w5_4_fttft
  | [false,true,true,false,false],_=>w5_4_fttff
  | [false,true,false,true,true],_=>w5_4_ftftt
  | [false,true,false,true,false],_=>w5_4_ftftf
  | [false,true,false,false,true],_=>w5_4_ftfft
  | [false,true,false,false,false],_=>w5_4_ftfff
  | [false,false,true,true,true],_=>w5_4_ffttt
  | [false,false,true,true,false],_=>w5_4_ffttf
  | [false,false,true,false,true],_=>w5_4_fftft
  | [false,false,true,false,false],_=>w5_4_fftff
  | [false,false,false,true,true],_=>w5_4_ffftt
  | [false,false,false,true,false],_=>w5_4_ffftf
  | [false,false,false,false,true],_=>w5_4_fffft
  | [false,false,false,false,false],_=>w5_4_fffff
  | [],h=>by simp at h
  | [_],h=>by simp at h
  | [_,_],h=>by simp at h
  | [_,_,_],h=>by simp at h
  | [_,_,_,_],h=>by simp at h
  | _::_::_::_::_::_::_,h=>by simp at h
end wn
end Go.Proofs.YtaojmbkmicjecaaGreat
