/- Wn3a -/
import Derived.Test.YtaojmbkmicjecaaGreatKWnL
import Derived.KernelRfl
namespace Go.Proofs.YtaojmbkmicjecaaGreat
open Go.RowKit
set_option linter.unusedVariables false
set_option maxRecDepth 100000
namespace wn
theorem f3_ttt:∀ k,k<3→tailW 3 [true,true,true] k
  | 0,_=>by unfold tailW; kernel_rfl
  | 1,_=>by unfold tailW; kernel_rfl
  | 2,_=>by unfold tailW; kernel_rfl
  | _+3,h=>by omega
theorem f3_ttf:∀ k,k<3→tailW 3 [true,true,false] k
  | 0,_=>by unfold tailW; kernel_rfl
  | 1,_=>by unfold tailW; kernel_rfl
  | 2,_=>by unfold tailW; kernel_rfl
  | _+3,h=>by omega
theorem f3_tft:∀ k,k<3→tailW 3 [true,false,true] k
  | 0,_=>by unfold tailW; kernel_rfl
  | 1,_=>by unfold tailW; kernel_rfl
  | 2,_=>by unfold tailW; kernel_rfl
  | _+3,h=>by omega
theorem f3_tff:∀ k,k<3→tailW 3 [true,false,false] k
  | 0,_=>by unfold tailW; kernel_rfl
  | 1,_=>by unfold tailW; kernel_rfl
  | 2,_=>by unfold tailW; kernel_rfl
  | _+3,h=>by omega
theorem f3_ftt:∀ k,k<3→tailW 3 [false,true,true] k
  | 0,_=>by unfold tailW; kernel_rfl
  | 1,_=>by unfold tailW; kernel_rfl
  | 2,_=>by unfold tailW; kernel_rfl
  | _+3,h=>by omega
theorem f3_ftf:∀ k,k<3→tailW 3 [false,true,false] k
  | 0,_=>by unfold tailW; kernel_rfl
  | 1,_=>by unfold tailW; kernel_rfl
  | 2,_=>by unfold tailW; kernel_rfl
  | _+3,h=>by omega
theorem f3_fft:∀ k,k<3→tailW 3 [false,false,true] k
  | 0,_=>by unfold tailW; kernel_rfl
  | 1,_=>by unfold tailW; kernel_rfl
  | 2,_=>by unfold tailW; kernel_rfl
  | _+3,h=>by omega
theorem f3_fff:∀ k,k<3→tailW 3 [false,false,false] k
  | 0,_=>by unfold tailW; kernel_rfl
  | 1,_=>by unfold tailW; kernel_rfl
  | 2,_=>by unfold tailW; kernel_rfl
  | _+3,h=>by omega
end wn
end Go.Proofs.YtaojmbkmicjecaaGreat
