/- Wn6a -/
import Derived.Test.YtaojmbkmicjecaaGreatKWnL
import Derived.KernelRfl
namespace Go.Proofs.YtaojmbkmicjecaaGreat
open Go.RowKit
set_option linter.unusedVariables false
set_option maxRecDepth 100000
namespace wn
theorem f6_tttttt:∀ k,k<6→tailW 6 [true,true,true,true,true,true] k
  | 0,_=>by unfold tailW; kernel_rfl
  | 1,_=>by unfold tailW; kernel_rfl
  | 2,_=>by unfold tailW; kernel_rfl
  | 3,_=>by unfold tailW; kernel_rfl
  | 4,_=>by unfold tailW; kernel_rfl
  | 5,_=>by unfold tailW; kernel_rfl
  | _+6,h=>by omega
theorem f6_tttttf:∀ k,k<6→tailW 6 [true,true,true,true,true,false] k
  | 0,_=>by unfold tailW; kernel_rfl
  | 1,_=>by unfold tailW; kernel_rfl
  | 2,_=>by unfold tailW; kernel_rfl
  | 3,_=>by unfold tailW; kernel_rfl
  | 4,_=>by unfold tailW; kernel_rfl
  | 5,_=>by unfold tailW; kernel_rfl
  | _+6,h=>by omega
theorem f6_ttttft:∀ k,k<6→tailW 6 [true,true,true,true,false,true] k
  | 0,_=>by unfold tailW; kernel_rfl
  | 1,_=>by unfold tailW; kernel_rfl
  | 2,_=>by unfold tailW; kernel_rfl
  | 3,_=>by unfold tailW; kernel_rfl
  | 4,_=>by unfold tailW; kernel_rfl
  | 5,_=>by unfold tailW; kernel_rfl
  | _+6,h=>by omega
theorem f6_ttttff:∀ k,k<6→tailW 6 [true,true,true,true,false,false] k
  | 0,_=>by unfold tailW; kernel_rfl
  | 1,_=>by unfold tailW; kernel_rfl
  | 2,_=>by unfold tailW; kernel_rfl
  | 3,_=>by unfold tailW; kernel_rfl
  | 4,_=>by unfold tailW; kernel_rfl
  | 5,_=>by unfold tailW; kernel_rfl
  | _+6,h=>by omega
theorem f6_tttftt:∀ k,k<6→tailW 6 [true,true,true,false,true,true] k
  | 0,_=>by unfold tailW; kernel_rfl
  | 1,_=>by unfold tailW; kernel_rfl
  | 2,_=>by unfold tailW; kernel_rfl
  | 3,_=>by unfold tailW; kernel_rfl
  | 4,_=>by unfold tailW; kernel_rfl
  | 5,_=>by unfold tailW; kernel_rfl
  | _+6,h=>by omega
theorem f6_tttftf:∀ k,k<6→tailW 6 [true,true,true,false,true,false] k
  | 0,_=>by unfold tailW; kernel_rfl
  | 1,_=>by unfold tailW; kernel_rfl
  | 2,_=>by unfold tailW; kernel_rfl
  | 3,_=>by unfold tailW; kernel_rfl
  | 4,_=>by unfold tailW; kernel_rfl
  | 5,_=>by unfold tailW; kernel_rfl
  | _+6,h=>by omega
theorem f6_tttfft:∀ k,k<6→tailW 6 [true,true,true,false,false,true] k
  | 0,_=>by unfold tailW; kernel_rfl
  | 1,_=>by unfold tailW; kernel_rfl
  | 2,_=>by unfold tailW; kernel_rfl
  | 3,_=>by unfold tailW; kernel_rfl
  | 4,_=>by unfold tailW; kernel_rfl
  | 5,_=>by unfold tailW; kernel_rfl
  | _+6,h=>by omega
theorem f6_tttfff:∀ k,k<6→tailW 6 [true,true,true,false,false,false] k
  | 0,_=>by unfold tailW; kernel_rfl
  | 1,_=>by unfold tailW; kernel_rfl
  | 2,_=>by unfold tailW; kernel_rfl
  | 3,_=>by unfold tailW; kernel_rfl
  | 4,_=>by unfold tailW; kernel_rfl
  | 5,_=>by unfold tailW; kernel_rfl
  | _+6,h=>by omega
end wn
end Go.Proofs.YtaojmbkmicjecaaGreat
