/- Wn6e -/
import Derived.Test.YtaojmbkmicjecaaGreatKWnL
import Derived.KernelRfl
namespace Go.Proofs.YtaojmbkmicjecaaGreat
open Go.RowKit
set_option linter.unusedVariables false
set_option maxRecDepth 100000
namespace wn
theorem f6_fttttt:∀ k,k<6→tailW 6 [false,true,true,true,true,true] k
  | 0,_=>by unfold tailW; kernel_rfl
  | 1,_=>by unfold tailW; kernel_rfl
  | 2,_=>by unfold tailW; kernel_rfl
  | 3,_=>by unfold tailW; kernel_rfl
  | 4,_=>by unfold tailW; kernel_rfl
  | 5,_=>by unfold tailW; kernel_rfl
  | _+6,h=>by omega
theorem f6_fttttf:∀ k,k<6→tailW 6 [false,true,true,true,true,false] k
  | 0,_=>by unfold tailW; kernel_rfl
  | 1,_=>by unfold tailW; kernel_rfl
  | 2,_=>by unfold tailW; kernel_rfl
  | 3,_=>by unfold tailW; kernel_rfl
  | 4,_=>by unfold tailW; kernel_rfl
  | 5,_=>by unfold tailW; kernel_rfl
  | _+6,h=>by omega
theorem f6_ftttft:∀ k,k<6→tailW 6 [false,true,true,true,false,true] k
  | 0,_=>by unfold tailW; kernel_rfl
  | 1,_=>by unfold tailW; kernel_rfl
  | 2,_=>by unfold tailW; kernel_rfl
  | 3,_=>by unfold tailW; kernel_rfl
  | 4,_=>by unfold tailW; kernel_rfl
  | 5,_=>by unfold tailW; kernel_rfl
  | _+6,h=>by omega
theorem f6_ftttff:∀ k,k<6→tailW 6 [false,true,true,true,false,false] k
  | 0,_=>by unfold tailW; kernel_rfl
  | 1,_=>by unfold tailW; kernel_rfl
  | 2,_=>by unfold tailW; kernel_rfl
  | 3,_=>by unfold tailW; kernel_rfl
  | 4,_=>by unfold tailW; kernel_rfl
  | 5,_=>by unfold tailW; kernel_rfl
  | _+6,h=>by omega
theorem f6_fttftt:∀ k,k<6→tailW 6 [false,true,true,false,true,true] k
  | 0,_=>by unfold tailW; kernel_rfl
  | 1,_=>by unfold tailW; kernel_rfl
  | 2,_=>by unfold tailW; kernel_rfl
  | 3,_=>by unfold tailW; kernel_rfl
  | 4,_=>by unfold tailW; kernel_rfl
  | 5,_=>by unfold tailW; kernel_rfl
  | _+6,h=>by omega
theorem f6_fttftf:∀ k,k<6→tailW 6 [false,true,true,false,true,false] k
  | 0,_=>by unfold tailW; kernel_rfl
  | 1,_=>by unfold tailW; kernel_rfl
  | 2,_=>by unfold tailW; kernel_rfl
  | 3,_=>by unfold tailW; kernel_rfl
  | 4,_=>by unfold tailW; kernel_rfl
  | 5,_=>by unfold tailW; kernel_rfl
  | _+6,h=>by omega
theorem f6_fttfft:∀ k,k<6→tailW 6 [false,true,true,false,false,true] k
  | 0,_=>by unfold tailW; kernel_rfl
  | 1,_=>by unfold tailW; kernel_rfl
  | 2,_=>by unfold tailW; kernel_rfl
  | 3,_=>by unfold tailW; kernel_rfl
  | 4,_=>by unfold tailW; kernel_rfl
  | 5,_=>by unfold tailW; kernel_rfl
  | _+6,h=>by omega
theorem f6_fttfff:∀ k,k<6→tailW 6 [false,true,true,false,false,false] k
  | 0,_=>by unfold tailW; kernel_rfl
  | 1,_=>by unfold tailW; kernel_rfl
  | 2,_=>by unfold tailW; kernel_rfl
  | 3,_=>by unfold tailW; kernel_rfl
  | 4,_=>by unfold tailW; kernel_rfl
  | 5,_=>by unfold tailW; kernel_rfl
  | _+6,h=>by omega
end wn
end Go.Proofs.YtaojmbkmicjecaaGreat
