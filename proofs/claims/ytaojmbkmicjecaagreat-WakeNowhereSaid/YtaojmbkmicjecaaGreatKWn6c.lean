/- Wn6c -/
import Derived.Test.YtaojmbkmicjecaaGreatKWnL
import Derived.KernelRfl
namespace Go.Proofs.YtaojmbkmicjecaaGreat
open Go.RowKit
set_option linter.unusedVariables false
set_option maxRecDepth 100000
namespace wn
theorem f6_tftttt:∀ k,k<6→tailW 6 [true,false,true,true,true,true] k
  | 0,_=>by unfold tailW; kernel_rfl
  | 1,_=>by unfold tailW; kernel_rfl
  | 2,_=>by unfold tailW; kernel_rfl
  | 3,_=>by unfold tailW; kernel_rfl
  | 4,_=>by unfold tailW; kernel_rfl
  | 5,_=>by unfold tailW; kernel_rfl
  | _+6,h=>by omega
theorem f6_tftttf:∀ k,k<6→tailW 6 [true,false,true,true,true,false] k
  | 0,_=>by unfold tailW; kernel_rfl
  | 1,_=>by unfold tailW; kernel_rfl
  | 2,_=>by unfold tailW; kernel_rfl
  | 3,_=>by unfold tailW; kernel_rfl
  | 4,_=>by unfold tailW; kernel_rfl
  | 5,_=>by unfold tailW; kernel_rfl
  | _+6,h=>by omega
theorem f6_tfttft:∀ k,k<6→tailW 6 [true,false,true,true,false,true] k
  | 0,_=>by unfold tailW; kernel_rfl
  | 1,_=>by unfold tailW; kernel_rfl
  | 2,_=>by unfold tailW; kernel_rfl
  | 3,_=>by unfold tailW; kernel_rfl
  | 4,_=>by unfold tailW; kernel_rfl
  | 5,_=>by unfold tailW; kernel_rfl
  | _+6,h=>by omega
theorem f6_tfttff:∀ k,k<6→tailW 6 [true,false,true,true,false,false] k
  | 0,_=>by unfold tailW; kernel_rfl
  | 1,_=>by unfold tailW; kernel_rfl
  | 2,_=>by unfold tailW; kernel_rfl
  | 3,_=>by unfold tailW; kernel_rfl
  | 4,_=>by unfold tailW; kernel_rfl
  | 5,_=>by unfold tailW; kernel_rfl
  | _+6,h=>by omega
theorem f6_tftftt:∀ k,k<6→tailW 6 [true,false,true,false,true,true] k
  | 0,_=>by unfold tailW; kernel_rfl
  | 1,_=>by unfold tailW; kernel_rfl
  | 2,_=>by unfold tailW; kernel_rfl
  | 3,_=>by unfold tailW; kernel_rfl
  | 4,_=>by unfold tailW; kernel_rfl
  | 5,_=>by unfold tailW; kernel_rfl
  | _+6,h=>by omega
theorem f6_tftftf:∀ k,k<6→tailW 6 [true,false,true,false,true,false] k
  | 0,_=>by unfold tailW; kernel_rfl
  | 1,_=>by unfold tailW; kernel_rfl
  | 2,_=>by unfold tailW; kernel_rfl
  | 3,_=>by unfold tailW; kernel_rfl
  | 4,_=>by unfold tailW; kernel_rfl
  | 5,_=>by unfold tailW; kernel_rfl
  | _+6,h=>by omega
theorem f6_tftfft:∀ k,k<6→tailW 6 [true,false,true,false,false,true] k
  | 0,_=>by unfold tailW; kernel_rfl
  | 1,_=>by unfold tailW; kernel_rfl
  | 2,_=>by unfold tailW; kernel_rfl
  | 3,_=>by unfold tailW; kernel_rfl
  | 4,_=>by unfold tailW; kernel_rfl
  | 5,_=>by unfold tailW; kernel_rfl
  | _+6,h=>by omega
theorem f6_tftfff:∀ k,k<6→tailW 6 [true,false,true,false,false,false] k
  | 0,_=>by unfold tailW; kernel_rfl
  | 1,_=>by unfold tailW; kernel_rfl
  | 2,_=>by unfold tailW; kernel_rfl
  | 3,_=>by unfold tailW; kernel_rfl
  | 4,_=>by unfold tailW; kernel_rfl
  | 5,_=>by unfold tailW; kernel_rfl
  | _+6,h=>by omega
end wn
end Go.Proofs.YtaojmbkmicjecaaGreat
