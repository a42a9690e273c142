/- Wn4a -/
import Derived.Test.YtaojmbkmicjecaaGreatKWnL
import Derived.KernelRfl
namespace Go.Proofs.YtaojmbkmicjecaaGreat
open Go.RowKit
set_option linter.unusedVariables false
set_option maxRecDepth 100000
namespace wn
theorem f4_tttt:∀ k,k<4→tailW 4 [true,true,true,true] k
  | 0,_=>by unfold tailW; kernel_rfl
  | 1,_=>by unfold tailW; kernel_rfl
  | 2,_=>by unfold tailW; kernel_rfl
  | 3,_=>by unfold tailW; kernel_rfl
  | _+4,h=>by omega
theorem f4_tttf:∀ k,k<4→tailW 4 [true,true,true,false] k
  | 0,_=>by unfold tailW; kernel_rfl
  | 1,_=>by unfold tailW; kernel_rfl
  | 2,_=>by unfold tailW; kernel_rfl
  | 3,_=>by unfold tailW; kernel_rfl
  | _+4,h=>by omega
theorem f4_ttft:∀ k,k<4→tailW 4 [true,true,false,true] k
  | 0,_=>by unfold tailW; kernel_rfl
  | 1,_=>by unfold tailW; kernel_rfl
  | 2,_=>by unfold tailW; kernel_rfl
  | 3,_=>by unfold tailW; kernel_rfl
  | _+4,h=>by omega
theorem f4_ttff:∀ k,k<4→tailW 4 [true,true,false,false] k
  | 0,_=>by unfold tailW; kernel_rfl
  | 1,_=>by unfold tailW; kernel_rfl
  | 2,_=>by unfold tailW; kernel_rfl
  | 3,_=>by unfold tailW; kernel_rfl
  | _+4,h=>by omega
theorem f4_tftt:∀ k,k<4→tailW 4 [true,false,true,true] k
  | 0,_=>by unfold tailW; kernel_rfl
  | 1,_=>by unfold tailW; kernel_rfl
  | 2,_=>by unfold tailW; kernel_rfl
  | 3,_=>by unfold tailW; kernel_rfl
  | _+4,h=>by omega
theorem f4_tftf:∀ k,k<4→tailW 4 [true,false,true,false] k
  | 0,_=>by unfold tailW; kernel_rfl
  | 1,_=>by unfold tailW; kernel_rfl
  | 2,_=>by unfold tailW; kernel_rfl
  | 3,_=>by unfold tailW; kernel_rfl
  | _+4,h=>by omega
theorem f4_tfft:∀ k,k<4→tailW 4 [true,false,false,true] k
  | 0,_=>by unfold tailW; kernel_rfl
  | 1,_=>by unfold tailW; kernel_rfl
  | 2,_=>by unfold tailW; kernel_rfl
  | 3,_=>by unfold tailW; kernel_rfl
  | _+4,h=>by omega
theorem f4_tfff:∀ k,k<4→tailW 4 [true,false,false,false] k
  | 0,_=>by unfold tailW; kernel_rfl
  | 1,_=>by unfold tailW; kernel_rfl
  | 2,_=>by unfold tailW; kernel_rfl
  | 3,_=>by unfold tailW; kernel_rfl
  | _+4,h=>by omega
theorem f4_fttt:∀ k,k<4→tailW 4 [false,true,true,true] k
  | 0,_=>by unfold tailW; kernel_rfl
  | 1,_=>by unfold tailW; kernel_rfl
  | 2,_=>by unfold tailW; kernel_rfl
  | 3,_=>by unfold tailW; kernel_rfl
  | _+4,h=>by omega
theorem f4_fttf:∀ k,k<4→tailW 4 [false,true,true,false] k
  | 0,_=>by unfold tailW; kernel_rfl
  | 1,_=>by unfold tailW; kernel_rfl
  | 2,_=>by unfold tailW; kernel_rfl
  | 3,_=>by unfold tailW; kernel_rfl
  | _+4,h=>by omega
theorem f4_ftft:∀ k,k<4→tailW 4 [false,true,false,true] k
  | 0,_=>by unfold tailW; kernel_rfl
  | 1,_=>by unfold tailW; kernel_rfl
  | 2,_=>by unfold tailW; kernel_rfl
  | 3,_=>by unfold tailW; kernel_rfl
  | _+4,h=>by omega
theorem f4_ftff:∀ k,k<4→tailW 4 [false,true,false,false] k
  | 0,_=>by unfold tailW; kernel_rfl
  | 1,_=>by unfold tailW; kernel_rfl
  | 2,_=>by unfold tailW; kernel_rfl
  | 3,_=>by unfold tailW; kernel_rfl
  | _+4,h=>by omega
theorem f4_fftt:∀ k,k<4→tailW 4 [false,false,true,true] k
  | 0,_=>by unfold tailW; kernel_rfl
  | 1,_=>by unfold tailW; kernel_rfl
  | 2,_=>by unfold tailW; kernel_rfl
  | 3,_=>by unfold tailW; kernel_rfl
  | _+4,h=>by omega
theorem f4_fftf:∀ k,k<4→tailW 4 [false,false,true,false] k
  | 0,_=>by unfold tailW; kernel_rfl
  | 1,_=>by unfold tailW; kernel_rfl
  | 2,_=>by unfold tailW; kernel_rfl
  | 3,_=>by unfold tailW; kernel_rfl
  | _+4,h=>by omega
theorem f4_ffft:∀ k,k<4→tailW 4 [false,false,false,true] k
  | 0,_=>by unfold tailW; kernel_rfl
  | 1,_=>by unfold tailW; kernel_rfl
  | 2,_=>by unfold tailW; kernel_rfl
  | 3,_=>by unfold tailW; kernel_rfl
  | _+4,h=>by omega
theorem f4_ffff:∀ k,k<4→tailW 4 [false,false,false,false] k
  | 0,_=>by unfold tailW; kernel_rfl
  | 1,_=>by unfold tailW; kernel_rfl
  | 2,_=>by unfold tailW; kernel_rfl
  | 3,_=>by unfold tailW; kernel_rfl
  | _+4,h=>by omega
end wn
end Go.Proofs.YtaojmbkmicjecaaGreat
