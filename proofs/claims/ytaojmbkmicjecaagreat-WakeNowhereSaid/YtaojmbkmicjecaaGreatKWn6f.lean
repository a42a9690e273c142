/- Wn6f -/
import Derived.Test.YtaojmbkmicjecaaGreatKWnL
import Derived.KernelRfl
namespace Go.Proofs.YtaojmbkmicjecaaGreat
open Go.RowKit
set_option linter.unusedVariables false
set_option maxRecDepth 100000
namespace wn
theorem f6_ftfttt:∀ k,k<6→tailW 6 [false,true,false,true,true,true] k
  | 0,_=>by unfold tailW; kernel_rfl
  | 1,_=>by unfold tailW; kernel_rfl
  | 2,_=>by unfold tailW; kernel_rfl
  | 3,_=>by unfold tailW; kernel_rfl
  | 4,_=>by unfold tailW; kernel_rfl
  | 5,_=>by unfold tailW; kernel_rfl
  | _+6,h=>by omega
theorem f6_ftfttf:∀ k,k<6→tailW 6 [false,true,false,true,true,false] k
  | 0,_=>by unfold tailW; kernel_rfl
  | 1,_=>by unfold tailW; kernel_rfl
  | 2,_=>by unfold tailW; kernel_rfl
  | 3,_=>by unfold tailW; kernel_rfl
  | 4,_=>by unfold tailW; kernel_rfl
  | 5,_=>by unfold tailW; kernel_rfl
  | _+6,h=>by omega
theorem f6_ftftft:∀ k,k<6→tailW 6 [false,true,false,true,false,true] k
  | 0,_=>by unfold tailW; kernel_rfl
  | 1,_=>by unfold tailW; kernel_rfl
  | 2,_=>by unfold tailW; kernel_rfl
  | 3,_=>by unfold tailW; kernel_rfl
  | 4,_=>by unfold tailW; kernel_rfl
  | 5,_=>by unfold tailW; kernel_rfl
  | _+6,h=>by omega
theorem f6_ftftff:∀ k,k<6→tailW 6 [false,true,false,true,false,false] k
  | 0,_=>by unfold tailW; kernel_rfl
  | 1,_=>by unfold tailW; kernel_rfl
  | 2,_=>by unfold tailW; kernel_rfl
  | 3,_=>by unfold tailW; kernel_rfl
  | 4,_=>by unfold tailW; kernel_rfl
  | 5,_=>by unfold tailW; kernel_rfl
  | _+6,h=>by omega
theorem f6_ftfftt:∀ k,k<6→tailW 6 [false,true,false,false,true,true] k
  | 0,_=>by unfold tailW; kernel_rfl
  | 1,_=>by unfold tailW; kernel_rfl
  | 2,_=>by unfold tailW; kernel_rfl
  | 3,_=>by unfold tailW; kernel_rfl
  | 4,_=>by unfold tailW; kernel_rfl
  | 5,_=>by unfold tailW; kernel_rfl
  | _+6,h=>by omega
theorem f6_ftfftf:∀ k,k<6→tailW 6 [false,true,false,false,true,false] k
  | 0,_=>by unfold tailW; kernel_rfl
  | 1,_=>by unfold tailW; kernel_rfl
  | 2,_=>by unfold tailW; kernel_rfl
  | 3,_=>by unfold tailW; kernel_rfl
  | 4,_=>by unfold tailW; kernel_rfl
  | 5,_=>by unfold tailW; kernel_rfl
  | _+6,h=>by omega
theorem f6_ftffft:∀ k,k<6→tailW 6 [false,true,false,false,false,true] k
  | 0,_=>by unfold tailW; kernel_rfl
  | 1,_=>by unfold tailW; kernel_rfl
  | 2,_=>by unfold tailW; kernel_rfl
  | 3,_=>by unfold tailW; kernel_rfl
  | 4,_=>by unfold tailW; kernel_rfl
  | 5,_=>by unfold tailW; kernel_rfl
  | _+6,h=>by omega
theorem f6_ftffff:∀ k,k<6→tailW 6 [false,true,false,false,false,false] k
  | 0,_=>by unfold tailW; kernel_rfl
  | 1,_=>by unfold tailW; kernel_rfl
  | 2,_=>by unfold tailW; kernel_rfl
  | 3,_=>by unfold tailW; kernel_rfl
  | 4,_=>by unfold tailW; kernel_rfl
  | 5,_=>by unfold tailW; kernel_rfl
  | _+6,h=>by omega
end wn
end Go.Proofs.YtaojmbkmicjecaaGreat
