/- Wn6h -/
import Derived.Test.YtaojmbkmicjecaaGreatKWnL
import Derived.KernelRfl
namespace Go.Proofs.YtaojmbkmicjecaaGreat
open Go.RowKit
set_option linter.unusedVariables false
set_option maxRecDepth 100000
namespace wn
theorem f6_fffttt:∀ k,k<6→tailW 6 [false,false,false,true,true,true] k
  | 0,_=>by unfold tailW; kernel_rfl
  | 1,_=>by unfold tailW; kernel_rfl
  | 2,_=>by unfold tailW; kernel_rfl
  | 3,_=>by unfold tailW; kernel_rfl
  | 4,_=>by unfold tailW; kernel_rfl
  | 5,_=>by unfold tailW; kernel_rfl
  | _+6,h=>by omega
theorem f6_fffttf:∀ k,k<6→tailW 6 [false,false,false,true,true,false] k
  | 0,_=>by unfold tailW; kernel_rfl
  | 1,_=>by unfold tailW; kernel_rfl
  | 2,_=>by unfold tailW; kernel_rfl
  | 3,_=>by unfold tailW; kernel_rfl
  | 4,_=>by unfold tailW; kernel_rfl
  | 5,_=>by unfold tailW; kernel_rfl
  | _+6,h=>by omega
theorem f6_ffftft:∀ k,k<6→tailW 6 [false,false,false,true,false,true] k
  | 0,_=>by unfold tailW; kernel_rfl
  | 1,_=>by unfold tailW; kernel_rfl
  | 2,_=>by unfold tailW; kernel_rfl
  | 3,_=>by unfold tailW; kernel_rfl
  | 4,_=>by unfold tailW; kernel_rfl
  | 5,_=>by unfold tailW; kernel_rfl
  | _+6,h=>by omega
theorem f6_ffftff:∀ k,k<6→tailW 6 [false,false,false,true,false,false] k
  | 0,_=>by unfold tailW; kernel_rfl
  | 1,_=>by unfold tailW; kernel_rfl
  | 2,_=>by unfold tailW; kernel_rfl
  | 3,_=>by unfold tailW; kernel_rfl
  | 4,_=>by unfold tailW; kernel_rfl
  | 5,_=>by unfold tailW; kernel_rfl
  | _+6,h=>by omega
theorem f6_fffftt:∀ k,k<6→tailW 6 [false,false,false,false,true,true] k
  | 0,_=>by unfold tailW; kernel_rfl
  | 1,_=>by unfold tailW; kernel_rfl
  | 2,_=>by unfold tailW; kernel_rfl
  | 3,_=>by unfold tailW; kernel_rfl
  | 4,_=>by unfold tailW; kernel_rfl
  | 5,_=>by unfold tailW; kernel_rfl
  | _+6,h=>by omega
theorem f6_fffftf:∀ k,k<6→tailW 6 [false,false,false,false,true,false] k
  | 0,_=>by unfold tailW; kernel_rfl
  | 1,_=>by unfold tailW; kernel_rfl
  | 2,_=>by unfold tailW; kernel_rfl
  | 3,_=>by unfold tailW; kernel_rfl
  | 4,_=>by unfold tailW; kernel_rfl
  | 5,_=>by unfold tailW; kernel_rfl
  | _+6,h=>by omega
theorem f6_ffffft:∀ k,k<6→tailW 6 [false,false,false,false,false,true] k
  | 0,_=>by unfold tailW; kernel_rfl
  | 1,_=>by unfold tailW; kernel_rfl
  | 2,_=>by unfold tailW; kernel_rfl
  | 3,_=>by unfold tailW; kernel_rfl
  | 4,_=>by unfold tailW; kernel_rfl
  | 5,_=>by unfold tailW; kernel_rfl
  | _+6,h=>by omega
theorem f6_ffffff:∀ k,k<6→tailW 6 [false,false,false,false,false,false] k
  | 0,_=>by unfold tailW; kernel_rfl
  | 1,_=>by unfold tailW; kernel_rfl
  | 2,_=>by unfold tailW; kernel_rfl
  | 3,_=>by unfold tailW; kernel_rfl
  | 4,_=>by unfold tailW; kernel_rfl
  | 5,_=>by unfold tailW; kernel_rfl
  | _+6,h=>by omega
end wn
end Go.Proofs.YtaojmbkmicjecaaGreat
