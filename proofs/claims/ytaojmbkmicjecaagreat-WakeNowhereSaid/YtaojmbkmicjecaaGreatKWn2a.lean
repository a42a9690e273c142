/- Wn2a -/
import Derived.Test.YtaojmbkmicjecaaGreatKWnL
import Derived.KernelRfl
namespace Go.Proofs.YtaojmbkmicjecaaGreat
open Go.RowKit
set_option linter.unusedVariables false
set_option maxRecDepth 100000
namespace wn
theorem f2_tt:∀ k,k<2→tailW 2 [true,true] k
  | 0,_=>by unfold tailW; kernel_rfl
  | 1,_=>by unfold tailW; kernel_rfl
  | _+2,h=>by omega
theorem f2_tf:∀ k,k<2→tailW 2 [true,false] k
  | 0,_=>by unfold tailW; kernel_rfl
  | 1,_=>by unfold tailW; kernel_rfl
  | _+2,h=>by omega
theorem f2_ft:∀ k,k<2→tailW 2 [false,true] k
  | 0,_=>by unfold tailW; kernel_rfl
  | 1,_=>by unfold tailW; kernel_rfl
  | _+2,h=>by omega
theorem f2_ff:∀ k,k<2→tailW 2 [false,false] k
  | 0,_=>by unfold tailW; kernel_rfl
  | 1,_=>by unfold tailW; kernel_rfl
  | _+2,h=>by omega
end wn
end Go.Proofs.YtaojmbkmicjecaaGreat
