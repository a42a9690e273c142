/- Sf3 -/
import Derived.Test.YtgejcjcpchofiaaGreatKSfL
import Derived.KernelRfl
namespace Go.Proofs.YtgejcjcpchofiaaGreat
open Go.RowKit
set_option linter.unusedVariables false
set_option maxRecDepth 100000
namespace sf
theorem F31 (w:Nat→Int):Fam 3 1 w where
  hm:=by kernel_rfl
  ht:=fun i hi=>match i,hi with
    | 0,_=>by kernel_rfl
  ha:=fun i hi=>match i,hi with
    | 0,_=>by kernel_rfl
  hv:=fun i hi=>match i,hi with
    | 0,_=>by kernel_rfl
  hb:=fun i hi=>match i,hi with
    | 0,_=>by kernel_rfl
    | 1,_=>by kernel_rfl
    | 2,_=>by kernel_rfl
  hz:=fun x=>by kernel_rfl
theorem F32 (w:Nat→Int):Fam 3 2 w where
  hm:=by kernel_rfl
  ht:=fun i hi=>match i,hi with
    | 0,_=>by kernel_rfl
    | 1,_=>by kernel_rfl
  ha:=fun i hi=>match i,hi with
    | 0,_=>by kernel_rfl
    | 1,_=>by kernel_rfl
  hv:=fun i hi=>match i,hi with
    | 0,_=>by kernel_rfl
    | 1,_=>by kernel_rfl
  hb:=fun i hi=>match i,hi with
    | 0,_=>by kernel_rfl
    | 1,_=>by kernel_rfl
    | 2,_=>by kernel_rfl
  hz:=fun x=>by kernel_rfl
theorem F33 (w:Nat→Int):Fam 3 3 w where
  hm:=by kernel_rfl
  ht:=fun i hi=>match i,hi with
    | 0,_=>by kernel_rfl
    | 1,_=>by kernel_rfl
    | 2,_=>by kernel_rfl
  ha:=fun i hi=>match i,hi with
    | 0,_=>by kernel_rfl
    | 1,_=>by kernel_rfl
    | 2,_=>by kernel_rfl
  hv:=fun i hi=>match i,hi with
    | 0,_=>by kernel_rfl
    | 1,_=>by kernel_rfl
    | 2,_=>by kernel_rfl
  hb:=fun i hi=>match i,hi with
    | 0,_=>by kernel_rfl
    | 1,_=>by kernel_rfl
    | 2,_=>by kernel_rfl
  hz:=fun x=>by kernel_rfl
theorem F34 (w:Nat→Int):Fam 3 4 w where
  hm:=by kernel_rfl
  ht:=fun i hi=>match i,hi with
    | 0,_=>by kernel_rfl
    | 1,_=>by kernel_rfl
    | 2,_=>by kernel_rfl
    | 3,_=>by kernel_rfl
  ha:=fun i hi=>match i,hi with
    | 0,_=>by kernel_rfl
    | 1,_=>by kernel_rfl
    | 2,_=>by kernel_rfl
    | 3,_=>by kernel_rfl
  hv:=fun i hi=>match i,hi with
    | 0,_=>by kernel_rfl
    | 1,_=>by kernel_rfl
    | 2,_=>by kernel_rfl
    | 3,_=>by kernel_rfl
  hb:=fun i hi=>match i,hi with
    | 0,_=>by kernel_rfl
    | 1,_=>by kernel_rfl
    | 2,_=>by kernel_rfl
  hz:=fun x=>by kernel_rfl
theorem F35 (w:Nat→Int):Fam 3 5 w where
  hm:=by kernel_rfl
  ht:=fun i hi=>match i,hi with
    | 0,_=>by kernel_rfl
    | 1,_=>by kernel_rfl
    | 2,_=>by kernel_rfl
    | 3,_=>by kernel_rfl
    | 4,_=>by kernel_rfl
  ha:=fun i hi=>match i,hi with
    | 0,_=>by kernel_rfl
    | 1,_=>by kernel_rfl
    | 2,_=>by kernel_rfl
    | 3,_=>by kernel_rfl
    | 4,_=>by kernel_rfl
  hv:=fun i hi=>match i,hi with
    | 0,_=>by kernel_rfl
    | 1,_=>by kernel_rfl
    | 2,_=>by kernel_rfl
    | 3,_=>by kernel_rfl
    | 4,_=>by kernel_rfl
  hb:=fun i hi=>match i,hi with
    | 0,_=>by kernel_rfl
    | 1,_=>by kernel_rfl
    | 2,_=>by kernel_rfl
  hz:=fun x=>by kernel_rfl
theorem F36 (w:Nat→Int):Fam 3 6 w where
  hm:=by kernel_rfl
  ht:=fun i hi=>match i,hi with
    | 0,_=>by kernel_rfl
    | 1,_=>by kernel_rfl
    | 2,_=>by kernel_rfl
    | 3,_=>by kernel_rfl
    | 4,_=>by kernel_rfl
    | 5,_=>by kernel_rfl
  ha:=fun i hi=>match i,hi with
    | 0,_=>by kernel_rfl
    | 1,_=>by kernel_rfl
    | 2,_=>by kernel_rfl
    | 3,_=>by kernel_rfl
    | 4,_=>by kernel_rfl
    | 5,_=>by kernel_rfl
  hv:=fun i hi=>match i,hi with
    | 0,_=>by kernel_rfl
    | 1,_=>by kernel_rfl
    | 2,_=>by kernel_rfl
    | 3,_=>by kernel_rfl
    | 4,_=>by kernel_rfl
    | 5,_=>by kernel_rfl
  hb:=fun i hi=>match i,hi with
    | 0,_=>by kernel_rfl
    | 1,_=>by kernel_rfl
    | 2,_=>by kernel_rfl
  hz:=fun x=>by kernel_rfl
end sf
end Go.Proofs.YtgejcjcpchofiaaGreat
