/- HfB5 HfB10 -/
import Derived.Test.YtjdlnmbfomojdaaKG09f
import Derived.KernelRfl
namespace Go.Proofs.Ytjdlnmbfomojdaa
open Go.RowKit
set_option maxHeartbeats 0 in
theorem hf_9_11010:allS 5 (fun l=>hfOk 9 ([true,true,false,true,false] ++ l))=true:=by decide +kernel
set_option maxHeartbeats 0 in
theorem hf_9_01100:allS 5 (fun l=>hfOk 9 ([false,true,true,false,false] ++ l))=true:=by decide +kernel
set_option maxHeartbeats 0 in
theorem hf_8_1110:allS 5 (fun l=>hfOk 8 ([true,true,true,false] ++ l))=true:=by decide +kernel
set_option maxHeartbeats 0 in
theorem hf_8_0100:allS 5 (fun l=>hfOk 8 ([false,true,false,false] ++ l))=true:=by decide +kernel
set_option maxHeartbeats 0 in
theorem hf_1_x:allS 2 (fun l=>hfOk 1 ([] ++ l))=true:=by decide +kernel
end Go.Proofs.Ytjdlnmbfomojdaa
namespace Go.Proofs.Ytjdlnmbfomojdaa
open Go.RowKit
set_option maxHeartbeats 0 in
theorem hf_9_10101:allS 5 (fun l=>hfOk 9 ([true,false,true,false,true] ++ l))=true:=by decide +kernel
set_option maxHeartbeats 0 in
theorem hf_9_00111:allS 5 (fun l=>hfOk 9 ([false,false,true,true,true] ++ l))=true:=by decide +kernel
set_option maxHeartbeats 0 in
theorem hf_8_1001:allS 5 (fun l=>hfOk 8 ([true,false,false,true] ++ l))=true:=by decide +kernel
set_option maxHeartbeats 0 in
theorem hf_7_111:allS 5 (fun l=>hfOk 7 ([true,true,true] ++ l))=true:=by decide +kernel
set_option maxHeartbeats 0 in
theorem hf_6_11:allS 5 (fun l=>hfOk 6 ([true,true] ++ l))=true:=by decide +kernel
end Go.Proofs.Ytjdlnmbfomojdaa
