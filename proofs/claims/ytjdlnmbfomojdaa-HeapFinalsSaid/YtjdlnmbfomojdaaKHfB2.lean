/- HfB2 HfB6 -/
import Derived.Test.YtjdlnmbfomojdaaKG09f
import Derived.KernelRfl
namespace Go.Proofs.Ytjdlnmbfomojdaa
open Go.RowKit
set_option maxHeartbeats 0 in
theorem hf_9_11101:allS 5 (fun l=>hfOk 9 ([true,true,true,false,true] ++ l))=true:=by decide +kernel
set_option maxHeartbeats 0 in
theorem hf_9_01111:allS 5 (fun l=>hfOk 9 ([false,true,true,true,true] ++ l))=true:=by decide +kernel
set_option maxHeartbeats 0 in
theorem hf_9_00001:allS 5 (fun l=>hfOk 9 ([false,false,false,false,true] ++ l))=true:=by decide +kernel
set_option maxHeartbeats 0 in
theorem hf_7_001:allS 5 (fun l=>hfOk 7 ([false,false,true] ++ l))=true:=by decide +kernel
set_option maxHeartbeats 0 in
theorem hf_4_x:allS 5 (fun l=>hfOk 4 ([] ++ l))=true:=by decide +kernel
end Go.Proofs.Ytjdlnmbfomojdaa
namespace Go.Proofs.Ytjdlnmbfomojdaa
open Go.RowKit
set_option maxHeartbeats 0 in
theorem hf_9_11001:allS 5 (fun l=>hfOk 9 ([true,true,false,false,true] ++ l))=true:=by decide +kernel
set_option maxHeartbeats 0 in
theorem hf_9_01011:allS 5 (fun l=>hfOk 9 ([false,true,false,true,true] ++ l))=true:=by decide +kernel
set_option maxHeartbeats 0 in
theorem hf_8_1101:allS 5 (fun l=>hfOk 8 ([true,true,false,true] ++ l))=true:=by decide +kernel
set_option maxHeartbeats 0 in
theorem hf_8_0011:allS 5 (fun l=>hfOk 8 ([false,false,true,true] ++ l))=true:=by decide +kernel
set_option maxHeartbeats 0 in
theorem hf_0_x:allS 1 (fun l=>hfOk 0 ([] ++ l))=true:=by decide +kernel
end Go.Proofs.Ytjdlnmbfomojdaa
