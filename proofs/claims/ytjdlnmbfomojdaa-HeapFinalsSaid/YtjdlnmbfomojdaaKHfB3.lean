/- HfB3 HfB12 -/
import Derived.Test.YtjdlnmbfomojdaaKG09f
import Derived.KernelRfl
namespace Go.Proofs.Ytjdlnmbfomojdaa
open Go.RowKit
set_option maxHeartbeats 0 in
theorem hf_9_11100:allS 5 (fun l=>hfOk 9 ([true,true,true,false,false] ++ l))=true:=by decide +kernel
set_option maxHeartbeats 0 in
theorem hf_9_01110:allS 5 (fun l=>hfOk 9 ([false,true,true,true,false] ++ l))=true:=by decide +kernel
set_option maxHeartbeats 0 in
theorem hf_9_00000:allS 5 (fun l=>hfOk 9 ([false,false,false,false,false] ++ l))=true:=by decide +kernel
set_option maxHeartbeats 0 in
theorem hf_7_000:allS 5 (fun l=>hfOk 7 ([false,false,false] ++ l))=true:=by decide +kernel
set_option maxHeartbeats 0 in
theorem hf_3_x:allS 4 (fun l=>hfOk 3 ([] ++ l))=true:=by decide +kernel
end Go.Proofs.Ytjdlnmbfomojdaa
namespace Go.Proofs.Ytjdlnmbfomojdaa
open Go.RowKit
set_option maxHeartbeats 0 in
theorem hf_9_10011:allS 5 (fun l=>hfOk 9 ([true,false,false,true,true] ++ l))=true:=by decide +kernel
set_option maxHeartbeats 0 in
theorem hf_9_00101:allS 5 (fun l=>hfOk 9 ([false,false,true,false,true] ++ l))=true:=by decide +kernel
set_option maxHeartbeats 0 in
theorem hf_8_0111:allS 5 (fun l=>hfOk 8 ([false,true,true,true] ++ l))=true:=by decide +kernel
set_option maxHeartbeats 0 in
theorem hf_7_101:allS 5 (fun l=>hfOk 7 ([true,false,true] ++ l))=true:=by decide +kernel
set_option maxHeartbeats 0 in
theorem hf_6_01:allS 5 (fun l=>hfOk 6 ([false,true] ++ l))=true:=by decide +kernel
end Go.Proofs.Ytjdlnmbfomojdaa
