/- HfB4 HfB7 HfB8 HfB9 -/
import Derived.Test.YtjdlnmbfomojdaaKG09f
import Derived.KernelRfl
namespace Go.Proofs.Ytjdlnmbfomojdaa
open Go.RowKit
set_option maxHeartbeats 0 in
theorem hf_9_11011:allS 5 (fun l=>hfOk 9 ([true,true,false,true,true] ++ l))=true:=by decide +kernel
set_option maxHeartbeats 0 in
theorem hf_9_01101:allS 5 (fun l=>hfOk 9 ([false,true,true,false,true] ++ l))=true:=by decide +kernel
set_option maxHeartbeats 0 in
theorem hf_8_1111:allS 5 (fun l=>hfOk 8 ([true,true,true,true] ++ l))=true:=by decide +kernel
set_option maxHeartbeats 0 in
theorem hf_8_0101:allS 5 (fun l=>hfOk 8 ([false,true,false,true] ++ l))=true:=by decide +kernel
set_option maxHeartbeats 0 in
theorem hf_2_x:allS 3 (fun l=>hfOk 2 ([] ++ l))=true:=by decide +kernel
end Go.Proofs.Ytjdlnmbfomojdaa
namespace Go.Proofs.Ytjdlnmbfomojdaa
open Go.RowKit
set_option maxHeartbeats 0 in
theorem hf_9_11000:allS 5 (fun l=>hfOk 9 ([true,true,false,false,false] ++ l))=true:=by decide +kernel
set_option maxHeartbeats 0 in
theorem hf_9_01010:allS 5 (fun l=>hfOk 9 ([false,true,false,true,false] ++ l))=true:=by decide +kernel
set_option maxHeartbeats 0 in
theorem hf_8_1100:allS 5 (fun l=>hfOk 8 ([true,true,false,false] ++ l))=true:=by decide +kernel
set_option maxHeartbeats 0 in
theorem hf_8_0010:allS 5 (fun l=>hfOk 8 ([false,false,true,false] ++ l))=true:=by decide +kernel
end Go.Proofs.Ytjdlnmbfomojdaa
namespace Go.Proofs.Ytjdlnmbfomojdaa
open Go.RowKit
set_option maxHeartbeats 0 in
theorem hf_9_10111:allS 5 (fun l=>hfOk 9 ([true,false,true,true,true] ++ l))=true:=by decide +kernel
set_option maxHeartbeats 0 in
theorem hf_9_01001:allS 5 (fun l=>hfOk 9 ([false,true,false,false,true] ++ l))=true:=by decide +kernel
set_option maxHeartbeats 0 in
theorem hf_8_1011:allS 5 (fun l=>hfOk 8 ([true,false,true,true] ++ l))=true:=by decide +kernel
set_option maxHeartbeats 0 in
theorem hf_8_0001:allS 5 (fun l=>hfOk 8 ([false,false,false,true] ++ l))=true:=by decide +kernel
end Go.Proofs.Ytjdlnmbfomojdaa
namespace Go.Proofs.Ytjdlnmbfomojdaa
open Go.RowKit
set_option maxHeartbeats 0 in
theorem hf_9_10110:allS 5 (fun l=>hfOk 9 ([true,false,true,true,false] ++ l))=true:=by decide +kernel
set_option maxHeartbeats 0 in
theorem hf_9_01000:allS 5 (fun l=>hfOk 9 ([false,true,false,false,false] ++ l))=true:=by decide +kernel
set_option maxHeartbeats 0 in
theorem hf_8_1010:allS 5 (fun l=>hfOk 8 ([true,false,true,false] ++ l))=true:=by decide +kernel
set_option maxHeartbeats 0 in
theorem hf_8_0000:allS 5 (fun l=>hfOk 8 ([false,false,false,false] ++ l))=true:=by decide +kernel
end Go.Proofs.Ytjdlnmbfomojdaa
