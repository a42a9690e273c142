/- HfB1 HfB11 -/
import Derived.Test.YtjdlnmbfomojdaaKG09f
import Derived.KernelRfl
namespace Go.Proofs.Ytjdlnmbfomojdaa
open Go.RowKit
set_option maxHeartbeats 0 in
theorem hf_9_11110:allS 5 (fun l=>hfOk 9 ([true,true,true,true,false] ++ l))=true:=by decide +kernel
set_option maxHeartbeats 0 in
theorem hf_9_10000:allS 5 (fun l=>hfOk 9 ([true,false,false,false,false] ++ l))=true:=by decide +kernel
set_option maxHeartbeats 0 in
theorem hf_9_00010:allS 5 (fun l=>hfOk 9 ([false,false,false,true,false] ++ l))=true:=by decide +kernel
set_option maxHeartbeats 0 in
theorem hf_7_010:allS 5 (fun l=>hfOk 7 ([false,true,false] ++ l))=true:=by decide +kernel
set_option maxHeartbeats 0 in
theorem hf_5_0:allS 5 (fun l=>hfOk 5 ([false] ++ l))=true:=by decide +kernel
end Go.Proofs.Ytjdlnmbfomojdaa
namespace Go.Proofs.Ytjdlnmbfomojdaa
open Go.RowKit
set_option maxHeartbeats 0 in
theorem hf_9_10100:allS 5 (fun l=>hfOk 9 ([true,false,true,false,false] ++ l))=true:=by decide +kernel
set_option maxHeartbeats 0 in
theorem hf_9_00110:allS 5 (fun l=>hfOk 9 ([false,false,true,true,false] ++ l))=true:=by decide +kernel
set_option maxHeartbeats 0 in
theorem hf_8_1000:allS 5 (fun l=>hfOk 8 ([true,false,false,false] ++ l))=true:=by decide +kernel
set_option maxHeartbeats 0 in
theorem hf_7_110:allS 5 (fun l=>hfOk 7 ([true,true,false] ++ l))=true:=by decide +kernel
set_option maxHeartbeats 0 in
theorem hf_6_10:allS 5 (fun l=>hfOk 6 ([true,false] ++ l))=true:=by decide +kernel
end Go.Proofs.Ytjdlnmbfomojdaa
