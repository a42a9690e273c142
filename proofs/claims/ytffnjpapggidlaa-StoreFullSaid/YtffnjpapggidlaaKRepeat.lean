/- Repeat -/
import Derived.Test.YtffnjpapggidlaaKSpan
namespace Go.Proofs.Ytffnjpapggidlaa
open Go.RowKit
theorem sl_prefix (s:ByteArray) (b:Bool) (hs:1≤s.size) (h:((s.extract 0 1).toList == [45])=b) (w:World) :
    Calls Try.prog 100 #[.string s,.string ⟨#[45]⟩] w fun e w'=>e=.returned (.bool b)∧w=w':=by
  go_enter Try.func100,Try.ntmps100
  go_wp2
  go_ret
  exact ⟨rfl,rfl⟩
theorem st_prefix (s:ByteArray) (b:Bool) (hs:1≤s.size) (h:((s.extract 0 1).toList == [45])=b) (w:World) :
    Calls Try.prog 82 #[.string s,.string ⟨#[45]⟩] w fun e w'=>e=.returned (.bool b)∧w=w':=by
  go_enter Try.func82,Try.ntmps82
  go_wp2_with (go_at_call 100; refine (sl_prefix s b hs h _).mono ?_; rintro e w' ⟨rfl,rfl⟩)
  go_ret
  exact ⟨rfl,rfl⟩
theorem mul_8 (w:World):Calls Try.prog 81 #[.int .u64 1,.int .u64 8] w fun e w'=>e=.returned (.tuple #[.int .u64 0,.int .u64 8])∧w=w':=by
  have b0:bits BinOp.and IntKind.u64 0 4294967295=0:=by decide +kernel
  have b1:bits BinOp.and IntKind.u64 1 4294967295=1:=by decide +kernel
  have b8:bits BinOp.and IntKind.u64 8 4294967295=8:=by decide +kernel
  go_enter Try.func81,Try.ntmps81
  go_wp2
  go_ret2
  exact ⟨rfl,rfl⟩
set_option maxRecDepth 100000 in
set_option maxHeartbeats 1000000 in
theorem repeat_8 (w:World) :
    Calls Try.prog 55 #[.string ⟨#[45]⟩,.int .i64 8] w fun e w'=>e=.returned (.string (marks (List.replicate 8 false)))∧Below w.heap.size w w':=by
  go_enter Try.func55,Try.ntmps55
  go_wp2_with (go_at_call 81; refine (mul_8 _).mono ?_; rintro e w' ⟨rfl,rfl⟩)
  refine (st_prefix _ false ?_ ?_ _).mono ?_
  · decide
  · rw [ByteArray.toList_eq]; decide +kernel
  rintro e w' ⟨rfl,rfl⟩
  go_wp2_with fail
  refine (st_prefix _ true ?_ ?_ _).mono ?_
  · decide
  · rw [ByteArray.toList_eq]; decide +kernel
  rintro e w' ⟨rfl,rfl⟩
  go_wp2
  go_ret
  exact ⟨congrArg (fun s=>Ending.returned (Value.string s)) (by decide +kernel),Below.refl _ _⟩
theorem mul_4 (w:World):Calls Try.prog 81 #[.int .u64 1,.int .u64 4] w fun e w'=>e=.returned (.tuple #[.int .u64 0,.int .u64 4])∧w=w':=by
  have b0:bits BinOp.and IntKind.u64 0 4294967295=0:=by decide +kernel
  have b1:bits BinOp.and IntKind.u64 1 4294967295=1:=by decide +kernel
  have b8:bits BinOp.and IntKind.u64 4 4294967295=4:=by decide +kernel
  go_enter Try.func81,Try.ntmps81
  go_wp2
  go_ret2
  exact ⟨rfl,rfl⟩
set_option maxRecDepth 100000 in
set_option maxHeartbeats 1000000 in
theorem repeat_4 (w:World) :
    Calls Try.prog 55 #[.string ⟨#[45]⟩,.int .i64 4] w fun e w'=>e=.returned (.string (marks (List.replicate 4 false)))∧Below w.heap.size w w':=by
  go_enter Try.func55,Try.ntmps55
  go_wp2_with (go_at_call 81; refine (mul_4 _).mono ?_; rintro e w' ⟨rfl,rfl⟩)
  refine (st_prefix _ false ?_ ?_ _).mono ?_
  · decide
  · rw [ByteArray.toList_eq]; decide +kernel
  rintro e w' ⟨rfl,rfl⟩
  go_wp2_with fail
  refine (st_prefix _ true ?_ ?_ _).mono ?_
  · decide
  · rw [ByteArray.toList_eq]; decide +kernel
  rintro e w' ⟨rfl,rfl⟩
  go_wp2
  go_ret
  exact ⟨congrArg (fun s=>Ending.returned (Value.string s)) (by decide +kernel),Below.refl _ _⟩
theorem mul_2 (w:World):Calls Try.prog 81 #[.int .u64 1,.int .u64 2] w fun e w'=>e=.returned (.tuple #[.int .u64 0,.int .u64 2])∧w=w':=by
  have b0:bits BinOp.and IntKind.u64 0 4294967295=0:=by decide +kernel
  have b1:bits BinOp.and IntKind.u64 1 4294967295=1:=by decide +kernel
  have b8:bits BinOp.and IntKind.u64 2 4294967295=2:=by decide +kernel
  go_enter Try.func81,Try.ntmps81
  go_wp2
  go_ret2
  exact ⟨rfl,rfl⟩
set_option maxRecDepth 100000 in
set_option maxHeartbeats 1000000 in
theorem repeat_2 (w:World) :
    Calls Try.prog 55 #[.string ⟨#[45]⟩,.int .i64 2] w fun e w'=>e=.returned (.string (marks (List.replicate 2 false)))∧Below w.heap.size w w':=by
  go_enter Try.func55,Try.ntmps55
  go_wp2_with (go_at_call 81; refine (mul_2 _).mono ?_; rintro e w' ⟨rfl,rfl⟩)
  refine (st_prefix _ false ?_ ?_ _).mono ?_
  · decide
  · rw [ByteArray.toList_eq]; decide +kernel
  rintro e w' ⟨rfl,rfl⟩
  go_wp2_with fail
  refine (st_prefix _ true ?_ ?_ _).mono ?_
  · decide
  · rw [ByteArray.toList_eq]; decide +kernel
  rintro e w' ⟨rfl,rfl⟩
  go_wp2
  go_ret
  exact ⟨congrArg (fun s=>Ending.returned (Value.string s)) (by decide +kernel),Below.refl _ _⟩
set_option maxRecDepth 100000 in
theorem repeat_1 (w:World) :
    Calls Try.prog 55 #[.string ⟨#[45]⟩,.int .i64 1] w fun e w'=>e=.returned (.string (marks (List.replicate 1 false)))∧Below w.heap.size w w':=by
  go_enter Try.func55,Try.ntmps55
  go_wp2
  go_ret
  exact ⟨rfl,Below.refl _ _⟩
theorem repeat_slots (k:Int) (h0:0≤k) (h3:k<4) (w:World) :
    Calls Try.prog 55 #[.string ⟨#[45]⟩,.int .i64 (cSlots k)] w fun e w'=>e=.returned (.string (marks (List.replicate (cSlots k).toNat false)))∧Below w.heap.size w w':=by
  obtain rfl | rfl | rfl | rfl:k=0 ∨ k=1 ∨ k=2 ∨ k=3:=by omega
  · exact repeat_8 w
  · exact repeat_4 w
  · exact repeat_2 w
  · exact repeat_1 w
end Go.Proofs.Ytffnjpapggidlaa
