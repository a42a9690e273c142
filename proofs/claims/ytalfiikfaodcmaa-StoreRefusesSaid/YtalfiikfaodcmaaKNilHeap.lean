/- NilHeap -/
import Derived.Test.YtalfiikfaodcmaaKSepHeap
namespace Go.Proofs.Ytalfiikfaodcmaa
open Go.RowKit
set_option linter.unusedVariables false
theorem heap_Arena_nil (w:World):Calls Try.prog 19 #[.pointer none] w fun e w'=>e=.returned (.pointer none)∧w=w':=by
  go_enter Try.func19,Try.ntmps19
  go_wp2
  go_ret
  exact ⟨rfl,rfl⟩
theorem heap_Phase_nil (w:World):Calls Try.prog 17 #[.pointer none] w fun e w'=>e=.returned (.int .i64 0)∧w=w':=by
  go_enter Try.func17,Try.ntmps17
  go_wp2
  go_ret
  exact ⟨rfl,rfl⟩
theorem heap_Cycles_nil (w:World):Calls Try.prog 27 #[.pointer none] w fun e w'=>e=.returned (.int .i64 0)∧w=w':=by
  go_enter Try.func27,Try.ntmps27
  go_wp2
  go_ret
  exact ⟨rfl,rfl⟩
theorem heap_Alloc_nil (k n:Int) (w:World):Calls Try.prog 54 #[.pointer none,.int .i64 k,.int .i64 n] w fun e w'=>e=.returned (.tuple #[.int .i64 0,.int .i64 2])∧w=w':=by
  go_enter Try.func54,Try.ntmps54
  go_wp2
  go_ret2
  exact ⟨rfl,rfl⟩
theorem heap_Load_nil (p i:Int) (w:World):Calls Try.prog 31 #[.pointer none,.int .i64 p,.int .i64 i] w fun e w'=>e=.returned (.tuple #[.int .i64 0,.int .i64 2])∧Below w.heap.size w w':=by
  go_enter Try.func31,Try.ntmps31
  go_wp2_with fail
  refine (heap_Arena_nil _).mono ?_
  rintro e w1 ⟨rfl,rfl⟩
  go_wp2_with fail
  refine (arena_Load_nil _ _ _).mono ?_
  rintro e w1 ⟨rfl,hb⟩
  go_wp2
  go_ret2
  exact ⟨rfl,hb⟩
theorem heap_Store_nil (p i x:Int) (w:World):Calls Try.prog 28 #[.pointer none,.int .i64 p,.int .i64 i,.int .i64 x] w fun e w'=>e=.returned (.int .i64 2)∧Below w.heap.size w w':=by
  go_enter Try.func28,Try.ntmps28
  go_wp2_with fail
  refine (heap_Arena_nil _).mono ?_
  rintro e w1 ⟨rfl,rfl⟩
  go_wp2_with fail
  refine (arena_Store_nil _ _ _ _).mono ?_
  rintro e w1 ⟨rfl,hb⟩
  go_wp2
  go_ret
  exact ⟨rfl,hb⟩
theorem heap_Shade_nil (p:Int) (w:World):Calls Try.prog 48 #[.pointer none,.int .i64 p] w fun e w'=>e=.returned (.tuple #[])∧w=w':=by
  go_enter Try.func48,Try.ntmps48
  go_wp2
  ((try simp only [Exit.inBlock,Exit.then]); refine bodyPost_ret (results_none rfl _ _ _) rfl ?_)
  exact ⟨rfl,rfl⟩
theorem heap_Begin_nil (v:Value) (w:World):Calls Try.prog 37 #[.pointer none,v] w fun e w'=>e=.returned (.int .i64 2)∧w=w':=by
  go_enter Try.func37,Try.ntmps37
  go_wp2
  go_ret
  exact ⟨rfl,rfl⟩
theorem heap_Step_nil (w:World):Calls Try.prog 41 #[.pointer none] w fun e w'=>e=.returned (.slice none 0 0)∧w=w':=by
  go_enter Try.func41,Try.ntmps41
  go_wp2_with fail
  refine (heap_Phase_nil _).mono ?_
  rintro e w1 ⟨rfl,rfl⟩
  go_wp2
  go_ret
  exact ⟨rfl,rfl⟩
theorem heap_Colour_nil (p:Int) (w:World):Calls Try.prog 66 #[.pointer none,.int .i64 p] w fun e w'=>e=.returned (.int .i64 0)∧Below w.heap.size w w':=by
  go_enter Try.func66,Try.ntmps66
  go_wp2_with fail
  refine (heap_Arena_nil _).mono ?_
  rintro e w1 ⟨rfl,rfl⟩
  go_wp2_with fail
  refine (arena_Kind_nil _ _).mono ?_
  rintro e w1 ⟨rfl,hb⟩
  go_wp2
  go_ret
  exact ⟨rfl,hb⟩
end Go.Proofs.Ytalfiikfaodcmaa
