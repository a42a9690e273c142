/- NilHeap -/
import Derived.Test.YtinagphkkegmnaaKSepHeap
namespace Go.Proofs.Ytinagphkkegmnaa
open Go.RowKit
set_option linter.unusedVariables false
theorem heap_Arena_nil (w:World):Calls Try.prog 55 #[.pointer none] w fun e w'=>e=.returned (.pointer none)∧w=w':=by
  go_enter Try.func55,Try.ntmps55
  go_wp2
  go_ret
  exact ⟨rfl,rfl⟩
theorem heap_Alloc_nil (k n:Int) (w:World):Calls Try.prog 59 #[.pointer none,.int .i64 k,.int .i64 n] w fun e w'=>e=.returned (.tuple #[.int .i64 0,.int .i64 2])∧w=w':=by
  go_enter Try.func59,Try.ntmps59
  go_wp2
  go_ret2
  exact ⟨rfl,rfl⟩
theorem heap_Store_nil (p i x:Int) (w:World):Calls Try.prog 56 #[.pointer none,.int .i64 p,.int .i64 i,.int .i64 x] w fun e w'=>e=.returned (.int .i64 2)∧Below w.heap.size w w':=by
  go_enter Try.func56,Try.ntmps56
  go_wp2_with fail
  refine (heap_Arena_nil _).mono ?_
  rintro e w1 ⟨rfl,rfl⟩
  go_wp2_with fail
  refine (arena_Store_nil _ _ _ _).mono ?_
  rintro e w1 ⟨rfl,hb⟩
  go_wp2
  go_ret
  exact ⟨rfl,hb⟩
theorem heap_Shade_nil (p:Int) (w:World):Calls Try.prog 78 #[.pointer none,.int .i64 p] w fun e w'=>e=.returned (.tuple #[])∧w=w':=by
  go_enter Try.func78,Try.ntmps78
  go_wp2
  ((try simp only [Exit.inBlock,Exit.then]); refine bodyPost_ret (results_none rfl _ _ _) rfl ?_)
  exact ⟨rfl,rfl⟩
theorem heap_Colour_nil (p:Int) (w:World):Calls Try.prog 89 #[.pointer none,.int .i64 p] w fun e w'=>e=.returned (.int .i64 0)∧Below w.heap.size w w':=by
  go_enter Try.func89,Try.ntmps89
  go_wp2_with fail
  refine (heap_Arena_nil _).mono ?_
  rintro e w1 ⟨rfl,rfl⟩
  go_wp2_with fail
  refine (arena_Kind_nil _ _).mono ?_
  rintro e w1 ⟨rfl,hb⟩
  go_wp2
  go_ret
  exact ⟨rfl,hb⟩
end Go.Proofs.Ytinagphkkegmnaa
