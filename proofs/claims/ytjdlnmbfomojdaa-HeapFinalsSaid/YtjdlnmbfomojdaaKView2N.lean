/- View2N -/
import Derived.Test.YtjdlnmbfomojdaaKView
import Derived.Laws.ResultCell
import Derived.Deep.RegionHeld3
namespace Go.Proofs.Ytjdlnmbfomojdaa
open Go.RowKit
set_option linter.unusedVariables false
set_option linter.unusedSimpArgs false
section
variable {w0 w:World} {F0:List Nat} {ps:List Piece} {b ab:Nat} {h:HSt}
set_option maxRecDepth 100000 in
set_option maxHeartbeats 4000000 in
theorem v_Chan_nil (p:Int) (w:World) :
    Calls Try.prog 28 #[.pointer none,.int .i64 p] w fun e w'=>e=.returned (.tuple #[chV ch0,.int .i64 2])∧Below w.heap.size w w':=by
  obtain ⟨tb,htb⟩:∃ tb,w.heap.size=tb:=⟨_,rfl⟩
  have h2:=(St.empty w).new #[.int .i64 0,.int .i64 0,.int .i64 0,.int .i64 0,.int .i64 0,.int .i64 0,.int .i64 0,.int .i64 0,.int .i64 0] 46
  rw [htb] at h2
  go_enter Try.func28,Try.ntmps28
  go_wp2_with fail
  refine (v_seen_nil _ _ _).mono ?_
  rintro e w1 ⟨rfl,hw1⟩
  rw [hw1] at h2
  clear hw1 htb
  have e0:=h2.cell 0 rfl 0 rfl
  have f0:=h2.free 0 rfl 0
  have e1:=h2.cell 0 rfl 1 rfl
  have f1:=h2.free 0 rfl 1
  have e2:=h2.cell 0 rfl 2 rfl
  have f2:=h2.free 0 rfl 2
  have e3:=h2.cell 0 rfl 3 rfl
  have f3:=h2.free 0 rfl 3
  have e4:=h2.cell 0 rfl 4 rfl
  have f4:=h2.free 0 rfl 4
  have e5:=h2.cell 0 rfl 5 rfl
  have f5:=h2.free 0 rfl 5
  have e6:=h2.cell 0 rfl 6 rfl
  have f6:=h2.free 0 rfl 6
  have e7:=h2.cell 0 rfl 7 rfl
  have f7:=h2.free 0 rfl 7
  have e8:=h2.cell 0 rfl 8 rfl
  have f8:=h2.free 0 rfl 8
  have hf:=(((((((((h2.set 0 (.int .i64 0)).set 1 (.int .i64 0)).set 2 (.int .i64 0)).set 3 (.int .i64 0)).set 4 (.int .i64 0)).set 5 (.int .i64 0)).set 6 (.int .i64 0)).set 7 (.int .i64 0)).set 8 (.int .i64 0)).drop.old
  go_wp2
  (try simp only [Exit.inBlock,Exit.then])
  refine bodyPost_ret (v:=.tuple #[chV ch0,.int .i64 2]) (by rw [results_cell_tmp rfl]; go_simp; rfl) rfl ?_
  exact ⟨rfl,hf⟩
set_option maxRecDepth 100000 in
set_option maxHeartbeats 4000000 in
theorem v_Sudog_nil (p:Int) (w:World) :
    Calls Try.prog 29 #[.pointer none,.int .i64 p] w fun e w'=>e=.returned (.tuple #[suV su0,.int .i64 2])∧Below w.heap.size w w':=by
  obtain ⟨tb,htb⟩:∃ tb,w.heap.size=tb:=⟨_,rfl⟩
  have h2:=(St.empty w).new #[.int .i64 0,.int .i64 0,.int .i64 0,.int .i64 0,.int .i64 0,.int .i64 0,.int .i64 0] 52
  rw [htb] at h2
  go_enter Try.func29,Try.ntmps29
  go_wp2_with fail
  refine (v_seen_nil _ _ _).mono ?_
  rintro e w1 ⟨rfl,hw1⟩
  rw [hw1] at h2
  clear hw1 htb
  have e0:=h2.cell 0 rfl 0 rfl
  have f0:=h2.free 0 rfl 0
  have e1:=h2.cell 0 rfl 1 rfl
  have f1:=h2.free 0 rfl 1
  have e2:=h2.cell 0 rfl 2 rfl
  have f2:=h2.free 0 rfl 2
  have e3:=h2.cell 0 rfl 3 rfl
  have f3:=h2.free 0 rfl 3
  have e4:=h2.cell 0 rfl 4 rfl
  have f4:=h2.free 0 rfl 4
  have e5:=h2.cell 0 rfl 5 rfl
  have f5:=h2.free 0 rfl 5
  have e6:=h2.cell 0 rfl 6 rfl
  have f6:=h2.free 0 rfl 6
  have hf:=(((((((h2.set 0 (.int .i64 0)).set 1 (.int .i64 0)).set 2 (.int .i64 0)).set 3 (.int .i64 0)).set 4 (.int .i64 0)).set 5 (.int .i64 0)).set 6 (.int .i64 0)).drop.old
  go_wp2
  (try simp only [Exit.inBlock,Exit.then])
  refine bodyPost_ret (v:=.tuple #[suV su0,.int .i64 2]) (by rw [results_cell_tmp rfl]; go_simp; rfl) rfl ?_
  exact ⟨rfl,hf⟩
end
end Go.Proofs.Ytjdlnmbfomojdaa
