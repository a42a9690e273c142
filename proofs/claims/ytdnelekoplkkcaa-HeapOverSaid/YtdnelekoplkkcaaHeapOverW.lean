/-
  The walk of 'dormouselaw09.HeapOver': the call returns true, in a world with at most new blocks.
-/
import Derived.Test.YtdnelekoplkkcaaRows
import Derived.Test.YtdnelekoplkkcaaGHeapOver
import Derived.Test.YtdnelekoplkkcaaUmod
import Derived.WalkKit
import Derived.WalkSpells
import Derived.WalkLawsBesides
namespace Go.Proofs.Ytdnelekoplkkcaa.heapOver
open Go.RowKit
set_option linter.unusedVariables false

theorem table : ∀ x < 4, ∀ y < 10, HeapOver.m 600 ((x : Nat) : Int) ((y : Nat) : Int) = some true := by decide +kernel
theorem pure (i0 i1 : Int) : HeapOver.m 600 i0 i1 = some true := by
  obtain ⟨x, hx, ex⟩ := u_mod i0 4 (by omega)
  obtain ⟨y, hy, ey⟩ := u_mod i1 10 (by omega)
  have h := table x hx y hy
  have e1 := u_same x 4 hx (by omega)
  have e2 := u_same y 10 hy (by omega)
  unfold HeapOver.m at h ⊢
  simp only [Int.cast_ofNat_Int] at *
  rw [e1, e2] at h
  rw [ex, ey]
  exact h
theorem walk (a0 : Int) (a1 : Int) (w0 : (Lit.int .i64 a0).wf = true) (w1 : (Lit.int .i64 a1).wf = true) (w : World) :
    Calls Try.prog 8 #[.int .i64 a0, .int .i64 a1] w fun e w' => e = .returned (.bool true) ∧ Below w.heap.size w w' := by
  exact (HeapOver.ok (St.empty w) (pure _ _)).mono fun e w' ⟨he, h⟩ => ⟨he, h.old⟩

end Go.Proofs.Ytdnelekoplkkcaa.heapOver
