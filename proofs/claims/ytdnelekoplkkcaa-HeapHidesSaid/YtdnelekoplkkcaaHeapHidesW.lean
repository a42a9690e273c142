/-
  The walk of 'dormouselaw09.HeapHides': the call returns true, in a world with at most new blocks.
-/
import Derived.Test.YtdnelekoplkkcaaRows
import Derived.Test.YtdnelekoplkkcaaGHeapHides
import Derived.Test.YtdnelekoplkkcaaUmod
import Derived.WalkKit
import Derived.WalkSpells
import Derived.WalkLawsBesides
namespace Go.Proofs.Ytdnelekoplkkcaa.heapHides
open Go.RowKit
set_option linter.unusedVariables false

theorem table : ∀ x < 10, ∀ y < x + 3, HeapHides.m 300 ((y : Nat) : Int) ((x : Nat) : Int) = some true := by decide +kernel
theorem div_is : ∀ x < 10, IntKind.u64.wrap (IntKind.i64.wrap (IntKind.i64.wrap (2 + IntKind.i64.wrap ((x : Nat) : Int)) + 1)) = (((x + 3 : Nat)) : Int) := by decide +kernel
theorem pure (i0 i1 : Int) : HeapHides.m 300 i0 i1 = some true := by
  obtain ⟨x, hx, ex⟩ := u_mod i1 10 (by omega)
  obtain ⟨y, hy, ey⟩ := u_mod i0 (x + 3) (by omega)
  have h := table x hx y hy
  have e1 := u_same x 10 hx (by omega)
  have e2 := u_same y (x + 3) hy (by omega)
  have e3 := div_is x hx
  unfold HeapHides.m bind1 at h ⊢
  simp only [Int.cast_ofNat_Int, Option.bind_some] at *
  rw [e1, e3, e2] at h
  rw [ex, e3, ey]
  exact h
theorem walk (a0 : Int) (a1 : Int) (w0 : (Lit.int .i64 a0).wf = true) (w1 : (Lit.int .i64 a1).wf = true) (w : World) :
    Calls Try.prog 10 #[.int .i64 a0, .int .i64 a1] w fun e w' => e = .returned (.bool true) ∧ Below w.heap.size w w' := by
  exact (HeapHides.ok (St.empty w) (pure _ _)).mono fun e w' ⟨he, h⟩ => ⟨he, h.old⟩

end Go.Proofs.Ytdnelekoplkkcaa.heapHides
