/- Package value, and its reference: what each call answers. -/
import Derived.Test.YtkjncehcabhljaaRows
import Derived.Test.YtkjncehcabhljaaPlain
import Derived.WalkKit
import Derived.WalkSpells
import Derived.WalkLawsBesides
namespace Go.Proofs.Ytkjncehcabhljaa
open Go.RowKit

@[go_sem] theorem as_pp (v : Value) (w : World) : (Instr.typeAssert (.iface 47 v) 20 47 true).run Try.prog w = .ok (.tuple #[v, .bool true]) w := by kernel_rfl
@[go_sem] theorem as_pn (v : Value) (w : World) : (Instr.typeAssert (.iface 50 v) 20 47 true).run Try.prog w = .ok (.tuple #[.int .i64 0, .bool false]) w := by kernel_rfl
@[go_sem] theorem as_nn (v : Value) (w : World) : (Instr.typeAssert (.iface 50 v) 20 50 true).run Try.prog w = .ok (.tuple #[v, .bool true]) w := by kernel_rfl
@[go_sem] theorem as_np (v : Value) (w : World) : (Instr.typeAssert (.iface 47 v) 20 50 true).run Try.prog w = .ok (.tuple #[.int .i64 0, .bool false]) w := by kernel_rfl

theorem value_Int (a : Int) (w : World) :
    Calls Try.prog 16 #[.int .i64 a] w fun e w' => e = .returned (.int .i64 (wrap64 (2 * a))) ∧ w = w' := by
  go_enter Try.func16, Try.ntmps16
  go_wp2
  go_ret
  exact ⟨rfl, rfl⟩

theorem value_Ptr (a : Int) (w : World) :
    Calls Try.prog 18 #[.int .i64 a] w fun e w' => e = .returned (.int .i64 (wrap64 (wrap64 (2 * a) + 1))) ∧ w = w' := by
  go_enter Try.func18, Try.ntmps18
  go_wp2
  go_ret
  exact ⟨rfl, rfl⟩

theorem value_IsPtr (a : Int) (w : World) :
    Calls Try.prog 20 #[.int .i64 a] w fun e w' => e = .returned (.bool (vIsPtr a)) ∧ w = w' := by
  rcases par a with h | h
  · have h1 := even_of a h
    have h2 : vIsPtr a = false := by simp [vIsPtr, h]
    rw [h2]; clear h h2
    go_enter Try.func20, Try.ntmps20
    go_wp2
    go_ret
    exact ⟨rfl, rfl⟩
  · have h1 := odd_of a h
    have h2 : vIsPtr a = true := by simp [vIsPtr, h]
    rw [h2]; clear h h2
    go_enter Try.func20, Try.ntmps20
    go_wp2
    go_ret
    exact ⟨rfl, rfl⟩

theorem value_Num (a : Int) (hw : Wd a) (w : World) :
    Calls Try.prog 22 #[.int .i64 a] w fun e w' => e = .returned (.int .i64 (vNum a)) ∧ w = w' := by
  rcases par a with h | h
  · have h1 := even_of a h
    have h2 : vNum a = wrap64 (a.tdiv 2) := by rw [half_even a h hw]; simp [vNum, h]
    rw [h2]; clear h h2 hw
    go_enter Try.func22, Try.ntmps22
    go_wp2
    go_ret
    exact ⟨rfl, rfl⟩
  · have h1 := odd_of a h
    have h2 : vNum a = 0 := by simp [vNum, h]
    rw [h2]; clear h h2 hw
    go_enter Try.func22, Try.ntmps22
    go_wp2
    go_ret
    exact ⟨rfl, rfl⟩

theorem value_At (a : Int) (hw : Wd a) (w : World) :
    Calls Try.prog 24 #[.int .i64 a] w fun e w' => e = .returned (.int .i64 (vAt a)) ∧ w = w' := by
  rcases par a with h | h
  · have h1 := even_of a h
    have h2 : vAt a = -1 := by simp [vAt, h]
    rw [h2]; clear h h2 hw
    go_enter Try.func24, Try.ntmps24
    go_wp2
    go_ret
    exact ⟨rfl, rfl⟩
  · have h1 := odd_of a h
    have h2 : vAt a = wrap64 ((wrap64 (a - 1)).tdiv 2) := by rw [half_odd a h hw]; simp [vAt, h]
    rw [h2]; clear h h2 hw
    go_enter Try.func24, Try.ntmps24
    go_wp2
    go_ret
    exact ⟨rfl, rfl⟩

theorem ref_Int (a : Int) (w : World) :
    Calls Try.prog 17 #[.int .i64 a] w fun e w' => e = .returned (.int .i64 (wrap64 (a * 2))) ∧ w = w' := by
  go_enter Try.func17, Try.ntmps17
  go_wp2
  go_ret
  exact ⟨rfl, rfl⟩

theorem ref_Ptr (a : Int) (w : World) :
    Calls Try.prog 19 #[.int .i64 a] w fun e w' => e = .returned (.int .i64 (wrap64 (wrap64 (a * 2) + 1))) ∧ w = w' := by
  go_enter Try.func19, Try.ntmps19
  go_wp2
  go_ret
  exact ⟨rfl, rfl⟩

theorem ref_IsPtr (a : Int) (w : World) :
    Calls Try.prog 21 #[.int .i64 a] w fun e w' => e = .returned (.bool (vIsPtr a)) ∧ w = w' := by
  rcases par a with h | h
  · have h1 := even_of' a h
    have h2 : vIsPtr a = false := by simp [vIsPtr, h]
    rw [h2]; clear h h2
    go_enter Try.func21, Try.ntmps21
    go_wp2
    go_ret
    exact ⟨rfl, rfl⟩
  · have h1 := odd_of' a h
    have h2 : vIsPtr a = true := by simp [vIsPtr, h]
    rw [h2]; clear h h2
    go_enter Try.func21, Try.ntmps21
    go_wp2
    go_ret
    exact ⟨rfl, rfl⟩

theorem ref_Num (a : Int) (hw : Wd a) (w : World) :
    Calls Try.prog 23 #[.int .i64 a] w fun e w' => e = .returned (.int .i64 (vNum a)) ∧ w = w' := by
  rcases par a with h | h
  · have h1 := even_of' a h
    have h2 : vNum a = wrap64 (a.tdiv 2) := by rw [half_even a h hw]; simp [vNum, h]
    rw [h2]; clear h h2 hw
    go_enter Try.func23, Try.ntmps23
    go_wp2
    go_ret
    exact ⟨rfl, rfl⟩
  · have h1 := odd_of' a h
    have h2 : vNum a = 0 := by simp [vNum, h]
    rw [h2]; clear h h2 hw
    go_enter Try.func23, Try.ntmps23
    go_wp2
    go_ret
    exact ⟨rfl, rfl⟩

theorem ref_At (a : Int) (hw : Wd a) (w : World) :
    Calls Try.prog 25 #[.int .i64 a] w fun e w' => e = .returned (.int .i64 (vAt a)) ∧ w = w' := by
  rcases par a with h | h
  · have h1 := even_of' a h
    have h2 : vAt a = -1 := by simp [vAt, h]
    rw [h2]; clear h h2 hw
    go_enter Try.func25, Try.ntmps25
    go_wp2
    go_ret
    exact ⟨rfl, rfl⟩
  · have h1 := odd_of' a h
    have h2 : vAt a = wrap64 ((wrap64 (a - 1)).tdiv 2) := by rw [half_odd a h hw]; simp [vAt, h]
    rw [h2]; clear h h2 hw
    go_enter Try.func25, Try.ntmps25
    go_wp2
    go_ret
    exact ⟨rfl, rfl⟩


end Go.Proofs.Ytkjncehcabhljaa
