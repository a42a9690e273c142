/- Package value, and its reference: what each call answers. -/
import Derived.Test.YtdnelekoplkkcaaRows
import Derived.Test.YtdnelekoplkkcaaPlain
import Derived.WalkKit
import Derived.WalkSpells
import Derived.WalkLawsBesides
namespace Go.Proofs.Ytdnelekoplkkcaa
open Go.RowKit

@[go_sem] theorem as_pp (v : Value) (w : World) : (Instr.typeAssert (.iface 113 v) 20 113 true).run Try.prog w = .ok (.tuple #[v, .bool true]) w := by kernel_rfl
@[go_sem] theorem as_pn (v : Value) (w : World) : (Instr.typeAssert (.iface 110 v) 20 113 true).run Try.prog w = .ok (.tuple #[.int .i64 0, .bool false]) w := by kernel_rfl
@[go_sem] theorem as_nn (v : Value) (w : World) : (Instr.typeAssert (.iface 110 v) 20 110 true).run Try.prog w = .ok (.tuple #[v, .bool true]) w := by kernel_rfl
@[go_sem] theorem as_np (v : Value) (w : World) : (Instr.typeAssert (.iface 113 v) 20 110 true).run Try.prog w = .ok (.tuple #[.int .i64 0, .bool false]) w := by kernel_rfl

theorem value_Int (a : Int) (w : World) :
    Calls Try.prog 48 #[.int .i64 a] w fun e w' => e = .returned (.int .i64 (wrap64 (2 * a))) ∧ w = w' := by
  go_enter Try.func48, Try.ntmps48
  go_wp2
  go_ret
  exact ⟨rfl, rfl⟩

theorem value_Ptr (a : Int) (w : World) :
    Calls Try.prog 68 #[.int .i64 a] w fun e w' => e = .returned (.int .i64 (wrap64 (wrap64 (2 * a) + 1))) ∧ w = w' := by
  go_enter Try.func68, Try.ntmps68
  go_wp2
  go_ret
  exact ⟨rfl, rfl⟩

theorem value_IsPtr (a : Int) (w : World) :
    Calls Try.prog 62 #[.int .i64 a] w fun e w' => e = .returned (.bool (vIsPtr a)) ∧ w = w' := by
  rcases par a with h | h
  · have h1 := even_of a h
    have h2 : vIsPtr a = false := by simp [vIsPtr, h]
    rw [h2]; clear h h2
    go_enter Try.func62, Try.ntmps62
    go_wp2
    go_ret
    exact ⟨rfl, rfl⟩
  · have h1 := odd_of a h
    have h2 : vIsPtr a = true := by simp [vIsPtr, h]
    rw [h2]; clear h h2
    go_enter Try.func62, Try.ntmps62
    go_wp2
    go_ret
    exact ⟨rfl, rfl⟩

theorem value_Num (a : Int) (hw : Wd a) (w : World) :
    Calls Try.prog 52 #[.int .i64 a] w fun e w' => e = .returned (.int .i64 (vNum a)) ∧ w = w' := by
  rcases par a with h | h
  · have h1 := even_of a h
    have h2 : vNum a = wrap64 (a.tdiv 2) := by rw [half_even a h hw]; simp [vNum, h]
    rw [h2]; clear h h2 hw
    go_enter Try.func52, Try.ntmps52
    go_wp2
    go_ret
    exact ⟨rfl, rfl⟩
  · have h1 := odd_of a h
    have h2 : vNum a = 0 := by simp [vNum, h]
    rw [h2]; clear h h2 hw
    go_enter Try.func52, Try.ntmps52
    go_wp2
    go_ret
    exact ⟨rfl, rfl⟩

theorem value_At (a : Int) (hw : Wd a) (w : World) :
    Calls Try.prog 53 #[.int .i64 a] w fun e w' => e = .returned (.int .i64 (vAt a)) ∧ w = w' := by
  rcases par a with h | h
  · have h1 := even_of a h
    have h2 : vAt a = -1 := by simp [vAt, h]
    rw [h2]; clear h h2 hw
    go_enter Try.func53, Try.ntmps53
    go_wp2
    go_ret
    exact ⟨rfl, rfl⟩
  · have h1 := odd_of a h
    have h2 : vAt a = wrap64 ((wrap64 (a - 1)).tdiv 2) := by rw [half_odd a h hw]; simp [vAt, h]
    rw [h2]; clear h h2 hw
    go_enter Try.func53, Try.ntmps53
    go_wp2
    go_ret
    exact ⟨rfl, rfl⟩

theorem ref_Int (a : Int) (w : World) :
    Calls Try.prog 37 #[.int .i64 a] w fun e w' => e = .returned (.int .i64 (wrap64 (a * 2))) ∧ w = w' := by
  go_enter Try.func37, Try.ntmps37
  go_wp2
  go_ret
  exact ⟨rfl, rfl⟩

theorem ref_Ptr (a : Int) (w : World) :
    Calls Try.prog 36 #[.int .i64 a] w fun e w' => e = .returned (.int .i64 (wrap64 (wrap64 (a * 2) + 1))) ∧ w = w' := by
  go_enter Try.func36, Try.ntmps36
  go_wp2
  go_ret
  exact ⟨rfl, rfl⟩

theorem ref_IsPtr (a : Int) (w : World) :
    Calls Try.prog 40 #[.int .i64 a] w fun e w' => e = .returned (.bool (vIsPtr a)) ∧ w = w' := by
  rcases par a with h | h
  · have h1 := even_of' a h
    have h2 : vIsPtr a = false := by simp [vIsPtr, h]
    rw [h2]; clear h h2
    go_enter Try.func40, Try.ntmps40
    go_wp2
    go_ret
    exact ⟨rfl, rfl⟩
  · have h1 := odd_of' a h
    have h2 : vIsPtr a = true := by simp [vIsPtr, h]
    rw [h2]; clear h h2
    go_enter Try.func40, Try.ntmps40
    go_wp2
    go_ret
    exact ⟨rfl, rfl⟩

end Go.Proofs.Ytdnelekoplkkcaa
