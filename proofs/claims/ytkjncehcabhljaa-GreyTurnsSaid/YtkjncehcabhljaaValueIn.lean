/- Package value: small numbers, without wraps. -/
import Derived.Test.YtkjncehcabhljaaValue
namespace Go.Proofs.Ytkjncehcabhljaa
open Go.RowKit

/-- A small number. -/
def Sm (a : Int) : Prop := -2305843009213693952 ≤ a ∧ a ≤ 2305843009213693952

theorem Sm.wd {a : Int} (h : Sm a) : Wd a := by unfold Sm at h; unfold Wd; omega
theorem wrap_two {a : Int} (h : Sm a) : wrap64 (2 * a) = 2 * a := by unfold Sm at h; exact IntWalk.wrap64_in _ (by omega)
theorem wrap_twoR {a : Int} (h : Sm a) : wrap64 (a * 2) = 2 * a := by unfold Sm at h; rw [Int.mul_comm]; exact IntWalk.wrap64_in _ (by omega)
theorem wrap_two1 {a : Int} (h : Sm a) : wrap64 (wrap64 (2 * a) + 1) = 2 * a + 1 := by rw [wrap_two h]; unfold Sm at h; exact IntWalk.wrap64_in _ (by omega)
theorem wrap_two1R {a : Int} (h : Sm a) : wrap64 (wrap64 (a * 2) + 1) = 2 * a + 1 := by rw [wrap_twoR h]; unfold Sm at h; exact IntWalk.wrap64_in _ (by omega)
theorem wd_two {a : Int} (h : Sm a) : Wd (2 * a) := by unfold Sm at h; unfold Wd; omega
theorem wd_two1 {a : Int} (h : Sm a) : Wd (2 * a + 1) := by unfold Sm at h; unfold Wd; omega

theorem vIsPtr_two (a : Int) : vIsPtr (2 * a) = false := by unfold vIsPtr; simp; try omega
theorem vIsPtr_two1 (a : Int) : vIsPtr (2 * a + 1) = true := by unfold vIsPtr; simp; try omega
theorem vNum_two (a : Int) : vNum (2 * a) = a := by unfold vNum; rw [if_neg (by omega)]; omega
theorem vNum_two1 (a : Int) : vNum (2 * a + 1) = 0 := by unfold vNum; rw [if_pos (by omega)]
theorem vAt_two (a : Int) : vAt (2 * a) = -1 := by unfold vAt; rw [if_neg (by omega)]
theorem vAt_two1 (a : Int) : vAt (2 * a + 1) = a := by unfold vAt; rw [if_pos (by omega)]; omega

theorem value_Int_in (a : Int) (h : Sm a) (w : World) :
    Calls Try.prog 16 #[.int .i64 a] w fun e w' => e = .returned (.int .i64 (2 * a)) ∧ w = w' := by
  have := value_Int a w; rwa [wrap_two h] at this
theorem value_Ptr_in (a : Int) (h : Sm a) (w : World) :
    Calls Try.prog 18 #[.int .i64 a] w fun e w' => e = .returned (.int .i64 (2 * a + 1)) ∧ w = w' := by
  have := value_Ptr a w; rwa [wrap_two1 h] at this
theorem ref_Int_in (a : Int) (h : Sm a) (w : World) :
    Calls Try.prog 17 #[.int .i64 a] w fun e w' => e = .returned (.int .i64 (2 * a)) ∧ w = w' := by
  have := ref_Int a w; rwa [wrap_twoR h] at this
theorem ref_Ptr_in (a : Int) (h : Sm a) (w : World) :
    Calls Try.prog 19 #[.int .i64 a] w fun e w' => e = .returned (.int .i64 (2 * a + 1)) ∧ w = w' := by
  have := ref_Ptr a w; rwa [wrap_two1R h] at this

theorem tmod_le (a b : Int) (hb : 0 < b) : -b < a.tmod b ∧ a.tmod b < b := by
  rcases Int.le_total 0 a with h | h
  · rw [Int.tmod_eq_emod_of_nonneg h]; have := Int.emod_nonneg a (by omega : b ≠ 0); have := Int.emod_lt_of_pos a hb; omega
  · have e : a.tmod b = -((-a).tmod b) := by rw [Int.neg_tmod]; omega
    rw [e, Int.tmod_eq_emod_of_nonneg (by omega : 0 ≤ -a)]; have := Int.emod_nonneg (-a) (by omega : b ≠ 0); have := Int.emod_lt_of_pos (-a) hb; omega
end Go.Proofs.Ytkjncehcabhljaa
