/- 'awake' of the statements of layer 9. -/
import Derived.Test.YtdnelekoplkkcaaSepHeap8
import Derived.Test.YtdnelekoplkkcaaSepLit
namespace Go.Proofs.Ytdnelekoplkkcaa
open Go.RowKit
set_option linter.unusedVariables false
set_option maxHeartbeats 2000000 in
theorem awake09 (w : World) :
    Calls Try.prog 28 #[] w fun e w' => e = .returned (.bool true) ∧ Below w.heap.size w w' := by
  have v1 : aAllocV 5 2 (hNew 2).a = .tuple #[.int .i64 0, .int .i64 0] := by rfl
  have v2 : hBeginE (hAlloc 5 2 (hNew 2)) = 0 := by decide +kernel
  have v3 : (hBegin [0] (hAlloc 5 2 (hNew 2))).ph = 1 := by decide +kernel
  have v4 : hColour (hBegin [0] (hAlloc 5 2 (hNew 2))) 0 = 1 := by decide +kernel
  have v5 : (hStep (hBegin [0] (hAlloc 5 2 (hNew 2)))).1 = [] := by decide +kernel
  have v6 : hColour (hStep (hBegin [0] (hAlloc 5 2 (hNew 2)))).2 0 = 2 := by decide +kernel
  generalize hh1 : hAlloc 5 2 (hNew 2) = s1 at *
  generalize hh2 : hBegin [0] s1 = s2 at *
  generalize hh3 : hStep s2 = s3 at *
  have H1 := Lib.hid (And.intro hh1 (And.intro hh2 hh3))
  have V1 := Lib.hid (And.intro v1 (And.intro v2 (And.intro v3 (And.intro v4 (And.intro v5 v6)))))
  clear hh1 hh2 hh3 v1 v2 v3 v4 v5 v6
  go_enter Try.func28, Try.ntmps28
  go_wp2_with fail
  refine (h_New (n := 2) (by omega) (by omega) (St.empty w)).mono ?_
  rintro e w1 ⟨b, ab, rfl, h1⟩
  go_wp2_with fail
  refine (h_Arena h1).mono ?_
  rintro e w2 ⟨rfl, rfl⟩
  go_wp2_with fail
  refine (h_Alloc h1 _ _).mono ?_
  rintro e w2 ⟨rfl, h2⟩
  rw [V1.out.1]
  rw [H1.out.1] at h2
  clear h1
  have h3 := (h2.lit1 0).pick1
  go_wp2_with fail
  refine (h_Begin h3 (by intro x hx; simp at hx; subst hx; unfold Wd; omega)).mono ?_
  rintro e w3 ⟨rfl, h4⟩
  rw [V1.out.2.1]
  rw [H1.out.2.1] at h4
  clear h2 h3
  go_wp2_with fail
  refine (h_Phase h4).mono ?_
  rintro e w4 ⟨rfl, rfl⟩
  rw [V1.out.2.2.1]
  go_wp2_with fail
  refine (h_Colour h4 _ (by unfold Wd; omega)).mono ?_
  rintro e w4 ⟨rfl, h5⟩
  rw [V1.out.2.2.2.1]
  go_wp2_with fail
  refine (h_Step h5).mono ?_
  rintro e w5 ⟨v, rfl, h6⟩
  rw [H1.out.2.2] at h6
  rw [V1.out.2.2.2.2.1] at h6
  obtain ⟨_, pv, cv, rfl, -⟩ := h6.shapeG (k := 0) rfl
  go_wp2_with fail
  refine (h_Colour h6.pick1 _ (by unfold Wd; omega)).mono ?_
  rintro e w6 ⟨rfl, h7⟩
  rw [V1.out.2.2.2.2.2]
  go_wp2
  go_ret
  exact ⟨rfl, h7.old⟩
end Go.Proofs.Ytdnelekoplkkcaa
