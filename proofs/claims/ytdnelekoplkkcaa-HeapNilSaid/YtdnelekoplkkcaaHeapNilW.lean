/-
  The walk of 'dormouselaw09.HeapNil': the call returns true, in a world with at most new blocks.
-/
import Derived.Test.YtdnelekoplkkcaaRows
import Derived.Test.YtdnelekoplkkcaaNilHeap
import Derived.Test.YtdnelekoplkkcaaHeapAwake
import Derived.Test.YtdnelekoplkkcaaObjs
import Derived.WalkKit
import Derived.WalkSpells
import Derived.WalkLawsBesides
namespace Go.Proofs.Ytdnelekoplkkcaa.heapNil
open Go.RowKit
set_option linter.unusedVariables false

set_option maxRecDepth 100000 in
set_option maxHeartbeats 8000000 in
theorem walk (a0 : Int) (a1 : Int) (w0 : (Lit.int .i64 a0).wf = true) (w1 : (Lit.int .i64 a1).wf = true) (w : World) :
    Calls Try.prog 9 #[.int .i64 a0, .int .i64 a1] w fun e w' => e = .returned (.bool true) ∧ Below w.heap.size w w' := by
  have hw1 := wd_of_wf w1
  clear w0 w1
  have v1 : hShade a1 (hNew 2) = hNew 2 := by unfold hShade hWhite; rfl
  have v2 : hStep (hNew 2) = ([], hNew 2) := rfl
  have v3 : aErr a1 a0 (hNew 2).a = 8 := by unfold aErr; rw [show aHead (hNew 2).a.c a1 = none from new_head 2 a1]
  have v4 : hStore a1 a0 0 (hNew 2) = hNew 2 := by unfold hStore; rw [v3]; rfl
  have v5 : hBeginE (hNew 2) = 0 := rfl
  have v6 : hBeginE (hBegin [a1] (hNew 2)) = 11 := by
    have : (hBegin [a1] (hNew 2)).ph = 1 := by unfold hBegin; rw [if_pos (show (hNew 2).ph = 0 from rfl), shades_ph]
    unfold hBeginE; rw [this]; rfl
  have V := Lib.hid (And.intro v1 (And.intro v2 (And.intro v3 (And.intro v4 (And.intro v5 v6)))))
  clear v1 v2 v3 v4 v5 v6
  go_enter Try.func9, Try.ntmps9
  go_wp2_with fail
  refine (heap_Alloc_nil _ _ _).mono ?_
  rintro e x1 ⟨rfl, rfl⟩
  go_wp2_with fail
  refine (heap_Load_nil _ _ _).mono ?_
  rintro e x1 ⟨rfl, hb1⟩
  go_wp2_with fail
  refine (heap_Shade_nil _ _).mono ?_
  rintro e x2 ⟨rfl, rfl⟩
  have h0 := (St.empty w).below hb1
  clear hb1
  go_wp2_with fail
  refine (h_New (n := 2) (by omega) (by omega) h0).mono ?_
  rintro e x2 ⟨b, ab, rfl, h1⟩
  clear h0
  go_wp2_with fail
  refine (awake09 _).mono ?_
  rintro e x3 ⟨rfl, hb3⟩
  have h2 := h1.below hb3
  clear h1 hb3
  go_wp2_with fail
  refine (h_New_no 1 (by omega) _).mono ?_
  rintro e x4 ⟨rfl, rfl⟩
  go_wp2_with fail
  refine (h_Shade h2 _ hw1).mono ?_
  rintro e x4 ⟨rfl, h3⟩
  rw [V.out.1] at h3
  clear h2
  go_wp2_with fail
  refine (h_Step h3).mono ?_
  rintro e x5 ⟨lv, rfl, h4⟩
  rw [V.out.2.1] at h4
  obtain ⟨_, lp, lc, rfl, -⟩ := h4.shapeG (k := 0) rfl
  have h4 := h4.drop
  clear h3
  go_wp2_with fail
  refine (heap_Store_nil _ _ _ _).mono ?_
  rintro e x6 ⟨rfl, hb6⟩
  have h5 := h4.below hb6
  clear h4 hb6
  go_wp2_with fail
  refine (heap_Begin_nil _ _).mono ?_
  rintro e x7 ⟨rfl, rfl⟩
  go_wp2_with fail
  refine (heap_Step_nil _).mono ?_
  rintro e x7 ⟨rfl, rfl⟩
  go_wp2_with fail
  refine (heap_Phase_nil _).mono ?_
  rintro e x7 ⟨rfl, rfl⟩
  go_wp2_with fail
  refine (heap_Colour_nil _ _).mono ?_
  rintro e x7 ⟨rfl, hb7⟩
  have h6 := h5.below hb7
  clear h5 hb7
  go_wp2_with fail
  refine (heap_Cycles_nil _).mono ?_
  rintro e x8 ⟨rfl, rfl⟩
  go_wp2_with fail
  refine (heap_Arena_nil _).mono ?_
  rintro e x8 ⟨rfl, rfl⟩
  go_wp2_with fail
  refine (h_Cycles h6).mono ?_
  rintro e x8 ⟨rfl, rfl⟩
  rw [show (hNew 2).cy = 0 from rfl]
  go_wp2_with fail
  refine (h_Store h6 _ _ _ (by unfold Wd; omega)).mono ?_
  rintro e x8 ⟨rfl, h7⟩
  rw [V.out.2.2.1]
  rw [V.out.2.2.2.1] at h7
  clear h6
  have h8 := (h7.lit1 a1).pick1
  go_wp2_with fail
  refine (h_Begin h8 (by intro x hx; simp at hx; subst hx; exact hw1)).mono ?_
  rintro e x9 ⟨rfl, h9⟩
  rw [V.out.2.2.2.2.1]
  clear h7 h8
  have h10 := h9.pick1.drop.nil.pick1
  go_wp2_with fail
  refine (h_Begin h10 (by intro x hx; simp at hx)).mono ?_
  rintro e x10 ⟨rfl, h11⟩
  rw [V.out.2.2.2.2.2]
  go_wp2
  go_ret
  exact ⟨rfl, h11.old⟩

end Go.Proofs.Ytdnelekoplkkcaa.heapNil
