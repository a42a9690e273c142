/- The walks of G09, printed by gen/walk.py. -/
import Derived.Test.YtdnelekoplkkcaaGHelp
import Derived.Deep.LoopGhost
import Derived.KernelRfl
namespace Go.Proofs.Ytdnelekoplkkcaa
open Go.RowKit
set_option linter.unusedVariables false

def law09_sizes.m (k : Nat) (i0 : Int) : Option (Int) := (if (inR i0 ([0, 9, 3, 7, 10, 2, 2]).length) then some (atI [0, 9, 3, 7, 10, 2, 2] i0) else none)
set_option maxRecDepth 100000 in
set_option maxHeartbeats 4000000 in
theorem law09_sizes.ok {w0 w : World} {F0 : List Nat} {ps : List Piece} {k : Nat} {i0 : Int} {r0 : Int} (hS : St w0 F0 (ps) w) (hm : law09_sizes.m k i0 = some r0) :
    Calls Try.prog 32 #[.int .i64 (i0)] w fun e w' => e = .returned (.int .i64 r0) ∧ St w0 F0 (ps) w' := by
  refine ev_enterL 7 [.int .i64 (i0)] Try.func32 rfl rfl (by simp) ?_
  intro a hF
  have hF0 : Fr 7 a [(0, .int .i64 (i0))] := hF; clear hF
  unfold law09_sizes.m at hm
  refine wp_seq ?_
  refine wp_region_lit ?_
  refine ev_runs 1 hF0 (l' := [(2, .int .i64 0), (0, .int .i64 (i0))]) (w' := w) (by kernel_rfl) ?_
  intro a2 hF1; clear hF0
  refine wpList_nil ?_
  have hF3 : Fr 7 a2 [(0, .int .i64 (i0))] := hF1.keep [0]
  clear hF1
  refine thenN ?_
  refine wp_seq ?_
  refine wp_region_lit ?_
  refine ev_runs 1 hF3 (l' := [(3, .slice (some ⟨w.heap.size, 0, none⟩) 7 7), (0, .int .i64 (i0))]) (w' := w.alloc (.cells #[.int .i64 0, .int .i64 9, .int .i64 3, .int .i64 7, .int .i64 10, .int .i64 2, .int .i64 2] 3)) (by kernel_rfl) ?_
  intro a5 hF4; clear hF3
  have hS7 : St w0 F0 (RowP (.slice (some ⟨w.heap.size, 0, none⟩) 7 7) [0, 9, 3, 7, 10, 2, 2] :: ps) (w.alloc (.cells #[.int .i64 0, .int .i64 9, .int .i64 3, .int .i64 7, .int .i64 10, .int .i64 2, .int .i64 2] 3)) := St.lit hS [0, 9, 3, 7, 10, 2, 2] (by unfold maxLen; simp)
  refine ev_runs 1 hF4 (l' := [(4, .int .i64 (i0)), (3, .slice (some ⟨w.heap.size, 0, none⟩) 7 7), (0, .int .i64 (i0))]) (w' := w.alloc (.cells #[.int .i64 0, .int .i64 9, .int .i64 3, .int .i64 7, .int .i64 10, .int .i64 2, .int .i64 2] 3)) (by kernel_rfl) ?_
  intro a9 hF8; clear hF4
  cases hc10 : (inR i0 ([0, 9, 3, 7, 10, 2, 2]).length) with
  | false => rw [hc10] at hm; cases hm
  | true =>
    rw [hc10] at hm
    have hm11 := ifT hm; clear hm
    refine ev_one (.pointer (some ⟨w.heap.size, i0.toNat, none⟩)) (w.alloc (.cells #[.int .i64 0, .int .i64 9, .int .i64 3, .int .i64 7, .int .i64 10, .int .i64 2, .int .i64 2] 3)) hF8 (by kernel_rfl) rfl (by kernel_rfl) (run_idx rfl rfl rfl rfl rfl (inR_spec hc10).1 (inR_spec hc10).2 _) (l' := [(5, .pointer (some ⟨w.heap.size, i0.toNat, none⟩)), (4, .int .i64 (i0)), (3, .slice (some ⟨w.heap.size, 0, none⟩) 7 7), (0, .int .i64 (i0))]) (by kernel_rfl) ?_
    intro a13 hF12; clear hF8
    refine ev_one (.int .i64 (atI [0, 9, 3, 7, 10, 2, 2] i0)) (w.alloc (.cells #[.int .i64 0, .int .i64 9, .int .i64 3, .int .i64 7, .int .i64 10, .int .i64 2, .int .i64 2] 3)) hF12 (by kernel_rfl) rfl (by kernel_rfl) (run_load1 rfl rfl rfl (hS7.atI 0 rfl hc10)) (l' := [(6, .int .i64 (atI [0, 9, 3, 7, 10, 2, 2] i0)), (5, .pointer (some ⟨w.heap.size, i0.toNat, none⟩)), (4, .int .i64 (i0)), (3, .slice (some ⟨w.heap.size, 0, none⟩) 7 7), (0, .int .i64 (i0))]) (by kernel_rfl) ?_
    intro a15 hF14; clear hF12
    refine ev_runs 1 hF14 (l' := [(2, .int .i64 (atI [0, 9, 3, 7, 10, 2, 2] i0)), (6, .int .i64 (atI [0, 9, 3, 7, 10, 2, 2] i0)), (5, .pointer (some ⟨w.heap.size, i0.toNat, none⟩)), (4, .int .i64 (i0)), (3, .slice (some ⟨w.heap.size, 0, none⟩) 7 7), (0, .int .i64 (i0))]) (w' := w.alloc (.cells #[.int .i64 0, .int .i64 9, .int .i64 3, .int .i64 7, .int .i64 10, .int .i64 2, .int .i64 2] 3)) (by kernel_rfl) ?_
    intro a17 hF16; clear hF14
    refine wpList_nil ?_
    have hF18 : Fr 7 a17 [(2, .int .i64 (atI [0, 9, 3, 7, 10, 2, 2] i0))] := hF16.keep [2]
    clear hF16
    have hS19 : St w0 F0 (ps) (w.alloc (.cells #[.int .i64 0, .int .i64 9, .int .i64 3, .int .i64 7, .int .i64 10, .int .i64 2, .int .i64 2] 3)) := St.ordP [RowP (.slice (some ⟨w.heap.size, 0, none⟩) 7 7) [0, 9, 3, 7, 10, 2, 2]] ps hS7 [] [0] (by kernel_rfl)
    clear hS7
    refine thenN ?_
    refine wp_ret ?_
    obtain rfl := Option.some.inj hm11
    refine ev_ret hF18 [2] (.int .i64 (atI [0, 9, 3, 7, 10, 2, 2] i0)) rfl rfl rfl ?_
    exact ⟨rfl, hS19⟩

def law09_awake.m (k : Nat) : Option (Bool) := bind1 (pNew 2) fun s4 => bind3 (pAlloc 5 2 s4) fun x31 x32 s33 => bind2 (pBegin s33 [x31]) fun x49 s50 => (if (x32 == 0) then (if (x49 == 0) then (if (s50.ph == 1) then bind1 (pColour x31 s50) fun x83 => (if (x83 == 1) then bind2 (pStep s50) fun L97 s98 => (if ((L97.length : Int) == 0) then bind1 (pColour x31 s98) fun x118 => some (x118 == 2) else some (false)) else some (false)) else some (false)) else some (false)) else some (false))
set_option maxRecDepth 100000 in
set_option maxHeartbeats 4000000 in
theorem law09_awake.ok {w0 w : World} {F0 : List Nat} {ps : List Piece} {k : Nat}  {r0 : Bool} (hS : St w0 F0 (ps) w) (hm : law09_awake.m k = some r0) :
    Calls Try.prog 28 #[] w fun e w' => e = .returned (.bool r0) ∧ St w0 F0 (ps) w' := by
  refine ev_enterL 59 [] Try.func28 rfl rfl (by simp) ?_
  intro a hF
  have hF0 : Fr 59 a [] := hF; clear hF
  unfold law09_awake.m at hm
  refine wp_seq ?_
  refine wp_region_lit ?_
  refine ev_runs 1 hF0 (l' := [(0, .bool false)]) (w' := w) (by kernel_rfl) ?_
  intro a2 hF1; clear hF0
  refine wpList_nil ?_
  have hF3 : Fr 59 a2 [] := hF1.keep []
  clear hF1
  refine thenN ?_
  refine wp_seq ?_
  refine wp_region_lit ?_
  refine ev_call 27 #[.int .i64 2] hF3 rfl rfl (by kernel_rfl) rfl (by kernel_rfl) (fun w => by kernel_rfl) ?_
  obtain ⟨s4, hx5, hm6⟩ := bind1E hm; clear hm
  refine (p_New hS hx5).mono ?_
  rintro _ w7 ⟨z11, z12, rfl, hS9⟩ a8 hF10; clear hF3 hS
  have hF14 : Fr 59 a8 [(7, .tuple #[.pointer (some ⟨z11, 0, none⟩), .int .i64 0])] := hF10
  clear hF10
  refine ev_runs 5 hF14 (l' := [(2, .int .i64 0), (1, .pointer (some ⟨z11, 0, none⟩)), (9, .int .i64 0), (8, .pointer (some ⟨z11, 0, none⟩)), (6, .tuple #[.pointer (some ⟨z11, 0, none⟩), .int .i64 0]), (7, .tuple #[.pointer (some ⟨z11, 0, none⟩), .int .i64 0])]) (w' := w7) (by kernel_rfl) ?_
  intro a16 hF15; clear hF14
  refine wpList_nil ?_
  have hF17 : Fr 59 a16 [(2, .int .i64 0), (1, .pointer (some ⟨z11, 0, none⟩))] := hF15.keep [1, 2]
  clear hF15
  refine thenN ?_
  refine wp_seq ?_
  refine wp_seq ?_
  refine wp_region_lit ?_
  refine ev_runs 8 hF17 (l' := [(17, .pointer (some ⟨z11, 0, none⟩)), (16, .bool false), (15, .bool false), (14, .bool false), (13, .pointer (some ⟨z11, 0, none⟩)), (12, .bool false), (11, .bool false), (10, .int .i64 0), (2, .int .i64 0), (1, .pointer (some ⟨z11, 0, none⟩))]) (w' := w7) (by kernel_rfl) ?_
  intro a19 hF18; clear hF17
  refine ev_call 24 #[.pointer (some ⟨z11, 0, none⟩)] hF18 rfl rfl (by kernel_rfl) rfl (by kernel_rfl) (fun w => by kernel_rfl) ?_
  refine (p_Arena hS9).mono ?_
  rintro _ w20 ⟨rfl, hS22⟩ a21 hF23; clear hF18 hS9
  have hF24 : Fr 59 a21 [(18, .pointer (some ⟨z12, 0, none⟩)), (17, .pointer (some ⟨z11, 0, none⟩)), (16, .bool false), (15, .bool false), (14, .bool false), (13, .pointer (some ⟨z11, 0, none⟩)), (12, .bool false), (11, .bool false), (10, .int .i64 0), (2, .int .i64 0), (1, .pointer (some ⟨z11, 0, none⟩))] := hF23
  clear hF23
  refine ev_runs 2 hF24 (l' := [(20, .bool false), (19, .bool false), (18, .pointer (some ⟨z12, 0, none⟩)), (17, .pointer (some ⟨z11, 0, none⟩)), (16, .bool false), (15, .bool false), (14, .bool false), (13, .pointer (some ⟨z11, 0, none⟩)), (12, .bool false), (11, .bool false), (10, .int .i64 0), (2, .int .i64 0), (1, .pointer (some ⟨z11, 0, none⟩))]) (w' := w20) (by kernel_rfl) ?_
  intro a26 hF25; clear hF24
  refine wpList_nil ?_
  have hF27 : Fr 59 a26 [(20, .bool false), (1, .pointer (some ⟨z11, 0, none⟩))] := hF25.keep [1, 20]
  clear hF25
  refine thenN ?_
  refine ev_condF hF27 rfl rfl ?_
  refine wp_skip ?_
  have hF28 : Fr 59 a26 [(1, .pointer (some ⟨z11, 0, none⟩))] := hF27.keep [1]
  clear hF27
  refine thenN ?_
  refine wp_seq ?_
  refine wp_region_lit ?_
  refine ev_runs 1 hF28 (l' := [(22, .pointer (some ⟨z11, 0, none⟩)), (1, .pointer (some ⟨z11, 0, none⟩))]) (w' := w20) (by kernel_rfl) ?_
  intro a30 hF29; clear hF28
  refine ev_call 29 #[.pointer (some ⟨z11, 0, none⟩), .int .i64 5, .int .i64 2] hF29 rfl rfl (by kernel_rfl) rfl (by kernel_rfl) (fun w => by kernel_rfl) ?_
  obtain ⟨x31, x32, s33, hx34, hm35⟩ := bind3E hm6; clear hm6
  refine (p_Alloc hS22 hx34).mono ?_
  rintro _ w36 ⟨rfl, hS38⟩ a37 hF39; clear hF29 hS22
  have hF40 : Fr 59 a37 [(23, .tuple #[.int .i64 (x31), .int .i64 (x32)]), (22, .pointer (some ⟨z11, 0, none⟩)), (1, .pointer (some ⟨z11, 0, none⟩))] := hF39
  clear hF39
  refine ev_runs 5 hF40 (l' := [(4, .int .i64 (x32)), (3, .int .i64 (x31)), (25, .int .i64 (x32)), (24, .int .i64 (x31)), (21, .tuple #[.int .i64 (x31), .int .i64 (x32)]), (23, .tuple #[.int .i64 (x31), .int .i64 (x32)]), (22, .pointer (some ⟨z11, 0, none⟩)), (1, .pointer (some ⟨z11, 0, none⟩))]) (w' := w36) (by kernel_rfl) ?_
  intro a42 hF41; clear hF40
  refine wpList_nil ?_
  have hF43 : Fr 59 a42 [(4, .int .i64 (x32)), (3, .int .i64 (x31)), (1, .pointer (some ⟨z11, 0, none⟩))] := hF41.keep [1, 3, 4]
  clear hF41
  refine thenN ?_
  refine wp_seq ?_
  refine wp_region_lit ?_
  refine ev_runs 3 hF43 (l' := [(28, .slice (some ⟨w36.heap.size, 0, none⟩) 1 1), (27, .int .i64 (x31)), (26, .pointer (some ⟨z11, 0, none⟩)), (4, .int .i64 (x32)), (3, .int .i64 (x31)), (1, .pointer (some ⟨z11, 0, none⟩))]) (w' := w36.alloc (.cells #[.int .i64 (x31)] 3)) (by kernel_rfl) ?_
  intro a45 hF44; clear hF43
  have hS47 : St w0 F0 (RowP (.slice (some ⟨w36.heap.size, 0, none⟩) 1 1) [x31] :: HeapP z11 z12 s33 :: ps) (w36.alloc (.cells #[.int .i64 (x31)] 3)) := St.lit hS38 [x31] (by unfold maxLen; simp)
  clear hS38
  have hS48 : St w0 F0 (HeapP z11 z12 s33 :: RowP (.slice (some ⟨w36.heap.size, 0, none⟩) 1 1) [x31] :: ps) (w36.alloc (.cells #[.int .i64 (x31)] 3)) := St.ordP [RowP (.slice (some ⟨w36.heap.size, 0, none⟩) 1 1) [x31], HeapP z11 z12 s33] ps hS47 [1, 0] [] (by kernel_rfl)
  clear hS47
  refine ev_call 23 #[.pointer (some ⟨z11, 0, none⟩), .slice (some ⟨w36.heap.size, 0, none⟩) 1 1] hF44 rfl rfl (by kernel_rfl) rfl (by kernel_rfl) (fun w => by kernel_rfl) ?_
  obtain ⟨x49, s50, hx51, hm52⟩ := bind2E hm35; clear hm35
  refine (p_Begin hS48 hx51).mono ?_
  rintro _ w53 ⟨rfl, hS55⟩ a54 hF56; clear hF44 hS48
  have hF57 : Fr 59 a54 [(29, .int .i64 (x49)), (28, .slice (some ⟨w36.heap.size, 0, none⟩) 1 1), (27, .int .i64 (x31)), (26, .pointer (some ⟨z11, 0, none⟩)), (4, .int .i64 (x32)), (3, .int .i64 (x31)), (1, .pointer (some ⟨z11, 0, none⟩))] := hF56
  clear hF56
  refine ev_runs 1 hF57 (l' := [(5, .int .i64 (x49)), (29, .int .i64 (x49)), (28, .slice (some ⟨w36.heap.size, 0, none⟩) 1 1), (27, .int .i64 (x31)), (26, .pointer (some ⟨z11, 0, none⟩)), (4, .int .i64 (x32)), (3, .int .i64 (x31)), (1, .pointer (some ⟨z11, 0, none⟩))]) (w' := w53) (by kernel_rfl) ?_
  intro a59 hF58; clear hF57
  refine wpList_nil ?_
  have hF60 : Fr 59 a59 [(5, .int .i64 (x49)), (4, .int .i64 (x32)), (3, .int .i64 (x31)), (1, .pointer (some ⟨z11, 0, none⟩))] := hF58.keep [1, 3, 4, 5]
  clear hF58
  have hS61 : St w0 F0 (HeapP z11 z12 s50 :: ps) w53 := St.ordP [HeapP z11 z12 s50, RowP (.slice (some ⟨w36.heap.size, 0, none⟩) 1 1) [x31]] ps hS55 [0] [1] (by kernel_rfl)
  clear hS55
  refine thenN ?_
  refine wp_seq ?_
  refine wp_region_lit ?_
  refine ev_runs 3 hF60 (l' := [(32, .bool (x32 == 0)), (31, .bool (x32 == 0)), (30, .int .i64 (x32)), (5, .int .i64 (x49)), (4, .int .i64 (x32)), (3, .int .i64 (x31)), (1, .pointer (some ⟨z11, 0, none⟩))]) (w' := w53) (by kernel_rfl) ?_
  intro a63 hF62; clear hF60
  cases hc64 : (x32 == 0) with
  | true =>
    rw [hc64] at hF62
    rw [hc64] at hm52
    have hm65 := ifT hm52; clear hm52
    refine ev_runs 4 hF62 (l' := [(36, .bool (x49 == 0)), (35, .bool (x49 == 0)), (34, .bool (x49 == 0)), (33, .int .i64 (x49)), (32, .bool true), (31, .bool true), (30, .int .i64 (x32)), (5, .int .i64 (x49)), (4, .int .i64 (x32)), (3, .int .i64 (x31)), (1, .pointer (some ⟨z11, 0, none⟩))]) (w' := w53) (by kernel_rfl) ?_
    intro a67 hF66; clear hF62
    cases hc68 : (x49 == 0) with
    | true =>
      rw [hc68] at hF66
      rw [hc68] at hm65
      have hm69 := ifT hm65; clear hm65
      refine ev_runs 1 hF66 (l' := [(37, .pointer (some ⟨z11, 0, none⟩)), (36, .bool true), (35, .bool true), (34, .bool true), (33, .int .i64 (x49)), (32, .bool true), (31, .bool true), (30, .int .i64 (x32)), (5, .int .i64 (x49)), (4, .int .i64 (x32)), (3, .int .i64 (x31)), (1, .pointer (some ⟨z11, 0, none⟩))]) (w' := w53) (by kernel_rfl) ?_
      intro a71 hF70; clear hF66
      refine ev_call 31 #[.pointer (some ⟨z11, 0, none⟩)] hF70 rfl rfl (by kernel_rfl) rfl (by kernel_rfl) (fun w => by kernel_rfl) ?_
      refine (p_Phase hS61).mono ?_
      rintro _ w72 ⟨rfl, hS74⟩ a73 hF75; clear hF70 hS61
      have hF76 : Fr 59 a73 [(38, .int .i64 (s50.ph)), (37, .pointer (some ⟨z11, 0, none⟩)), (36, .bool true), (35, .bool true), (34, .bool true), (33, .int .i64 (x49)), (32, .bool true), (31, .bool true), (30, .int .i64 (x32)), (5, .int .i64 (x49)), (4, .int .i64 (x32)), (3, .int .i64 (x31)), (1, .pointer (some ⟨z11, 0, none⟩))] := hF75
      clear hF75
      refine ev_runs 3 hF76 (l' := [(41, .bool (s50.ph == 1)), (40, .bool (s50.ph == 1)), (39, .bool (s50.ph == 1)), (38, .int .i64 (s50.ph)), (37, .pointer (some ⟨z11, 0, none⟩)), (36, .bool true), (35, .bool true), (34, .bool true), (33, .int .i64 (x49)), (32, .bool true), (31, .bool true), (30, .int .i64 (x32)), (5, .int .i64 (x49)), (4, .int .i64 (x32)), (3, .int .i64 (x31)), (1, .pointer (some ⟨z11, 0, none⟩))]) (w' := w72) (by kernel_rfl) ?_
      intro a78 hF77; clear hF76
      cases hc79 : (s50.ph == 1) with
      | true =>
        rw [hc79] at hF77
        rw [hc79] at hm69
        have hm80 := ifT hm69; clear hm69
        refine ev_runs 2 hF77 (l' := [(43, .int .i64 (x31)), (42, .pointer (some ⟨z11, 0, none⟩)), (41, .bool true), (40, .bool true), (39, .bool true), (38, .int .i64 (s50.ph)), (37, .pointer (some ⟨z11, 0, none⟩)), (36, .bool true), (35, .bool true), (34, .bool true), (33, .int .i64 (x49)), (32, .bool true), (31, .bool true), (30, .int .i64 (x32)), (5, .int .i64 (x49)), (4, .int .i64 (x32)), (3, .int .i64 (x31)), (1, .pointer (some ⟨z11, 0, none⟩))]) (w' := w72) (by kernel_rfl) ?_
        intro a82 hF81; clear hF77
        refine ev_call 26 #[.pointer (some ⟨z11, 0, none⟩), .int .i64 (x31)] hF81 rfl rfl (by kernel_rfl) rfl (by kernel_rfl) (fun w => by kernel_rfl) ?_
        obtain ⟨x83, hx84, hm85⟩ := bind1E hm80; clear hm80
        refine (p_Colour hS74 hx84).mono ?_
        rintro _ w86 ⟨rfl, hS88⟩ a87 hF89; clear hF81 hS74
        have hF90 : Fr 59 a87 [(44, .int .i64 (x83)), (43, .int .i64 (x31)), (42, .pointer (some ⟨z11, 0, none⟩)), (41, .bool true), (40, .bool true), (39, .bool true), (38, .int .i64 (s50.ph)), (37, .pointer (some ⟨z11, 0, none⟩)), (36, .bool true), (35, .bool true), (34, .bool true), (33, .int .i64 (x49)), (32, .bool true), (31, .bool true), (30, .int .i64 (x32)), (5, .int .i64 (x49)), (4, .int .i64 (x32)), (3, .int .i64 (x31)), (1, .pointer (some ⟨z11, 0, none⟩))] := hF89
        clear hF89
        refine ev_runs 3 hF90 (l' := [(47, .bool (x83 == 1)), (46, .bool (x83 == 1)), (45, .bool (x83 == 1)), (44, .int .i64 (x83)), (43, .int .i64 (x31)), (42, .pointer (some ⟨z11, 0, none⟩)), (41, .bool true), (40, .bool true), (39, .bool true), (38, .int .i64 (s50.ph)), (37, .pointer (some ⟨z11, 0, none⟩)), (36, .bool true), (35, .bool true), (34, .bool true), (33, .int .i64 (x49)), (32, .bool true), (31, .bool true), (30, .int .i64 (x32)), (5, .int .i64 (x49)), (4, .int .i64 (x32)), (3, .int .i64 (x31)), (1, .pointer (some ⟨z11, 0, none⟩))]) (w' := w86) (by kernel_rfl) ?_
        intro a92 hF91; clear hF90
        cases hc93 : (x83 == 1) with
        | true =>
          rw [hc93] at hF91
          rw [hc93] at hm85
          have hm94 := ifT hm85; clear hm85
          refine ev_runs 1 hF91 (l' := [(48, .pointer (some ⟨z11, 0, none⟩)), (47, .bool true), (46, .bool true), (45, .bool true), (44, .int .i64 (x83)), (43, .int .i64 (x31)), (42, .pointer (some ⟨z11, 0, none⟩)), (41, .bool true), (40, .bool true), (39, .bool true), (38, .int .i64 (s50.ph)), (37, .pointer (some ⟨z11, 0, none⟩)), (36, .bool true), (35, .bool true), (34, .bool true), (33, .int .i64 (x49)), (32, .bool true), (31, .bool true), (30, .int .i64 (x32)), (5, .int .i64 (x49)), (4, .int .i64 (x32)), (3, .int .i64 (x31)), (1, .pointer (some ⟨z11, 0, none⟩))]) (w' := w86) (by kernel_rfl) ?_
          intro a96 hF95; clear hF91
          refine ev_call 30 #[.pointer (some ⟨z11, 0, none⟩)] hF95 rfl rfl (by kernel_rfl) rfl (by kernel_rfl) (fun w => by kernel_rfl) ?_
          obtain ⟨L97, s98, hx99, hm100⟩ := bind2E hm94; clear hm94
          refine (p_Step hS88 hx99).mono ?_
          rintro _ w101 ⟨z105, rfl, hS103⟩ a102 hF104; clear hF95 hS88
          obtain ⟨hl110, p107, c108, rfl, hp109⟩ := St.shapeG (k := 1) hS103 rfl
          have hF111 : Fr 59 a102 [(49, .slice p107 L97.length c108), (48, .pointer (some ⟨z11, 0, none⟩)), (47, .bool true), (46, .bool true), (45, .bool true), (44, .int .i64 (x83)), (43, .int .i64 (x31)), (42, .pointer (some ⟨z11, 0, none⟩)), (41, .bool true), (40, .bool true), (39, .bool true), (38, .int .i64 (s50.ph)), (37, .pointer (some ⟨z11, 0, none⟩)), (36, .bool true), (35, .bool true), (34, .bool true), (33, .int .i64 (x49)), (32, .bool true), (31, .bool true), (30, .int .i64 (x32)), (5, .int .i64 (x49)), (4, .int .i64 (x32)), (3, .int .i64 (x31)), (1, .pointer (some ⟨z11, 0, none⟩))] := hF104
          clear hF104
          refine ev_runs 4 hF111 (l' := [(53, .bool ((L97.length : Int) == 0)), (52, .bool ((L97.length : Int) == 0)), (51, .bool ((L97.length : Int) == 0)), (50, .int .i64 ((L97.length : Int))), (49, .slice p107 L97.length c108), (48, .pointer (some ⟨z11, 0, none⟩)), (47, .bool true), (46, .bool true), (45, .bool true), (44, .int .i64 (x83)), (43, .int .i64 (x31)), (42, .pointer (some ⟨z11, 0, none⟩)), (41, .bool true), (40, .bool true), (39, .bool true), (38, .int .i64 (s50.ph)), (37, .pointer (some ⟨z11, 0, none⟩)), (36, .bool true), (35, .bool true), (34, .bool true), (33, .int .i64 (x49)), (32, .bool true), (31, .bool true), (30, .int .i64 (x32)), (5, .int .i64 (x49)), (4, .int .i64 (x32)), (3, .int .i64 (x31)), (1, .pointer (some ⟨z11, 0, none⟩))]) (w' := w101) (by kernel_rfl) ?_
          intro a113 hF112; clear hF111
          cases hc114 : ((L97.length : Int) == 0) with
          | true =>
            rw [hc114] at hF112
            rw [hc114] at hm100
            have hm115 := ifT hm100; clear hm100
            refine ev_runs 2 hF112 (l' := [(55, .int .i64 (x31)), (54, .pointer (some ⟨z11, 0, none⟩)), (53, .bool true), (52, .bool true), (51, .bool true), (50, .int .i64 ((L97.length : Int))), (49, .slice p107 L97.length c108), (48, .pointer (some ⟨z11, 0, none⟩)), (47, .bool true), (46, .bool true), (45, .bool true), (44, .int .i64 (x83)), (43, .int .i64 (x31)), (42, .pointer (some ⟨z11, 0, none⟩)), (41, .bool true), (40, .bool true), (39, .bool true), (38, .int .i64 (s50.ph)), (37, .pointer (some ⟨z11, 0, none⟩)), (36, .bool true), (35, .bool true), (34, .bool true), (33, .int .i64 (x49)), (32, .bool true), (31, .bool true), (30, .int .i64 (x32)), (5, .int .i64 (x49)), (4, .int .i64 (x32)), (3, .int .i64 (x31)), (1, .pointer (some ⟨z11, 0, none⟩))]) (w' := w101) (by kernel_rfl) ?_
            intro a117 hF116; clear hF112
            refine ev_call 26 #[.pointer (some ⟨z11, 0, none⟩), .int .i64 (x31)] hF116 rfl rfl (by kernel_rfl) rfl (by kernel_rfl) (fun w => by kernel_rfl) ?_
            obtain ⟨x118, hx119, hm120⟩ := bind1E hm115; clear hm115
            refine (p_Colour hS103 hx119).mono ?_
            rintro _ w121 ⟨rfl, hS123⟩ a122 hF124; clear hF116 hS103
            have hF125 : Fr 59 a122 [(56, .int .i64 (x118)), (55, .int .i64 (x31)), (54, .pointer (some ⟨z11, 0, none⟩)), (53, .bool true), (52, .bool true), (51, .bool true), (50, .int .i64 ((L97.length : Int))), (49, .slice p107 L97.length c108), (48, .pointer (some ⟨z11, 0, none⟩)), (47, .bool true), (46, .bool true), (45, .bool true), (44, .int .i64 (x83)), (43, .int .i64 (x31)), (42, .pointer (some ⟨z11, 0, none⟩)), (41, .bool true), (40, .bool true), (39, .bool true), (38, .int .i64 (s50.ph)), (37, .pointer (some ⟨z11, 0, none⟩)), (36, .bool true), (35, .bool true), (34, .bool true), (33, .int .i64 (x49)), (32, .bool true), (31, .bool true), (30, .int .i64 (x32)), (5, .int .i64 (x49)), (4, .int .i64 (x32)), (3, .int .i64 (x31)), (1, .pointer (some ⟨z11, 0, none⟩))] := hF124
            clear hF124
            refine ev_runs 3 hF125 (l' := [(0, .bool (x118 == 2)), (58, .bool (x118 == 2)), (57, .bool (x118 == 2)), (56, .int .i64 (x118)), (55, .int .i64 (x31)), (54, .pointer (some ⟨z11, 0, none⟩)), (53, .bool true), (52, .bool true), (51, .bool true), (50, .int .i64 ((L97.length : Int))), (49, .slice p107 L97.length c108), (48, .pointer (some ⟨z11, 0, none⟩)), (47, .bool true), (46, .bool true), (45, .bool true), (44, .int .i64 (x83)), (43, .int .i64 (x31)), (42, .pointer (some ⟨z11, 0, none⟩)), (41, .bool true), (40, .bool true), (39, .bool true), (38, .int .i64 (s50.ph)), (37, .pointer (some ⟨z11, 0, none⟩)), (36, .bool true), (35, .bool true), (34, .bool true), (33, .int .i64 (x49)), (32, .bool true), (31, .bool true), (30, .int .i64 (x32)), (5, .int .i64 (x49)), (4, .int .i64 (x32)), (3, .int .i64 (x31)), (1, .pointer (some ⟨z11, 0, none⟩))]) (w' := w121) (by kernel_rfl) ?_
            intro a127 hF126; clear hF125
            refine wpList_nil ?_
            have hF128 : Fr 59 a127 [(0, .bool (x118 == 2))] := hF126.keep [0]
            clear hF126
            have hS129 : St w0 F0 (ps) w121 := St.ordP [HeapP z11 z12 s98, GonesP (.slice p107 L97.length c108) L97] ps hS123 [] [0, 1] (by kernel_rfl)
            clear hS123
            refine thenN ?_
            refine wp_ret ?_
            obtain rfl := Option.some.inj hm120
            refine ev_ret hF128 [0] (.bool (x118 == 2)) rfl rfl rfl ?_
            exact ⟨rfl, hS129⟩
          | false =>
            rw [hc114] at hF112
            rw [hc114] at hm100
            have hm131 := ifF hm100; clear hm100
            refine ev_runs 6 hF112 (l' := [(0, .bool false), (58, .bool false), (57, .tuple #[]), (56, .tuple #[]), (55, .tuple #[]), (54, .tuple #[]), (53, .bool false), (52, .bool false), (51, .bool false), (50, .int .i64 ((L97.length : Int))), (49, .slice p107 L97.length c108), (48, .pointer (some ⟨z11, 0, none⟩)), (47, .bool true), (46, .bool true), (45, .bool true), (44, .int .i64 (x83)), (43, .int .i64 (x31)), (42, .pointer (some ⟨z11, 0, none⟩)), (41, .bool true), (40, .bool true), (39, .bool true), (38, .int .i64 (s50.ph)), (37, .pointer (some ⟨z11, 0, none⟩)), (36, .bool true), (35, .bool true), (34, .bool true), (33, .int .i64 (x49)), (32, .bool true), (31, .bool true), (30, .int .i64 (x32)), (5, .int .i64 (x49)), (4, .int .i64 (x32)), (3, .int .i64 (x31)), (1, .pointer (some ⟨z11, 0, none⟩))]) (w' := w101) (by kernel_rfl) ?_
            intro a133 hF132; clear hF112
            refine wpList_nil ?_
            have hF134 : Fr 59 a133 [(0, .bool false)] := hF132.keep [0]
            clear hF132
            have hS135 : St w0 F0 (ps) w101 := St.ordP [HeapP z11 z12 s98, GonesP (.slice p107 L97.length c108) L97] ps hS103 [] [0, 1] (by kernel_rfl)
            clear hS103
            refine thenN ?_
            refine wp_ret ?_
            obtain rfl := Option.some.inj hm131
            refine ev_ret hF134 [0] (.bool false) rfl rfl rfl ?_
            exact ⟨rfl, hS135⟩
        | false =>
          rw [hc93] at hF91
          rw [hc93] at hm85
          have hm137 := ifF hm85; clear hm85
          refine ev_runs 12 hF91 (l' := [(0, .bool false), (58, .bool false), (57, .tuple #[]), (56, .tuple #[]), (55, .tuple #[]), (54, .tuple #[]), (53, .bool false), (52, .bool false), (51, .tuple #[]), (50, .tuple #[]), (49, .tuple #[]), (48, .tuple #[]), (47, .bool false), (46, .bool false), (45, .bool false), (44, .int .i64 (x83)), (43, .int .i64 (x31)), (42, .pointer (some ⟨z11, 0, none⟩)), (41, .bool true), (40, .bool true), (39, .bool true), (38, .int .i64 (s50.ph)), (37, .pointer (some ⟨z11, 0, none⟩)), (36, .bool true), (35, .bool true), (34, .bool true), (33, .int .i64 (x49)), (32, .bool true), (31, .bool true), (30, .int .i64 (x32)), (5, .int .i64 (x49)), (4, .int .i64 (x32)), (3, .int .i64 (x31)), (1, .pointer (some ⟨z11, 0, none⟩))]) (w' := w86) (by kernel_rfl) ?_
          intro a139 hF138; clear hF91
          refine wpList_nil ?_
          have hF140 : Fr 59 a139 [(0, .bool false)] := hF138.keep [0]
          clear hF138
          have hS141 : St w0 F0 (ps) w86 := St.ordP [HeapP z11 z12 s50] ps hS88 [] [0] (by kernel_rfl)
          clear hS88
          refine thenN ?_
          refine wp_ret ?_
          obtain rfl := Option.some.inj hm137
          refine ev_ret hF140 [0] (.bool false) rfl rfl rfl ?_
          exact ⟨rfl, hS141⟩
      | false =>
        rw [hc79] at hF77
        rw [hc79] at hm69
        have hm143 := ifF hm69; clear hm69
        refine ev_runs 18 hF77 (l' := [(0, .bool false), (58, .bool false), (57, .tuple #[]), (56, .tuple #[]), (55, .tuple #[]), (54, .tuple #[]), (53, .bool false), (52, .bool false), (51, .tuple #[]), (50, .tuple #[]), (49, .tuple #[]), (48, .tuple #[]), (47, .bool false), (46, .bool false), (45, .tuple #[]), (44, .tuple #[]), (43, .tuple #[]), (42, .tuple #[]), (41, .bool false), (40, .bool false), (39, .bool false), (38, .int .i64 (s50.ph)), (37, .pointer (some ⟨z11, 0, none⟩)), (36, .bool true), (35, .bool true), (34, .bool true), (33, .int .i64 (x49)), (32, .bool true), (31, .bool true), (30, .int .i64 (x32)), (5, .int .i64 (x49)), (4, .int .i64 (x32)), (3, .int .i64 (x31)), (1, .pointer (some ⟨z11, 0, none⟩))]) (w' := w72) (by kernel_rfl) ?_
        intro a145 hF144; clear hF77
        refine wpList_nil ?_
        have hF146 : Fr 59 a145 [(0, .bool false)] := hF144.keep [0]
        clear hF144
        have hS147 : St w0 F0 (ps) w72 := St.ordP [HeapP z11 z12 s50] ps hS74 [] [0] (by kernel_rfl)
        clear hS74
        refine thenN ?_
        refine wp_ret ?_
        obtain rfl := Option.some.inj hm143
        refine ev_ret hF146 [0] (.bool false) rfl rfl rfl ?_
        exact ⟨rfl, hS147⟩
    | false =>
      rw [hc68] at hF66
      rw [hc68] at hm65
      have hm149 := ifF hm65; clear hm65
      refine ev_runs 23 hF66 (l' := [(0, .bool false), (58, .bool false), (57, .tuple #[]), (56, .tuple #[]), (55, .tuple #[]), (54, .tuple #[]), (53, .bool false), (52, .bool false), (51, .tuple #[]), (50, .tuple #[]), (49, .tuple #[]), (48, .tuple #[]), (47, .bool false), (46, .bool false), (45, .tuple #[]), (44, .tuple #[]), (43, .tuple #[]), (42, .tuple #[]), (41, .bool false), (40, .bool false), (39, .tuple #[]), (38, .tuple #[]), (37, .tuple #[]), (36, .bool false), (35, .bool false), (34, .bool false), (33, .int .i64 (x49)), (32, .bool true), (31, .bool true), (30, .int .i64 (x32)), (5, .int .i64 (x49)), (4, .int .i64 (x32)), (3, .int .i64 (x31)), (1, .pointer (some ⟨z11, 0, none⟩))]) (w' := w53) (by kernel_rfl) ?_
      intro a151 hF150; clear hF66
      refine wpList_nil ?_
      have hF152 : Fr 59 a151 [(0, .bool false)] := hF150.keep [0]
      clear hF150
      have hS153 : St w0 F0 (ps) w53 := St.ordP [HeapP z11 z12 s50] ps hS61 [] [0] (by kernel_rfl)
      clear hS61
      refine thenN ?_
      refine wp_ret ?_
      obtain rfl := Option.some.inj hm149
      refine ev_ret hF152 [0] (.bool false) rfl rfl rfl ?_
      exact ⟨rfl, hS153⟩
  | false =>
    rw [hc64] at hF62
    rw [hc64] at hm52
    have hm155 := ifF hm52; clear hm52
    refine ev_runs 27 hF62 (l' := [(0, .bool false), (58, .bool false), (57, .tuple #[]), (56, .tuple #[]), (55, .tuple #[]), (54, .tuple #[]), (53, .bool false), (52, .bool false), (51, .tuple #[]), (50, .tuple #[]), (49, .tuple #[]), (48, .tuple #[]), (47, .bool false), (46, .bool false), (45, .tuple #[]), (44, .tuple #[]), (43, .tuple #[]), (42, .tuple #[]), (41, .bool false), (40, .bool false), (39, .tuple #[]), (38, .tuple #[]), (37, .tuple #[]), (36, .bool false), (35, .bool false), (34, .tuple #[]), (33, .tuple #[]), (32, .bool false), (31, .bool false), (30, .int .i64 (x32)), (5, .int .i64 (x49)), (4, .int .i64 (x32)), (3, .int .i64 (x31)), (1, .pointer (some ⟨z11, 0, none⟩))]) (w' := w53) (by kernel_rfl) ?_
    intro a157 hF156; clear hF62
    refine wpList_nil ?_
    have hF158 : Fr 59 a157 [(0, .bool false)] := hF156.keep [0]
    clear hF156
    have hS159 : St w0 F0 (ps) w53 := St.ordP [HeapP z11 z12 s50] ps hS61 [] [0] (by kernel_rfl)
    clear hS61
    refine thenN ?_
    refine wp_ret ?_
    obtain rfl := Option.some.inj hm155
    refine ev_ret hF158 [0] (.bool false) rfl rfl rfl ?_
    exact ⟨rfl, hS159⟩

end Go.Proofs.Ytdnelekoplkkcaa
