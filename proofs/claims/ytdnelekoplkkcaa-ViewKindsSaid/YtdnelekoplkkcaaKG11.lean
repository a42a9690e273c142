/- G11 GViewKinds ViewKindsW ViewKinds -/
import Derived.Test.YtdnelekoplkkcaaKGView
import Derived.Deep.LoopGhost
import Derived.KernelRfl
import Derived.Test.YtdnelekoplkkcaaRows
import Derived.WalkKit
import Derived.WalkSpells
import Derived.WalkLawsBesides
import Derived.ProofKit
import Derived.OpenShut
/- The walks of G11, printed by gen/walk.py. -/
namespace Go.Proofs.Ytdnelekoplkkcaa
open Go.RowKit
set_option linter.unusedVariables false

def law11_both.l1b (rec65 : HSt → HSt → Int → Option (HSt × HSt)) (s60 : HSt) (s61 : HSt) (x62 : Int) : Option (HSt × HSt) := (if (decide (x62 < 4)) then (if (inR x62 ([1, 3, 4, 5]).length) then (if (inR x62 ([9, 7, 10, 2]).length) then bind3 (pAlloc (atI [1, 3, 4, 5] x62) (atI [9, 7, 10, 2] x62) s60) fun x85 x86 s87 => bind3 (pAlloc (atI [1, 3, 4, 5] x62) (atI [9, 7, 10, 2] x62) s61) fun x102 x103 s104 => (if (x85 != x102) then none else (if (x86 != x103) then none else rec65 s87 s104 (IntKind.i64.wrap (x62 + 1)))) else none) else none) else some (s60, s61))
def law11_both.l1 : Nat → HSt → HSt → Int → Option (HSt × HSt)
  | 0 => fun _ _ _ => none
  | kI + 1 => law11_both.l1b (law11_both.l1 kI)
def law11_both.m (k : Nat) : Option (HSt × HSt) := bind1 (pNew 4) fun s4 => bind1 (prNew 4) fun s18 => law11_both.l1 k s4 s18 0
set_option maxRecDepth 100000 in
set_option maxHeartbeats 1500000 in
theorem law11_both.ok {w0 w : World} {F0 : List Nat} {ps : List Piece} {k : Nat}  {r0 : HSt} {r1 : HSt} (hS : St w0 F0 (ps) w) (hm : law11_both.m k = some (r0, r1)) :
    Calls Try.prog 11 #[.bool false] w fun e w' => ∃ br0 abr0 br1 abr1 sbr1 gr1 cbr1, e = .returned (.tuple #[.pointer (some ⟨br0, 0, none⟩), .pointer (some ⟨br1, 0, none⟩)]) ∧ St w0 F0 (HeapP br0 abr0 r0 :: RHeapP br1 abr1 sbr1 gr1 cbr1 r1 :: ps) w' := by
  refine ev_enterL 77 [.bool false] Try.func11 rfl rfl (by simp) ?_
  intro a hF
  have hF0 : Fr 77 a [(0, .bool false)] := hF; clear hF
  unfold law11_both.m at hm
  refine wp_seq ?_
  refine wp_region_lit ?_
  refine ev_runs 2 hF0 (l' := [(3, .pointer none), (2, .pointer none), (0, .bool false)]) (w' := w) (by kernel_rfl) ?_
  intro a2 hF1; clear hF0
  refine wpList_nil ?_
  have hF3 : Fr 77 a2 [(0, .bool false)] := hF1.keep [0]
  clear hF1
  refine thenN ?_
  refine wp_seq ?_
  refine wp_region_lit ?_
  refine ev_call 27 #[.int .i64 4] hF3 rfl rfl (by kernel_rfl) rfl (by kernel_rfl) (fun w => by kernel_rfl) ?_
  obtain ⟨s4, hx5, hm6⟩ := bind1E hm; clear hm
  refine (p_New hS hx5).mono ?_
  rintro _ w7 ⟨z11, z12, rfl, hS9⟩ a8 hF10; clear hF3 hS
  have hF14 : Fr 77 a8 [(16, .tuple #[.pointer (some ⟨z11, 0, none⟩), .int .i64 0]), (0, .bool false)] := hF10
  clear hF10
  refine ev_runs 5 hF14 (l' := [(5, .int .i64 0), (4, .pointer (some ⟨z11, 0, none⟩)), (18, .int .i64 0), (17, .pointer (some ⟨z11, 0, none⟩)), (15, .tuple #[.pointer (some ⟨z11, 0, none⟩), .int .i64 0]), (16, .tuple #[.pointer (some ⟨z11, 0, none⟩), .int .i64 0]), (0, .bool false)]) (w' := w7) (by kernel_rfl) ?_
  intro a16 hF15; clear hF14
  refine wpList_nil ?_
  have hF17 : Fr 77 a16 [(4, .pointer (some ⟨z11, 0, none⟩)), (0, .bool false)] := hF15.keep [0, 4]
  clear hF15
  refine thenN ?_
  refine wp_seq ?_
  refine wp_region_lit ?_
  refine ev_call 42 #[.int .i64 4] hF17 rfl rfl (by kernel_rfl) rfl (by kernel_rfl) (fun w => by kernel_rfl) ?_
  obtain ⟨s18, hx19, hm20⟩ := bind1E hm6; clear hm6
  refine (q_New hS9 hx19).mono ?_
  rintro _ w21 ⟨z25, z26, z27, z28, z29, rfl, hS23⟩ a22 hF24; clear hF17 hS9
  have hF31 : Fr 77 a22 [(20, .tuple #[.pointer (some ⟨z25, 0, none⟩), .int .i64 0]), (4, .pointer (some ⟨z11, 0, none⟩)), (0, .bool false)] := hF24
  clear hF24
  refine ev_runs 5 hF31 (l' := [(7, .int .i64 0), (6, .pointer (some ⟨z25, 0, none⟩)), (22, .int .i64 0), (21, .pointer (some ⟨z25, 0, none⟩)), (19, .tuple #[.pointer (some ⟨z25, 0, none⟩), .int .i64 0]), (20, .tuple #[.pointer (some ⟨z25, 0, none⟩), .int .i64 0]), (4, .pointer (some ⟨z11, 0, none⟩)), (0, .bool false)]) (w' := w21) (by kernel_rfl) ?_
  intro a33 hF32; clear hF31
  refine wpList_nil ?_
  have hF34 : Fr 77 a33 [(6, .pointer (some ⟨z25, 0, none⟩)), (4, .pointer (some ⟨z11, 0, none⟩)), (0, .bool false)] := hF32.keep [0, 4, 6]
  clear hF32
  refine thenN ?_
  refine wp_seq ?_
  refine wp_seq ?_
  refine wp_region_lit ?_
  refine ev_runs 4 hF34 (l' := [(26, .pointer (some ⟨z11, 0, none⟩)), (25, .bool false), (24, .bool false), (23, .pointer (some ⟨z11, 0, none⟩)), (6, .pointer (some ⟨z25, 0, none⟩)), (4, .pointer (some ⟨z11, 0, none⟩)), (0, .bool false)]) (w' := w21) (by kernel_rfl) ?_
  intro a36 hF35; clear hF34
  have hS37 : St w0 F0 (HeapP z11 z12 s4 :: RHeapP z25 z26 z27 z28 z29 s18 :: ps) w21 := St.ordP [RHeapP z25 z26 z27 z28 z29 s18, HeapP z11 z12 s4] ps hS23 [1, 0] [] (by kernel_rfl)
  clear hS23
  refine ev_call 24 #[.pointer (some ⟨z11, 0, none⟩)] hF35 rfl rfl (by kernel_rfl) rfl (by kernel_rfl) (fun w => by kernel_rfl) ?_
  refine (p_Arena hS37).mono ?_
  rintro _ w38 ⟨rfl, hS40⟩ a39 hF41; clear hF35 hS37
  have hF42 : Fr 77 a39 [(27, .pointer (some ⟨z12, 0, none⟩)), (26, .pointer (some ⟨z11, 0, none⟩)), (25, .bool false), (24, .bool false), (23, .pointer (some ⟨z11, 0, none⟩)), (6, .pointer (some ⟨z25, 0, none⟩)), (4, .pointer (some ⟨z11, 0, none⟩)), (0, .bool false)] := hF41
  clear hF41
  refine ev_runs 2 hF42 (l' := [(29, .bool false), (28, .bool false), (27, .pointer (some ⟨z12, 0, none⟩)), (26, .pointer (some ⟨z11, 0, none⟩)), (25, .bool false), (24, .bool false), (23, .pointer (some ⟨z11, 0, none⟩)), (6, .pointer (some ⟨z25, 0, none⟩)), (4, .pointer (some ⟨z11, 0, none⟩)), (0, .bool false)]) (w' := w38) (by kernel_rfl) ?_
  intro a44 hF43; clear hF42
  refine wpList_nil ?_
  have hF45 : Fr 77 a44 [(29, .bool false), (6, .pointer (some ⟨z25, 0, none⟩)), (4, .pointer (some ⟨z11, 0, none⟩)), (0, .bool false)] := hF43.keep [0, 4, 6, 29]
  clear hF43
  refine thenN ?_
  refine ev_condF hF45 rfl rfl ?_
  refine wp_skip ?_
  have hF46 : Fr 77 a44 [(6, .pointer (some ⟨z25, 0, none⟩)), (4, .pointer (some ⟨z11, 0, none⟩)), (0, .bool false)] := hF45.keep [0, 4, 6]
  clear hF45
  refine thenN ?_
  refine wp_seq ?_
  refine wp_region_lit ?_
  refine ev_runs 1 hF46 (l' := [(30, .slice (some ⟨w38.heap.size, 0, none⟩) 4 4), (6, .pointer (some ⟨z25, 0, none⟩)), (4, .pointer (some ⟨z11, 0, none⟩)), (0, .bool false)]) (w' := w38.alloc (.cells #[.int .i64 1, .int .i64 3, .int .i64 4, .int .i64 5] 3)) (by kernel_rfl) ?_
  intro a48 hF47; clear hF46
  have hS50 : St w0 F0 (RowP (.slice (some ⟨w38.heap.size, 0, none⟩) 4 4) [1, 3, 4, 5] :: HeapP z11 z12 s4 :: RHeapP z25 z26 z27 z28 z29 s18 :: ps) (w38.alloc (.cells #[.int .i64 1, .int .i64 3, .int .i64 4, .int .i64 5] 3)) := St.lit hS40 [1, 3, 4, 5] (by unfold maxLen; simp)
  clear hS40
  refine ev_runs 1 hF47 (l' := [(31, .slice (some ⟨(w38.alloc (.cells #[.int .i64 1, .int .i64 3, .int .i64 4, .int .i64 5] 3)).heap.size, 0, none⟩) 4 4), (30, .slice (some ⟨w38.heap.size, 0, none⟩) 4 4), (6, .pointer (some ⟨z25, 0, none⟩)), (4, .pointer (some ⟨z11, 0, none⟩)), (0, .bool false)]) (w' := (w38.alloc (.cells #[.int .i64 1, .int .i64 3, .int .i64 4, .int .i64 5] 3)).alloc (.cells #[.int .i64 9, .int .i64 7, .int .i64 10, .int .i64 2] 3)) (by kernel_rfl) ?_
  intro a52 hF51; clear hF47
  have hS54 : St w0 F0 (RowP (.slice (some ⟨(w38.alloc (.cells #[.int .i64 1, .int .i64 3, .int .i64 4, .int .i64 5] 3)).heap.size, 0, none⟩) 4 4) [9, 7, 10, 2] :: RowP (.slice (some ⟨w38.heap.size, 0, none⟩) 4 4) [1, 3, 4, 5] :: HeapP z11 z12 s4 :: RHeapP z25 z26 z27 z28 z29 s18 :: ps) ((w38.alloc (.cells #[.int .i64 1, .int .i64 3, .int .i64 4, .int .i64 5] 3)).alloc (.cells #[.int .i64 9, .int .i64 7, .int .i64 10, .int .i64 2] 3)) := St.lit hS50 [9, 7, 10, 2] (by unfold maxLen; simp)
  clear hS50
  refine ev_runs 2 hF51 (l' := [(9, .slice (some ⟨(w38.alloc (.cells #[.int .i64 1, .int .i64 3, .int .i64 4, .int .i64 5] 3)).heap.size, 0, none⟩) 4 4), (8, .slice (some ⟨w38.heap.size, 0, none⟩) 4 4), (31, .slice (some ⟨(w38.alloc (.cells #[.int .i64 1, .int .i64 3, .int .i64 4, .int .i64 5] 3)).heap.size, 0, none⟩) 4 4), (30, .slice (some ⟨w38.heap.size, 0, none⟩) 4 4), (6, .pointer (some ⟨z25, 0, none⟩)), (4, .pointer (some ⟨z11, 0, none⟩)), (0, .bool false)]) (w' := (w38.alloc (.cells #[.int .i64 1, .int .i64 3, .int .i64 4, .int .i64 5] 3)).alloc (.cells #[.int .i64 9, .int .i64 7, .int .i64 10, .int .i64 2] 3)) (by kernel_rfl) ?_
  intro a56 hF55; clear hF51
  refine wpList_nil ?_
  have hF57 : Fr 77 a56 [(9, .slice (some ⟨(w38.alloc (.cells #[.int .i64 1, .int .i64 3, .int .i64 4, .int .i64 5] 3)).heap.size, 0, none⟩) 4 4), (8, .slice (some ⟨w38.heap.size, 0, none⟩) 4 4), (6, .pointer (some ⟨z25, 0, none⟩)), (4, .pointer (some ⟨z11, 0, none⟩)), (0, .bool false)] := hF55.keep [0, 4, 6, 8, 9]
  clear hF55
  refine thenN ?_
  refine wp_seq ?_
  refine wp_seq ?_
  refine wp_region_lit ?_
  refine ev_runs 1 hF57 (l' := [(10, .int .i64 0), (9, .slice (some ⟨(w38.alloc (.cells #[.int .i64 1, .int .i64 3, .int .i64 4, .int .i64 5] 3)).heap.size, 0, none⟩) 4 4), (8, .slice (some ⟨w38.heap.size, 0, none⟩) 4 4), (6, .pointer (some ⟨z25, 0, none⟩)), (4, .pointer (some ⟨z11, 0, none⟩)), (0, .bool false)]) (w' := (w38.alloc (.cells #[.int .i64 1, .int .i64 3, .int .i64 4, .int .i64 5] 3)).alloc (.cells #[.int .i64 9, .int .i64 7, .int .i64 10, .int .i64 2] 3)) (by kernel_rfl) ?_
  intro a59 hF58; clear hF57
  refine wpList_nil ?_
  refine thenN ?_
  refine wp_block ?_
  refine wp_loop_ghost (fun kI aI wI => ∃ (s60 : HSt) (s61 : HSt) (x62 : Int), Fr 77 aI [(10, .int .i64 (x62)), (9, .slice (some ⟨(w38.alloc (.cells #[.int .i64 1, .int .i64 3, .int .i64 4, .int .i64 5] 3)).heap.size, 0, none⟩) 4 4), (8, .slice (some ⟨w38.heap.size, 0, none⟩) 4 4), (6, .pointer (some ⟨z25, 0, none⟩)), (4, .pointer (some ⟨z11, 0, none⟩)), (0, .bool false)] ∧ St w0 F0 (RowP (.slice (some ⟨(w38.alloc (.cells #[.int .i64 1, .int .i64 3, .int .i64 4, .int .i64 5] 3)).heap.size, 0, none⟩) 4 4) [9, 7, 10, 2] :: RowP (.slice (some ⟨w38.heap.size, 0, none⟩) 4 4) [1, 3, 4, 5] :: HeapP z11 z12 s60 :: RHeapP z25 z26 z27 z28 z29 s61 :: ps) wI ∧ law11_both.l1 kI s60 s61 x62 = some (r0, r1)) k ⟨s4, s18, 0, hF58, hS54, hm20⟩ ?_
  rintro k63 a64 w65 ⟨s60, s61, x62, hF66, hS67, hm68⟩
  clear hF58 hS54 hm20
  cases k63 with
  | zero => cases hm68
  | succ k63 =>
    have hm69 : law11_both.l1b (law11_both.l1 k63) s60 s61 x62 = some (r0, r1) := hm68
    clear hm68
    unfold law11_both.l1b at hm69
    refine wp_seq ?_
    refine wp_seq ?_
    refine wp_region_lit ?_
    refine ev_runs 2 hF66 (l' := [(33, .bool (decide (x62 < 4))), (32, .int .i64 (x62)), (10, .int .i64 (x62)), (9, .slice (some ⟨(w38.alloc (.cells #[.int .i64 1, .int .i64 3, .int .i64 4, .int .i64 5] 3)).heap.size, 0, none⟩) 4 4), (8, .slice (some ⟨w38.heap.size, 0, none⟩) 4 4), (6, .pointer (some ⟨z25, 0, none⟩)), (4, .pointer (some ⟨z11, 0, none⟩)), (0, .bool false)]) (w' := w65) (by kernel_rfl) ?_
    intro a71 hF70; clear hF66
    refine wpList_nil ?_
    have hF72 : Fr 77 a71 [(33, .bool (decide (x62 < 4))), (10, .int .i64 (x62)), (9, .slice (some ⟨(w38.alloc (.cells #[.int .i64 1, .int .i64 3, .int .i64 4, .int .i64 5] 3)).heap.size, 0, none⟩) 4 4), (8, .slice (some ⟨w38.heap.size, 0, none⟩) 4 4), (6, .pointer (some ⟨z25, 0, none⟩)), (4, .pointer (some ⟨z11, 0, none⟩)), (0, .bool false)] := hF70.keep [0, 4, 6, 8, 9, 10, 33]
    clear hF70
    refine thenN ?_
    cases hc73 : (decide (x62 < 4)) with
    | true =>
      rw [hc73] at hF72
      rw [hc73] at hm69
      have hm74 := ifT hm69; clear hm69
      refine ev_condT hF72 rfl rfl ?_
      refine wp_skip ?_
      have hF75 : Fr 77 a71 [(10, .int .i64 (x62)), (9, .slice (some ⟨(w38.alloc (.cells #[.int .i64 1, .int .i64 3, .int .i64 4, .int .i64 5] 3)).heap.size, 0, none⟩) 4 4), (8, .slice (some ⟨w38.heap.size, 0, none⟩) 4 4), (6, .pointer (some ⟨z25, 0, none⟩)), (4, .pointer (some ⟨z11, 0, none⟩)), (0, .bool false)] := hF72.keep [0, 4, 6, 8, 9, 10]
      clear hF72
      refine thenN ?_
      refine wp_seq ?_
      refine wp_block ?_
      refine wp_seq ?_
      -- draws
      cases hc76 : (inR x62 ([1, 3, 4, 5]).length) with
      | false => rw [hc76] at hm74; cases hm74
      | true =>
        rw [hc76] at hm74
        have hm77 := ifT hm74; clear hm74
        cases hc78 : (inR x62 ([9, 7, 10, 2]).length) with
        | false => rw [hc78] at hm77; cases hm77
        | true =>
          rw [hc78] at hm77
          have hm79 := ifT hm77; clear hm77
          have hS80 : St w0 F0 (RowP (.slice (some ⟨w38.heap.size, 0, none⟩) 4 4) [1, 3, 4, 5] :: RowP (.slice (some ⟨(w38.alloc (.cells #[.int .i64 1, .int .i64 3, .int .i64 4, .int .i64 5] 3)).heap.size, 0, none⟩) 4 4) [9, 7, 10, 2] :: HeapP z11 z12 s60 :: RHeapP z25 z26 z27 z28 z29 s61 :: ps) w65 := St.ordP [RowP (.slice (some ⟨(w38.alloc (.cells #[.int .i64 1, .int .i64 3, .int .i64 4, .int .i64 5] 3)).heap.size, 0, none⟩) 4 4) [9, 7, 10, 2], RowP (.slice (some ⟨w38.heap.size, 0, none⟩) 4 4) [1, 3, 4, 5], HeapP z11 z12 s60, RHeapP z25 z26 z27 z28 z29 s61] ps hS67 [1, 0, 2, 3] [] (by kernel_rfl)
          clear hS67
          have hS81 := hS80.drew; clear hS80
          refine any_start (fun wS => ∃ qs, St w0 F0 (RowP (.slice (some ⟨w38.heap.size, 0, none⟩) 4 4) [1, 3, 4, 5] :: RowP (.slice (some ⟨(w38.alloc (.cells #[.int .i64 1, .int .i64 3, .int .i64 4, .int .i64 5] 3)).heap.size, 0, none⟩) 4 4) [9, 7, 10, 2] :: qs) wS) 15 #[false, false, false, false, false, false, false, false, false, false, false, false, false, false, false] (by kernel_rfl) (by kernel_rfl) (by kernel_rfl) ?_
          refine any_many 9 [(0, some (.pointer (some ⟨z11, 0, none⟩))), (1, some (.slice (some ⟨w38.heap.size, 0, none⟩) 4 4)), (2, some (.int .i64 (x62))), (3, some (.pointer (some ⟨w38.heap.size, x62.toNat, none⟩))), (4, some (.int .i64 (atI [1, 3, 4, 5] x62))), (5, some (.slice (some ⟨(w38.alloc (.cells #[.int .i64 1, .int .i64 3, .int .i64 4, .int .i64 5] 3)).heap.size, 0, none⟩) 4 4)), (6, some (.int .i64 (x62))), (7, some (.pointer (some ⟨(w38.alloc (.cells #[.int .i64 1, .int .i64 3, .int .i64 4, .int .i64 5] 3)).heap.size, x62.toNat, none⟩))), (8, some (.int .i64 (atI [9, 7, 10, 2] x62)))] [0, 4, 6, 8, 9, 10, 11, 12, 36, 37, 41, 45, 46, 47, 48, 66, 67, 68] #[true, true, true, true, true, true, true, true, true, false, false, false, false, false, false] (by rfl) hF75 (by kernel_rfl) (by kernel_rfl) (by exact (And.intro (fun wS hw => by kernel_rfl) (And.intro (fun wS hw => by kernel_rfl) (And.intro (fun wS hw => by kernel_rfl) (And.intro (fun wS hw => run_idx rfl rfl rfl rfl rfl (inR_spec hc76).1 (inR_spec hc76).2 _) (And.intro (fun wS hw => run_load1 rfl rfl rfl (hw.elim fun qs hw => hw.atI 0 rfl hc76)) (And.intro (fun wS hw => by kernel_rfl) (And.intro (fun wS hw => by kernel_rfl) (And.intro (fun wS hw => run_idx rfl rfl rfl rfl rfl (inR_spec hc78).1 (inR_spec hc78).2 _) (And.intro (fun wS hw => run_load1 rfl rfl rfl (hw.elim fun qs hw => hw.atI 1 rfl hc78)) trivial)))))))))) (fun _ _ _ _ _ h => h) ⟨_, hS81⟩ (l' := [(45, .int .i64 (atI [9, 7, 10, 2] x62)), (41, .int .i64 (atI [1, 3, 4, 5] x62)), (37, .pointer (some ⟨z11, 0, none⟩)), (10, .int .i64 (x62)), (9, .slice (some ⟨(w38.alloc (.cells #[.int .i64 1, .int .i64 3, .int .i64 4, .int .i64 5] 3)).heap.size, 0, none⟩) 4 4), (8, .slice (some ⟨w38.heap.size, 0, none⟩) 4 4), (6, .pointer (some ⟨z25, 0, none⟩)), (4, .pointer (some ⟨z11, 0, none⟩)), (0, .bool false)]) (by kernel_rfl) ?_
          intro a83 hF82; clear hF75
          have hS84 : St w0 F0 (HeapP z11 z12 s60 :: RowP (.slice (some ⟨w38.heap.size, 0, none⟩) 4 4) [1, 3, 4, 5] :: RowP (.slice (some ⟨(w38.alloc (.cells #[.int .i64 1, .int .i64 3, .int .i64 4, .int .i64 5] 3)).heap.size, 0, none⟩) 4 4) [9, 7, 10, 2] :: RHeapP z25 z26 z27 z28 z29 s61 :: ps) (w65.drew) := St.ordP [RowP (.slice (some ⟨w38.heap.size, 0, none⟩) 4 4) [1, 3, 4, 5], RowP (.slice (some ⟨(w38.alloc (.cells #[.int .i64 1, .int .i64 3, .int .i64 4, .int .i64 5] 3)).heap.size, 0, none⟩) 4 4) [9, 7, 10, 2], HeapP z11 z12 s60, RHeapP z25 z26 z27 z28 z29 s61] ps hS81 [2, 0, 1, 3] [] (by kernel_rfl)
          clear hS81
          refine any_call 9 #[true, true, true, true, true, true, true, true, true, true, false, false, false, false, false] 29 #[.pointer (some ⟨z11, 0, none⟩), .int .i64 (atI [1, 3, 4, 5] x62), .int .i64 (atI [9, 7, 10, 2] x62)] hF82 rfl (by kernel_rfl) rfl rfl (by kernel_rfl) rfl (by kernel_rfl) (fun w => by kernel_rfl) (by kernel_rfl) ?_
          obtain ⟨x85, x86, s87, hx88, hm89⟩ := bind3E hm79; clear hm79
          refine (p_Alloc hS84 hx88).mono ?_
          rintro _ w90 ⟨rfl, hS92⟩; clear hS84
          refine ⟨⟨_, St.ordP [HeapP z11 z12 s87, RowP (.slice (some ⟨w38.heap.size, 0, none⟩) 4 4) [1, 3, 4, 5], RowP (.slice (some ⟨(w38.alloc (.cells #[.int .i64 1, .int .i64 3, .int .i64 4, .int .i64 5] 3)).heap.size, 0, none⟩) 4 4) [9, 7, 10, 2], RHeapP z25 z26 z27 z28 z29 s61] ps hS92 [1, 2, 0, 3] [] (by kernel_rfl)⟩, ?_⟩
          intro a91 hF93; clear hF82
          have hF94 : Fr 77 a91 [(46, .tuple #[.int .i64 (x85), .int .i64 (x86)]), (45, .int .i64 (atI [9, 7, 10, 2] x62)), (41, .int .i64 (atI [1, 3, 4, 5] x62)), (37, .pointer (some ⟨z11, 0, none⟩)), (10, .int .i64 (x62)), (9, .slice (some ⟨(w38.alloc (.cells #[.int .i64 1, .int .i64 3, .int .i64 4, .int .i64 5] 3)).heap.size, 0, none⟩) 4 4), (8, .slice (some ⟨w38.heap.size, 0, none⟩) 4 4), (6, .pointer (some ⟨z25, 0, none⟩)), (4, .pointer (some ⟨z11, 0, none⟩)), (0, .bool false)] := hF93
          clear hF93
          refine any_many 5 [(10, some (.tuple #[.int .i64 (x85), .int .i64 (x86)])), (11, some (.int .i64 (x85))), (12, some (.int .i64 (x86))), (13, some (.int .i64 (x85))), (14, some (.int .i64 (x86)))] [0, 4, 6, 8, 9, 10, 11, 12, 66, 67, 68] #[true, true, true, true, true, true, true, true, true, true, true, true, true, true, true] (by rfl) hF94 (by kernel_rfl) (by kernel_rfl) (by exact (And.intro (fun wS hw => by kernel_rfl) (And.intro (fun wS hw => by kernel_rfl) (And.intro (fun wS hw => by kernel_rfl) (And.intro (fun wS hw => by kernel_rfl) (And.intro (fun wS hw => by kernel_rfl) trivial)))))) (fun _ _ _ _ _ h => h) ⟨_, St.ordP [HeapP z11 z12 s87, RowP (.slice (some ⟨w38.heap.size, 0, none⟩) 4 4) [1, 3, 4, 5], RowP (.slice (some ⟨(w38.alloc (.cells #[.int .i64 1, .int .i64 3, .int .i64 4, .int .i64 5] 3)).heap.size, 0, none⟩) 4 4) [9, 7, 10, 2], RHeapP z25 z26 z27 z28 z29 s61] ps hS92 [1, 2, 0, 3] [] (by kernel_rfl)⟩ (l' := [(12, .int .i64 (x86)), (11, .int .i64 (x85)), (10, .int .i64 (x62)), (9, .slice (some ⟨(w38.alloc (.cells #[.int .i64 1, .int .i64 3, .int .i64 4, .int .i64 5] 3)).heap.size, 0, none⟩) 4 4), (8, .slice (some ⟨w38.heap.size, 0, none⟩) 4 4), (6, .pointer (some ⟨z25, 0, none⟩)), (4, .pointer (some ⟨z11, 0, none⟩)), (0, .bool false)]) (by kernel_rfl) ?_
          intro a96 hF95; clear hF94
          refine any_done (by kernel_rfl) ?_
          refine thenN ?_
          refine wp_seq ?_
          -- draws
          have hS97 : St w0 F0 (RowP (.slice (some ⟨w38.heap.size, 0, none⟩) 4 4) [1, 3, 4, 5] :: RowP (.slice (some ⟨(w38.alloc (.cells #[.int .i64 1, .int .i64 3, .int .i64 4, .int .i64 5] 3)).heap.size, 0, none⟩) 4 4) [9, 7, 10, 2] :: HeapP z11 z12 s87 :: RHeapP z25 z26 z27 z28 z29 s61 :: ps) w90 := St.ordP [HeapP z11 z12 s87, RowP (.slice (some ⟨w38.heap.size, 0, none⟩) 4 4) [1, 3, 4, 5], RowP (.slice (some ⟨(w38.alloc (.cells #[.int .i64 1, .int .i64 3, .int .i64 4, .int .i64 5] 3)).heap.size, 0, none⟩) 4 4) [9, 7, 10, 2], RHeapP z25 z26 z27 z28 z29 s61] ps hS92 [1, 2, 0, 3] [] (by kernel_rfl)
          clear hS92
          have hS98 := hS97.drew; clear hS97
          refine any_start (fun wS => ∃ qs, St w0 F0 (RowP (.slice (some ⟨w38.heap.size, 0, none⟩) 4 4) [1, 3, 4, 5] :: RowP (.slice (some ⟨(w38.alloc (.cells #[.int .i64 1, .int .i64 3, .int .i64 4, .int .i64 5] 3)).heap.size, 0, none⟩) 4 4) [9, 7, 10, 2] :: qs) wS) 15 #[false, false, false, false, false, false, false, false, false, false, false, false, false, false, false] (by kernel_rfl) (by kernel_rfl) (by kernel_rfl) ?_
          refine any_many 9 [(0, some (.pointer (some ⟨z25, 0, none⟩))), (1, some (.slice (some ⟨w38.heap.size, 0, none⟩) 4 4)), (2, some (.int .i64 (x62))), (3, some (.pointer (some ⟨w38.heap.size, x62.toNat, none⟩))), (4, some (.int .i64 (atI [1, 3, 4, 5] x62))), (5, some (.slice (some ⟨(w38.alloc (.cells #[.int .i64 1, .int .i64 3, .int .i64 4, .int .i64 5] 3)).heap.size, 0, none⟩) 4 4)), (6, some (.int .i64 (x62))), (7, some (.pointer (some ⟨(w38.alloc (.cells #[.int .i64 1, .int .i64 3, .int .i64 4, .int .i64 5] 3)).heap.size, x62.toNat, none⟩))), (8, some (.int .i64 (atI [9, 7, 10, 2] x62)))] [0, 4, 6, 8, 9, 10, 11, 12, 13, 14, 49, 50, 54, 58, 59, 60, 61, 66, 67, 68] #[true, true, true, true, true, true, true, true, true, false, false, false, false, false, false] (by rfl) hF95 (by kernel_rfl) (by kernel_rfl) (by exact (And.intro (fun wS hw => by kernel_rfl) (And.intro (fun wS hw => by kernel_rfl) (And.intro (fun wS hw => by kernel_rfl) (And.intro (fun wS hw => run_idx rfl rfl rfl rfl rfl (inR_spec hc76).1 (inR_spec hc76).2 _) (And.intro (fun wS hw => run_load1 rfl rfl rfl (hw.elim fun qs hw => hw.atI 0 rfl hc76)) (And.intro (fun wS hw => by kernel_rfl) (And.intro (fun wS hw => by kernel_rfl) (And.intro (fun wS hw => run_idx rfl rfl rfl rfl rfl (inR_spec hc78).1 (inR_spec hc78).2 _) (And.intro (fun wS hw => run_load1 rfl rfl rfl (hw.elim fun qs hw => hw.atI 1 rfl hc78)) trivial)))))))))) (fun _ _ _ _ _ h => h) ⟨_, hS98⟩ (l' := [(58, .int .i64 (atI [9, 7, 10, 2] x62)), (54, .int .i64 (atI [1, 3, 4, 5] x62)), (50, .pointer (some ⟨z25, 0, none⟩)), (12, .int .i64 (x86)), (11, .int .i64 (x85)), (10, .int .i64 (x62)), (9, .slice (some ⟨(w38.alloc (.cells #[.int .i64 1, .int .i64 3, .int .i64 4, .int .i64 5] 3)).heap.size, 0, none⟩) 4 4), (8, .slice (some ⟨w38.heap.size, 0, none⟩) 4 4), (6, .pointer (some ⟨z25, 0, none⟩)), (4, .pointer (some ⟨z11, 0, none⟩)), (0, .bool false)]) (by kernel_rfl) ?_
          intro a100 hF99; clear hF95
          have hS101 : St w0 F0 (RHeapP z25 z26 z27 z28 z29 s61 :: RowP (.slice (some ⟨w38.heap.size, 0, none⟩) 4 4) [1, 3, 4, 5] :: RowP (.slice (some ⟨(w38.alloc (.cells #[.int .i64 1, .int .i64 3, .int .i64 4, .int .i64 5] 3)).heap.size, 0, none⟩) 4 4) [9, 7, 10, 2] :: HeapP z11 z12 s87 :: ps) (w90.drew) := St.ordP [RowP (.slice (some ⟨w38.heap.size, 0, none⟩) 4 4) [1, 3, 4, 5], RowP (.slice (some ⟨(w38.alloc (.cells #[.int .i64 1, .int .i64 3, .int .i64 4, .int .i64 5] 3)).heap.size, 0, none⟩) 4 4) [9, 7, 10, 2], HeapP z11 z12 s87, RHeapP z25 z26 z27 z28 z29 s61] ps hS98 [3, 0, 1, 2] [] (by kernel_rfl)
          clear hS98
          refine any_call 9 #[true, true, true, true, true, true, true, true, true, true, false, false, false, false, false] 43 #[.pointer (some ⟨z25, 0, none⟩), .int .i64 (atI [1, 3, 4, 5] x62), .int .i64 (atI [9, 7, 10, 2] x62)] hF99 rfl (by kernel_rfl) rfl rfl (by kernel_rfl) rfl (by kernel_rfl) (fun w => by kernel_rfl) (by kernel_rfl) ?_
          obtain ⟨x102, x103, s104, hx105, hm106⟩ := bind3E hm89; clear hm89
          refine (q_Alloc hS101 hx105).mono ?_
          rintro _ w107 ⟨rfl, hS109⟩; clear hS101
          refine ⟨⟨_, St.ordP [RHeapP z25 z26 z27 z28 z29 s104, RowP (.slice (some ⟨w38.heap.size, 0, none⟩) 4 4) [1, 3, 4, 5], RowP (.slice (some ⟨(w38.alloc (.cells #[.int .i64 1, .int .i64 3, .int .i64 4, .int .i64 5] 3)).heap.size, 0, none⟩) 4 4) [9, 7, 10, 2], HeapP z11 z12 s87] ps hS109 [1, 2, 0, 3] [] (by kernel_rfl)⟩, ?_⟩
          intro a108 hF110; clear hF99
          have hF111 : Fr 77 a108 [(59, .tuple #[.int .i64 (x102), .int .i64 (x103)]), (58, .int .i64 (atI [9, 7, 10, 2] x62)), (54, .int .i64 (atI [1, 3, 4, 5] x62)), (50, .pointer (some ⟨z25, 0, none⟩)), (12, .int .i64 (x86)), (11, .int .i64 (x85)), (10, .int .i64 (x62)), (9, .slice (some ⟨(w38.alloc (.cells #[.int .i64 1, .int .i64 3, .int .i64 4, .int .i64 5] 3)).heap.size, 0, none⟩) 4 4), (8, .slice (some ⟨w38.heap.size, 0, none⟩) 4 4), (6, .pointer (some ⟨z25, 0, none⟩)), (4, .pointer (some ⟨z11, 0, none⟩)), (0, .bool false)] := hF110
          clear hF110
          refine any_many 5 [(10, some (.tuple #[.int .i64 (x102), .int .i64 (x103)])), (11, some (.int .i64 (x102))), (12, some (.int .i64 (x103))), (13, some (.int .i64 (x102))), (14, some (.int .i64 (x103)))] [0, 4, 6, 8, 9, 10, 11, 12, 13, 14, 66, 67, 68] #[true, true, true, true, true, true, true, true, true, true, true, true, true, true, true] (by rfl) hF111 (by kernel_rfl) (by kernel_rfl) (by exact (And.intro (fun wS hw => by kernel_rfl) (And.intro (fun wS hw => by kernel_rfl) (And.intro (fun wS hw => by kernel_rfl) (And.intro (fun wS hw => by kernel_rfl) (And.intro (fun wS hw => by kernel_rfl) trivial)))))) (fun _ _ _ _ _ h => h) ⟨_, St.ordP [RHeapP z25 z26 z27 z28 z29 s104, RowP (.slice (some ⟨w38.heap.size, 0, none⟩) 4 4) [1, 3, 4, 5], RowP (.slice (some ⟨(w38.alloc (.cells #[.int .i64 1, .int .i64 3, .int .i64 4, .int .i64 5] 3)).heap.size, 0, none⟩) 4 4) [9, 7, 10, 2], HeapP z11 z12 s87] ps hS109 [1, 2, 0, 3] [] (by kernel_rfl)⟩ (l' := [(14, .int .i64 (x103)), (13, .int .i64 (x102)), (12, .int .i64 (x86)), (11, .int .i64 (x85)), (10, .int .i64 (x62)), (9, .slice (some ⟨(w38.alloc (.cells #[.int .i64 1, .int .i64 3, .int .i64 4, .int .i64 5] 3)).heap.size, 0, none⟩) 4 4), (8, .slice (some ⟨w38.heap.size, 0, none⟩) 4 4), (6, .pointer (some ⟨z25, 0, none⟩)), (4, .pointer (some ⟨z11, 0, none⟩)), (0, .bool false)]) (by kernel_rfl) ?_
          intro a113 hF112; clear hF111
          refine any_done (by kernel_rfl) ?_
          refine thenN ?_
          refine wp_seq ?_
          refine wp_region_lit ?_
          refine ev_runs 4 hF112 (l' := [(65, .bool (x85 != x102)), (64, .bool (x85 != x102)), (63, .int .i64 (x102)), (62, .int .i64 (x85)), (14, .int .i64 (x103)), (13, .int .i64 (x102)), (12, .int .i64 (x86)), (11, .int .i64 (x85)), (10, .int .i64 (x62)), (9, .slice (some ⟨(w38.alloc (.cells #[.int .i64 1, .int .i64 3, .int .i64 4, .int .i64 5] 3)).heap.size, 0, none⟩) 4 4), (8, .slice (some ⟨w38.heap.size, 0, none⟩) 4 4), (6, .pointer (some ⟨z25, 0, none⟩)), (4, .pointer (some ⟨z11, 0, none⟩)), (0, .bool false)]) (w' := w107) (by kernel_rfl) ?_
          intro a115 hF114; clear hF112
          cases hc116 : (x85 != x102) with
          | true =>
            rw [hc116] at hF114
            rw [hc116] at hm106
            have hm117 := ifT hm106; clear hm106
            refine ev_runs 4 hF114 (l' := [(69, .bool true), (68, .tuple #[]), (67, .tuple #[]), (66, .tuple #[]), (65, .bool true), (64, .bool true), (63, .int .i64 (x102)), (62, .int .i64 (x85)), (14, .int .i64 (x103)), (13, .int .i64 (x102)), (12, .int .i64 (x86)), (11, .int .i64 (x85)), (10, .int .i64 (x62)), (9, .slice (some ⟨(w38.alloc (.cells #[.int .i64 1, .int .i64 3, .int .i64 4, .int .i64 5] 3)).heap.size, 0, none⟩) 4 4), (8, .slice (some ⟨w38.heap.size, 0, none⟩) 4 4), (6, .pointer (some ⟨z25, 0, none⟩)), (4, .pointer (some ⟨z11, 0, none⟩)), (0, .bool false)]) (w' := w107) (by kernel_rfl) ?_
            intro a119 hF118; clear hF114
            refine wpList_nil ?_
            have hF120 : Fr 77 a119 [(69, .bool true), (68, .tuple #[]), (67, .tuple #[]), (66, .tuple #[]), (10, .int .i64 (x62)), (9, .slice (some ⟨(w38.alloc (.cells #[.int .i64 1, .int .i64 3, .int .i64 4, .int .i64 5] 3)).heap.size, 0, none⟩) 4 4), (8, .slice (some ⟨w38.heap.size, 0, none⟩) 4 4), (6, .pointer (some ⟨z25, 0, none⟩)), (4, .pointer (some ⟨z11, 0, none⟩)), (0, .bool false)] := hF118.keep [0, 4, 6, 8, 9, 10, 66, 67, 68, 69]
            clear hF118
            refine thenN ?_
            refine ev_condT hF120 rfl rfl ?_
            refine wp_seq ?_
            refine wp_region_lit ?_
            refine ev_runs 2 hF120 (l' := [(3, .pointer none), (2, .pointer none), (69, .bool true), (68, .tuple #[]), (67, .tuple #[]), (66, .tuple #[]), (10, .int .i64 (x62)), (9, .slice (some ⟨(w38.alloc (.cells #[.int .i64 1, .int .i64 3, .int .i64 4, .int .i64 5] 3)).heap.size, 0, none⟩) 4 4), (8, .slice (some ⟨w38.heap.size, 0, none⟩) 4 4), (6, .pointer (some ⟨z25, 0, none⟩)), (4, .pointer (some ⟨z11, 0, none⟩)), (0, .bool false)]) (w' := w107) (by kernel_rfl) ?_
            intro a122 hF121; clear hF120
            refine wpList_nil ?_
            have hF123 : Fr 77 a122 [(3, .pointer none), (2, .pointer none)] := hF121.keep [2, 3]
            clear hF121
            have hS124 : St w0 F0 (ps) w107 := St.ordP [RHeapP z25 z26 z27 z28 z29 s104, RowP (.slice (some ⟨w38.heap.size, 0, none⟩) 4 4) [1, 3, 4, 5], RowP (.slice (some ⟨(w38.alloc (.cells #[.int .i64 1, .int .i64 3, .int .i64 4, .int .i64 5] 3)).heap.size, 0, none⟩) 4 4) [9, 7, 10, 2], HeapP z11 z12 s87] ps hS109 [] [0, 1, 2, 3] (by kernel_rfl)
            clear hS109
            refine thenN ?_
            refine wp_ret ?_
            refine blockR ?_
            refine thenR ?_
            refine thenR ?_
            refine blockR ?_
            refine thenR ?_
            cases hm117
          | false =>
            rw [hc116] at hF114
            rw [hc116] at hm106
            have hm125 := ifF hm106; clear hm106
            refine ev_runs 4 hF114 (l' := [(69, .bool (x86 != x103)), (68, .bool (x86 != x103)), (67, .int .i64 (x103)), (66, .int .i64 (x86)), (65, .bool false), (64, .bool false), (63, .int .i64 (x102)), (62, .int .i64 (x85)), (14, .int .i64 (x103)), (13, .int .i64 (x102)), (12, .int .i64 (x86)), (11, .int .i64 (x85)), (10, .int .i64 (x62)), (9, .slice (some ⟨(w38.alloc (.cells #[.int .i64 1, .int .i64 3, .int .i64 4, .int .i64 5] 3)).heap.size, 0, none⟩) 4 4), (8, .slice (some ⟨w38.heap.size, 0, none⟩) 4 4), (6, .pointer (some ⟨z25, 0, none⟩)), (4, .pointer (some ⟨z11, 0, none⟩)), (0, .bool false)]) (w' := w107) (by kernel_rfl) ?_
            intro a127 hF126; clear hF114
            refine wpList_nil ?_
            have hF128 : Fr 77 a127 [(69, .bool (x86 != x103)), (68, .bool (x86 != x103)), (67, .int .i64 (x103)), (66, .int .i64 (x86)), (10, .int .i64 (x62)), (9, .slice (some ⟨(w38.alloc (.cells #[.int .i64 1, .int .i64 3, .int .i64 4, .int .i64 5] 3)).heap.size, 0, none⟩) 4 4), (8, .slice (some ⟨w38.heap.size, 0, none⟩) 4 4), (6, .pointer (some ⟨z25, 0, none⟩)), (4, .pointer (some ⟨z11, 0, none⟩)), (0, .bool false)] := hF126.keep [0, 4, 6, 8, 9, 10, 66, 67, 68, 69]
            clear hF126
            refine thenN ?_
            cases hc129 : (x86 != x103) with
            | true =>
              rw [hc129] at hF128
              rw [hc129] at hm125
              have hm130 := ifT hm125; clear hm125
              refine ev_condT hF128 rfl rfl ?_
              refine wp_seq ?_
              refine wp_region_lit ?_
              refine ev_runs 2 hF128 (l' := [(3, .pointer none), (2, .pointer none), (69, .bool true), (68, .bool true), (67, .int .i64 (x103)), (66, .int .i64 (x86)), (10, .int .i64 (x62)), (9, .slice (some ⟨(w38.alloc (.cells #[.int .i64 1, .int .i64 3, .int .i64 4, .int .i64 5] 3)).heap.size, 0, none⟩) 4 4), (8, .slice (some ⟨w38.heap.size, 0, none⟩) 4 4), (6, .pointer (some ⟨z25, 0, none⟩)), (4, .pointer (some ⟨z11, 0, none⟩)), (0, .bool false)]) (w' := w107) (by kernel_rfl) ?_
              intro a132 hF131; clear hF128
              refine wpList_nil ?_
              have hF133 : Fr 77 a132 [(3, .pointer none), (2, .pointer none)] := hF131.keep [2, 3]
              clear hF131
              have hS134 : St w0 F0 (ps) w107 := St.ordP [RHeapP z25 z26 z27 z28 z29 s104, RowP (.slice (some ⟨w38.heap.size, 0, none⟩) 4 4) [1, 3, 4, 5], RowP (.slice (some ⟨(w38.alloc (.cells #[.int .i64 1, .int .i64 3, .int .i64 4, .int .i64 5] 3)).heap.size, 0, none⟩) 4 4) [9, 7, 10, 2], HeapP z11 z12 s87] ps hS109 [] [0, 1, 2, 3] (by kernel_rfl)
              clear hS109
              refine thenN ?_
              refine wp_ret ?_
              refine blockR ?_
              refine thenR ?_
              refine thenR ?_
              refine blockR ?_
              refine thenR ?_
              cases hm130
            | false =>
              rw [hc129] at hF128
              rw [hc129] at hm125
              have hm135 := ifF hm125; clear hm125
              refine ev_condF hF128 rfl rfl ?_
              refine wp_skip ?_
              have hF136 : Fr 77 a127 [(68, .bool false), (67, .int .i64 (x103)), (66, .int .i64 (x86)), (10, .int .i64 (x62)), (9, .slice (some ⟨(w38.alloc (.cells #[.int .i64 1, .int .i64 3, .int .i64 4, .int .i64 5] 3)).heap.size, 0, none⟩) 4 4), (8, .slice (some ⟨w38.heap.size, 0, none⟩) 4 4), (6, .pointer (some ⟨z25, 0, none⟩)), (4, .pointer (some ⟨z11, 0, none⟩)), (0, .bool false)] := hF128.keep [0, 4, 6, 8, 9, 10, 66, 67, 68]
              clear hF128
              refine blockN ?_
              refine thenN ?_
              refine wp_region_lit ?_
              refine ev_runs 3 hF136 (l' := [(10, .int .i64 (IntKind.i64.wrap (x62 + 1))), (35, .int .i64 (IntKind.i64.wrap (x62 + 1))), (34, .int .i64 (x62)), (68, .bool false), (67, .int .i64 (x103)), (66, .int .i64 (x86)), (9, .slice (some ⟨(w38.alloc (.cells #[.int .i64 1, .int .i64 3, .int .i64 4, .int .i64 5] 3)).heap.size, 0, none⟩) 4 4), (8, .slice (some ⟨w38.heap.size, 0, none⟩) 4 4), (6, .pointer (some ⟨z25, 0, none⟩)), (4, .pointer (some ⟨z11, 0, none⟩)), (0, .bool false)]) (w' := w107) (by kernel_rfl) ?_
              intro a138 hF137; clear hF136
              refine wpList_nil ?_
              have hF139 : Fr 77 a138 [(10, .int .i64 (IntKind.i64.wrap (x62 + 1))), (68, .bool false), (67, .int .i64 (x103)), (66, .int .i64 (x86)), (9, .slice (some ⟨(w38.alloc (.cells #[.int .i64 1, .int .i64 3, .int .i64 4, .int .i64 5] 3)).heap.size, 0, none⟩) 4 4), (8, .slice (some ⟨w38.heap.size, 0, none⟩) 4 4), (6, .pointer (some ⟨z25, 0, none⟩)), (4, .pointer (some ⟨z11, 0, none⟩)), (0, .bool false)] := hF137.keep [0, 4, 6, 8, 9, 10, 66, 67, 68]
              clear hF137
              have hF140 : Fr 77 a138 [(10, .int .i64 (IntKind.i64.wrap (x62 + 1))), (9, .slice (some ⟨(w38.alloc (.cells #[.int .i64 1, .int .i64 3, .int .i64 4, .int .i64 5] 3)).heap.size, 0, none⟩) 4 4), (8, .slice (some ⟨w38.heap.size, 0, none⟩) 4 4), (6, .pointer (some ⟨z25, 0, none⟩)), (4, .pointer (some ⟨z11, 0, none⟩)), (0, .bool false)] := Fr.re hF139 (by kernel_rfl)
              clear hF139
              have hS141 : St w0 F0 (RowP (.slice (some ⟨(w38.alloc (.cells #[.int .i64 1, .int .i64 3, .int .i64 4, .int .i64 5] 3)).heap.size, 0, none⟩) 4 4) [9, 7, 10, 2] :: RowP (.slice (some ⟨w38.heap.size, 0, none⟩) 4 4) [1, 3, 4, 5] :: HeapP z11 z12 s87 :: RHeapP z25 z26 z27 z28 z29 s104 :: ps) w107 := St.ordP [RHeapP z25 z26 z27 z28 z29 s104, RowP (.slice (some ⟨w38.heap.size, 0, none⟩) 4 4) [1, 3, 4, 5], RowP (.slice (some ⟨(w38.alloc (.cells #[.int .i64 1, .int .i64 3, .int .i64 4, .int .i64 5] 3)).heap.size, 0, none⟩) 4 4) [9, 7, 10, 2], HeapP z11 z12 s87] ps hS109 [2, 1, 3, 0] [] (by kernel_rfl)
              clear hS109
              exact thenN ⟨k63, Nat.lt_succ_self _, s87, s104, IntKind.i64.wrap (x62 + 1), hF140, hS141, hm135⟩
    | false =>
      rw [hc73] at hF72
      rw [hc73] at hm69
      have hm142 := ifF hm69; clear hm69
      refine ev_condF hF72 rfl rfl ?_
      refine wp_exit ?_
      refine thenE ?_
      refine thenE ?_
      refine blockE ?_
      refine thenN ?_
      refine wp_seq ?_
      refine wp_seq ?_
      refine wp_region_lit ?_
      refine ev_runs 1 hF72 (l' := [(70, .bool false), (33, .bool false), (10, .int .i64 (x62)), (9, .slice (some ⟨(w38.alloc (.cells #[.int .i64 1, .int .i64 3, .int .i64 4, .int .i64 5] 3)).heap.size, 0, none⟩) 4 4), (8, .slice (some ⟨w38.heap.size, 0, none⟩) 4 4), (6, .pointer (some ⟨z25, 0, none⟩)), (4, .pointer (some ⟨z11, 0, none⟩)), (0, .bool false)]) (w' := w65) (by kernel_rfl) ?_
      intro a144 hF143; clear hF72
      refine wpList_nil ?_
      have hF145 : Fr 77 a144 [(70, .bool false), (6, .pointer (some ⟨z25, 0, none⟩)), (4, .pointer (some ⟨z11, 0, none⟩))] := hF143.keep [4, 6, 70]
      clear hF143
      have hS146 : St w0 F0 (HeapP z11 z12 s60 :: RHeapP z25 z26 z27 z28 z29 s61 :: ps) w65 := St.ordP [RowP (.slice (some ⟨(w38.alloc (.cells #[.int .i64 1, .int .i64 3, .int .i64 4, .int .i64 5] 3)).heap.size, 0, none⟩) 4 4) [9, 7, 10, 2], RowP (.slice (some ⟨w38.heap.size, 0, none⟩) 4 4) [1, 3, 4, 5], HeapP z11 z12 s60, RHeapP z25 z26 z27 z28 z29 s61] ps hS67 [2, 3] [0, 1] (by kernel_rfl)
      clear hS67
      refine thenN ?_
      refine ev_condF hF145 rfl rfl ?_
      refine wp_skip ?_
      have hF147 : Fr 77 a144 [(6, .pointer (some ⟨z25, 0, none⟩)), (4, .pointer (some ⟨z11, 0, none⟩))] := hF145.keep [4, 6]
      clear hF145
      refine thenN ?_
      refine wp_seq ?_
      refine wp_region_lit ?_
      refine ev_runs 4 hF147 (l' := [(3, .pointer (some ⟨z25, 0, none⟩)), (2, .pointer (some ⟨z11, 0, none⟩)), (76, .pointer (some ⟨z25, 0, none⟩)), (75, .pointer (some ⟨z11, 0, none⟩)), (6, .pointer (some ⟨z25, 0, none⟩)), (4, .pointer (some ⟨z11, 0, none⟩))]) (w' := w65) (by kernel_rfl) ?_
      intro a149 hF148; clear hF147
      refine wpList_nil ?_
      have hF150 : Fr 77 a149 [(3, .pointer (some ⟨z25, 0, none⟩)), (2, .pointer (some ⟨z11, 0, none⟩))] := hF148.keep [2, 3]
      clear hF148
      refine thenN ?_
      refine wp_ret ?_
      simp only [Option.some.injEq, Prod.mk.injEq] at hm142
      obtain ⟨rfl, rfl⟩ := hm142
      refine ev_ret hF150 [2, 3] (.tuple #[.pointer (some ⟨z11, 0, none⟩), .pointer (some ⟨z25, 0, none⟩)]) rfl rfl rfl ?_
      exact ⟨_, _, _, _, _, _, _, rfl, hS146⟩

def law11_places.l1b (s0 : HSt) (rec33 : Int → Int → Int → Int → Int → Option (Int × Int × Int × Int × HSt)) (x26 : Int) (x27 : Int) (x28 : Int) (x29 : Int) (x30 : Int) : Option (Int × Int × Int × Int × HSt) := (if (decide (x26 < ((hObjsF s0.a).length : Int))) then (if (inR x26 (hObjsF s0.a).length) then (if ((aKind s0.a.c (atI (hObjsF s0.a) x26)) == 1) then rec33 (IntKind.i64.wrap (x26 + 1)) x27 x28 x29 (atI (hObjsF s0.a) x26) else (if ((aKind s0.a.c (atI (hObjsF s0.a) x26)) == 3) then rec33 (IntKind.i64.wrap (x26 + 1)) x27 x28 (atI (hObjsF s0.a) x26) x30 else (if ((aKind s0.a.c (atI (hObjsF s0.a) x26)) == 4) then rec33 (IntKind.i64.wrap (x26 + 1)) x27 (atI (hObjsF s0.a) x26) x29 x30 else rec33 (IntKind.i64.wrap (x26 + 1)) (atI (hObjsF s0.a) x26) x28 x29 x30))) else none) else some (x30, x29, x28, x27, s0))
def law11_places.l1 (s0 : HSt) : Nat → Int → Int → Int → Int → Int → Option (Int × Int × Int × Int × HSt)
  | 0 => fun _ _ _ _ _ => none
  | kI + 1 => law11_places.l1b s0 (law11_places.l1 s0 kI)
def law11_places.m (k : Nat) (s0 : HSt) : Option (Int × Int × Int × Int × HSt) := law11_places.l1 s0 k 0 (-1) (-1) (-1) (-1)
set_option maxRecDepth 100000 in
set_option maxHeartbeats 1500000 in
theorem law11_places.ok {w0 w : World} {F0 : List Nat} {ps : List Piece} {k : Nat} {b0 ab0 sb0 g0 cb0 : Nat} {s0 : HSt} {r0 : Int} {r1 : Int} {r2 : Int} {r3 : Int} {t0 : HSt} (hS : St w0 F0 (RHeapP b0 ab0 sb0 g0 cb0 s0 :: ps) w) (hm : law11_places.m k s0 = some (r0, r1, r2, r3, t0)) :
    Calls Try.prog 13 #[.pointer (some ⟨b0, 0, none⟩)] w fun e w' => e = .returned (.tuple #[.int .i64 r0, .int .i64 r1, .int .i64 r2, .int .i64 r3]) ∧ St w0 F0 (RHeapP b0 ab0 sb0 g0 cb0 t0 :: ps) w' := by
  refine ev_enterL 58 [.pointer (some ⟨b0, 0, none⟩)] Try.func13 rfl rfl (by simp) ?_
  intro a hF
  have hF0 : Fr 58 a [(0, .pointer (some ⟨b0, 0, none⟩))] := hF; clear hF
  unfold law11_places.m at hm
  refine wp_seq ?_
  refine wp_region_lit ?_
  refine ev_runs 4 hF0 (l' := [(5, .int .i64 0), (4, .int .i64 0), (3, .int .i64 0), (2, .int .i64 0), (0, .pointer (some ⟨b0, 0, none⟩))]) (w' := w) (by kernel_rfl) ?_
  intro a2 hF1; clear hF0
  refine wpList_nil ?_
  have hF3 : Fr 58 a2 [(0, .pointer (some ⟨b0, 0, none⟩))] := hF1.keep [0]
  clear hF1
  refine thenN ?_
  refine wp_seq ?_
  refine wp_region_lit ?_
  refine ev_runs 4 hF3 (l' := [(9, .int .i64 (-1)), (8, .int .i64 (-1)), (7, .int .i64 (-1)), (6, .int .i64 (-1)), (0, .pointer (some ⟨b0, 0, none⟩))]) (w' := w) (by kernel_rfl) ?_
  intro a5 hF4; clear hF3
  refine wpList_nil ?_
  refine thenN ?_
  refine wp_seq ?_
  refine wp_region_lit ?_
  refine ev_runs 3 hF4 (l' := [(14, .pointer (some ⟨b0, 0, none⟩)), (13, .pointer (some ⟨b0, 0, none⟩)), (12, .pointer (some ⟨b0, 0, none⟩)), (9, .int .i64 (-1)), (8, .int .i64 (-1)), (7, .int .i64 (-1)), (6, .int .i64 (-1)), (0, .pointer (some ⟨b0, 0, none⟩))]) (w' := w) (by kernel_rfl) ?_
  intro a7 hF6; clear hF4
  refine ev_one (.pointer (some ⟨ab0, 0, none⟩)) w hF6 (by kernel_rfl) rfl (by kernel_rfl) (run_loadV rfl rfl (run_loadS rfl rfl (St.rhsee (k := 0) hS rfl).1)) (l' := [(15, .pointer (some ⟨ab0, 0, none⟩)), (14, .pointer (some ⟨b0, 0, none⟩)), (13, .pointer (some ⟨b0, 0, none⟩)), (12, .pointer (some ⟨b0, 0, none⟩)), (9, .int .i64 (-1)), (8, .int .i64 (-1)), (7, .int .i64 (-1)), (6, .int .i64 (-1)), (0, .pointer (some ⟨b0, 0, none⟩))]) (by kernel_rfl) ?_
  intro a9 hF8; clear hF6
  refine ev_call 45 #[.pointer (some ⟨ab0, 0, none⟩)] hF8 rfl rfl (by kernel_rfl) rfl (by kernel_rfl) (fun w => by kernel_rfl) ?_
  refine (q_Objects hS).mono ?_
  rintro _ w10 ⟨z14, rfl, hS12⟩ a11 hF13; clear hF8 hS
  obtain ⟨hl19, p16, c17, rfl, hp18⟩ := St.shape hS12 1 rfl
  have hF20 : Fr 58 a11 [(16, .slice p16 (hObjsF s0.a).length c17), (15, .pointer (some ⟨ab0, 0, none⟩)), (14, .pointer (some ⟨b0, 0, none⟩)), (13, .pointer (some ⟨b0, 0, none⟩)), (12, .pointer (some ⟨b0, 0, none⟩)), (9, .int .i64 (-1)), (8, .int .i64 (-1)), (7, .int .i64 (-1)), (6, .int .i64 (-1)), (0, .pointer (some ⟨b0, 0, none⟩))] := hF13
  clear hF13
  refine ev_runs 1 hF20 (l' := [(10, .slice p16 (hObjsF s0.a).length c17), (16, .slice p16 (hObjsF s0.a).length c17), (15, .pointer (some ⟨ab0, 0, none⟩)), (14, .pointer (some ⟨b0, 0, none⟩)), (13, .pointer (some ⟨b0, 0, none⟩)), (12, .pointer (some ⟨b0, 0, none⟩)), (9, .int .i64 (-1)), (8, .int .i64 (-1)), (7, .int .i64 (-1)), (6, .int .i64 (-1)), (0, .pointer (some ⟨b0, 0, none⟩))]) (w' := w10) (by kernel_rfl) ?_
  intro a22 hF21; clear hF20
  refine wpList_nil ?_
  have hF23 : Fr 58 a22 [(10, .slice p16 (hObjsF s0.a).length c17), (9, .int .i64 (-1)), (8, .int .i64 (-1)), (7, .int .i64 (-1)), (6, .int .i64 (-1)), (0, .pointer (some ⟨b0, 0, none⟩))] := hF21.keep [0, 6, 7, 8, 9, 10]
  clear hF21
  refine thenN ?_
  refine wp_seq ?_
  refine wp_seq ?_
  refine wp_region_lit ?_
  refine ev_runs 1 hF23 (l' := [(11, .int .i64 0), (10, .slice p16 (hObjsF s0.a).length c17), (9, .int .i64 (-1)), (8, .int .i64 (-1)), (7, .int .i64 (-1)), (6, .int .i64 (-1)), (0, .pointer (some ⟨b0, 0, none⟩))]) (w' := w10) (by kernel_rfl) ?_
  intro a25 hF24; clear hF23
  refine wpList_nil ?_
  refine thenN ?_
  refine wp_block ?_
  refine wp_loop_ghost (fun kI aI wI => ∃ (x26 : Int) (x27 : Int) (x28 : Int) (x29 : Int) (x30 : Int), Fr 58 aI [(11, .int .i64 (x26)), (10, .slice p16 (hObjsF s0.a).length c17), (9, .int .i64 (x27)), (8, .int .i64 (x28)), (7, .int .i64 (x29)), (6, .int .i64 (x30)), (0, .pointer (some ⟨b0, 0, none⟩))] ∧ St w0 F0 (RHeapP b0 ab0 sb0 g0 cb0 s0 :: RowP (.slice p16 (hObjsF s0.a).length c17) (hObjsF s0.a) :: ps) wI ∧ law11_places.l1 s0 kI x26 x27 x28 x29 x30 = some (r0, r1, r2, r3, t0)) k ⟨0, -1, -1, -1, -1, hF24, hS12, hm⟩ ?_
  rintro k31 a32 w33 ⟨x26, x27, x28, x29, x30, hF34, hS35, hm36⟩
  clear hF24 hS12 hm
  cases k31 with
  | zero => cases hm36
  | succ k31 =>
    have hm37 : law11_places.l1b s0 (law11_places.l1 s0 k31) x26 x27 x28 x29 x30 = some (r0, r1, r2, r3, t0) := hm36
    clear hm36
    unfold law11_places.l1b at hm37
    refine wp_seq ?_
    refine wp_seq ?_
    refine wp_region_lit ?_
    refine ev_runs 4 hF34 (l' := [(20, .bool (decide (x26 < ((hObjsF s0.a).length : Int)))), (19, .int .i64 (((hObjsF s0.a).length : Int))), (18, .slice p16 (hObjsF s0.a).length c17), (17, .int .i64 (x26)), (11, .int .i64 (x26)), (10, .slice p16 (hObjsF s0.a).length c17), (9, .int .i64 (x27)), (8, .int .i64 (x28)), (7, .int .i64 (x29)), (6, .int .i64 (x30)), (0, .pointer (some ⟨b0, 0, none⟩))]) (w' := w33) (by kernel_rfl) ?_
    intro a39 hF38; clear hF34
    refine wpList_nil ?_
    have hF40 : Fr 58 a39 [(20, .bool (decide (x26 < ((hObjsF s0.a).length : Int)))), (11, .int .i64 (x26)), (10, .slice p16 (hObjsF s0.a).length c17), (9, .int .i64 (x27)), (8, .int .i64 (x28)), (7, .int .i64 (x29)), (6, .int .i64 (x30)), (0, .pointer (some ⟨b0, 0, none⟩))] := hF38.keep [0, 6, 7, 8, 9, 10, 11, 20]
    clear hF38
    refine thenN ?_
    cases hc41 : (decide (x26 < ((hObjsF s0.a).length : Int))) with
    | true =>
      rw [hc41] at hF40
      rw [hc41] at hm37
      have hm42 := ifT hm37; clear hm37
      refine ev_condT hF40 rfl rfl ?_
      refine wp_skip ?_
      have hF43 : Fr 58 a39 [(11, .int .i64 (x26)), (10, .slice p16 (hObjsF s0.a).length c17), (9, .int .i64 (x27)), (8, .int .i64 (x28)), (7, .int .i64 (x29)), (6, .int .i64 (x30)), (0, .pointer (some ⟨b0, 0, none⟩))] := hF40.keep [0, 6, 7, 8, 9, 10, 11]
      clear hF40
      refine thenN ?_
      refine wp_seq ?_
      refine wp_block ?_
      refine wp_seq ?_
      -- draws
      cases hc44 : (inR x26 (hObjsF s0.a).length) with
      | false => rw [hc44] at hm42; cases hm42
      | true =>
        rw [hc44] at hm42
        have hm45 := ifT hm42; clear hm42
        obtain ⟨g46, rfl⟩ := hp18.resolve_left (by have := inR_spec hc44; omega)
        have hS47 := hS35.drew; clear hS35
        refine any_start (fun wS => ∃ qs, St w0 F0 (RHeapP b0 ab0 sb0 g0 cb0 s0 :: RowP (.slice (some ⟨g46, 0, none⟩) (hObjsF s0.a).length c17) (hObjsF s0.a) :: qs) wS) 9 #[false, false, false, false, false, false, false, false, false] (by kernel_rfl) (by kernel_rfl) (by kernel_rfl) ?_
        refine any_many 8 [(0, some (.pointer (some ⟨b0, 0, none⟩))), (1, some (.pointer (some ⟨b0, 0, none⟩))), (2, some (.pointer (some ⟨b0, 0, none⟩))), (3, some (.pointer (some ⟨ab0, 0, none⟩))), (4, some (.slice (some ⟨g46, 0, none⟩) (hObjsF s0.a).length c17)), (5, some (.int .i64 (x26))), (6, some (.pointer (some ⟨g46, x26.toNat, none⟩))), (7, some (.int .i64 (atI (hObjsF s0.a) x26)))] [0, 6, 7, 8, 9, 10, 11, 26, 30, 31] #[true, true, true, true, true, true, true, true, false] (by rfl) hF43 (by kernel_rfl) (by kernel_rfl) (by exact (And.intro (fun wS hw => by kernel_rfl) (And.intro (fun wS hw => by kernel_rfl) (And.intro (fun wS hw => by kernel_rfl) (And.intro (fun wS hw => hw.elim fun qs hw => run_loadV rfl rfl (run_loadS rfl rfl (St.rhsee (k := 0) hw rfl).1)) (And.intro (fun wS hw => by kernel_rfl) (And.intro (fun wS hw => by kernel_rfl) (And.intro (fun wS hw => run_idx rfl rfl rfl rfl rfl (inR_spec hc44).1 (inR_spec hc44).2 _) (And.intro (fun wS hw => run_load1 rfl rfl rfl (hw.elim fun qs hw => hw.atI 1 rfl hc44)) trivial))))))))) (fun _ _ _ _ _ h => h) ⟨_, hS47⟩ (l' := [(30, .int .i64 (atI (hObjsF s0.a) x26)), (26, .pointer (some ⟨ab0, 0, none⟩)), (11, .int .i64 (x26)), (10, .slice (some ⟨g46, 0, none⟩) (hObjsF s0.a).length c17), (9, .int .i64 (x27)), (8, .int .i64 (x28)), (7, .int .i64 (x29)), (6, .int .i64 (x30)), (0, .pointer (some ⟨b0, 0, none⟩))]) (by kernel_rfl) ?_
        intro a49 hF48; clear hF43
        refine any_call 8 #[true, true, true, true, true, true, true, true, true] 46 #[.pointer (some ⟨ab0, 0, none⟩), .int .i64 (atI (hObjsF s0.a) x26)] hF48 rfl (by kernel_rfl) rfl rfl (by kernel_rfl) rfl (by kernel_rfl) (fun w => by kernel_rfl) (by kernel_rfl) ?_
        refine (q_Kind hS47).mono ?_
        rintro _ w50 ⟨rfl, hS52⟩; clear hS47
        refine ⟨⟨_, hS52⟩, ?_⟩
        intro a51 hF53; clear hF48
        have hF54 : Fr 58 a51 [(31, .int .i64 (aKind s0.a.c (atI (hObjsF s0.a) x26))), (30, .int .i64 (atI (hObjsF s0.a) x26)), (26, .pointer (some ⟨ab0, 0, none⟩)), (11, .int .i64 (x26)), (10, .slice (some ⟨g46, 0, none⟩) (hObjsF s0.a).length c17), (9, .int .i64 (x27)), (8, .int .i64 (x28)), (7, .int .i64 (x29)), (6, .int .i64 (x30)), (0, .pointer (some ⟨b0, 0, none⟩))] := hF53
        clear hF53
        refine any_done (by kernel_rfl) ?_
        have hF55 : Fr 58 a51 [(31, .int .i64 (aKind s0.a.c (atI (hObjsF s0.a) x26))), (11, .int .i64 (x26)), (10, .slice (some ⟨g46, 0, none⟩) (hObjsF s0.a).length c17), (9, .int .i64 (x27)), (8, .int .i64 (x28)), (7, .int .i64 (x29)), (6, .int .i64 (x30)), (0, .pointer (some ⟨b0, 0, none⟩))] := hF54.keep [0, 6, 7, 8, 9, 10, 11, 31]
        clear hF54
        refine thenN ?_
        refine wp_block ?_
        refine wp_seq ?_
        refine wp_region_lit ?_
        refine ev_runs 2 hF55 (l' := [(36, .bool ((aKind s0.a.c (atI (hObjsF s0.a) x26)) == 1)), (37, .bool ((aKind s0.a.c (atI (hObjsF s0.a) x26)) == 1)), (31, .int .i64 (aKind s0.a.c (atI (hObjsF s0.a) x26))), (11, .int .i64 (x26)), (10, .slice (some ⟨g46, 0, none⟩) (hObjsF s0.a).length c17), (9, .int .i64 (x27)), (8, .int .i64 (x28)), (7, .int .i64 (x29)), (6, .int .i64 (x30)), (0, .pointer (some ⟨b0, 0, none⟩))]) (w' := w50) (by kernel_rfl) ?_
        intro a57 hF56; clear hF55
        refine wpList_nil ?_
        have hF58 : Fr 58 a57 [(36, .bool ((aKind s0.a.c (atI (hObjsF s0.a) x26)) == 1)), (31, .int .i64 (aKind s0.a.c (atI (hObjsF s0.a) x26))), (11, .int .i64 (x26)), (10, .slice (some ⟨g46, 0, none⟩) (hObjsF s0.a).length c17), (9, .int .i64 (x27)), (8, .int .i64 (x28)), (7, .int .i64 (x29)), (6, .int .i64 (x30)), (0, .pointer (some ⟨b0, 0, none⟩))] := hF56.keep [0, 6, 7, 8, 9, 10, 11, 31, 36]
        clear hF56
        refine thenN ?_
        cases hc59 : ((aKind s0.a.c (atI (hObjsF s0.a) x26)) == 1) with
        | true =>
          rw [hc59] at hF58
          rw [hc59] at hm45
          have hm60 := ifT hm45; clear hm45
          refine ev_condT hF58 rfl rfl ?_
          refine wp_region_lit ?_
          refine ev_runs 2 hF58 (l' := [(39, .int .i64 (x26)), (38, .slice (some ⟨g46, 0, none⟩) (hObjsF s0.a).length c17), (36, .bool true), (31, .int .i64 (aKind s0.a.c (atI (hObjsF s0.a) x26))), (11, .int .i64 (x26)), (10, .slice (some ⟨g46, 0, none⟩) (hObjsF s0.a).length c17), (9, .int .i64 (x27)), (8, .int .i64 (x28)), (7, .int .i64 (x29)), (6, .int .i64 (x30)), (0, .pointer (some ⟨b0, 0, none⟩))]) (w' := w50) (by kernel_rfl) ?_
          intro a62 hF61; clear hF58
          refine ev_one (.pointer (some ⟨g46, x26.toNat, none⟩)) w50 hF61 (by kernel_rfl) rfl (by kernel_rfl) (run_idx rfl rfl rfl rfl rfl (inR_spec hc44).1 (inR_spec hc44).2 _) (l' := [(40, .pointer (some ⟨g46, x26.toNat, none⟩)), (39, .int .i64 (x26)), (38, .slice (some ⟨g46, 0, none⟩) (hObjsF s0.a).length c17), (36, .bool true), (31, .int .i64 (aKind s0.a.c (atI (hObjsF s0.a) x26))), (11, .int .i64 (x26)), (10, .slice (some ⟨g46, 0, none⟩) (hObjsF s0.a).length c17), (9, .int .i64 (x27)), (8, .int .i64 (x28)), (7, .int .i64 (x29)), (6, .int .i64 (x30)), (0, .pointer (some ⟨b0, 0, none⟩))]) (by kernel_rfl) ?_
          intro a64 hF63; clear hF61
          refine ev_one (.int .i64 (atI (hObjsF s0.a) x26)) w50 hF63 (by kernel_rfl) rfl (by kernel_rfl) (run_load1 rfl rfl rfl (hS52.atI 1 rfl hc44)) (l' := [(41, .int .i64 (atI (hObjsF s0.a) x26)), (40, .pointer (some ⟨g46, x26.toNat, none⟩)), (39, .int .i64 (x26)), (38, .slice (some ⟨g46, 0, none⟩) (hObjsF s0.a).length c17), (36, .bool true), (31, .int .i64 (aKind s0.a.c (atI (hObjsF s0.a) x26))), (11, .int .i64 (x26)), (10, .slice (some ⟨g46, 0, none⟩) (hObjsF s0.a).length c17), (9, .int .i64 (x27)), (8, .int .i64 (x28)), (7, .int .i64 (x29)), (6, .int .i64 (x30)), (0, .pointer (some ⟨b0, 0, none⟩))]) (by kernel_rfl) ?_
          intro a66 hF65; clear hF63
          refine ev_runs 1 hF65 (l' := [(6, .int .i64 (atI (hObjsF s0.a) x26)), (41, .int .i64 (atI (hObjsF s0.a) x26)), (40, .pointer (some ⟨g46, x26.toNat, none⟩)), (39, .int .i64 (x26)), (38, .slice (some ⟨g46, 0, none⟩) (hObjsF s0.a).length c17), (36, .bool true), (31, .int .i64 (aKind s0.a.c (atI (hObjsF s0.a) x26))), (11, .int .i64 (x26)), (10, .slice (some ⟨g46, 0, none⟩) (hObjsF s0.a).length c17), (9, .int .i64 (x27)), (8, .int .i64 (x28)), (7, .int .i64 (x29)), (0, .pointer (some ⟨b0, 0, none⟩))]) (w' := w50) (by kernel_rfl) ?_
          intro a68 hF67; clear hF65
          refine wpList_nil ?_
          have hF69 : Fr 58 a68 [(6, .int .i64 (atI (hObjsF s0.a) x26)), (11, .int .i64 (x26)), (10, .slice (some ⟨g46, 0, none⟩) (hObjsF s0.a).length c17), (9, .int .i64 (x27)), (8, .int .i64 (x28)), (7, .int .i64 (x29)), (0, .pointer (some ⟨b0, 0, none⟩))] := hF67.keep [0, 6, 7, 8, 9, 10, 11]
          clear hF67
          refine blockN ?_
          refine blockN ?_
          refine thenN ?_
          refine wp_region_lit ?_
          refine ev_runs 3 hF69 (l' := [(11, .int .i64 (IntKind.i64.wrap (x26 + 1))), (22, .int .i64 (IntKind.i64.wrap (x26 + 1))), (21, .int .i64 (x26)), (6, .int .i64 (atI (hObjsF s0.a) x26)), (10, .slice (some ⟨g46, 0, none⟩) (hObjsF s0.a).length c17), (9, .int .i64 (x27)), (8, .int .i64 (x28)), (7, .int .i64 (x29)), (0, .pointer (some ⟨b0, 0, none⟩))]) (w' := w50) (by kernel_rfl) ?_
          intro a71 hF70; clear hF69
          refine wpList_nil ?_
          have hF72 : Fr 58 a71 [(11, .int .i64 (IntKind.i64.wrap (x26 + 1))), (6, .int .i64 (atI (hObjsF s0.a) x26)), (10, .slice (some ⟨g46, 0, none⟩) (hObjsF s0.a).length c17), (9, .int .i64 (x27)), (8, .int .i64 (x28)), (7, .int .i64 (x29)), (0, .pointer (some ⟨b0, 0, none⟩))] := hF70.keep [0, 6, 7, 8, 9, 10, 11]
          clear hF70
          have hF73 : Fr 58 a71 [(11, .int .i64 (IntKind.i64.wrap (x26 + 1))), (10, .slice (some ⟨g46, 0, none⟩) (hObjsF s0.a).length c17), (9, .int .i64 (x27)), (8, .int .i64 (x28)), (7, .int .i64 (x29)), (6, .int .i64 (atI (hObjsF s0.a) x26)), (0, .pointer (some ⟨b0, 0, none⟩))] := Fr.re hF72 (by kernel_rfl)
          clear hF72
          exact thenN ⟨k31, Nat.lt_succ_self _, IntKind.i64.wrap (x26 + 1), x27, x28, x29, atI (hObjsF s0.a) x26, hF73, hS52, hm60⟩
        | false =>
          rw [hc59] at hF58
          rw [hc59] at hm45
          have hm74 := ifF hm45; clear hm45
          refine ev_condF hF58 rfl rfl ?_
          refine wp_seq ?_
          refine wp_region_lit ?_
          refine ev_runs 2 hF58 (l' := [(42, .bool ((aKind s0.a.c (atI (hObjsF s0.a) x26)) == 3)), (43, .bool ((aKind s0.a.c (atI (hObjsF s0.a) x26)) == 3)), (36, .bool false), (31, .int .i64 (aKind s0.a.c (atI (hObjsF s0.a) x26))), (11, .int .i64 (x26)), (10, .slice (some ⟨g46, 0, none⟩) (hObjsF s0.a).length c17), (9, .int .i64 (x27)), (8, .int .i64 (x28)), (7, .int .i64 (x29)), (6, .int .i64 (x30)), (0, .pointer (some ⟨b0, 0, none⟩))]) (w' := w50) (by kernel_rfl) ?_
          intro a76 hF75; clear hF58
          refine wpList_nil ?_
          have hF77 : Fr 58 a76 [(42, .bool ((aKind s0.a.c (atI (hObjsF s0.a) x26)) == 3)), (31, .int .i64 (aKind s0.a.c (atI (hObjsF s0.a) x26))), (11, .int .i64 (x26)), (10, .slice (some ⟨g46, 0, none⟩) (hObjsF s0.a).length c17), (9, .int .i64 (x27)), (8, .int .i64 (x28)), (7, .int .i64 (x29)), (6, .int .i64 (x30)), (0, .pointer (some ⟨b0, 0, none⟩))] := hF75.keep [0, 6, 7, 8, 9, 10, 11, 31, 42]
          clear hF75
          refine thenN ?_
          cases hc78 : ((aKind s0.a.c (atI (hObjsF s0.a) x26)) == 3) with
          | true =>
            rw [hc78] at hF77
            rw [hc78] at hm74
            have hm79 := ifT hm74; clear hm74
            refine ev_condT hF77 rfl rfl ?_
            refine wp_region_lit ?_
            refine ev_runs 2 hF77 (l' := [(45, .int .i64 (x26)), (44, .slice (some ⟨g46, 0, none⟩) (hObjsF s0.a).length c17), (42, .bool true), (31, .int .i64 (aKind s0.a.c (atI (hObjsF s0.a) x26))), (11, .int .i64 (x26)), (10, .slice (some ⟨g46, 0, none⟩) (hObjsF s0.a).length c17), (9, .int .i64 (x27)), (8, .int .i64 (x28)), (7, .int .i64 (x29)), (6, .int .i64 (x30)), (0, .pointer (some ⟨b0, 0, none⟩))]) (w' := w50) (by kernel_rfl) ?_
            intro a81 hF80; clear hF77
            refine ev_one (.pointer (some ⟨g46, x26.toNat, none⟩)) w50 hF80 (by kernel_rfl) rfl (by kernel_rfl) (run_idx rfl rfl rfl rfl rfl (inR_spec hc44).1 (inR_spec hc44).2 _) (l' := [(46, .pointer (some ⟨g46, x26.toNat, none⟩)), (45, .int .i64 (x26)), (44, .slice (some ⟨g46, 0, none⟩) (hObjsF s0.a).length c17), (42, .bool true), (31, .int .i64 (aKind s0.a.c (atI (hObjsF s0.a) x26))), (11, .int .i64 (x26)), (10, .slice (some ⟨g46, 0, none⟩) (hObjsF s0.a).length c17), (9, .int .i64 (x27)), (8, .int .i64 (x28)), (7, .int .i64 (x29)), (6, .int .i64 (x30)), (0, .pointer (some ⟨b0, 0, none⟩))]) (by kernel_rfl) ?_
            intro a83 hF82; clear hF80
            refine ev_one (.int .i64 (atI (hObjsF s0.a) x26)) w50 hF82 (by kernel_rfl) rfl (by kernel_rfl) (run_load1 rfl rfl rfl (hS52.atI 1 rfl hc44)) (l' := [(47, .int .i64 (atI (hObjsF s0.a) x26)), (46, .pointer (some ⟨g46, x26.toNat, none⟩)), (45, .int .i64 (x26)), (44, .slice (some ⟨g46, 0, none⟩) (hObjsF s0.a).length c17), (42, .bool true), (31, .int .i64 (aKind s0.a.c (atI (hObjsF s0.a) x26))), (11, .int .i64 (x26)), (10, .slice (some ⟨g46, 0, none⟩) (hObjsF s0.a).length c17), (9, .int .i64 (x27)), (8, .int .i64 (x28)), (7, .int .i64 (x29)), (6, .int .i64 (x30)), (0, .pointer (some ⟨b0, 0, none⟩))]) (by kernel_rfl) ?_
            intro a85 hF84; clear hF82
            refine ev_runs 1 hF84 (l' := [(7, .int .i64 (atI (hObjsF s0.a) x26)), (47, .int .i64 (atI (hObjsF s0.a) x26)), (46, .pointer (some ⟨g46, x26.toNat, none⟩)), (45, .int .i64 (x26)), (44, .slice (some ⟨g46, 0, none⟩) (hObjsF s0.a).length c17), (42, .bool true), (31, .int .i64 (aKind s0.a.c (atI (hObjsF s0.a) x26))), (11, .int .i64 (x26)), (10, .slice (some ⟨g46, 0, none⟩) (hObjsF s0.a).length c17), (9, .int .i64 (x27)), (8, .int .i64 (x28)), (6, .int .i64 (x30)), (0, .pointer (some ⟨b0, 0, none⟩))]) (w' := w50) (by kernel_rfl) ?_
            intro a87 hF86; clear hF84
            refine wpList_nil ?_
            have hF88 : Fr 58 a87 [(7, .int .i64 (atI (hObjsF s0.a) x26)), (11, .int .i64 (x26)), (10, .slice (some ⟨g46, 0, none⟩) (hObjsF s0.a).length c17), (9, .int .i64 (x27)), (8, .int .i64 (x28)), (6, .int .i64 (x30)), (0, .pointer (some ⟨b0, 0, none⟩))] := hF86.keep [0, 6, 7, 8, 9, 10, 11]
            clear hF86
            refine blockN ?_
            refine blockN ?_
            refine thenN ?_
            refine wp_region_lit ?_
            refine ev_runs 3 hF88 (l' := [(11, .int .i64 (IntKind.i64.wrap (x26 + 1))), (22, .int .i64 (IntKind.i64.wrap (x26 + 1))), (21, .int .i64 (x26)), (7, .int .i64 (atI (hObjsF s0.a) x26)), (10, .slice (some ⟨g46, 0, none⟩) (hObjsF s0.a).length c17), (9, .int .i64 (x27)), (8, .int .i64 (x28)), (6, .int .i64 (x30)), (0, .pointer (some ⟨b0, 0, none⟩))]) (w' := w50) (by kernel_rfl) ?_
            intro a90 hF89; clear hF88
            refine wpList_nil ?_
            have hF91 : Fr 58 a90 [(11, .int .i64 (IntKind.i64.wrap (x26 + 1))), (7, .int .i64 (atI (hObjsF s0.a) x26)), (10, .slice (some ⟨g46, 0, none⟩) (hObjsF s0.a).length c17), (9, .int .i64 (x27)), (8, .int .i64 (x28)), (6, .int .i64 (x30)), (0, .pointer (some ⟨b0, 0, none⟩))] := hF89.keep [0, 6, 7, 8, 9, 10, 11]
            clear hF89
            have hF92 : Fr 58 a90 [(11, .int .i64 (IntKind.i64.wrap (x26 + 1))), (10, .slice (some ⟨g46, 0, none⟩) (hObjsF s0.a).length c17), (9, .int .i64 (x27)), (8, .int .i64 (x28)), (7, .int .i64 (atI (hObjsF s0.a) x26)), (6, .int .i64 (x30)), (0, .pointer (some ⟨b0, 0, none⟩))] := Fr.re hF91 (by kernel_rfl)
            clear hF91
            exact thenN ⟨k31, Nat.lt_succ_self _, IntKind.i64.wrap (x26 + 1), x27, x28, atI (hObjsF s0.a) x26, x30, hF92, hS52, hm79⟩
          | false =>
            rw [hc78] at hF77
            rw [hc78] at hm74
            have hm93 := ifF hm74; clear hm74
            refine ev_condF hF77 rfl rfl ?_
            refine wp_seq ?_
            refine wp_region_lit ?_
            refine ev_runs 2 hF77 (l' := [(48, .bool ((aKind s0.a.c (atI (hObjsF s0.a) x26)) == 4)), (49, .bool ((aKind s0.a.c (atI (hObjsF s0.a) x26)) == 4)), (42, .bool false), (31, .int .i64 (aKind s0.a.c (atI (hObjsF s0.a) x26))), (11, .int .i64 (x26)), (10, .slice (some ⟨g46, 0, none⟩) (hObjsF s0.a).length c17), (9, .int .i64 (x27)), (8, .int .i64 (x28)), (7, .int .i64 (x29)), (6, .int .i64 (x30)), (0, .pointer (some ⟨b0, 0, none⟩))]) (w' := w50) (by kernel_rfl) ?_
            intro a95 hF94; clear hF77
            refine wpList_nil ?_
            have hF96 : Fr 58 a95 [(48, .bool ((aKind s0.a.c (atI (hObjsF s0.a) x26)) == 4)), (11, .int .i64 (x26)), (10, .slice (some ⟨g46, 0, none⟩) (hObjsF s0.a).length c17), (9, .int .i64 (x27)), (8, .int .i64 (x28)), (7, .int .i64 (x29)), (6, .int .i64 (x30)), (0, .pointer (some ⟨b0, 0, none⟩))] := hF94.keep [0, 6, 7, 8, 9, 10, 11, 48]
            clear hF94
            refine thenN ?_
            cases hc97 : ((aKind s0.a.c (atI (hObjsF s0.a) x26)) == 4) with
            | true =>
              rw [hc97] at hF96
              rw [hc97] at hm93
              have hm98 := ifT hm93; clear hm93
              refine ev_condT hF96 rfl rfl ?_
              refine wp_region_lit ?_
              refine ev_runs 2 hF96 (l' := [(51, .int .i64 (x26)), (50, .slice (some ⟨g46, 0, none⟩) (hObjsF s0.a).length c17), (48, .bool true), (11, .int .i64 (x26)), (10, .slice (some ⟨g46, 0, none⟩) (hObjsF s0.a).length c17), (9, .int .i64 (x27)), (8, .int .i64 (x28)), (7, .int .i64 (x29)), (6, .int .i64 (x30)), (0, .pointer (some ⟨b0, 0, none⟩))]) (w' := w50) (by kernel_rfl) ?_
              intro a100 hF99; clear hF96
              refine ev_one (.pointer (some ⟨g46, x26.toNat, none⟩)) w50 hF99 (by kernel_rfl) rfl (by kernel_rfl) (run_idx rfl rfl rfl rfl rfl (inR_spec hc44).1 (inR_spec hc44).2 _) (l' := [(52, .pointer (some ⟨g46, x26.toNat, none⟩)), (51, .int .i64 (x26)), (50, .slice (some ⟨g46, 0, none⟩) (hObjsF s0.a).length c17), (48, .bool true), (11, .int .i64 (x26)), (10, .slice (some ⟨g46, 0, none⟩) (hObjsF s0.a).length c17), (9, .int .i64 (x27)), (8, .int .i64 (x28)), (7, .int .i64 (x29)), (6, .int .i64 (x30)), (0, .pointer (some ⟨b0, 0, none⟩))]) (by kernel_rfl) ?_
              intro a102 hF101; clear hF99
              refine ev_one (.int .i64 (atI (hObjsF s0.a) x26)) w50 hF101 (by kernel_rfl) rfl (by kernel_rfl) (run_load1 rfl rfl rfl (hS52.atI 1 rfl hc44)) (l' := [(53, .int .i64 (atI (hObjsF s0.a) x26)), (52, .pointer (some ⟨g46, x26.toNat, none⟩)), (51, .int .i64 (x26)), (50, .slice (some ⟨g46, 0, none⟩) (hObjsF s0.a).length c17), (48, .bool true), (11, .int .i64 (x26)), (10, .slice (some ⟨g46, 0, none⟩) (hObjsF s0.a).length c17), (9, .int .i64 (x27)), (8, .int .i64 (x28)), (7, .int .i64 (x29)), (6, .int .i64 (x30)), (0, .pointer (some ⟨b0, 0, none⟩))]) (by kernel_rfl) ?_
              intro a104 hF103; clear hF101
              refine ev_runs 1 hF103 (l' := [(8, .int .i64 (atI (hObjsF s0.a) x26)), (53, .int .i64 (atI (hObjsF s0.a) x26)), (52, .pointer (some ⟨g46, x26.toNat, none⟩)), (51, .int .i64 (x26)), (50, .slice (some ⟨g46, 0, none⟩) (hObjsF s0.a).length c17), (48, .bool true), (11, .int .i64 (x26)), (10, .slice (some ⟨g46, 0, none⟩) (hObjsF s0.a).length c17), (9, .int .i64 (x27)), (7, .int .i64 (x29)), (6, .int .i64 (x30)), (0, .pointer (some ⟨b0, 0, none⟩))]) (w' := w50) (by kernel_rfl) ?_
              intro a106 hF105; clear hF103
              refine wpList_nil ?_
              have hF107 : Fr 58 a106 [(8, .int .i64 (atI (hObjsF s0.a) x26)), (11, .int .i64 (x26)), (10, .slice (some ⟨g46, 0, none⟩) (hObjsF s0.a).length c17), (9, .int .i64 (x27)), (7, .int .i64 (x29)), (6, .int .i64 (x30)), (0, .pointer (some ⟨b0, 0, none⟩))] := hF105.keep [0, 6, 7, 8, 9, 10, 11]
              clear hF105
              refine blockN ?_
              refine blockN ?_
              refine thenN ?_
              refine wp_region_lit ?_
              refine ev_runs 3 hF107 (l' := [(11, .int .i64 (IntKind.i64.wrap (x26 + 1))), (22, .int .i64 (IntKind.i64.wrap (x26 + 1))), (21, .int .i64 (x26)), (8, .int .i64 (atI (hObjsF s0.a) x26)), (10, .slice (some ⟨g46, 0, none⟩) (hObjsF s0.a).length c17), (9, .int .i64 (x27)), (7, .int .i64 (x29)), (6, .int .i64 (x30)), (0, .pointer (some ⟨b0, 0, none⟩))]) (w' := w50) (by kernel_rfl) ?_
              intro a109 hF108; clear hF107
              refine wpList_nil ?_
              have hF110 : Fr 58 a109 [(11, .int .i64 (IntKind.i64.wrap (x26 + 1))), (8, .int .i64 (atI (hObjsF s0.a) x26)), (10, .slice (some ⟨g46, 0, none⟩) (hObjsF s0.a).length c17), (9, .int .i64 (x27)), (7, .int .i64 (x29)), (6, .int .i64 (x30)), (0, .pointer (some ⟨b0, 0, none⟩))] := hF108.keep [0, 6, 7, 8, 9, 10, 11]
              clear hF108
              have hF111 : Fr 58 a109 [(11, .int .i64 (IntKind.i64.wrap (x26 + 1))), (10, .slice (some ⟨g46, 0, none⟩) (hObjsF s0.a).length c17), (9, .int .i64 (x27)), (8, .int .i64 (atI (hObjsF s0.a) x26)), (7, .int .i64 (x29)), (6, .int .i64 (x30)), (0, .pointer (some ⟨b0, 0, none⟩))] := Fr.re hF110 (by kernel_rfl)
              clear hF110
              exact thenN ⟨k31, Nat.lt_succ_self _, IntKind.i64.wrap (x26 + 1), x27, atI (hObjsF s0.a) x26, x29, x30, hF111, hS52, hm98⟩
            | false =>
              rw [hc97] at hF96
              rw [hc97] at hm93
              have hm112 := ifF hm93; clear hm93
              refine ev_condF hF96 rfl rfl ?_
              refine wp_region_lit ?_
              refine ev_runs 2 hF96 (l' := [(33, .int .i64 (x26)), (32, .slice (some ⟨g46, 0, none⟩) (hObjsF s0.a).length c17), (48, .bool false), (11, .int .i64 (x26)), (10, .slice (some ⟨g46, 0, none⟩) (hObjsF s0.a).length c17), (9, .int .i64 (x27)), (8, .int .i64 (x28)), (7, .int .i64 (x29)), (6, .int .i64 (x30)), (0, .pointer (some ⟨b0, 0, none⟩))]) (w' := w50) (by kernel_rfl) ?_
              intro a114 hF113; clear hF96
              refine ev_one (.pointer (some ⟨g46, x26.toNat, none⟩)) w50 hF113 (by kernel_rfl) rfl (by kernel_rfl) (run_idx rfl rfl rfl rfl rfl (inR_spec hc44).1 (inR_spec hc44).2 _) (l' := [(34, .pointer (some ⟨g46, x26.toNat, none⟩)), (33, .int .i64 (x26)), (32, .slice (some ⟨g46, 0, none⟩) (hObjsF s0.a).length c17), (48, .bool false), (11, .int .i64 (x26)), (10, .slice (some ⟨g46, 0, none⟩) (hObjsF s0.a).length c17), (9, .int .i64 (x27)), (8, .int .i64 (x28)), (7, .int .i64 (x29)), (6, .int .i64 (x30)), (0, .pointer (some ⟨b0, 0, none⟩))]) (by kernel_rfl) ?_
              intro a116 hF115; clear hF113
              refine ev_one (.int .i64 (atI (hObjsF s0.a) x26)) w50 hF115 (by kernel_rfl) rfl (by kernel_rfl) (run_load1 rfl rfl rfl (hS52.atI 1 rfl hc44)) (l' := [(35, .int .i64 (atI (hObjsF s0.a) x26)), (34, .pointer (some ⟨g46, x26.toNat, none⟩)), (33, .int .i64 (x26)), (32, .slice (some ⟨g46, 0, none⟩) (hObjsF s0.a).length c17), (48, .bool false), (11, .int .i64 (x26)), (10, .slice (some ⟨g46, 0, none⟩) (hObjsF s0.a).length c17), (9, .int .i64 (x27)), (8, .int .i64 (x28)), (7, .int .i64 (x29)), (6, .int .i64 (x30)), (0, .pointer (some ⟨b0, 0, none⟩))]) (by kernel_rfl) ?_
              intro a118 hF117; clear hF115
              refine ev_runs 1 hF117 (l' := [(9, .int .i64 (atI (hObjsF s0.a) x26)), (35, .int .i64 (atI (hObjsF s0.a) x26)), (34, .pointer (some ⟨g46, x26.toNat, none⟩)), (33, .int .i64 (x26)), (32, .slice (some ⟨g46, 0, none⟩) (hObjsF s0.a).length c17), (48, .bool false), (11, .int .i64 (x26)), (10, .slice (some ⟨g46, 0, none⟩) (hObjsF s0.a).length c17), (8, .int .i64 (x28)), (7, .int .i64 (x29)), (6, .int .i64 (x30)), (0, .pointer (some ⟨b0, 0, none⟩))]) (w' := w50) (by kernel_rfl) ?_
              intro a120 hF119; clear hF117
              refine wpList_nil ?_
              have hF121 : Fr 58 a120 [(9, .int .i64 (atI (hObjsF s0.a) x26)), (11, .int .i64 (x26)), (10, .slice (some ⟨g46, 0, none⟩) (hObjsF s0.a).length c17), (8, .int .i64 (x28)), (7, .int .i64 (x29)), (6, .int .i64 (x30)), (0, .pointer (some ⟨b0, 0, none⟩))] := hF119.keep [0, 6, 7, 8, 9, 10, 11]
              clear hF119
              refine blockN ?_
              refine blockN ?_
              refine thenN ?_
              refine wp_region_lit ?_
              refine ev_runs 3 hF121 (l' := [(11, .int .i64 (IntKind.i64.wrap (x26 + 1))), (22, .int .i64 (IntKind.i64.wrap (x26 + 1))), (21, .int .i64 (x26)), (9, .int .i64 (atI (hObjsF s0.a) x26)), (10, .slice (some ⟨g46, 0, none⟩) (hObjsF s0.a).length c17), (8, .int .i64 (x28)), (7, .int .i64 (x29)), (6, .int .i64 (x30)), (0, .pointer (some ⟨b0, 0, none⟩))]) (w' := w50) (by kernel_rfl) ?_
              intro a123 hF122; clear hF121
              refine wpList_nil ?_
              have hF124 : Fr 58 a123 [(11, .int .i64 (IntKind.i64.wrap (x26 + 1))), (9, .int .i64 (atI (hObjsF s0.a) x26)), (10, .slice (some ⟨g46, 0, none⟩) (hObjsF s0.a).length c17), (8, .int .i64 (x28)), (7, .int .i64 (x29)), (6, .int .i64 (x30)), (0, .pointer (some ⟨b0, 0, none⟩))] := hF122.keep [0, 6, 7, 8, 9, 10, 11]
              clear hF122
              have hF125 : Fr 58 a123 [(11, .int .i64 (IntKind.i64.wrap (x26 + 1))), (10, .slice (some ⟨g46, 0, none⟩) (hObjsF s0.a).length c17), (9, .int .i64 (atI (hObjsF s0.a) x26)), (8, .int .i64 (x28)), (7, .int .i64 (x29)), (6, .int .i64 (x30)), (0, .pointer (some ⟨b0, 0, none⟩))] := Fr.re hF124 (by kernel_rfl)
              clear hF124
              exact thenN ⟨k31, Nat.lt_succ_self _, IntKind.i64.wrap (x26 + 1), atI (hObjsF s0.a) x26, x28, x29, x30, hF125, hS52, hm112⟩
    | false =>
      rw [hc41] at hF40
      rw [hc41] at hm37
      have hm126 := ifF hm37; clear hm37
      refine ev_condF hF40 rfl rfl ?_
      refine wp_exit ?_
      refine thenE ?_
      refine thenE ?_
      refine blockE ?_
      refine thenN ?_
      refine wp_seq ?_
      refine wp_region_lit ?_
      refine ev_runs 8 hF40 (l' := [(5, .int .i64 (x27)), (4, .int .i64 (x28)), (3, .int .i64 (x29)), (2, .int .i64 (x30)), (57, .int .i64 (x27)), (56, .int .i64 (x28)), (55, .int .i64 (x29)), (54, .int .i64 (x30)), (20, .bool false), (11, .int .i64 (x26)), (10, .slice p16 (hObjsF s0.a).length c17), (9, .int .i64 (x27)), (8, .int .i64 (x28)), (7, .int .i64 (x29)), (6, .int .i64 (x30)), (0, .pointer (some ⟨b0, 0, none⟩))]) (w' := w33) (by kernel_rfl) ?_
      intro a128 hF127; clear hF40
      refine wpList_nil ?_
      have hF129 : Fr 58 a128 [(5, .int .i64 (x27)), (4, .int .i64 (x28)), (3, .int .i64 (x29)), (2, .int .i64 (x30))] := hF127.keep [2, 3, 4, 5]
      clear hF127
      have hS130 : St w0 F0 (RHeapP b0 ab0 sb0 g0 cb0 s0 :: ps) w33 := St.ordP [RHeapP b0 ab0 sb0 g0 cb0 s0, RowP (.slice p16 (hObjsF s0.a).length c17) (hObjsF s0.a)] ps hS35 [0] [1] (by kernel_rfl)
      clear hS35
      refine thenN ?_
      refine wp_ret ?_
      simp only [Option.some.injEq, Prod.mk.injEq] at hm126
      obtain ⟨rfl, rfl, rfl, rfl, rfl⟩ := hm126
      refine ev_ret hF129 [2, 3, 4, 5] (.tuple #[.int .i64 (x30), .int .i64 (x29), .int .i64 (x28), .int .i64 (x27)]) rfl rfl rfl ?_
      exact ⟨rfl, hS130⟩

def law11_awake.m (k : Nat) : Option (Bool) := bind2 (law11_both.m k ) fun s4 s5 => bind5 (law11_places.m k s5) fun x32 x33 x34 x35 s36 => bind2 (pPutChan x32 (⟨2, 0, 0, 0, -1, -1, -1, -1, 5⟩ : Ch) s4) fun x62 s63 => bind2 (pChan x32 s63) fun q76 x77 => (if (x62 == 0) then (if (x77 == 0) then some ((q76.cap == (2 : Int)) && ((q76.closed == (0 : Int)) && ((q76.count == (0 : Int)) && ((q76.start == (0 : Int)) && ((q76.buf == (-1 : Int)) && ((q76.th == (-1 : Int)) && ((q76.tt == (-1 : Int)) && ((q76.sh == (-1 : Int)) && ((q76.st == (5 : Int)) && (true)))))))))) else some (false)) else some (false))
set_option maxRecDepth 100000 in
set_option maxHeartbeats 1500000 in
theorem law11_awake.ok {w0 w : World} {F0 : List Nat} {ps : List Piece} {k : Nat}  {r0 : Bool} (hS : St w0 F0 (ps) w) (hm : law11_awake.m k = some r0) :
    Calls Try.prog 12 #[] w fun e w' => e = .returned (.bool r0) ∧ St w0 F0 (ps) w' := by
  refine ev_enterL 50 [] Try.func12 rfl rfl (by simp) ?_
  intro a hF
  have hF0 : Fr 50 a [] := hF; clear hF
  unfold law11_awake.m at hm
  refine wp_seq ?_
  refine wp_region_lit ?_
  refine ev_runs 1 hF0 (l' := [(0, .bool false)]) (w' := w) (by kernel_rfl) ?_
  intro a2 hF1; clear hF0
  refine wpList_nil ?_
  have hF3 : Fr 50 a2 [] := hF1.keep []
  clear hF1
  refine thenN ?_
  refine wp_seq ?_
  refine wp_region_lit ?_
  refine ev_call 11 #[.bool false] hF3 rfl rfl (by kernel_rfl) rfl (by kernel_rfl) (fun w => by kernel_rfl) ?_
  obtain ⟨s4, s5, hx6, hm7⟩ := bind2E hm; clear hm
  refine (law11_both.ok hS hx6).mono ?_
  rintro _ w8 ⟨z12, z13, z14, z15, z16, z17, z18, rfl, hS10⟩ a9 hF11; clear hF3 hS
  have hF21 : Fr 50 a9 [(12, .tuple #[.pointer (some ⟨z12, 0, none⟩), .pointer (some ⟨z14, 0, none⟩)])] := hF11
  clear hF11
  refine ev_runs 5 hF21 (l' := [(2, .pointer (some ⟨z14, 0, none⟩)), (1, .pointer (some ⟨z12, 0, none⟩)), (14, .pointer (some ⟨z14, 0, none⟩)), (13, .pointer (some ⟨z12, 0, none⟩)), (11, .tuple #[.pointer (some ⟨z12, 0, none⟩), .pointer (some ⟨z14, 0, none⟩)]), (12, .tuple #[.pointer (some ⟨z12, 0, none⟩), .pointer (some ⟨z14, 0, none⟩)])]) (w' := w8) (by kernel_rfl) ?_
  intro a23 hF22; clear hF21
  refine wpList_nil ?_
  have hF24 : Fr 50 a23 [(2, .pointer (some ⟨z14, 0, none⟩)), (1, .pointer (some ⟨z12, 0, none⟩))] := hF22.keep [1, 2]
  clear hF22
  refine thenN ?_
  refine wp_seq ?_
  refine wp_seq ?_
  refine wp_region_lit ?_
  refine ev_runs 6 hF24 (l' := [(20, .bool false), (19, .bool false), (18, .pointer (some ⟨z14, 0, none⟩)), (17, .bool false), (16, .bool false), (15, .pointer (some ⟨z12, 0, none⟩)), (2, .pointer (some ⟨z14, 0, none⟩)), (1, .pointer (some ⟨z12, 0, none⟩))]) (w' := w8) (by kernel_rfl) ?_
  intro a26 hF25; clear hF24
  refine wpList_nil ?_
  have hF27 : Fr 50 a26 [(20, .bool false), (2, .pointer (some ⟨z14, 0, none⟩)), (1, .pointer (some ⟨z12, 0, none⟩))] := hF25.keep [1, 2, 20]
  clear hF25
  refine thenN ?_
  refine ev_condF hF27 rfl rfl ?_
  refine wp_skip ?_
  have hF28 : Fr 50 a26 [(2, .pointer (some ⟨z14, 0, none⟩)), (1, .pointer (some ⟨z12, 0, none⟩))] := hF27.keep [1, 2]
  clear hF27
  refine thenN ?_
  refine wp_seq ?_
  refine wp_region_lit ?_
  refine ev_runs 1 hF28 (l' := [(22, .pointer (some ⟨z14, 0, none⟩)), (2, .pointer (some ⟨z14, 0, none⟩)), (1, .pointer (some ⟨z12, 0, none⟩))]) (w' := w8) (by kernel_rfl) ?_
  intro a30 hF29; clear hF28
  have hS31 : St w0 F0 (RHeapP z14 z15 z16 z17 z18 s5 :: HeapP z12 z13 s4 :: ps) w8 := St.ordP [HeapP z12 z13 s4, RHeapP z14 z15 z16 z17 z18 s5] ps hS10 [1, 0] [] (by kernel_rfl)
  clear hS10
  refine ev_call 13 #[.pointer (some ⟨z14, 0, none⟩)] hF29 rfl rfl (by kernel_rfl) rfl (by kernel_rfl) (fun w => by kernel_rfl) ?_
  obtain ⟨x32, x33, x34, x35, s36, hx37, hm38⟩ := bind5E hm7; clear hm7
  refine (law11_places.ok hS31 hx37).mono ?_
  rintro _ w39 ⟨rfl, hS41⟩ a40 hF42; clear hF29 hS31
  have hF43 : Fr 50 a40 [(23, .tuple #[.int .i64 (x32), .int .i64 (x33), .int .i64 (x34), .int .i64 (x35)]), (22, .pointer (some ⟨z14, 0, none⟩)), (2, .pointer (some ⟨z14, 0, none⟩)), (1, .pointer (some ⟨z12, 0, none⟩))] := hF42
  clear hF42
  refine ev_runs 9 hF43 (l' := [(6, .int .i64 (x35)), (5, .int .i64 (x34)), (4, .int .i64 (x33)), (3, .int .i64 (x32)), (27, .int .i64 (x35)), (26, .int .i64 (x34)), (25, .int .i64 (x33)), (24, .int .i64 (x32)), (21, .tuple #[.int .i64 (x32), .int .i64 (x33), .int .i64 (x34), .int .i64 (x35)]), (23, .tuple #[.int .i64 (x32), .int .i64 (x33), .int .i64 (x34), .int .i64 (x35)]), (22, .pointer (some ⟨z14, 0, none⟩)), (2, .pointer (some ⟨z14, 0, none⟩)), (1, .pointer (some ⟨z12, 0, none⟩))]) (w' := w39) (by kernel_rfl) ?_
  intro a45 hF44; clear hF43
  refine wpList_nil ?_
  have hF46 : Fr 50 a45 [(3, .int .i64 (x32)), (1, .pointer (some ⟨z12, 0, none⟩))] := hF44.keep [1, 3]
  clear hF44
  have hS47 : St w0 F0 (HeapP z12 z13 s4 :: ps) w39 := St.ordP [RHeapP z14 z15 z16 z17 z18 s36, HeapP z12 z13 s4] ps hS41 [1] [0] (by kernel_rfl)
  clear hS41
  refine thenN ?_
  refine wp_seq ?_
  refine wp_region_lit ?_
  refine ev_runs 2 hF46 (l' := [(7, .pointer (some ⟨w39.heap.size, 0, none⟩)), (28, .agg #[.int .i64 2, .int .i64 0, .int .i64 0, .int .i64 0, .int .i64 (-1), .int .i64 (-1), .int .i64 (-1), .int .i64 (-1), .int .i64 5]), (3, .int .i64 (x32)), (1, .pointer (some ⟨z12, 0, none⟩))]) (w' := w39.alloc (.cells #[.int .i64 0, .int .i64 0, .int .i64 0, .int .i64 0, .int .i64 0, .int .i64 0, .int .i64 0, .int .i64 0, .int .i64 0] 31)) (by kernel_rfl) ?_
  intro a49 hF48; clear hF46
  have hS51 : St w0 F0 (BlkP (w39.heap.size) 31 #[.int .i64 0, .int .i64 0, .int .i64 0, .int .i64 0, .int .i64 0, .int .i64 0, .int .i64 0, .int .i64 0, .int .i64 0] :: HeapP z12 z13 s4 :: ps) (w39.alloc (.cells #[.int .i64 0, .int .i64 0, .int .i64 0, .int .i64 0, .int .i64 0, .int .i64 0, .int .i64 0, .int .i64 0, .int .i64 0] 31)) := St.new hS47 #[.int .i64 0, .int .i64 0, .int .i64 0, .int .i64 0, .int .i64 0, .int .i64 0, .int .i64 0, .int .i64 0, .int .i64 0] 31
  clear hS47
  refine ev_store (.agg #[.int .i64 2, .int .i64 0, .int .i64 0, .int .i64 0, .int .i64 (-1), .int .i64 (-1), .int .i64 (-1), .int .i64 (-1), .int .i64 5]) #[.int .i64 2, .int .i64 0, .int .i64 0, .int .i64 0, .int .i64 (-1), .int .i64 (-1), .int .i64 (-1), .int .i64 (-1), .int .i64 5] hF48 (by kernel_rfl) rfl rfl rfl rfl (by kernel_rfl) hS51 (by kernel_rfl) (by kernel_rfl) (by kernel_rfl) (l' := [(7, .pointer (some ⟨w39.heap.size, 0, none⟩)), (28, .agg #[.int .i64 2, .int .i64 0, .int .i64 0, .int .i64 0, .int .i64 (-1), .int .i64 (-1), .int .i64 (-1), .int .i64 (-1), .int .i64 5]), (3, .int .i64 (x32)), (1, .pointer (some ⟨z12, 0, none⟩))]) (by kernel_rfl) ?_
  intro w52 a53 hS54 hF55; clear hF48 hS51
  refine wpList_nil ?_
  have hF56 : Fr 50 a53 [(7, .pointer (some ⟨w39.heap.size, 0, none⟩)), (3, .int .i64 (x32)), (1, .pointer (some ⟨z12, 0, none⟩))] := hF55.keep [1, 3, 7]
  clear hF55
  refine thenN ?_
  refine wp_seq ?_
  refine wp_region_lit ?_
  refine ev_runs 2 hF56 (l' := [(30, .int .i64 (x32)), (29, .pointer (some ⟨z12, 0, none⟩)), (7, .pointer (some ⟨w39.heap.size, 0, none⟩)), (3, .int .i64 (x32)), (1, .pointer (some ⟨z12, 0, none⟩))]) (w' := w52) (by kernel_rfl) ?_
  intro a58 hF57; clear hF56
  refine ev_one (.agg #[.int .i64 2, .int .i64 0, .int .i64 0, .int .i64 0, .int .i64 (-1), .int .i64 (-1), .int .i64 (-1), .int .i64 (-1), .int .i64 5]) w52 hF57 (by kernel_rfl) rfl (by kernel_rfl) (run_loadV rfl rfl (run_loadA (cs := [.int .i64 2, .int .i64 0, .int .i64 0, .int .i64 0, .int .i64 (-1), .int .i64 (-1), .int .i64 (-1), .int .i64 (-1), .int .i64 5]) rfl rfl (by kernel_rfl) (blk_cells hS54 0 rfl rfl))) (l' := [(31, .agg #[.int .i64 2, .int .i64 0, .int .i64 0, .int .i64 0, .int .i64 (-1), .int .i64 (-1), .int .i64 (-1), .int .i64 (-1), .int .i64 5]), (30, .int .i64 (x32)), (29, .pointer (some ⟨z12, 0, none⟩)), (7, .pointer (some ⟨w39.heap.size, 0, none⟩)), (3, .int .i64 (x32)), (1, .pointer (some ⟨z12, 0, none⟩))]) (by kernel_rfl) ?_
  intro a60 hF59; clear hF57
  have hS61 : St w0 F0 (HeapP z12 z13 s4 :: BlkP (w39.heap.size) 31 #[.int .i64 2, .int .i64 0, .int .i64 0, .int .i64 0, .int .i64 (-1), .int .i64 (-1), .int .i64 (-1), .int .i64 (-1), .int .i64 5] :: ps) w52 := St.ordP [BlkP (w39.heap.size) 31 #[.int .i64 2, .int .i64 0, .int .i64 0, .int .i64 0, .int .i64 (-1), .int .i64 (-1), .int .i64 (-1), .int .i64 (-1), .int .i64 5], HeapP z12 z13 s4] ps hS54 [1, 0] [] (by kernel_rfl)
  clear hS54
  refine ev_call 14 #[.pointer (some ⟨z12, 0, none⟩), .int .i64 (x32), .agg #[.int .i64 2, .int .i64 0, .int .i64 0, .int .i64 0, .int .i64 (-1), .int .i64 (-1), .int .i64 (-1), .int .i64 (-1), .int .i64 5]] hF59 rfl rfl (by kernel_rfl) rfl (by kernel_rfl) (fun w => by kernel_rfl) ?_
  obtain ⟨x62, s63, hx64, hm65⟩ := bind2E hm38; clear hm38
  refine (p_PutChan hS61 hx64).mono ?_
  rintro _ w66 ⟨rfl, hS68⟩ a67 hF69; clear hF59 hS61
  have hF70 : Fr 50 a67 [(32, .int .i64 (x62)), (31, .agg #[.int .i64 2, .int .i64 0, .int .i64 0, .int .i64 0, .int .i64 (-1), .int .i64 (-1), .int .i64 (-1), .int .i64 (-1), .int .i64 5]), (30, .int .i64 (x32)), (29, .pointer (some ⟨z12, 0, none⟩)), (7, .pointer (some ⟨w39.heap.size, 0, none⟩)), (3, .int .i64 (x32)), (1, .pointer (some ⟨z12, 0, none⟩))] := hF69
  clear hF69
  refine ev_runs 1 hF70 (l' := [(8, .int .i64 (x62)), (32, .int .i64 (x62)), (31, .agg #[.int .i64 2, .int .i64 0, .int .i64 0, .int .i64 0, .int .i64 (-1), .int .i64 (-1), .int .i64 (-1), .int .i64 (-1), .int .i64 5]), (30, .int .i64 (x32)), (29, .pointer (some ⟨z12, 0, none⟩)), (7, .pointer (some ⟨w39.heap.size, 0, none⟩)), (3, .int .i64 (x32)), (1, .pointer (some ⟨z12, 0, none⟩))]) (w' := w66) (by kernel_rfl) ?_
  intro a72 hF71; clear hF70
  refine wpList_nil ?_
  have hF73 : Fr 50 a72 [(8, .int .i64 (x62)), (7, .pointer (some ⟨w39.heap.size, 0, none⟩)), (3, .int .i64 (x32)), (1, .pointer (some ⟨z12, 0, none⟩))] := hF71.keep [1, 3, 7, 8]
  clear hF71
  refine thenN ?_
  refine wp_seq ?_
  refine wp_region_lit ?_
  refine ev_runs 2 hF73 (l' := [(35, .int .i64 (x32)), (34, .pointer (some ⟨z12, 0, none⟩)), (8, .int .i64 (x62)), (7, .pointer (some ⟨w39.heap.size, 0, none⟩)), (3, .int .i64 (x32)), (1, .pointer (some ⟨z12, 0, none⟩))]) (w' := w66) (by kernel_rfl) ?_
  intro a75 hF74; clear hF73
  refine ev_call 18 #[.pointer (some ⟨z12, 0, none⟩), .int .i64 (x32)] hF74 rfl rfl (by kernel_rfl) rfl (by kernel_rfl) (fun w => by kernel_rfl) ?_
  obtain ⟨q76, x77, hx78, hm79⟩ := bind2E hm65; clear hm65
  refine (p_Chan hS68 hx78).mono ?_
  rintro _ w80 ⟨rfl, hS82⟩ a81 hF83; clear hF74 hS68
  have hF84 : Fr 50 a81 [(36, .tuple #[.agg #[.int .i64 (q76.cap), .int .i64 (q76.closed), .int .i64 (q76.count), .int .i64 (q76.start), .int .i64 (q76.buf), .int .i64 (q76.th), .int .i64 (q76.tt), .int .i64 (q76.sh), .int .i64 (q76.st)], .int .i64 (x77)]), (35, .int .i64 (x32)), (34, .pointer (some ⟨z12, 0, none⟩)), (8, .int .i64 (x62)), (7, .pointer (some ⟨w39.heap.size, 0, none⟩)), (3, .int .i64 (x32)), (1, .pointer (some ⟨z12, 0, none⟩))] := hF83
  clear hF83
  refine ev_runs 4 hF84 (l' := [(9, .pointer (some ⟨w80.heap.size, 0, none⟩)), (38, .int .i64 (x77)), (37, .agg #[.int .i64 (q76.cap), .int .i64 (q76.closed), .int .i64 (q76.count), .int .i64 (q76.start), .int .i64 (q76.buf), .int .i64 (q76.th), .int .i64 (q76.tt), .int .i64 (q76.sh), .int .i64 (q76.st)]), (33, .tuple #[.agg #[.int .i64 (q76.cap), .int .i64 (q76.closed), .int .i64 (q76.count), .int .i64 (q76.start), .int .i64 (q76.buf), .int .i64 (q76.th), .int .i64 (q76.tt), .int .i64 (q76.sh), .int .i64 (q76.st)], .int .i64 (x77)]), (36, .tuple #[.agg #[.int .i64 (q76.cap), .int .i64 (q76.closed), .int .i64 (q76.count), .int .i64 (q76.start), .int .i64 (q76.buf), .int .i64 (q76.th), .int .i64 (q76.tt), .int .i64 (q76.sh), .int .i64 (q76.st)], .int .i64 (x77)]), (35, .int .i64 (x32)), (34, .pointer (some ⟨z12, 0, none⟩)), (8, .int .i64 (x62)), (7, .pointer (some ⟨w39.heap.size, 0, none⟩)), (3, .int .i64 (x32)), (1, .pointer (some ⟨z12, 0, none⟩))]) (w' := w80.alloc (.cells #[.int .i64 0, .int .i64 0, .int .i64 0, .int .i64 0, .int .i64 0, .int .i64 0, .int .i64 0, .int .i64 0, .int .i64 0] 31)) (by kernel_rfl) ?_
  intro a86 hF85; clear hF84
  have hS88 : St w0 F0 (BlkP (w80.heap.size) 31 #[.int .i64 0, .int .i64 0, .int .i64 0, .int .i64 0, .int .i64 0, .int .i64 0, .int .i64 0, .int .i64 0, .int .i64 0] :: HeapP z12 z13 s63 :: BlkP (w39.heap.size) 31 #[.int .i64 2, .int .i64 0, .int .i64 0, .int .i64 0, .int .i64 (-1), .int .i64 (-1), .int .i64 (-1), .int .i64 (-1), .int .i64 5] :: ps) (w80.alloc (.cells #[.int .i64 0, .int .i64 0, .int .i64 0, .int .i64 0, .int .i64 0, .int .i64 0, .int .i64 0, .int .i64 0, .int .i64 0] 31)) := St.new hS82 #[.int .i64 0, .int .i64 0, .int .i64 0, .int .i64 0, .int .i64 0, .int .i64 0, .int .i64 0, .int .i64 0, .int .i64 0] 31
  clear hS82
  refine ev_store (.agg #[.int .i64 (q76.cap), .int .i64 (q76.closed), .int .i64 (q76.count), .int .i64 (q76.start), .int .i64 (q76.buf), .int .i64 (q76.th), .int .i64 (q76.tt), .int .i64 (q76.sh), .int .i64 (q76.st)]) #[.int .i64 (q76.cap), .int .i64 (q76.closed), .int .i64 (q76.count), .int .i64 (q76.start), .int .i64 (q76.buf), .int .i64 (q76.th), .int .i64 (q76.tt), .int .i64 (q76.sh), .int .i64 (q76.st)] hF85 (by kernel_rfl) rfl rfl rfl rfl (by kernel_rfl) hS88 (by kernel_rfl) (by kernel_rfl) (by kernel_rfl) (l' := [(9, .pointer (some ⟨w80.heap.size, 0, none⟩)), (38, .int .i64 (x77)), (37, .agg #[.int .i64 (q76.cap), .int .i64 (q76.closed), .int .i64 (q76.count), .int .i64 (q76.start), .int .i64 (q76.buf), .int .i64 (q76.th), .int .i64 (q76.tt), .int .i64 (q76.sh), .int .i64 (q76.st)]), (33, .tuple #[.agg #[.int .i64 (q76.cap), .int .i64 (q76.closed), .int .i64 (q76.count), .int .i64 (q76.start), .int .i64 (q76.buf), .int .i64 (q76.th), .int .i64 (q76.tt), .int .i64 (q76.sh), .int .i64 (q76.st)], .int .i64 (x77)]), (36, .tuple #[.agg #[.int .i64 (q76.cap), .int .i64 (q76.closed), .int .i64 (q76.count), .int .i64 (q76.start), .int .i64 (q76.buf), .int .i64 (q76.th), .int .i64 (q76.tt), .int .i64 (q76.sh), .int .i64 (q76.st)], .int .i64 (x77)]), (35, .int .i64 (x32)), (34, .pointer (some ⟨z12, 0, none⟩)), (8, .int .i64 (x62)), (7, .pointer (some ⟨w39.heap.size, 0, none⟩)), (3, .int .i64 (x32)), (1, .pointer (some ⟨z12, 0, none⟩))]) (by kernel_rfl) ?_
  intro w89 a90 hS91 hF92; clear hF85 hS88
  refine ev_runs 1 hF92 (l' := [(10, .int .i64 (x77)), (9, .pointer (some ⟨w80.heap.size, 0, none⟩)), (38, .int .i64 (x77)), (37, .agg #[.int .i64 (q76.cap), .int .i64 (q76.closed), .int .i64 (q76.count), .int .i64 (q76.start), .int .i64 (q76.buf), .int .i64 (q76.th), .int .i64 (q76.tt), .int .i64 (q76.sh), .int .i64 (q76.st)]), (33, .tuple #[.agg #[.int .i64 (q76.cap), .int .i64 (q76.closed), .int .i64 (q76.count), .int .i64 (q76.start), .int .i64 (q76.buf), .int .i64 (q76.th), .int .i64 (q76.tt), .int .i64 (q76.sh), .int .i64 (q76.st)], .int .i64 (x77)]), (36, .tuple #[.agg #[.int .i64 (q76.cap), .int .i64 (q76.closed), .int .i64 (q76.count), .int .i64 (q76.start), .int .i64 (q76.buf), .int .i64 (q76.th), .int .i64 (q76.tt), .int .i64 (q76.sh), .int .i64 (q76.st)], .int .i64 (x77)]), (35, .int .i64 (x32)), (34, .pointer (some ⟨z12, 0, none⟩)), (8, .int .i64 (x62)), (7, .pointer (some ⟨w39.heap.size, 0, none⟩)), (3, .int .i64 (x32)), (1, .pointer (some ⟨z12, 0, none⟩))]) (w' := w89) (by kernel_rfl) ?_
  intro a94 hF93; clear hF92
  refine wpList_nil ?_
  have hF95 : Fr 50 a94 [(10, .int .i64 (x77)), (9, .pointer (some ⟨w80.heap.size, 0, none⟩)), (8, .int .i64 (x62)), (7, .pointer (some ⟨w39.heap.size, 0, none⟩))] := hF93.keep [7, 8, 9, 10]
  clear hF93
  have hS96 : St w0 F0 (BlkP (w80.heap.size) 31 #[.int .i64 (q76.cap), .int .i64 (q76.closed), .int .i64 (q76.count), .int .i64 (q76.start), .int .i64 (q76.buf), .int .i64 (q76.th), .int .i64 (q76.tt), .int .i64 (q76.sh), .int .i64 (q76.st)] :: BlkP (w39.heap.size) 31 #[.int .i64 2, .int .i64 0, .int .i64 0, .int .i64 0, .int .i64 (-1), .int .i64 (-1), .int .i64 (-1), .int .i64 (-1), .int .i64 5] :: ps) w89 := St.ordP [BlkP (w80.heap.size) 31 #[.int .i64 (q76.cap), .int .i64 (q76.closed), .int .i64 (q76.count), .int .i64 (q76.start), .int .i64 (q76.buf), .int .i64 (q76.th), .int .i64 (q76.tt), .int .i64 (q76.sh), .int .i64 (q76.st)], HeapP z12 z13 s63, BlkP (w39.heap.size) 31 #[.int .i64 2, .int .i64 0, .int .i64 0, .int .i64 0, .int .i64 (-1), .int .i64 (-1), .int .i64 (-1), .int .i64 (-1), .int .i64 5]] ps hS91 [0, 2] [1] (by kernel_rfl)
  clear hS91
  refine thenN ?_
  refine wp_seq ?_
  refine wp_region_lit ?_
  refine ev_runs 3 hF95 (l' := [(41, .bool (x62 == 0)), (40, .bool (x62 == 0)), (39, .int .i64 (x62)), (10, .int .i64 (x77)), (9, .pointer (some ⟨w80.heap.size, 0, none⟩)), (8, .int .i64 (x62)), (7, .pointer (some ⟨w39.heap.size, 0, none⟩))]) (w' := w89) (by kernel_rfl) ?_
  intro a98 hF97; clear hF95
  cases hc99 : (x62 == 0) with
  | true =>
    rw [hc99] at hF97
    rw [hc99] at hm79
    have hm100 := ifT hm79; clear hm79
    refine ev_runs 4 hF97 (l' := [(45, .bool (x77 == 0)), (44, .bool (x77 == 0)), (43, .bool (x77 == 0)), (42, .int .i64 (x77)), (41, .bool true), (40, .bool true), (39, .int .i64 (x62)), (10, .int .i64 (x77)), (9, .pointer (some ⟨w80.heap.size, 0, none⟩)), (8, .int .i64 (x62)), (7, .pointer (some ⟨w39.heap.size, 0, none⟩))]) (w' := w89) (by kernel_rfl) ?_
    intro a102 hF101; clear hF97
    cases hc103 : (x77 == 0) with
    | true =>
      rw [hc103] at hF101
      rw [hc103] at hm100
      have hm104 := ifT hm100; clear hm100
      refine ev_one (.agg #[.int .i64 (q76.cap), .int .i64 (q76.closed), .int .i64 (q76.count), .int .i64 (q76.start), .int .i64 (q76.buf), .int .i64 (q76.th), .int .i64 (q76.tt), .int .i64 (q76.sh), .int .i64 (q76.st)]) w89 hF101 (by kernel_rfl) rfl (by kernel_rfl) (run_loadV rfl rfl (run_loadA (cs := [.int .i64 (q76.cap), .int .i64 (q76.closed), .int .i64 (q76.count), .int .i64 (q76.start), .int .i64 (q76.buf), .int .i64 (q76.th), .int .i64 (q76.tt), .int .i64 (q76.sh), .int .i64 (q76.st)]) rfl rfl (by kernel_rfl) (blk_cells hS96 0 rfl rfl))) (l' := [(46, .agg #[.int .i64 (q76.cap), .int .i64 (q76.closed), .int .i64 (q76.count), .int .i64 (q76.start), .int .i64 (q76.buf), .int .i64 (q76.th), .int .i64 (q76.tt), .int .i64 (q76.sh), .int .i64 (q76.st)]), (45, .bool true), (44, .bool true), (43, .bool true), (42, .int .i64 (x77)), (41, .bool true), (40, .bool true), (39, .int .i64 (x62)), (10, .int .i64 (x77)), (9, .pointer (some ⟨w80.heap.size, 0, none⟩)), (8, .int .i64 (x62)), (7, .pointer (some ⟨w39.heap.size, 0, none⟩))]) (by kernel_rfl) ?_
      intro a106 hF105; clear hF101
      refine ev_one (.agg #[.int .i64 2, .int .i64 0, .int .i64 0, .int .i64 0, .int .i64 (-1), .int .i64 (-1), .int .i64 (-1), .int .i64 (-1), .int .i64 5]) w89 hF105 (by kernel_rfl) rfl (by kernel_rfl) (run_loadV rfl rfl (run_loadA (cs := [.int .i64 2, .int .i64 0, .int .i64 0, .int .i64 0, .int .i64 (-1), .int .i64 (-1), .int .i64 (-1), .int .i64 (-1), .int .i64 5]) rfl rfl (by kernel_rfl) (blk_cells hS96 1 rfl rfl))) (l' := [(47, .agg #[.int .i64 2, .int .i64 0, .int .i64 0, .int .i64 0, .int .i64 (-1), .int .i64 (-1), .int .i64 (-1), .int .i64 (-1), .int .i64 5]), (46, .agg #[.int .i64 (q76.cap), .int .i64 (q76.closed), .int .i64 (q76.count), .int .i64 (q76.start), .int .i64 (q76.buf), .int .i64 (q76.th), .int .i64 (q76.tt), .int .i64 (q76.sh), .int .i64 (q76.st)]), (45, .bool true), (44, .bool true), (43, .bool true), (42, .int .i64 (x77)), (41, .bool true), (40, .bool true), (39, .int .i64 (x62)), (10, .int .i64 (x77)), (9, .pointer (some ⟨w80.heap.size, 0, none⟩)), (8, .int .i64 (x62)), (7, .pointer (some ⟨w39.heap.size, 0, none⟩))]) (by kernel_rfl) ?_
      intro a108 hF107; clear hF105
      refine ev_one (.bool ((q76.cap == (2 : Int)) && ((q76.closed == (0 : Int)) && ((q76.count == (0 : Int)) && ((q76.start == (0 : Int)) && ((q76.buf == (-1 : Int)) && ((q76.th == (-1 : Int)) && ((q76.tt == (-1 : Int)) && ((q76.sh == (-1 : Int)) && ((q76.st == (5 : Int)) && (true))))))))))) w89 hF107 (by kernel_rfl) rfl (by kernel_rfl) (run_eqS rfl rfl rfl (by kernel_rfl) rfl (by kernel_rfl) (eqf_int (by kernel_rfl) rfl rfl rfl (eqf_int (by kernel_rfl) rfl rfl rfl (eqf_int (by kernel_rfl) rfl rfl rfl (eqf_int (by kernel_rfl) rfl rfl rfl (eqf_int (by kernel_rfl) rfl rfl rfl (eqf_int (by kernel_rfl) rfl rfl rfl (eqf_int (by kernel_rfl) rfl rfl rfl (eqf_int (by kernel_rfl) rfl rfl rfl (eqf_int (by kernel_rfl) rfl rfl rfl eqf_nil)))))))))) (l' := [(48, .bool ((q76.cap == (2 : Int)) && ((q76.closed == (0 : Int)) && ((q76.count == (0 : Int)) && ((q76.start == (0 : Int)) && ((q76.buf == (-1 : Int)) && ((q76.th == (-1 : Int)) && ((q76.tt == (-1 : Int)) && ((q76.sh == (-1 : Int)) && ((q76.st == (5 : Int)) && (true))))))))))), (47, .agg #[.int .i64 2, .int .i64 0, .int .i64 0, .int .i64 0, .int .i64 (-1), .int .i64 (-1), .int .i64 (-1), .int .i64 (-1), .int .i64 5]), (46, .agg #[.int .i64 (q76.cap), .int .i64 (q76.closed), .int .i64 (q76.count), .int .i64 (q76.start), .int .i64 (q76.buf), .int .i64 (q76.th), .int .i64 (q76.tt), .int .i64 (q76.sh), .int .i64 (q76.st)]), (45, .bool true), (44, .bool true), (43, .bool true), (42, .int .i64 (x77)), (41, .bool true), (40, .bool true), (39, .int .i64 (x62)), (10, .int .i64 (x77)), (9, .pointer (some ⟨w80.heap.size, 0, none⟩)), (8, .int .i64 (x62)), (7, .pointer (some ⟨w39.heap.size, 0, none⟩))]) (by kernel_rfl) ?_
      intro a110 hF109; clear hF107
      refine ev_runs 2 hF109 (l' := [(0, .bool ((q76.cap == (2 : Int)) && ((q76.closed == (0 : Int)) && ((q76.count == (0 : Int)) && ((q76.start == (0 : Int)) && ((q76.buf == (-1 : Int)) && ((q76.th == (-1 : Int)) && ((q76.tt == (-1 : Int)) && ((q76.sh == (-1 : Int)) && ((q76.st == (5 : Int)) && (true))))))))))), (49, .bool ((q76.cap == (2 : Int)) && ((q76.closed == (0 : Int)) && ((q76.count == (0 : Int)) && ((q76.start == (0 : Int)) && ((q76.buf == (-1 : Int)) && ((q76.th == (-1 : Int)) && ((q76.tt == (-1 : Int)) && ((q76.sh == (-1 : Int)) && ((q76.st == (5 : Int)) && (true))))))))))), (48, .bool ((q76.cap == (2 : Int)) && ((q76.closed == (0 : Int)) && ((q76.count == (0 : Int)) && ((q76.start == (0 : Int)) && ((q76.buf == (-1 : Int)) && ((q76.th == (-1 : Int)) && ((q76.tt == (-1 : Int)) && ((q76.sh == (-1 : Int)) && ((q76.st == (5 : Int)) && (true))))))))))), (47, .agg #[.int .i64 2, .int .i64 0, .int .i64 0, .int .i64 0, .int .i64 (-1), .int .i64 (-1), .int .i64 (-1), .int .i64 (-1), .int .i64 5]), (46, .agg #[.int .i64 (q76.cap), .int .i64 (q76.closed), .int .i64 (q76.count), .int .i64 (q76.start), .int .i64 (q76.buf), .int .i64 (q76.th), .int .i64 (q76.tt), .int .i64 (q76.sh), .int .i64 (q76.st)]), (45, .bool true), (44, .bool true), (43, .bool true), (42, .int .i64 (x77)), (41, .bool true), (40, .bool true), (39, .int .i64 (x62)), (10, .int .i64 (x77)), (9, .pointer (some ⟨w80.heap.size, 0, none⟩)), (8, .int .i64 (x62)), (7, .pointer (some ⟨w39.heap.size, 0, none⟩))]) (w' := w89) (by kernel_rfl) ?_
      intro a112 hF111; clear hF109
      refine wpList_nil ?_
      have hF113 : Fr 50 a112 [(0, .bool ((q76.cap == (2 : Int)) && ((q76.closed == (0 : Int)) && ((q76.count == (0 : Int)) && ((q76.start == (0 : Int)) && ((q76.buf == (-1 : Int)) && ((q76.th == (-1 : Int)) && ((q76.tt == (-1 : Int)) && ((q76.sh == (-1 : Int)) && ((q76.st == (5 : Int)) && (true)))))))))))] := hF111.keep [0]
      clear hF111
      have hS114 : St w0 F0 (ps) w89 := St.ordP [BlkP (w80.heap.size) 31 #[.int .i64 (q76.cap), .int .i64 (q76.closed), .int .i64 (q76.count), .int .i64 (q76.start), .int .i64 (q76.buf), .int .i64 (q76.th), .int .i64 (q76.tt), .int .i64 (q76.sh), .int .i64 (q76.st)], BlkP (w39.heap.size) 31 #[.int .i64 2, .int .i64 0, .int .i64 0, .int .i64 0, .int .i64 (-1), .int .i64 (-1), .int .i64 (-1), .int .i64 (-1), .int .i64 5]] ps hS96 [] [0, 1] (by kernel_rfl)
      clear hS96
      refine thenN ?_
      refine wp_ret ?_
      obtain rfl := Option.some.inj hm104
      refine ev_ret hF113 [0] (.bool ((q76.cap == (2 : Int)) && ((q76.closed == (0 : Int)) && ((q76.count == (0 : Int)) && ((q76.start == (0 : Int)) && ((q76.buf == (-1 : Int)) && ((q76.th == (-1 : Int)) && ((q76.tt == (-1 : Int)) && ((q76.sh == (-1 : Int)) && ((q76.st == (5 : Int)) && (true))))))))))) rfl rfl rfl ?_
      exact ⟨rfl, hS114⟩
    | false =>
      rw [hc103] at hF101
      rw [hc103] at hm100
      have hm116 := ifF hm100; clear hm100
      refine ev_runs 5 hF101 (l' := [(0, .bool false), (49, .bool false), (48, .tuple #[]), (47, .tuple #[]), (46, .tuple #[]), (45, .bool false), (44, .bool false), (43, .bool false), (42, .int .i64 (x77)), (41, .bool true), (40, .bool true), (39, .int .i64 (x62)), (10, .int .i64 (x77)), (9, .pointer (some ⟨w80.heap.size, 0, none⟩)), (8, .int .i64 (x62)), (7, .pointer (some ⟨w39.heap.size, 0, none⟩))]) (w' := w89) (by kernel_rfl) ?_
      intro a118 hF117; clear hF101
      refine wpList_nil ?_
      have hF119 : Fr 50 a118 [(0, .bool false)] := hF117.keep [0]
      clear hF117
      have hS120 : St w0 F0 (ps) w89 := St.ordP [BlkP (w80.heap.size) 31 #[.int .i64 (q76.cap), .int .i64 (q76.closed), .int .i64 (q76.count), .int .i64 (q76.start), .int .i64 (q76.buf), .int .i64 (q76.th), .int .i64 (q76.tt), .int .i64 (q76.sh), .int .i64 (q76.st)], BlkP (w39.heap.size) 31 #[.int .i64 2, .int .i64 0, .int .i64 0, .int .i64 0, .int .i64 (-1), .int .i64 (-1), .int .i64 (-1), .int .i64 (-1), .int .i64 5]] ps hS96 [] [0, 1] (by kernel_rfl)
      clear hS96
      refine thenN ?_
      refine wp_ret ?_
      obtain rfl := Option.some.inj hm116
      refine ev_ret hF119 [0] (.bool false) rfl rfl rfl ?_
      exact ⟨rfl, hS120⟩
  | false =>
    rw [hc99] at hF97
    rw [hc99] at hm79
    have hm122 := ifF hm79; clear hm79
    refine ev_runs 9 hF97 (l' := [(0, .bool false), (49, .bool false), (48, .tuple #[]), (47, .tuple #[]), (46, .tuple #[]), (45, .bool false), (44, .bool false), (43, .tuple #[]), (42, .tuple #[]), (41, .bool false), (40, .bool false), (39, .int .i64 (x62)), (10, .int .i64 (x77)), (9, .pointer (some ⟨w80.heap.size, 0, none⟩)), (8, .int .i64 (x62)), (7, .pointer (some ⟨w39.heap.size, 0, none⟩))]) (w' := w89) (by kernel_rfl) ?_
    intro a124 hF123; clear hF97
    refine wpList_nil ?_
    have hF125 : Fr 50 a124 [(0, .bool false)] := hF123.keep [0]
    clear hF123
    have hS126 : St w0 F0 (ps) w89 := St.ordP [BlkP (w80.heap.size) 31 #[.int .i64 (q76.cap), .int .i64 (q76.closed), .int .i64 (q76.count), .int .i64 (q76.start), .int .i64 (q76.buf), .int .i64 (q76.th), .int .i64 (q76.tt), .int .i64 (q76.sh), .int .i64 (q76.st)], BlkP (w39.heap.size) 31 #[.int .i64 2, .int .i64 0, .int .i64 0, .int .i64 0, .int .i64 (-1), .int .i64 (-1), .int .i64 (-1), .int .i64 (-1), .int .i64 5]] ps hS96 [] [0, 1] (by kernel_rfl)
    clear hS96
    refine thenN ?_
    refine wp_ret ?_
    obtain rfl := Option.some.inj hm122
    refine ev_ret hF125 [0] (.bool false) rfl rfl rfl ?_
    exact ⟨rfl, hS126⟩

def law11_small.m (k : Nat) (i0 : Int) : Option (Int) := bind1 (some (Int.tmod i0 1099511627776)) fun x6 => some (x6)
set_option maxRecDepth 100000 in
set_option maxHeartbeats 1500000 in
theorem law11_small.ok {w0 w : World} {F0 : List Nat} {ps : List Piece} {k : Nat} {i0 : Int} {r0 : Int} (hS : St w0 F0 (ps) w) (hm : law11_small.m k i0 = some r0) :
    Calls Try.prog 22 #[.int .i64 (i0)] w fun e w' => e = .returned (.int .i64 r0) ∧ St w0 F0 (ps) w' := by
  refine ev_enterL 5 [.int .i64 (i0)] Try.func22 rfl rfl (by simp) ?_
  intro a hF
  have hF0 : Fr 5 a [(0, .int .i64 (i0))] := hF; clear hF
  unfold law11_small.m at hm
  refine wp_seq ?_
  refine wp_region_lit ?_
  refine ev_runs 1 hF0 (l' := [(2, .int .i64 0), (0, .int .i64 (i0))]) (w' := w) (by kernel_rfl) ?_
  intro a2 hF1; clear hF0
  refine wpList_nil ?_
  have hF3 : Fr 5 a2 [(0, .int .i64 (i0))] := hF1.keep [0]
  clear hF1
  refine thenN ?_
  refine wp_seq ?_
  refine wp_region_lit ?_
  refine ev_runs 3 hF3 (l' := [(2, .int .i64 (Int.tmod i0 1099511627776)), (4, .int .i64 (Int.tmod i0 1099511627776)), (3, .int .i64 (i0)), (0, .int .i64 (i0))]) (w' := w) (by kernel_rfl) ?_
  intro a5 hF4; clear hF3
  obtain ⟨x6, hx7, hm8⟩ := bind1E hm; clear hm
  have hF9 := hF4; rw [Option.some.inj hx7] at hF9; clear hF4
  refine wpList_nil ?_
  have hF10 : Fr 5 a5 [(2, .int .i64 (x6))] := hF9.keep [2]
  clear hF9
  refine thenN ?_
  refine wp_ret ?_
  obtain rfl := Option.some.inj hm8
  refine ev_ret hF10 [2] (.int .i64 (x6)) rfl rfl rfl ?_
  exact ⟨rfl, hS⟩

end Go.Proofs.Ytdnelekoplkkcaa
/- The walks of GViewKinds, printed by gen/walk.py. -/
namespace Go.Proofs.Ytdnelekoplkkcaa
open Go.RowKit
set_option linter.unusedVariables false

def ViewKinds.m (k : Nat) (i0 : Int) : Option (Bool) := bind2 (law11_both.m k ) fun s4 s5 => bind1 (law11_awake.m k ) fun y25 => (if (!(y25)) then some (false) else bind5 (law11_places.m k s5) fun x53 x54 x55 x56 s57 => bind2 (pChan x54 s4) fun q71 x72 => bind2 (pSudog x55 s4) fun q94 x95 => bind3 (view_Gor.m k s4 x56) fun q117 x118 s119 => (if (x72 == 10) then (if (x95 == 10) then (if (x118 == 10) then bind2 (pPutChan x56 (⟨0, 0, 0, 0, 0, 0, 0, 0, 0⟩ : Ch) s119) fun x210 s211 => (if (x210 == 10) then bind2 (pPutSudog x53 (⟨0, 0, 0, 0, 0, 0, 0⟩ : Su) s211) fun x225 s226 => (if (x225 == 10) then bind2 (pPutGor x54 (⟨0, 0, 0, 0, 0, 0, 0, 0, 0, 0⟩ : Gr) s226) fun x240 s241 => (if (x240 == 10) then some (true) else some (false)) else some (false)) else some (false)) else some (false)) else some (false)) else some (false)))
set_option maxRecDepth 100000 in
set_option maxHeartbeats 40000000 in
theorem ViewKinds.ok {w0 w : World} {F0 : List Nat} {ps : List Piece} {k : Nat} {i0 : Int} {r0 : Bool} (hS : St w0 F0 (ps) w) (hm : ViewKinds.m k i0 = some r0) :
    Calls Try.prog 4 #[.int .i64 (i0)] w fun e w' => e = .returned (.bool r0) ∧ St w0 F0 (ps) w' := by
  refine ev_enterL 136 [.int .i64 (i0)] Try.func4 rfl rfl (by simp) ?_
  intro a hF
  have hF0 : Fr 136 a [(0, .int .i64 (i0))] := hF; clear hF
  unfold ViewKinds.m at hm
  refine wp_seq ?_
  refine wp_region_lit ?_
  refine ev_runs 1 hF0 (l' := [(2, .bool false), (0, .int .i64 (i0))]) (w' := w) (by kernel_rfl) ?_
  intro a2 hF1; clear hF0
  refine wpList_nil ?_
  have hF3 : Fr 136 a2 [(0, .int .i64 (i0))] := hF1.keep [0]
  clear hF1
  refine thenN ?_
  refine wp_seq ?_
  refine wp_region_lit ?_
  refine ev_call 11 #[.bool false] hF3 rfl rfl (by kernel_rfl) rfl (by kernel_rfl) (fun w => by kernel_rfl) ?_
  obtain ⟨s4, s5, hx6, hm7⟩ := bind2E hm; clear hm
  refine (law11_both.ok hS hx6).mono ?_
  rintro _ w8 ⟨z12, z13, z14, z15, z16, z17, z18, rfl, hS10⟩ a9 hF11; clear hF3 hS
  have hF21 : Fr 136 a9 [(22, .tuple #[.pointer (some ⟨z12, 0, none⟩), .pointer (some ⟨z14, 0, none⟩)]), (0, .int .i64 (i0))] := hF11
  clear hF11
  refine ev_runs 5 hF21 (l' := [(4, .pointer (some ⟨z14, 0, none⟩)), (3, .pointer (some ⟨z12, 0, none⟩)), (24, .pointer (some ⟨z14, 0, none⟩)), (23, .pointer (some ⟨z12, 0, none⟩)), (21, .tuple #[.pointer (some ⟨z12, 0, none⟩), .pointer (some ⟨z14, 0, none⟩)]), (22, .tuple #[.pointer (some ⟨z12, 0, none⟩), .pointer (some ⟨z14, 0, none⟩)]), (0, .int .i64 (i0))]) (w' := w8) (by kernel_rfl) ?_
  intro a23 hF22; clear hF21
  refine wpList_nil ?_
  have hF24 : Fr 136 a23 [(4, .pointer (some ⟨z14, 0, none⟩)), (3, .pointer (some ⟨z12, 0, none⟩)), (0, .int .i64 (i0))] := hF22.keep [0, 3, 4]
  clear hF22
  refine thenN ?_
  refine wp_seq ?_
  refine wp_seq ?_
  refine wp_region_lit ?_
  refine ev_call 12 #[] hF24 rfl rfl (by kernel_rfl) rfl (by kernel_rfl) (fun w => by kernel_rfl) ?_
  obtain ⟨y25, hx26, hm27⟩ := bind1E hm7; clear hm7
  refine (law11_awake.ok hS10 hx26).mono ?_
  rintro _ w28 ⟨rfl, hS30⟩ a29 hF31; clear hF24 hS10
  have hF32 : Fr 136 a29 [(25, .bool (y25)), (4, .pointer (some ⟨z14, 0, none⟩)), (3, .pointer (some ⟨z12, 0, none⟩)), (0, .int .i64 (i0))] := hF31
  clear hF31
  refine ev_runs 2 hF32 (l' := [(27, .bool (!(y25))), (26, .bool (!(y25))), (25, .bool (y25)), (4, .pointer (some ⟨z14, 0, none⟩)), (3, .pointer (some ⟨z12, 0, none⟩)), (0, .int .i64 (i0))]) (w' := w28) (by kernel_rfl) ?_
  intro a34 hF33; clear hF32
  cases hc35 : (!(y25)) with
  | true =>
    rw [hc35] at hF33
    rw [hc35] at hm27
    have hm36 := ifT hm27; clear hm27
    refine ev_runs 7 hF33 (l' := [(34, .bool true), (33, .tuple #[]), (32, .tuple #[]), (31, .bool true), (30, .bool true), (29, .tuple #[]), (28, .tuple #[]), (27, .bool true), (26, .bool true), (25, .bool (y25)), (4, .pointer (some ⟨z14, 0, none⟩)), (3, .pointer (some ⟨z12, 0, none⟩)), (0, .int .i64 (i0))]) (w' := w28) (by kernel_rfl) ?_
    intro a38 hF37; clear hF33
    refine wpList_nil ?_
    have hF39 : Fr 136 a38 [(34, .bool true), (4, .pointer (some ⟨z14, 0, none⟩)), (3, .pointer (some ⟨z12, 0, none⟩)), (0, .int .i64 (i0))] := hF37.keep [0, 3, 4, 34]
    clear hF37
    refine thenN ?_
    refine ev_condT hF39 rfl rfl ?_
    refine wp_seq ?_
    refine wp_region_lit ?_
    refine ev_runs 1 hF39 (l' := [(2, .bool false), (34, .bool true), (4, .pointer (some ⟨z14, 0, none⟩)), (3, .pointer (some ⟨z12, 0, none⟩)), (0, .int .i64 (i0))]) (w' := w28) (by kernel_rfl) ?_
    intro a41 hF40; clear hF39
    refine wpList_nil ?_
    have hF42 : Fr 136 a41 [(2, .bool false)] := hF40.keep [2]
    clear hF40
    have hS43 : St w0 F0 (ps) w28 := St.ordP [HeapP z12 z13 s4, RHeapP z14 z15 z16 z17 z18 s5] ps hS30 [] [0, 1] (by kernel_rfl)
    clear hS30
    refine thenN ?_
    refine wp_ret ?_
    refine thenR ?_
    obtain rfl := Option.some.inj hm36
    refine ev_ret hF42 [2] (.bool false) rfl rfl rfl ?_
    exact ⟨rfl, hS43⟩
  | false =>
    rw [hc35] at hF33
    rw [hc35] at hm27
    have hm45 := ifF hm27; clear hm27
    refine ev_runs 7 hF33 (l' := [(34, .bool false), (33, .bool false), (32, .pointer (some ⟨z14, 0, none⟩)), (31, .bool false), (30, .bool false), (29, .bool false), (28, .pointer (some ⟨z12, 0, none⟩)), (27, .bool false), (26, .bool false), (25, .bool (y25)), (4, .pointer (some ⟨z14, 0, none⟩)), (3, .pointer (some ⟨z12, 0, none⟩)), (0, .int .i64 (i0))]) (w' := w28) (by kernel_rfl) ?_
    intro a47 hF46; clear hF33
    refine wpList_nil ?_
    have hF48 : Fr 136 a47 [(34, .bool false), (4, .pointer (some ⟨z14, 0, none⟩)), (3, .pointer (some ⟨z12, 0, none⟩)), (0, .int .i64 (i0))] := hF46.keep [0, 3, 4, 34]
    clear hF46
    refine thenN ?_
    refine ev_condF hF48 rfl rfl ?_
    refine wp_skip ?_
    have hF49 : Fr 136 a47 [(4, .pointer (some ⟨z14, 0, none⟩)), (3, .pointer (some ⟨z12, 0, none⟩)), (0, .int .i64 (i0))] := hF48.keep [0, 3, 4]
    clear hF48
    refine thenN ?_
    refine wp_seq ?_
    refine wp_region_lit ?_
    refine ev_runs 1 hF49 (l' := [(36, .pointer (some ⟨z14, 0, none⟩)), (4, .pointer (some ⟨z14, 0, none⟩)), (3, .pointer (some ⟨z12, 0, none⟩)), (0, .int .i64 (i0))]) (w' := w28) (by kernel_rfl) ?_
    intro a51 hF50; clear hF49
    have hS52 : St w0 F0 (RHeapP z14 z15 z16 z17 z18 s5 :: HeapP z12 z13 s4 :: ps) w28 := St.ordP [HeapP z12 z13 s4, RHeapP z14 z15 z16 z17 z18 s5] ps hS30 [1, 0] [] (by kernel_rfl)
    clear hS30
    refine ev_call 13 #[.pointer (some ⟨z14, 0, none⟩)] hF50 rfl rfl (by kernel_rfl) rfl (by kernel_rfl) (fun w => by kernel_rfl) ?_
    obtain ⟨x53, x54, x55, x56, s57, hx58, hm59⟩ := bind5E hm45; clear hm45
    refine (law11_places.ok hS52 hx58).mono ?_
    rintro _ w60 ⟨rfl, hS62⟩ a61 hF63; clear hF50 hS52
    have hF64 : Fr 136 a61 [(37, .tuple #[.int .i64 (x53), .int .i64 (x54), .int .i64 (x55), .int .i64 (x56)]), (36, .pointer (some ⟨z14, 0, none⟩)), (4, .pointer (some ⟨z14, 0, none⟩)), (3, .pointer (some ⟨z12, 0, none⟩)), (0, .int .i64 (i0))] := hF63
    clear hF63
    refine ev_runs 9 hF64 (l' := [(8, .int .i64 (x56)), (7, .int .i64 (x55)), (6, .int .i64 (x54)), (5, .int .i64 (x53)), (41, .int .i64 (x56)), (40, .int .i64 (x55)), (39, .int .i64 (x54)), (38, .int .i64 (x53)), (35, .tuple #[.int .i64 (x53), .int .i64 (x54), .int .i64 (x55), .int .i64 (x56)]), (37, .tuple #[.int .i64 (x53), .int .i64 (x54), .int .i64 (x55), .int .i64 (x56)]), (36, .pointer (some ⟨z14, 0, none⟩)), (4, .pointer (some ⟨z14, 0, none⟩)), (3, .pointer (some ⟨z12, 0, none⟩)), (0, .int .i64 (i0))]) (w' := w60) (by kernel_rfl) ?_
    intro a66 hF65; clear hF64
    refine wpList_nil ?_
    have hF67 : Fr 136 a66 [(8, .int .i64 (x56)), (7, .int .i64 (x55)), (6, .int .i64 (x54)), (5, .int .i64 (x53)), (3, .pointer (some ⟨z12, 0, none⟩)), (0, .int .i64 (i0))] := hF65.keep [0, 3, 5, 6, 7, 8]
    clear hF65
    have hS68 : St w0 F0 (HeapP z12 z13 s4 :: ps) w60 := St.ordP [RHeapP z14 z15 z16 z17 z18 s57, HeapP z12 z13 s4] ps hS62 [1] [0] (by kernel_rfl)
    clear hS62
    refine thenN ?_
    refine wp_seq ?_
    refine wp_region_lit ?_
    refine ev_runs 2 hF67 (l' := [(44, .int .i64 (x54)), (43, .pointer (some ⟨z12, 0, none⟩)), (8, .int .i64 (x56)), (7, .int .i64 (x55)), (6, .int .i64 (x54)), (5, .int .i64 (x53)), (3, .pointer (some ⟨z12, 0, none⟩)), (0, .int .i64 (i0))]) (w' := w60) (by kernel_rfl) ?_
    intro a70 hF69; clear hF67
    refine ev_call 18 #[.pointer (some ⟨z12, 0, none⟩), .int .i64 (x54)] hF69 rfl rfl (by kernel_rfl) rfl (by kernel_rfl) (fun w => by kernel_rfl) ?_
    obtain ⟨q71, x72, hx73, hm74⟩ := bind2E hm59; clear hm59
    refine (p_Chan hS68 hx73).mono ?_
    rintro _ w75 ⟨rfl, hS77⟩ a76 hF78; clear hF69 hS68
    have hF79 : Fr 136 a76 [(45, .tuple #[.agg #[.int .i64 (q71.cap), .int .i64 (q71.closed), .int .i64 (q71.count), .int .i64 (q71.start), .int .i64 (q71.buf), .int .i64 (q71.th), .int .i64 (q71.tt), .int .i64 (q71.sh), .int .i64 (q71.st)], .int .i64 (x72)]), (44, .int .i64 (x54)), (43, .pointer (some ⟨z12, 0, none⟩)), (8, .int .i64 (x56)), (7, .int .i64 (x55)), (6, .int .i64 (x54)), (5, .int .i64 (x53)), (3, .pointer (some ⟨z12, 0, none⟩)), (0, .int .i64 (i0))] := hF78
    clear hF78
    refine ev_runs 4 hF79 (l' := [(9, .pointer (some ⟨w75.heap.size, 0, none⟩)), (47, .int .i64 (x72)), (46, .agg #[.int .i64 (q71.cap), .int .i64 (q71.closed), .int .i64 (q71.count), .int .i64 (q71.start), .int .i64 (q71.buf), .int .i64 (q71.th), .int .i64 (q71.tt), .int .i64 (q71.sh), .int .i64 (q71.st)]), (42, .tuple #[.agg #[.int .i64 (q71.cap), .int .i64 (q71.closed), .int .i64 (q71.count), .int .i64 (q71.start), .int .i64 (q71.buf), .int .i64 (q71.th), .int .i64 (q71.tt), .int .i64 (q71.sh), .int .i64 (q71.st)], .int .i64 (x72)]), (45, .tuple #[.agg #[.int .i64 (q71.cap), .int .i64 (q71.closed), .int .i64 (q71.count), .int .i64 (q71.start), .int .i64 (q71.buf), .int .i64 (q71.th), .int .i64 (q71.tt), .int .i64 (q71.sh), .int .i64 (q71.st)], .int .i64 (x72)]), (44, .int .i64 (x54)), (43, .pointer (some ⟨z12, 0, none⟩)), (8, .int .i64 (x56)), (7, .int .i64 (x55)), (6, .int .i64 (x54)), (5, .int .i64 (x53)), (3, .pointer (some ⟨z12, 0, none⟩)), (0, .int .i64 (i0))]) (w' := w75.alloc (.cells #[.int .i64 0, .int .i64 0, .int .i64 0, .int .i64 0, .int .i64 0, .int .i64 0, .int .i64 0, .int .i64 0, .int .i64 0] 31)) (by kernel_rfl) ?_
    intro a81 hF80; clear hF79
    have hS83 : St w0 F0 (BlkP (w75.heap.size) 31 #[.int .i64 0, .int .i64 0, .int .i64 0, .int .i64 0, .int .i64 0, .int .i64 0, .int .i64 0, .int .i64 0, .int .i64 0] :: HeapP z12 z13 s4 :: ps) (w75.alloc (.cells #[.int .i64 0, .int .i64 0, .int .i64 0, .int .i64 0, .int .i64 0, .int .i64 0, .int .i64 0, .int .i64 0, .int .i64 0] 31)) := St.new hS77 #[.int .i64 0, .int .i64 0, .int .i64 0, .int .i64 0, .int .i64 0, .int .i64 0, .int .i64 0, .int .i64 0, .int .i64 0] 31
    clear hS77
    refine ev_store (.agg #[.int .i64 (q71.cap), .int .i64 (q71.closed), .int .i64 (q71.count), .int .i64 (q71.start), .int .i64 (q71.buf), .int .i64 (q71.th), .int .i64 (q71.tt), .int .i64 (q71.sh), .int .i64 (q71.st)]) #[.int .i64 (q71.cap), .int .i64 (q71.closed), .int .i64 (q71.count), .int .i64 (q71.start), .int .i64 (q71.buf), .int .i64 (q71.th), .int .i64 (q71.tt), .int .i64 (q71.sh), .int .i64 (q71.st)] hF80 (by kernel_rfl) rfl rfl rfl rfl (by kernel_rfl) hS83 (by kernel_rfl) (by kernel_rfl) (by kernel_rfl) (l' := [(9, .pointer (some ⟨w75.heap.size, 0, none⟩)), (47, .int .i64 (x72)), (46, .agg #[.int .i64 (q71.cap), .int .i64 (q71.closed), .int .i64 (q71.count), .int .i64 (q71.start), .int .i64 (q71.buf), .int .i64 (q71.th), .int .i64 (q71.tt), .int .i64 (q71.sh), .int .i64 (q71.st)]), (42, .tuple #[.agg #[.int .i64 (q71.cap), .int .i64 (q71.closed), .int .i64 (q71.count), .int .i64 (q71.start), .int .i64 (q71.buf), .int .i64 (q71.th), .int .i64 (q71.tt), .int .i64 (q71.sh), .int .i64 (q71.st)], .int .i64 (x72)]), (45, .tuple #[.agg #[.int .i64 (q71.cap), .int .i64 (q71.closed), .int .i64 (q71.count), .int .i64 (q71.start), .int .i64 (q71.buf), .int .i64 (q71.th), .int .i64 (q71.tt), .int .i64 (q71.sh), .int .i64 (q71.st)], .int .i64 (x72)]), (44, .int .i64 (x54)), (43, .pointer (some ⟨z12, 0, none⟩)), (8, .int .i64 (x56)), (7, .int .i64 (x55)), (6, .int .i64 (x54)), (5, .int .i64 (x53)), (3, .pointer (some ⟨z12, 0, none⟩)), (0, .int .i64 (i0))]) (by kernel_rfl) ?_
    intro w84 a85 hS86 hF87; clear hF80 hS83
    refine ev_runs 1 hF87 (l' := [(10, .int .i64 (x72)), (9, .pointer (some ⟨w75.heap.size, 0, none⟩)), (47, .int .i64 (x72)), (46, .agg #[.int .i64 (q71.cap), .int .i64 (q71.closed), .int .i64 (q71.count), .int .i64 (q71.start), .int .i64 (q71.buf), .int .i64 (q71.th), .int .i64 (q71.tt), .int .i64 (q71.sh), .int .i64 (q71.st)]), (42, .tuple #[.agg #[.int .i64 (q71.cap), .int .i64 (q71.closed), .int .i64 (q71.count), .int .i64 (q71.start), .int .i64 (q71.buf), .int .i64 (q71.th), .int .i64 (q71.tt), .int .i64 (q71.sh), .int .i64 (q71.st)], .int .i64 (x72)]), (45, .tuple #[.agg #[.int .i64 (q71.cap), .int .i64 (q71.closed), .int .i64 (q71.count), .int .i64 (q71.start), .int .i64 (q71.buf), .int .i64 (q71.th), .int .i64 (q71.tt), .int .i64 (q71.sh), .int .i64 (q71.st)], .int .i64 (x72)]), (44, .int .i64 (x54)), (43, .pointer (some ⟨z12, 0, none⟩)), (8, .int .i64 (x56)), (7, .int .i64 (x55)), (6, .int .i64 (x54)), (5, .int .i64 (x53)), (3, .pointer (some ⟨z12, 0, none⟩)), (0, .int .i64 (i0))]) (w' := w84) (by kernel_rfl) ?_
    intro a89 hF88; clear hF87
    refine wpList_nil ?_
    have hF90 : Fr 136 a89 [(10, .int .i64 (x72)), (8, .int .i64 (x56)), (7, .int .i64 (x55)), (6, .int .i64 (x54)), (5, .int .i64 (x53)), (3, .pointer (some ⟨z12, 0, none⟩)), (0, .int .i64 (i0))] := hF88.keep [0, 3, 5, 6, 7, 8, 10]
    clear hF88
    have hS91 : St w0 F0 (HeapP z12 z13 s4 :: ps) w84 := St.ordP [BlkP (w75.heap.size) 31 #[.int .i64 (q71.cap), .int .i64 (q71.closed), .int .i64 (q71.count), .int .i64 (q71.start), .int .i64 (q71.buf), .int .i64 (q71.th), .int .i64 (q71.tt), .int .i64 (q71.sh), .int .i64 (q71.st)], HeapP z12 z13 s4] ps hS86 [1] [0] (by kernel_rfl)
    clear hS86
    refine thenN ?_
    refine wp_seq ?_
    refine wp_region_lit ?_
    refine ev_runs 2 hF90 (l' := [(50, .int .i64 (x55)), (49, .pointer (some ⟨z12, 0, none⟩)), (10, .int .i64 (x72)), (8, .int .i64 (x56)), (7, .int .i64 (x55)), (6, .int .i64 (x54)), (5, .int .i64 (x53)), (3, .pointer (some ⟨z12, 0, none⟩)), (0, .int .i64 (i0))]) (w' := w84) (by kernel_rfl) ?_
    intro a93 hF92; clear hF90
    refine ev_call 19 #[.pointer (some ⟨z12, 0, none⟩), .int .i64 (x55)] hF92 rfl rfl (by kernel_rfl) rfl (by kernel_rfl) (fun w => by kernel_rfl) ?_
    obtain ⟨q94, x95, hx96, hm97⟩ := bind2E hm74; clear hm74
    refine (p_Sudog hS91 hx96).mono ?_
    rintro _ w98 ⟨rfl, hS100⟩ a99 hF101; clear hF92 hS91
    have hF102 : Fr 136 a99 [(51, .tuple #[.agg #[.int .i64 (q94.gor), .int .i64 (q94.chan), .int .i64 (q94.value), .int .i64 (q94.next), .int .i64 (q94.to), .int .i64 (q94.reg), .int .i64 (q94.more)], .int .i64 (x95)]), (50, .int .i64 (x55)), (49, .pointer (some ⟨z12, 0, none⟩)), (10, .int .i64 (x72)), (8, .int .i64 (x56)), (7, .int .i64 (x55)), (6, .int .i64 (x54)), (5, .int .i64 (x53)), (3, .pointer (some ⟨z12, 0, none⟩)), (0, .int .i64 (i0))] := hF101
    clear hF101
    refine ev_runs 4 hF102 (l' := [(11, .pointer (some ⟨w98.heap.size, 0, none⟩)), (53, .int .i64 (x95)), (52, .agg #[.int .i64 (q94.gor), .int .i64 (q94.chan), .int .i64 (q94.value), .int .i64 (q94.next), .int .i64 (q94.to), .int .i64 (q94.reg), .int .i64 (q94.more)]), (48, .tuple #[.agg #[.int .i64 (q94.gor), .int .i64 (q94.chan), .int .i64 (q94.value), .int .i64 (q94.next), .int .i64 (q94.to), .int .i64 (q94.reg), .int .i64 (q94.more)], .int .i64 (x95)]), (51, .tuple #[.agg #[.int .i64 (q94.gor), .int .i64 (q94.chan), .int .i64 (q94.value), .int .i64 (q94.next), .int .i64 (q94.to), .int .i64 (q94.reg), .int .i64 (q94.more)], .int .i64 (x95)]), (50, .int .i64 (x55)), (49, .pointer (some ⟨z12, 0, none⟩)), (10, .int .i64 (x72)), (8, .int .i64 (x56)), (7, .int .i64 (x55)), (6, .int .i64 (x54)), (5, .int .i64 (x53)), (3, .pointer (some ⟨z12, 0, none⟩)), (0, .int .i64 (i0))]) (w' := w98.alloc (.cells #[.int .i64 0, .int .i64 0, .int .i64 0, .int .i64 0, .int .i64 0, .int .i64 0, .int .i64 0] 40)) (by kernel_rfl) ?_
    intro a104 hF103; clear hF102
    have hS106 : St w0 F0 (BlkP (w98.heap.size) 40 #[.int .i64 0, .int .i64 0, .int .i64 0, .int .i64 0, .int .i64 0, .int .i64 0, .int .i64 0] :: HeapP z12 z13 s4 :: ps) (w98.alloc (.cells #[.int .i64 0, .int .i64 0, .int .i64 0, .int .i64 0, .int .i64 0, .int .i64 0, .int .i64 0] 40)) := St.new hS100 #[.int .i64 0, .int .i64 0, .int .i64 0, .int .i64 0, .int .i64 0, .int .i64 0, .int .i64 0] 40
    clear hS100
    refine ev_store (.agg #[.int .i64 (q94.gor), .int .i64 (q94.chan), .int .i64 (q94.value), .int .i64 (q94.next), .int .i64 (q94.to), .int .i64 (q94.reg), .int .i64 (q94.more)]) #[.int .i64 (q94.gor), .int .i64 (q94.chan), .int .i64 (q94.value), .int .i64 (q94.next), .int .i64 (q94.to), .int .i64 (q94.reg), .int .i64 (q94.more)] hF103 (by kernel_rfl) rfl rfl rfl rfl (by kernel_rfl) hS106 (by kernel_rfl) (by kernel_rfl) (by kernel_rfl) (l' := [(11, .pointer (some ⟨w98.heap.size, 0, none⟩)), (53, .int .i64 (x95)), (52, .agg #[.int .i64 (q94.gor), .int .i64 (q94.chan), .int .i64 (q94.value), .int .i64 (q94.next), .int .i64 (q94.to), .int .i64 (q94.reg), .int .i64 (q94.more)]), (48, .tuple #[.agg #[.int .i64 (q94.gor), .int .i64 (q94.chan), .int .i64 (q94.value), .int .i64 (q94.next), .int .i64 (q94.to), .int .i64 (q94.reg), .int .i64 (q94.more)], .int .i64 (x95)]), (51, .tuple #[.agg #[.int .i64 (q94.gor), .int .i64 (q94.chan), .int .i64 (q94.value), .int .i64 (q94.next), .int .i64 (q94.to), .int .i64 (q94.reg), .int .i64 (q94.more)], .int .i64 (x95)]), (50, .int .i64 (x55)), (49, .pointer (some ⟨z12, 0, none⟩)), (10, .int .i64 (x72)), (8, .int .i64 (x56)), (7, .int .i64 (x55)), (6, .int .i64 (x54)), (5, .int .i64 (x53)), (3, .pointer (some ⟨z12, 0, none⟩)), (0, .int .i64 (i0))]) (by kernel_rfl) ?_
    intro w107 a108 hS109 hF110; clear hF103 hS106
    refine ev_runs 1 hF110 (l' := [(12, .int .i64 (x95)), (11, .pointer (some ⟨w98.heap.size, 0, none⟩)), (53, .int .i64 (x95)), (52, .agg #[.int .i64 (q94.gor), .int .i64 (q94.chan), .int .i64 (q94.value), .int .i64 (q94.next), .int .i64 (q94.to), .int .i64 (q94.reg), .int .i64 (q94.more)]), (48, .tuple #[.agg #[.int .i64 (q94.gor), .int .i64 (q94.chan), .int .i64 (q94.value), .int .i64 (q94.next), .int .i64 (q94.to), .int .i64 (q94.reg), .int .i64 (q94.more)], .int .i64 (x95)]), (51, .tuple #[.agg #[.int .i64 (q94.gor), .int .i64 (q94.chan), .int .i64 (q94.value), .int .i64 (q94.next), .int .i64 (q94.to), .int .i64 (q94.reg), .int .i64 (q94.more)], .int .i64 (x95)]), (50, .int .i64 (x55)), (49, .pointer (some ⟨z12, 0, none⟩)), (10, .int .i64 (x72)), (8, .int .i64 (x56)), (7, .int .i64 (x55)), (6, .int .i64 (x54)), (5, .int .i64 (x53)), (3, .pointer (some ⟨z12, 0, none⟩)), (0, .int .i64 (i0))]) (w' := w107) (by kernel_rfl) ?_
    intro a112 hF111; clear hF110
    refine wpList_nil ?_
    have hF113 : Fr 136 a112 [(12, .int .i64 (x95)), (10, .int .i64 (x72)), (8, .int .i64 (x56)), (6, .int .i64 (x54)), (5, .int .i64 (x53)), (3, .pointer (some ⟨z12, 0, none⟩)), (0, .int .i64 (i0))] := hF111.keep [0, 3, 5, 6, 8, 10, 12]
    clear hF111
    have hS114 : St w0 F0 (HeapP z12 z13 s4 :: ps) w107 := St.ordP [BlkP (w98.heap.size) 40 #[.int .i64 (q94.gor), .int .i64 (q94.chan), .int .i64 (q94.value), .int .i64 (q94.next), .int .i64 (q94.to), .int .i64 (q94.reg), .int .i64 (q94.more)], HeapP z12 z13 s4] ps hS109 [1] [0] (by kernel_rfl)
    clear hS109
    refine thenN ?_
    refine wp_seq ?_
    refine wp_region_lit ?_
    refine ev_runs 2 hF113 (l' := [(56, .int .i64 (x56)), (55, .pointer (some ⟨z12, 0, none⟩)), (12, .int .i64 (x95)), (10, .int .i64 (x72)), (8, .int .i64 (x56)), (6, .int .i64 (x54)), (5, .int .i64 (x53)), (3, .pointer (some ⟨z12, 0, none⟩)), (0, .int .i64 (i0))]) (w' := w107) (by kernel_rfl) ?_
    intro a116 hF115; clear hF113
    refine ev_call 20 #[.pointer (some ⟨z12, 0, none⟩), .int .i64 (x56)] hF115 rfl rfl (by kernel_rfl) rfl (by kernel_rfl) (fun w => by kernel_rfl) ?_
    obtain ⟨q117, x118, s119, hx120, hm121⟩ := bind3E hm97; clear hm97
    refine (view_Gor.ok hS114 hx120).mono ?_
    rintro _ w122 ⟨rfl, hS124⟩ a123 hF125; clear hF115 hS114
    have hF126 : Fr 136 a123 [(57, .tuple #[.agg #[.int .i64 (q117.id), .int .i64 (q117.status), .int .i64 (q117.pc), .int .i64 (q117.a), .int .i64 (q117.b), .int .i64 (q117.c), .int .i64 (q117.d), .int .i64 (q117.e), .int .i64 (q117.f), .int .i64 (q117.sudogs)], .int .i64 (x118)]), (56, .int .i64 (x56)), (55, .pointer (some ⟨z12, 0, none⟩)), (12, .int .i64 (x95)), (10, .int .i64 (x72)), (8, .int .i64 (x56)), (6, .int .i64 (x54)), (5, .int .i64 (x53)), (3, .pointer (some ⟨z12, 0, none⟩)), (0, .int .i64 (i0))] := hF125
    clear hF125
    refine ev_runs 4 hF126 (l' := [(13, .pointer (some ⟨w122.heap.size, 0, none⟩)), (59, .int .i64 (x118)), (58, .agg #[.int .i64 (q117.id), .int .i64 (q117.status), .int .i64 (q117.pc), .int .i64 (q117.a), .int .i64 (q117.b), .int .i64 (q117.c), .int .i64 (q117.d), .int .i64 (q117.e), .int .i64 (q117.f), .int .i64 (q117.sudogs)]), (54, .tuple #[.agg #[.int .i64 (q117.id), .int .i64 (q117.status), .int .i64 (q117.pc), .int .i64 (q117.a), .int .i64 (q117.b), .int .i64 (q117.c), .int .i64 (q117.d), .int .i64 (q117.e), .int .i64 (q117.f), .int .i64 (q117.sudogs)], .int .i64 (x118)]), (57, .tuple #[.agg #[.int .i64 (q117.id), .int .i64 (q117.status), .int .i64 (q117.pc), .int .i64 (q117.a), .int .i64 (q117.b), .int .i64 (q117.c), .int .i64 (q117.d), .int .i64 (q117.e), .int .i64 (q117.f), .int .i64 (q117.sudogs)], .int .i64 (x118)]), (56, .int .i64 (x56)), (55, .pointer (some ⟨z12, 0, none⟩)), (12, .int .i64 (x95)), (10, .int .i64 (x72)), (8, .int .i64 (x56)), (6, .int .i64 (x54)), (5, .int .i64 (x53)), (3, .pointer (some ⟨z12, 0, none⟩)), (0, .int .i64 (i0))]) (w' := w122.alloc (.cells #[.int .i64 0, .int .i64 0, .int .i64 0, .int .i64 0, .int .i64 0, .int .i64 0, .int .i64 0, .int .i64 0, .int .i64 0, .int .i64 0] 43)) (by kernel_rfl) ?_
    intro a128 hF127; clear hF126
    have hS130 : St w0 F0 (BlkP (w122.heap.size) 43 #[.int .i64 0, .int .i64 0, .int .i64 0, .int .i64 0, .int .i64 0, .int .i64 0, .int .i64 0, .int .i64 0, .int .i64 0, .int .i64 0] :: HeapP z12 z13 s119 :: ps) (w122.alloc (.cells #[.int .i64 0, .int .i64 0, .int .i64 0, .int .i64 0, .int .i64 0, .int .i64 0, .int .i64 0, .int .i64 0, .int .i64 0, .int .i64 0] 43)) := St.new hS124 #[.int .i64 0, .int .i64 0, .int .i64 0, .int .i64 0, .int .i64 0, .int .i64 0, .int .i64 0, .int .i64 0, .int .i64 0, .int .i64 0] 43
    clear hS124
    refine ev_store (.agg #[.int .i64 (q117.id), .int .i64 (q117.status), .int .i64 (q117.pc), .int .i64 (q117.a), .int .i64 (q117.b), .int .i64 (q117.c), .int .i64 (q117.d), .int .i64 (q117.e), .int .i64 (q117.f), .int .i64 (q117.sudogs)]) #[.int .i64 (q117.id), .int .i64 (q117.status), .int .i64 (q117.pc), .int .i64 (q117.a), .int .i64 (q117.b), .int .i64 (q117.c), .int .i64 (q117.d), .int .i64 (q117.e), .int .i64 (q117.f), .int .i64 (q117.sudogs)] hF127 (by kernel_rfl) rfl rfl rfl rfl (by kernel_rfl) hS130 (by kernel_rfl) (by kernel_rfl) (by kernel_rfl) (l' := [(13, .pointer (some ⟨w122.heap.size, 0, none⟩)), (59, .int .i64 (x118)), (58, .agg #[.int .i64 (q117.id), .int .i64 (q117.status), .int .i64 (q117.pc), .int .i64 (q117.a), .int .i64 (q117.b), .int .i64 (q117.c), .int .i64 (q117.d), .int .i64 (q117.e), .int .i64 (q117.f), .int .i64 (q117.sudogs)]), (54, .tuple #[.agg #[.int .i64 (q117.id), .int .i64 (q117.status), .int .i64 (q117.pc), .int .i64 (q117.a), .int .i64 (q117.b), .int .i64 (q117.c), .int .i64 (q117.d), .int .i64 (q117.e), .int .i64 (q117.f), .int .i64 (q117.sudogs)], .int .i64 (x118)]), (57, .tuple #[.agg #[.int .i64 (q117.id), .int .i64 (q117.status), .int .i64 (q117.pc), .int .i64 (q117.a), .int .i64 (q117.b), .int .i64 (q117.c), .int .i64 (q117.d), .int .i64 (q117.e), .int .i64 (q117.f), .int .i64 (q117.sudogs)], .int .i64 (x118)]), (56, .int .i64 (x56)), (55, .pointer (some ⟨z12, 0, none⟩)), (12, .int .i64 (x95)), (10, .int .i64 (x72)), (8, .int .i64 (x56)), (6, .int .i64 (x54)), (5, .int .i64 (x53)), (3, .pointer (some ⟨z12, 0, none⟩)), (0, .int .i64 (i0))]) (by kernel_rfl) ?_
    intro w131 a132 hS133 hF134; clear hF127 hS130
    refine ev_runs 1 hF134 (l' := [(14, .int .i64 (x118)), (13, .pointer (some ⟨w122.heap.size, 0, none⟩)), (59, .int .i64 (x118)), (58, .agg #[.int .i64 (q117.id), .int .i64 (q117.status), .int .i64 (q117.pc), .int .i64 (q117.a), .int .i64 (q117.b), .int .i64 (q117.c), .int .i64 (q117.d), .int .i64 (q117.e), .int .i64 (q117.f), .int .i64 (q117.sudogs)]), (54, .tuple #[.agg #[.int .i64 (q117.id), .int .i64 (q117.status), .int .i64 (q117.pc), .int .i64 (q117.a), .int .i64 (q117.b), .int .i64 (q117.c), .int .i64 (q117.d), .int .i64 (q117.e), .int .i64 (q117.f), .int .i64 (q117.sudogs)], .int .i64 (x118)]), (57, .tuple #[.agg #[.int .i64 (q117.id), .int .i64 (q117.status), .int .i64 (q117.pc), .int .i64 (q117.a), .int .i64 (q117.b), .int .i64 (q117.c), .int .i64 (q117.d), .int .i64 (q117.e), .int .i64 (q117.f), .int .i64 (q117.sudogs)], .int .i64 (x118)]), (56, .int .i64 (x56)), (55, .pointer (some ⟨z12, 0, none⟩)), (12, .int .i64 (x95)), (10, .int .i64 (x72)), (8, .int .i64 (x56)), (6, .int .i64 (x54)), (5, .int .i64 (x53)), (3, .pointer (some ⟨z12, 0, none⟩)), (0, .int .i64 (i0))]) (w' := w131) (by kernel_rfl) ?_
    intro a136 hF135; clear hF134
    refine wpList_nil ?_
    have hF137 : Fr 136 a136 [(14, .int .i64 (x118)), (12, .int .i64 (x95)), (10, .int .i64 (x72)), (8, .int .i64 (x56)), (6, .int .i64 (x54)), (5, .int .i64 (x53)), (3, .pointer (some ⟨z12, 0, none⟩)), (0, .int .i64 (i0))] := hF135.keep [0, 3, 5, 6, 8, 10, 12, 14]
    clear hF135
    have hS138 : St w0 F0 (HeapP z12 z13 s119 :: ps) w131 := St.ordP [BlkP (w122.heap.size) 43 #[.int .i64 (q117.id), .int .i64 (q117.status), .int .i64 (q117.pc), .int .i64 (q117.a), .int .i64 (q117.b), .int .i64 (q117.c), .int .i64 (q117.d), .int .i64 (q117.e), .int .i64 (q117.f), .int .i64 (q117.sudogs)], HeapP z12 z13 s119] ps hS133 [1] [0] (by kernel_rfl)
    clear hS133
    refine thenN ?_
    refine wp_seq ?_
    refine wp_region_lit ?_
    refine ev_runs 1 hF137 (l' := [(61, .int .i64 (i0)), (14, .int .i64 (x118)), (12, .int .i64 (x95)), (10, .int .i64 (x72)), (8, .int .i64 (x56)), (6, .int .i64 (x54)), (5, .int .i64 (x53)), (3, .pointer (some ⟨z12, 0, none⟩)), (0, .int .i64 (i0))]) (w' := w131) (by kernel_rfl) ?_
    intro a140 hF139; clear hF137
    refine ev_call 18 #[.pointer none, .int .i64 (i0)] hF139 rfl rfl (by kernel_rfl) rfl (by kernel_rfl) (fun w => by kernel_rfl) ?_
    refine (p_ChanN hS138).mono ?_
    rintro _ w141 ⟨rfl, hS143⟩ a142 hF144; clear hF139 hS138
    have hF145 : Fr 136 a142 [(62, .tuple #[.agg #[.int .i64 0, .int .i64 0, .int .i64 0, .int .i64 0, .int .i64 0, .int .i64 0, .int .i64 0, .int .i64 0, .int .i64 0], .int .i64 2]), (61, .int .i64 (i0)), (14, .int .i64 (x118)), (12, .int .i64 (x95)), (10, .int .i64 (x72)), (8, .int .i64 (x56)), (6, .int .i64 (x54)), (5, .int .i64 (x53)), (3, .pointer (some ⟨z12, 0, none⟩)), (0, .int .i64 (i0))] := hF144
    clear hF144
    refine ev_runs 4 hF145 (l' := [(15, .pointer (some ⟨w141.heap.size, 0, none⟩)), (64, .int .i64 2), (63, .agg #[.int .i64 0, .int .i64 0, .int .i64 0, .int .i64 0, .int .i64 0, .int .i64 0, .int .i64 0, .int .i64 0, .int .i64 0]), (60, .tuple #[.agg #[.int .i64 0, .int .i64 0, .int .i64 0, .int .i64 0, .int .i64 0, .int .i64 0, .int .i64 0, .int .i64 0, .int .i64 0], .int .i64 2]), (62, .tuple #[.agg #[.int .i64 0, .int .i64 0, .int .i64 0, .int .i64 0, .int .i64 0, .int .i64 0, .int .i64 0, .int .i64 0, .int .i64 0], .int .i64 2]), (61, .int .i64 (i0)), (14, .int .i64 (x118)), (12, .int .i64 (x95)), (10, .int .i64 (x72)), (8, .int .i64 (x56)), (6, .int .i64 (x54)), (5, .int .i64 (x53)), (3, .pointer (some ⟨z12, 0, none⟩)), (0, .int .i64 (i0))]) (w' := w141.alloc (.cells #[.int .i64 0, .int .i64 0, .int .i64 0, .int .i64 0, .int .i64 0, .int .i64 0, .int .i64 0, .int .i64 0, .int .i64 0] 31)) (by kernel_rfl) ?_
    intro a147 hF146; clear hF145
    have hS149 : St w0 F0 (BlkP (w141.heap.size) 31 #[.int .i64 0, .int .i64 0, .int .i64 0, .int .i64 0, .int .i64 0, .int .i64 0, .int .i64 0, .int .i64 0, .int .i64 0] :: HeapP z12 z13 s119 :: ps) (w141.alloc (.cells #[.int .i64 0, .int .i64 0, .int .i64 0, .int .i64 0, .int .i64 0, .int .i64 0, .int .i64 0, .int .i64 0, .int .i64 0] 31)) := St.new hS143 #[.int .i64 0, .int .i64 0, .int .i64 0, .int .i64 0, .int .i64 0, .int .i64 0, .int .i64 0, .int .i64 0, .int .i64 0] 31
    clear hS143
    refine ev_store (.agg #[.int .i64 0, .int .i64 0, .int .i64 0, .int .i64 0, .int .i64 0, .int .i64 0, .int .i64 0, .int .i64 0, .int .i64 0]) #[.int .i64 0, .int .i64 0, .int .i64 0, .int .i64 0, .int .i64 0, .int .i64 0, .int .i64 0, .int .i64 0, .int .i64 0] hF146 (by kernel_rfl) rfl rfl rfl rfl (by kernel_rfl) hS149 (by kernel_rfl) (by kernel_rfl) (by kernel_rfl) (l' := [(15, .pointer (some ⟨w141.heap.size, 0, none⟩)), (64, .int .i64 2), (63, .agg #[.int .i64 0, .int .i64 0, .int .i64 0, .int .i64 0, .int .i64 0, .int .i64 0, .int .i64 0, .int .i64 0, .int .i64 0]), (60, .tuple #[.agg #[.int .i64 0, .int .i64 0, .int .i64 0, .int .i64 0, .int .i64 0, .int .i64 0, .int .i64 0, .int .i64 0, .int .i64 0], .int .i64 2]), (62, .tuple #[.agg #[.int .i64 0, .int .i64 0, .int .i64 0, .int .i64 0, .int .i64 0, .int .i64 0, .int .i64 0, .int .i64 0, .int .i64 0], .int .i64 2]), (61, .int .i64 (i0)), (14, .int .i64 (x118)), (12, .int .i64 (x95)), (10, .int .i64 (x72)), (8, .int .i64 (x56)), (6, .int .i64 (x54)), (5, .int .i64 (x53)), (3, .pointer (some ⟨z12, 0, none⟩)), (0, .int .i64 (i0))]) (by kernel_rfl) ?_
    intro w150 a151 hS152 hF153; clear hF146 hS149
    refine ev_runs 1 hF153 (l' := [(16, .int .i64 2), (15, .pointer (some ⟨w141.heap.size, 0, none⟩)), (64, .int .i64 2), (63, .agg #[.int .i64 0, .int .i64 0, .int .i64 0, .int .i64 0, .int .i64 0, .int .i64 0, .int .i64 0, .int .i64 0, .int .i64 0]), (60, .tuple #[.agg #[.int .i64 0, .int .i64 0, .int .i64 0, .int .i64 0, .int .i64 0, .int .i64 0, .int .i64 0, .int .i64 0, .int .i64 0], .int .i64 2]), (62, .tuple #[.agg #[.int .i64 0, .int .i64 0, .int .i64 0, .int .i64 0, .int .i64 0, .int .i64 0, .int .i64 0, .int .i64 0, .int .i64 0], .int .i64 2]), (61, .int .i64 (i0)), (14, .int .i64 (x118)), (12, .int .i64 (x95)), (10, .int .i64 (x72)), (8, .int .i64 (x56)), (6, .int .i64 (x54)), (5, .int .i64 (x53)), (3, .pointer (some ⟨z12, 0, none⟩)), (0, .int .i64 (i0))]) (w' := w150) (by kernel_rfl) ?_
    intro a155 hF154; clear hF153
    refine wpList_nil ?_
    have hF156 : Fr 136 a155 [(16, .int .i64 2), (14, .int .i64 (x118)), (12, .int .i64 (x95)), (10, .int .i64 (x72)), (8, .int .i64 (x56)), (6, .int .i64 (x54)), (5, .int .i64 (x53)), (3, .pointer (some ⟨z12, 0, none⟩)), (0, .int .i64 (i0))] := hF154.keep [0, 3, 5, 6, 8, 10, 12, 14, 16]
    clear hF154
    have hS157 : St w0 F0 (HeapP z12 z13 s119 :: ps) w150 := St.ordP [BlkP (w141.heap.size) 31 #[.int .i64 0, .int .i64 0, .int .i64 0, .int .i64 0, .int .i64 0, .int .i64 0, .int .i64 0, .int .i64 0, .int .i64 0], HeapP z12 z13 s119] ps hS152 [1] [0] (by kernel_rfl)
    clear hS152
    refine thenN ?_
    refine wp_seq ?_
    refine wp_region_lit ?_
    refine ev_runs 1 hF156 (l' := [(66, .int .i64 (i0)), (16, .int .i64 2), (14, .int .i64 (x118)), (12, .int .i64 (x95)), (10, .int .i64 (x72)), (8, .int .i64 (x56)), (6, .int .i64 (x54)), (5, .int .i64 (x53)), (3, .pointer (some ⟨z12, 0, none⟩)), (0, .int .i64 (i0))]) (w' := w150) (by kernel_rfl) ?_
    intro a159 hF158; clear hF156
    refine ev_call 19 #[.pointer none, .int .i64 (i0)] hF158 rfl rfl (by kernel_rfl) rfl (by kernel_rfl) (fun w => by kernel_rfl) ?_
    refine (p_SudogN hS157).mono ?_
    rintro _ w160 ⟨rfl, hS162⟩ a161 hF163; clear hF158 hS157
    have hF164 : Fr 136 a161 [(67, .tuple #[.agg #[.int .i64 0, .int .i64 0, .int .i64 0, .int .i64 0, .int .i64 0, .int .i64 0, .int .i64 0], .int .i64 2]), (66, .int .i64 (i0)), (16, .int .i64 2), (14, .int .i64 (x118)), (12, .int .i64 (x95)), (10, .int .i64 (x72)), (8, .int .i64 (x56)), (6, .int .i64 (x54)), (5, .int .i64 (x53)), (3, .pointer (some ⟨z12, 0, none⟩)), (0, .int .i64 (i0))] := hF163
    clear hF163
    refine ev_runs 4 hF164 (l' := [(17, .pointer (some ⟨w160.heap.size, 0, none⟩)), (69, .int .i64 2), (68, .agg #[.int .i64 0, .int .i64 0, .int .i64 0, .int .i64 0, .int .i64 0, .int .i64 0, .int .i64 0]), (65, .tuple #[.agg #[.int .i64 0, .int .i64 0, .int .i64 0, .int .i64 0, .int .i64 0, .int .i64 0, .int .i64 0], .int .i64 2]), (67, .tuple #[.agg #[.int .i64 0, .int .i64 0, .int .i64 0, .int .i64 0, .int .i64 0, .int .i64 0, .int .i64 0], .int .i64 2]), (66, .int .i64 (i0)), (16, .int .i64 2), (14, .int .i64 (x118)), (12, .int .i64 (x95)), (10, .int .i64 (x72)), (8, .int .i64 (x56)), (6, .int .i64 (x54)), (5, .int .i64 (x53)), (3, .pointer (some ⟨z12, 0, none⟩)), (0, .int .i64 (i0))]) (w' := w160.alloc (.cells #[.int .i64 0, .int .i64 0, .int .i64 0, .int .i64 0, .int .i64 0, .int .i64 0, .int .i64 0] 40)) (by kernel_rfl) ?_
    intro a166 hF165; clear hF164
    have hS168 : St w0 F0 (BlkP (w160.heap.size) 40 #[.int .i64 0, .int .i64 0, .int .i64 0, .int .i64 0, .int .i64 0, .int .i64 0, .int .i64 0] :: HeapP z12 z13 s119 :: ps) (w160.alloc (.cells #[.int .i64 0, .int .i64 0, .int .i64 0, .int .i64 0, .int .i64 0, .int .i64 0, .int .i64 0] 40)) := St.new hS162 #[.int .i64 0, .int .i64 0, .int .i64 0, .int .i64 0, .int .i64 0, .int .i64 0, .int .i64 0] 40
    clear hS162
    refine ev_store (.agg #[.int .i64 0, .int .i64 0, .int .i64 0, .int .i64 0, .int .i64 0, .int .i64 0, .int .i64 0]) #[.int .i64 0, .int .i64 0, .int .i64 0, .int .i64 0, .int .i64 0, .int .i64 0, .int .i64 0] hF165 (by kernel_rfl) rfl rfl rfl rfl (by kernel_rfl) hS168 (by kernel_rfl) (by kernel_rfl) (by kernel_rfl) (l' := [(17, .pointer (some ⟨w160.heap.size, 0, none⟩)), (69, .int .i64 2), (68, .agg #[.int .i64 0, .int .i64 0, .int .i64 0, .int .i64 0, .int .i64 0, .int .i64 0, .int .i64 0]), (65, .tuple #[.agg #[.int .i64 0, .int .i64 0, .int .i64 0, .int .i64 0, .int .i64 0, .int .i64 0, .int .i64 0], .int .i64 2]), (67, .tuple #[.agg #[.int .i64 0, .int .i64 0, .int .i64 0, .int .i64 0, .int .i64 0, .int .i64 0, .int .i64 0], .int .i64 2]), (66, .int .i64 (i0)), (16, .int .i64 2), (14, .int .i64 (x118)), (12, .int .i64 (x95)), (10, .int .i64 (x72)), (8, .int .i64 (x56)), (6, .int .i64 (x54)), (5, .int .i64 (x53)), (3, .pointer (some ⟨z12, 0, none⟩)), (0, .int .i64 (i0))]) (by kernel_rfl) ?_
    intro w169 a170 hS171 hF172; clear hF165 hS168
    refine ev_runs 1 hF172 (l' := [(18, .int .i64 2), (17, .pointer (some ⟨w160.heap.size, 0, none⟩)), (69, .int .i64 2), (68, .agg #[.int .i64 0, .int .i64 0, .int .i64 0, .int .i64 0, .int .i64 0, .int .i64 0, .int .i64 0]), (65, .tuple #[.agg #[.int .i64 0, .int .i64 0, .int .i64 0, .int .i64 0, .int .i64 0, .int .i64 0, .int .i64 0], .int .i64 2]), (67, .tuple #[.agg #[.int .i64 0, .int .i64 0, .int .i64 0, .int .i64 0, .int .i64 0, .int .i64 0, .int .i64 0], .int .i64 2]), (66, .int .i64 (i0)), (16, .int .i64 2), (14, .int .i64 (x118)), (12, .int .i64 (x95)), (10, .int .i64 (x72)), (8, .int .i64 (x56)), (6, .int .i64 (x54)), (5, .int .i64 (x53)), (3, .pointer (some ⟨z12, 0, none⟩)), (0, .int .i64 (i0))]) (w' := w169) (by kernel_rfl) ?_
    intro a174 hF173; clear hF172
    refine wpList_nil ?_
    have hF175 : Fr 136 a174 [(18, .int .i64 2), (16, .int .i64 2), (14, .int .i64 (x118)), (12, .int .i64 (x95)), (10, .int .i64 (x72)), (8, .int .i64 (x56)), (6, .int .i64 (x54)), (5, .int .i64 (x53)), (3, .pointer (some ⟨z12, 0, none⟩)), (0, .int .i64 (i0))] := hF173.keep [0, 3, 5, 6, 8, 10, 12, 14, 16, 18]
    clear hF173
    have hS176 : St w0 F0 (HeapP z12 z13 s119 :: ps) w169 := St.ordP [BlkP (w160.heap.size) 40 #[.int .i64 0, .int .i64 0, .int .i64 0, .int .i64 0, .int .i64 0, .int .i64 0, .int .i64 0], HeapP z12 z13 s119] ps hS171 [1] [0] (by kernel_rfl)
    clear hS171
    refine thenN ?_
    refine wp_seq ?_
    refine wp_region_lit ?_
    refine ev_runs 1 hF175 (l' := [(71, .int .i64 (i0)), (18, .int .i64 2), (16, .int .i64 2), (14, .int .i64 (x118)), (12, .int .i64 (x95)), (10, .int .i64 (x72)), (8, .int .i64 (x56)), (6, .int .i64 (x54)), (5, .int .i64 (x53)), (3, .pointer (some ⟨z12, 0, none⟩)), (0, .int .i64 (i0))]) (w' := w169) (by kernel_rfl) ?_
    intro a178 hF177; clear hF175
    refine ev_call 20 #[.pointer none, .int .i64 (i0)] hF177 rfl rfl (by kernel_rfl) rfl (by kernel_rfl) (fun w => by kernel_rfl) ?_
    refine (p_GorN hS176).mono ?_
    rintro _ w179 ⟨rfl, hS181⟩ a180 hF182; clear hF177 hS176
    have hF183 : Fr 136 a180 [(72, .tuple #[.agg #[.int .i64 0, .int .i64 0, .int .i64 0, .int .i64 0, .int .i64 0, .int .i64 0, .int .i64 0, .int .i64 0, .int .i64 0, .int .i64 0], .int .i64 2]), (71, .int .i64 (i0)), (18, .int .i64 2), (16, .int .i64 2), (14, .int .i64 (x118)), (12, .int .i64 (x95)), (10, .int .i64 (x72)), (8, .int .i64 (x56)), (6, .int .i64 (x54)), (5, .int .i64 (x53)), (3, .pointer (some ⟨z12, 0, none⟩)), (0, .int .i64 (i0))] := hF182
    clear hF182
    refine ev_runs 4 hF183 (l' := [(19, .pointer (some ⟨w179.heap.size, 0, none⟩)), (74, .int .i64 2), (73, .agg #[.int .i64 0, .int .i64 0, .int .i64 0, .int .i64 0, .int .i64 0, .int .i64 0, .int .i64 0, .int .i64 0, .int .i64 0, .int .i64 0]), (70, .tuple #[.agg #[.int .i64 0, .int .i64 0, .int .i64 0, .int .i64 0, .int .i64 0, .int .i64 0, .int .i64 0, .int .i64 0, .int .i64 0, .int .i64 0], .int .i64 2]), (72, .tuple #[.agg #[.int .i64 0, .int .i64 0, .int .i64 0, .int .i64 0, .int .i64 0, .int .i64 0, .int .i64 0, .int .i64 0, .int .i64 0, .int .i64 0], .int .i64 2]), (71, .int .i64 (i0)), (18, .int .i64 2), (16, .int .i64 2), (14, .int .i64 (x118)), (12, .int .i64 (x95)), (10, .int .i64 (x72)), (8, .int .i64 (x56)), (6, .int .i64 (x54)), (5, .int .i64 (x53)), (3, .pointer (some ⟨z12, 0, none⟩)), (0, .int .i64 (i0))]) (w' := w179.alloc (.cells #[.int .i64 0, .int .i64 0, .int .i64 0, .int .i64 0, .int .i64 0, .int .i64 0, .int .i64 0, .int .i64 0, .int .i64 0, .int .i64 0] 43)) (by kernel_rfl) ?_
    intro a185 hF184; clear hF183
    have hS187 : St w0 F0 (BlkP (w179.heap.size) 43 #[.int .i64 0, .int .i64 0, .int .i64 0, .int .i64 0, .int .i64 0, .int .i64 0, .int .i64 0, .int .i64 0, .int .i64 0, .int .i64 0] :: HeapP z12 z13 s119 :: ps) (w179.alloc (.cells #[.int .i64 0, .int .i64 0, .int .i64 0, .int .i64 0, .int .i64 0, .int .i64 0, .int .i64 0, .int .i64 0, .int .i64 0, .int .i64 0] 43)) := St.new hS181 #[.int .i64 0, .int .i64 0, .int .i64 0, .int .i64 0, .int .i64 0, .int .i64 0, .int .i64 0, .int .i64 0, .int .i64 0, .int .i64 0] 43
    clear hS181
    refine ev_store (.agg #[.int .i64 0, .int .i64 0, .int .i64 0, .int .i64 0, .int .i64 0, .int .i64 0, .int .i64 0, .int .i64 0, .int .i64 0, .int .i64 0]) #[.int .i64 0, .int .i64 0, .int .i64 0, .int .i64 0, .int .i64 0, .int .i64 0, .int .i64 0, .int .i64 0, .int .i64 0, .int .i64 0] hF184 (by kernel_rfl) rfl rfl rfl rfl (by kernel_rfl) hS187 (by kernel_rfl) (by kernel_rfl) (by kernel_rfl) (l' := [(19, .pointer (some ⟨w179.heap.size, 0, none⟩)), (74, .int .i64 2), (73, .agg #[.int .i64 0, .int .i64 0, .int .i64 0, .int .i64 0, .int .i64 0, .int .i64 0, .int .i64 0, .int .i64 0, .int .i64 0, .int .i64 0]), (70, .tuple #[.agg #[.int .i64 0, .int .i64 0, .int .i64 0, .int .i64 0, .int .i64 0, .int .i64 0, .int .i64 0, .int .i64 0, .int .i64 0, .int .i64 0], .int .i64 2]), (72, .tuple #[.agg #[.int .i64 0, .int .i64 0, .int .i64 0, .int .i64 0, .int .i64 0, .int .i64 0, .int .i64 0, .int .i64 0, .int .i64 0, .int .i64 0], .int .i64 2]), (71, .int .i64 (i0)), (18, .int .i64 2), (16, .int .i64 2), (14, .int .i64 (x118)), (12, .int .i64 (x95)), (10, .int .i64 (x72)), (8, .int .i64 (x56)), (6, .int .i64 (x54)), (5, .int .i64 (x53)), (3, .pointer (some ⟨z12, 0, none⟩)), (0, .int .i64 (i0))]) (by kernel_rfl) ?_
    intro w188 a189 hS190 hF191; clear hF184 hS187
    refine ev_runs 1 hF191 (l' := [(20, .int .i64 2), (19, .pointer (some ⟨w179.heap.size, 0, none⟩)), (74, .int .i64 2), (73, .agg #[.int .i64 0, .int .i64 0, .int .i64 0, .int .i64 0, .int .i64 0, .int .i64 0, .int .i64 0, .int .i64 0, .int .i64 0, .int .i64 0]), (70, .tuple #[.agg #[.int .i64 0, .int .i64 0, .int .i64 0, .int .i64 0, .int .i64 0, .int .i64 0, .int .i64 0, .int .i64 0, .int .i64 0, .int .i64 0], .int .i64 2]), (72, .tuple #[.agg #[.int .i64 0, .int .i64 0, .int .i64 0, .int .i64 0, .int .i64 0, .int .i64 0, .int .i64 0, .int .i64 0, .int .i64 0, .int .i64 0], .int .i64 2]), (71, .int .i64 (i0)), (18, .int .i64 2), (16, .int .i64 2), (14, .int .i64 (x118)), (12, .int .i64 (x95)), (10, .int .i64 (x72)), (8, .int .i64 (x56)), (6, .int .i64 (x54)), (5, .int .i64 (x53)), (3, .pointer (some ⟨z12, 0, none⟩)), (0, .int .i64 (i0))]) (w' := w188) (by kernel_rfl) ?_
    intro a193 hF192; clear hF191
    refine wpList_nil ?_
    have hF194 : Fr 136 a193 [(20, .int .i64 2), (18, .int .i64 2), (16, .int .i64 2), (14, .int .i64 (x118)), (12, .int .i64 (x95)), (10, .int .i64 (x72)), (8, .int .i64 (x56)), (6, .int .i64 (x54)), (5, .int .i64 (x53)), (3, .pointer (some ⟨z12, 0, none⟩)), (0, .int .i64 (i0))] := hF192.keep [0, 3, 5, 6, 8, 10, 12, 14, 16, 18, 20]
    clear hF192
    have hS195 : St w0 F0 (HeapP z12 z13 s119 :: ps) w188 := St.ordP [BlkP (w179.heap.size) 43 #[.int .i64 0, .int .i64 0, .int .i64 0, .int .i64 0, .int .i64 0, .int .i64 0, .int .i64 0, .int .i64 0, .int .i64 0, .int .i64 0], HeapP z12 z13 s119] ps hS190 [1] [0] (by kernel_rfl)
    clear hS190
    refine thenN ?_
    refine wp_seq ?_
    refine wp_region_lit ?_
    refine ev_runs 3 hF194 (l' := [(77, .bool (x72 == 10)), (76, .bool (x72 == 10)), (75, .int .i64 (x72)), (20, .int .i64 2), (18, .int .i64 2), (16, .int .i64 2), (14, .int .i64 (x118)), (12, .int .i64 (x95)), (10, .int .i64 (x72)), (8, .int .i64 (x56)), (6, .int .i64 (x54)), (5, .int .i64 (x53)), (3, .pointer (some ⟨z12, 0, none⟩)), (0, .int .i64 (i0))]) (w' := w188) (by kernel_rfl) ?_
    intro a197 hF196; clear hF194
    cases hc198 : (x72 == 10) with
    | true =>
      rw [hc198] at hF196
      rw [hc198] at hm121
      have hm199 := ifT hm121; clear hm121
      refine ev_runs 4 hF196 (l' := [(81, .bool (x95 == 10)), (80, .bool (x95 == 10)), (79, .bool (x95 == 10)), (78, .int .i64 (x95)), (77, .bool true), (76, .bool true), (75, .int .i64 (x72)), (20, .int .i64 2), (18, .int .i64 2), (16, .int .i64 2), (14, .int .i64 (x118)), (12, .int .i64 (x95)), (10, .int .i64 (x72)), (8, .int .i64 (x56)), (6, .int .i64 (x54)), (5, .int .i64 (x53)), (3, .pointer (some ⟨z12, 0, none⟩)), (0, .int .i64 (i0))]) (w' := w188) (by kernel_rfl) ?_
      intro a201 hF200; clear hF196
      cases hc202 : (x95 == 10) with
      | true =>
        rw [hc202] at hF200
        rw [hc202] at hm199
        have hm203 := ifT hm199; clear hm199
        refine ev_runs 4 hF200 (l' := [(85, .bool (x118 == 10)), (84, .bool (x118 == 10)), (83, .bool (x118 == 10)), (82, .int .i64 (x118)), (81, .bool true), (80, .bool true), (79, .bool true), (78, .int .i64 (x95)), (77, .bool true), (76, .bool true), (75, .int .i64 (x72)), (20, .int .i64 2), (18, .int .i64 2), (16, .int .i64 2), (14, .int .i64 (x118)), (12, .int .i64 (x95)), (10, .int .i64 (x72)), (8, .int .i64 (x56)), (6, .int .i64 (x54)), (5, .int .i64 (x53)), (3, .pointer (some ⟨z12, 0, none⟩)), (0, .int .i64 (i0))]) (w' := w188) (by kernel_rfl) ?_
        intro a205 hF204; clear hF200
        cases hc206 : (x118 == 10) with
        | true =>
          rw [hc206] at hF204
          rw [hc206] at hm203
          have hm207 := ifT hm203; clear hm203
          refine ev_runs 15 hF204 (l' := [(100, .agg #[.int .i64 0, .int .i64 0, .int .i64 0, .int .i64 0, .int .i64 0, .int .i64 0, .int .i64 0, .int .i64 0, .int .i64 0]), (99, .int .i64 (x56)), (98, .pointer (some ⟨z12, 0, none⟩)), (97, .bool true), (96, .bool true), (95, .bool true), (94, .int .i64 2), (93, .bool true), (92, .bool true), (91, .bool true), (90, .int .i64 2), (89, .bool true), (88, .bool true), (87, .bool true), (86, .int .i64 2), (85, .bool true), (84, .bool true), (83, .bool true), (82, .int .i64 (x118)), (81, .bool true), (80, .bool true), (79, .bool true), (78, .int .i64 (x95)), (77, .bool true), (76, .bool true), (75, .int .i64 (x72)), (20, .int .i64 2), (18, .int .i64 2), (16, .int .i64 2), (14, .int .i64 (x118)), (12, .int .i64 (x95)), (10, .int .i64 (x72)), (8, .int .i64 (x56)), (6, .int .i64 (x54)), (5, .int .i64 (x53)), (3, .pointer (some ⟨z12, 0, none⟩)), (0, .int .i64 (i0))]) (w' := w188) (by kernel_rfl) ?_
          intro a209 hF208; clear hF204
          refine ev_call 14 #[.pointer (some ⟨z12, 0, none⟩), .int .i64 (x56), .agg #[.int .i64 0, .int .i64 0, .int .i64 0, .int .i64 0, .int .i64 0, .int .i64 0, .int .i64 0, .int .i64 0, .int .i64 0]] hF208 rfl rfl (by kernel_rfl) rfl (by kernel_rfl) (fun w => by kernel_rfl) ?_
          obtain ⟨x210, s211, hx212, hm213⟩ := bind2E hm207; clear hm207
          refine (p_PutChan hS195 hx212).mono ?_
          rintro _ w214 ⟨rfl, hS216⟩ a215 hF217; clear hF208 hS195
          have hF218 : Fr 136 a215 [(101, .int .i64 (x210)), (100, .agg #[.int .i64 0, .int .i64 0, .int .i64 0, .int .i64 0, .int .i64 0, .int .i64 0, .int .i64 0, .int .i64 0, .int .i64 0]), (99, .int .i64 (x56)), (98, .pointer (some ⟨z12, 0, none⟩)), (97, .bool true), (96, .bool true), (95, .bool true), (94, .int .i64 2), (93, .bool true), (92, .bool true), (91, .bool true), (90, .int .i64 2), (89, .bool true), (88, .bool true), (87, .bool true), (86, .int .i64 2), (85, .bool true), (84, .bool true), (83, .bool true), (82, .int .i64 (x118)), (81, .bool true), (80, .bool true), (79, .bool true), (78, .int .i64 (x95)), (77, .bool true), (76, .bool true), (75, .int .i64 (x72)), (20, .int .i64 2), (18, .int .i64 2), (16, .int .i64 2), (14, .int .i64 (x118)), (12, .int .i64 (x95)), (10, .int .i64 (x72)), (8, .int .i64 (x56)), (6, .int .i64 (x54)), (5, .int .i64 (x53)), (3, .pointer (some ⟨z12, 0, none⟩)), (0, .int .i64 (i0))] := hF217
          clear hF217
          refine ev_runs 3 hF218 (l' := [(104, .bool (x210 == 10)), (103, .bool (x210 == 10)), (102, .bool (x210 == 10)), (101, .int .i64 (x210)), (100, .agg #[.int .i64 0, .int .i64 0, .int .i64 0, .int .i64 0, .int .i64 0, .int .i64 0, .int .i64 0, .int .i64 0, .int .i64 0]), (99, .int .i64 (x56)), (98, .pointer (some ⟨z12, 0, none⟩)), (97, .bool true), (96, .bool true), (95, .bool true), (94, .int .i64 2), (93, .bool true), (92, .bool true), (91, .bool true), (90, .int .i64 2), (89, .bool true), (88, .bool true), (87, .bool true), (86, .int .i64 2), (85, .bool true), (84, .bool true), (83, .bool true), (82, .int .i64 (x118)), (81, .bool true), (80, .bool true), (79, .bool true), (78, .int .i64 (x95)), (77, .bool true), (76, .bool true), (75, .int .i64 (x72)), (20, .int .i64 2), (18, .int .i64 2), (16, .int .i64 2), (14, .int .i64 (x118)), (12, .int .i64 (x95)), (10, .int .i64 (x72)), (8, .int .i64 (x56)), (6, .int .i64 (x54)), (5, .int .i64 (x53)), (3, .pointer (some ⟨z12, 0, none⟩)), (0, .int .i64 (i0))]) (w' := w214) (by kernel_rfl) ?_
          intro a220 hF219; clear hF218
          cases hc221 : (x210 == 10) with
          | true =>
            rw [hc221] at hF219
            rw [hc221] at hm213
            have hm222 := ifT hm213; clear hm213
            refine ev_runs 3 hF219 (l' := [(107, .agg #[.int .i64 0, .int .i64 0, .int .i64 0, .int .i64 0, .int .i64 0, .int .i64 0, .int .i64 0]), (106, .int .i64 (x53)), (105, .pointer (some ⟨z12, 0, none⟩)), (104, .bool true), (103, .bool true), (102, .bool true), (101, .int .i64 (x210)), (100, .agg #[.int .i64 0, .int .i64 0, .int .i64 0, .int .i64 0, .int .i64 0, .int .i64 0, .int .i64 0, .int .i64 0, .int .i64 0]), (99, .int .i64 (x56)), (98, .pointer (some ⟨z12, 0, none⟩)), (97, .bool true), (96, .bool true), (95, .bool true), (94, .int .i64 2), (93, .bool true), (92, .bool true), (91, .bool true), (90, .int .i64 2), (89, .bool true), (88, .bool true), (87, .bool true), (86, .int .i64 2), (85, .bool true), (84, .bool true), (83, .bool true), (82, .int .i64 (x118)), (81, .bool true), (80, .bool true), (79, .bool true), (78, .int .i64 (x95)), (77, .bool true), (76, .bool true), (75, .int .i64 (x72)), (20, .int .i64 2), (18, .int .i64 2), (16, .int .i64 2), (14, .int .i64 (x118)), (12, .int .i64 (x95)), (10, .int .i64 (x72)), (8, .int .i64 (x56)), (6, .int .i64 (x54)), (5, .int .i64 (x53)), (3, .pointer (some ⟨z12, 0, none⟩)), (0, .int .i64 (i0))]) (w' := w214) (by kernel_rfl) ?_
            intro a224 hF223; clear hF219
            refine ev_call 16 #[.pointer (some ⟨z12, 0, none⟩), .int .i64 (x53), .agg #[.int .i64 0, .int .i64 0, .int .i64 0, .int .i64 0, .int .i64 0, .int .i64 0, .int .i64 0]] hF223 rfl rfl (by kernel_rfl) rfl (by kernel_rfl) (fun w => by kernel_rfl) ?_
            obtain ⟨x225, s226, hx227, hm228⟩ := bind2E hm222; clear hm222
            refine (p_PutSudog hS216 hx227).mono ?_
            rintro _ w229 ⟨rfl, hS231⟩ a230 hF232; clear hF223 hS216
            have hF233 : Fr 136 a230 [(108, .int .i64 (x225)), (107, .agg #[.int .i64 0, .int .i64 0, .int .i64 0, .int .i64 0, .int .i64 0, .int .i64 0, .int .i64 0]), (106, .int .i64 (x53)), (105, .pointer (some ⟨z12, 0, none⟩)), (104, .bool true), (103, .bool true), (102, .bool true), (101, .int .i64 (x210)), (100, .agg #[.int .i64 0, .int .i64 0, .int .i64 0, .int .i64 0, .int .i64 0, .int .i64 0, .int .i64 0, .int .i64 0, .int .i64 0]), (99, .int .i64 (x56)), (98, .pointer (some ⟨z12, 0, none⟩)), (97, .bool true), (96, .bool true), (95, .bool true), (94, .int .i64 2), (93, .bool true), (92, .bool true), (91, .bool true), (90, .int .i64 2), (89, .bool true), (88, .bool true), (87, .bool true), (86, .int .i64 2), (85, .bool true), (84, .bool true), (83, .bool true), (82, .int .i64 (x118)), (81, .bool true), (80, .bool true), (79, .bool true), (78, .int .i64 (x95)), (77, .bool true), (76, .bool true), (75, .int .i64 (x72)), (20, .int .i64 2), (18, .int .i64 2), (16, .int .i64 2), (14, .int .i64 (x118)), (12, .int .i64 (x95)), (10, .int .i64 (x72)), (8, .int .i64 (x56)), (6, .int .i64 (x54)), (5, .int .i64 (x53)), (3, .pointer (some ⟨z12, 0, none⟩)), (0, .int .i64 (i0))] := hF232
            clear hF232
            refine ev_runs 3 hF233 (l' := [(111, .bool (x225 == 10)), (110, .bool (x225 == 10)), (109, .bool (x225 == 10)), (108, .int .i64 (x225)), (107, .agg #[.int .i64 0, .int .i64 0, .int .i64 0, .int .i64 0, .int .i64 0, .int .i64 0, .int .i64 0]), (106, .int .i64 (x53)), (105, .pointer (some ⟨z12, 0, none⟩)), (104, .bool true), (103, .bool true), (102, .bool true), (101, .int .i64 (x210)), (100, .agg #[.int .i64 0, .int .i64 0, .int .i64 0, .int .i64 0, .int .i64 0, .int .i64 0, .int .i64 0, .int .i64 0, .int .i64 0]), (99, .int .i64 (x56)), (98, .pointer (some ⟨z12, 0, none⟩)), (97, .bool true), (96, .bool true), (95, .bool true), (94, .int .i64 2), (93, .bool true), (92, .bool true), (91, .bool true), (90, .int .i64 2), (89, .bool true), (88, .bool true), (87, .bool true), (86, .int .i64 2), (85, .bool true), (84, .bool true), (83, .bool true), (82, .int .i64 (x118)), (81, .bool true), (80, .bool true), (79, .bool true), (78, .int .i64 (x95)), (77, .bool true), (76, .bool true), (75, .int .i64 (x72)), (20, .int .i64 2), (18, .int .i64 2), (16, .int .i64 2), (14, .int .i64 (x118)), (12, .int .i64 (x95)), (10, .int .i64 (x72)), (8, .int .i64 (x56)), (6, .int .i64 (x54)), (5, .int .i64 (x53)), (3, .pointer (some ⟨z12, 0, none⟩)), (0, .int .i64 (i0))]) (w' := w229) (by kernel_rfl) ?_
            intro a235 hF234; clear hF233
            cases hc236 : (x225 == 10) with
            | true =>
              rw [hc236] at hF234
              rw [hc236] at hm228
              have hm237 := ifT hm228; clear hm228
              refine ev_runs 3 hF234 (l' := [(114, .agg #[.int .i64 0, .int .i64 0, .int .i64 0, .int .i64 0, .int .i64 0, .int .i64 0, .int .i64 0, .int .i64 0, .int .i64 0, .int .i64 0]), (113, .int .i64 (x54)), (112, .pointer (some ⟨z12, 0, none⟩)), (111, .bool true), (110, .bool true), (109, .bool true), (108, .int .i64 (x225)), (107, .agg #[.int .i64 0, .int .i64 0, .int .i64 0, .int .i64 0, .int .i64 0, .int .i64 0, .int .i64 0]), (106, .int .i64 (x53)), (105, .pointer (some ⟨z12, 0, none⟩)), (104, .bool true), (103, .bool true), (102, .bool true), (101, .int .i64 (x210)), (100, .agg #[.int .i64 0, .int .i64 0, .int .i64 0, .int .i64 0, .int .i64 0, .int .i64 0, .int .i64 0, .int .i64 0, .int .i64 0]), (99, .int .i64 (x56)), (98, .pointer (some ⟨z12, 0, none⟩)), (97, .bool true), (96, .bool true), (95, .bool true), (94, .int .i64 2), (93, .bool true), (92, .bool true), (91, .bool true), (90, .int .i64 2), (89, .bool true), (88, .bool true), (87, .bool true), (86, .int .i64 2), (85, .bool true), (84, .bool true), (83, .bool true), (82, .int .i64 (x118)), (81, .bool true), (80, .bool true), (79, .bool true), (78, .int .i64 (x95)), (77, .bool true), (76, .bool true), (75, .int .i64 (x72)), (20, .int .i64 2), (18, .int .i64 2), (16, .int .i64 2), (14, .int .i64 (x118)), (12, .int .i64 (x95)), (10, .int .i64 (x72)), (8, .int .i64 (x56)), (6, .int .i64 (x54)), (5, .int .i64 (x53)), (3, .pointer (some ⟨z12, 0, none⟩)), (0, .int .i64 (i0))]) (w' := w229) (by kernel_rfl) ?_
              intro a239 hF238; clear hF234
              refine ev_call 17 #[.pointer (some ⟨z12, 0, none⟩), .int .i64 (x54), .agg #[.int .i64 0, .int .i64 0, .int .i64 0, .int .i64 0, .int .i64 0, .int .i64 0, .int .i64 0, .int .i64 0, .int .i64 0, .int .i64 0]] hF238 rfl rfl (by kernel_rfl) rfl (by kernel_rfl) (fun w => by kernel_rfl) ?_
              obtain ⟨x240, s241, hx242, hm243⟩ := bind2E hm237; clear hm237
              refine (p_PutGor hS231 hx242).mono ?_
              rintro _ w244 ⟨rfl, hS246⟩ a245 hF247; clear hF238 hS231
              have hF248 : Fr 136 a245 [(115, .int .i64 (x240)), (114, .agg #[.int .i64 0, .int .i64 0, .int .i64 0, .int .i64 0, .int .i64 0, .int .i64 0, .int .i64 0, .int .i64 0, .int .i64 0, .int .i64 0]), (113, .int .i64 (x54)), (112, .pointer (some ⟨z12, 0, none⟩)), (111, .bool true), (110, .bool true), (109, .bool true), (108, .int .i64 (x225)), (107, .agg #[.int .i64 0, .int .i64 0, .int .i64 0, .int .i64 0, .int .i64 0, .int .i64 0, .int .i64 0]), (106, .int .i64 (x53)), (105, .pointer (some ⟨z12, 0, none⟩)), (104, .bool true), (103, .bool true), (102, .bool true), (101, .int .i64 (x210)), (100, .agg #[.int .i64 0, .int .i64 0, .int .i64 0, .int .i64 0, .int .i64 0, .int .i64 0, .int .i64 0, .int .i64 0, .int .i64 0]), (99, .int .i64 (x56)), (98, .pointer (some ⟨z12, 0, none⟩)), (97, .bool true), (96, .bool true), (95, .bool true), (94, .int .i64 2), (93, .bool true), (92, .bool true), (91, .bool true), (90, .int .i64 2), (89, .bool true), (88, .bool true), (87, .bool true), (86, .int .i64 2), (85, .bool true), (84, .bool true), (83, .bool true), (82, .int .i64 (x118)), (81, .bool true), (80, .bool true), (79, .bool true), (78, .int .i64 (x95)), (77, .bool true), (76, .bool true), (75, .int .i64 (x72)), (20, .int .i64 2), (18, .int .i64 2), (16, .int .i64 2), (14, .int .i64 (x118)), (12, .int .i64 (x95)), (10, .int .i64 (x72)), (8, .int .i64 (x56)), (6, .int .i64 (x54)), (5, .int .i64 (x53)), (3, .pointer (some ⟨z12, 0, none⟩)), (0, .int .i64 (i0))] := hF247
              clear hF247
              refine ev_runs 3 hF248 (l' := [(118, .bool (x240 == 10)), (117, .bool (x240 == 10)), (116, .bool (x240 == 10)), (115, .int .i64 (x240)), (114, .agg #[.int .i64 0, .int .i64 0, .int .i64 0, .int .i64 0, .int .i64 0, .int .i64 0, .int .i64 0, .int .i64 0, .int .i64 0, .int .i64 0]), (113, .int .i64 (x54)), (112, .pointer (some ⟨z12, 0, none⟩)), (111, .bool true), (110, .bool true), (109, .bool true), (108, .int .i64 (x225)), (107, .agg #[.int .i64 0, .int .i64 0, .int .i64 0, .int .i64 0, .int .i64 0, .int .i64 0, .int .i64 0]), (106, .int .i64 (x53)), (105, .pointer (some ⟨z12, 0, none⟩)), (104, .bool true), (103, .bool true), (102, .bool true), (101, .int .i64 (x210)), (100, .agg #[.int .i64 0, .int .i64 0, .int .i64 0, .int .i64 0, .int .i64 0, .int .i64 0, .int .i64 0, .int .i64 0, .int .i64 0]), (99, .int .i64 (x56)), (98, .pointer (some ⟨z12, 0, none⟩)), (97, .bool true), (96, .bool true), (95, .bool true), (94, .int .i64 2), (93, .bool true), (92, .bool true), (91, .bool true), (90, .int .i64 2), (89, .bool true), (88, .bool true), (87, .bool true), (86, .int .i64 2), (85, .bool true), (84, .bool true), (83, .bool true), (82, .int .i64 (x118)), (81, .bool true), (80, .bool true), (79, .bool true), (78, .int .i64 (x95)), (77, .bool true), (76, .bool true), (75, .int .i64 (x72)), (20, .int .i64 2), (18, .int .i64 2), (16, .int .i64 2), (14, .int .i64 (x118)), (12, .int .i64 (x95)), (10, .int .i64 (x72)), (8, .int .i64 (x56)), (6, .int .i64 (x54)), (5, .int .i64 (x53)), (3, .pointer (some ⟨z12, 0, none⟩)), (0, .int .i64 (i0))]) (w' := w244) (by kernel_rfl) ?_
              intro a250 hF249; clear hF248
              cases hc251 : (x240 == 10) with
              | true =>
                rw [hc251] at hF249
                rw [hc251] at hm243
                have hm252 := ifT hm243; clear hm243
                refine ev_runs 2 hF249 (l' := [(120, .agg #[.int .i64 0, .int .i64 0, .int .i64 0, .int .i64 0, .int .i64 0, .int .i64 0, .int .i64 0, .int .i64 0, .int .i64 0]), (119, .int .i64 (i0)), (118, .bool true), (117, .bool true), (116, .bool true), (115, .int .i64 (x240)), (114, .agg #[.int .i64 0, .int .i64 0, .int .i64 0, .int .i64 0, .int .i64 0, .int .i64 0, .int .i64 0, .int .i64 0, .int .i64 0, .int .i64 0]), (113, .int .i64 (x54)), (112, .pointer (some ⟨z12, 0, none⟩)), (111, .bool true), (110, .bool true), (109, .bool true), (108, .int .i64 (x225)), (107, .agg #[.int .i64 0, .int .i64 0, .int .i64 0, .int .i64 0, .int .i64 0, .int .i64 0, .int .i64 0]), (106, .int .i64 (x53)), (105, .pointer (some ⟨z12, 0, none⟩)), (104, .bool true), (103, .bool true), (102, .bool true), (101, .int .i64 (x210)), (100, .agg #[.int .i64 0, .int .i64 0, .int .i64 0, .int .i64 0, .int .i64 0, .int .i64 0, .int .i64 0, .int .i64 0, .int .i64 0]), (99, .int .i64 (x56)), (98, .pointer (some ⟨z12, 0, none⟩)), (97, .bool true), (96, .bool true), (95, .bool true), (94, .int .i64 2), (93, .bool true), (92, .bool true), (91, .bool true), (90, .int .i64 2), (89, .bool true), (88, .bool true), (87, .bool true), (86, .int .i64 2), (85, .bool true), (84, .bool true), (83, .bool true), (82, .int .i64 (x118)), (81, .bool true), (80, .bool true), (79, .bool true), (78, .int .i64 (x95)), (77, .bool true), (76, .bool true), (75, .int .i64 (x72)), (20, .int .i64 2), (18, .int .i64 2), (16, .int .i64 2), (14, .int .i64 (x118)), (12, .int .i64 (x95)), (10, .int .i64 (x72)), (8, .int .i64 (x56)), (6, .int .i64 (x54)), (5, .int .i64 (x53)), (3, .pointer (some ⟨z12, 0, none⟩)), (0, .int .i64 (i0))]) (w' := w244) (by kernel_rfl) ?_
                intro a254 hF253; clear hF249
                refine ev_call 14 #[.pointer none, .int .i64 (i0), .agg #[.int .i64 0, .int .i64 0, .int .i64 0, .int .i64 0, .int .i64 0, .int .i64 0, .int .i64 0, .int .i64 0, .int .i64 0]] hF253 rfl rfl (by kernel_rfl) rfl (by kernel_rfl) (fun w => by kernel_rfl) ?_
                refine (p_PutChanN (c := (⟨0, 0, 0, 0, 0, 0, 0, 0, 0⟩ : Ch)) hS246).mono ?_
                rintro _ w255 ⟨rfl, hS257⟩ a256 hF258; clear hF253 hS246
                have hF259 : Fr 136 a256 [(121, .int .i64 2), (120, .agg #[.int .i64 0, .int .i64 0, .int .i64 0, .int .i64 0, .int .i64 0, .int .i64 0, .int .i64 0, .int .i64 0, .int .i64 0]), (119, .int .i64 (i0)), (118, .bool true), (117, .bool true), (116, .bool true), (115, .int .i64 (x240)), (114, .agg #[.int .i64 0, .int .i64 0, .int .i64 0, .int .i64 0, .int .i64 0, .int .i64 0, .int .i64 0, .int .i64 0, .int .i64 0, .int .i64 0]), (113, .int .i64 (x54)), (112, .pointer (some ⟨z12, 0, none⟩)), (111, .bool true), (110, .bool true), (109, .bool true), (108, .int .i64 (x225)), (107, .agg #[.int .i64 0, .int .i64 0, .int .i64 0, .int .i64 0, .int .i64 0, .int .i64 0, .int .i64 0]), (106, .int .i64 (x53)), (105, .pointer (some ⟨z12, 0, none⟩)), (104, .bool true), (103, .bool true), (102, .bool true), (101, .int .i64 (x210)), (100, .agg #[.int .i64 0, .int .i64 0, .int .i64 0, .int .i64 0, .int .i64 0, .int .i64 0, .int .i64 0, .int .i64 0, .int .i64 0]), (99, .int .i64 (x56)), (98, .pointer (some ⟨z12, 0, none⟩)), (97, .bool true), (96, .bool true), (95, .bool true), (94, .int .i64 2), (93, .bool true), (92, .bool true), (91, .bool true), (90, .int .i64 2), (89, .bool true), (88, .bool true), (87, .bool true), (86, .int .i64 2), (85, .bool true), (84, .bool true), (83, .bool true), (82, .int .i64 (x118)), (81, .bool true), (80, .bool true), (79, .bool true), (78, .int .i64 (x95)), (77, .bool true), (76, .bool true), (75, .int .i64 (x72)), (20, .int .i64 2), (18, .int .i64 2), (16, .int .i64 2), (14, .int .i64 (x118)), (12, .int .i64 (x95)), (10, .int .i64 (x72)), (8, .int .i64 (x56)), (6, .int .i64 (x54)), (5, .int .i64 (x53)), (3, .pointer (some ⟨z12, 0, none⟩)), (0, .int .i64 (i0))] := hF258
                clear hF258
                refine ev_runs 5 hF259 (l' := [(126, .agg #[.int .i64 0, .int .i64 0, .int .i64 0, .int .i64 0, .int .i64 0, .int .i64 0, .int .i64 0]), (125, .int .i64 (i0)), (124, .bool true), (123, .bool true), (122, .bool true), (121, .int .i64 2), (120, .agg #[.int .i64 0, .int .i64 0, .int .i64 0, .int .i64 0, .int .i64 0, .int .i64 0, .int .i64 0, .int .i64 0, .int .i64 0]), (119, .int .i64 (i0)), (118, .bool true), (117, .bool true), (116, .bool true), (115, .int .i64 (x240)), (114, .agg #[.int .i64 0, .int .i64 0, .int .i64 0, .int .i64 0, .int .i64 0, .int .i64 0, .int .i64 0, .int .i64 0, .int .i64 0, .int .i64 0]), (113, .int .i64 (x54)), (112, .pointer (some ⟨z12, 0, none⟩)), (111, .bool true), (110, .bool true), (109, .bool true), (108, .int .i64 (x225)), (107, .agg #[.int .i64 0, .int .i64 0, .int .i64 0, .int .i64 0, .int .i64 0, .int .i64 0, .int .i64 0]), (106, .int .i64 (x53)), (105, .pointer (some ⟨z12, 0, none⟩)), (104, .bool true), (103, .bool true), (102, .bool true), (101, .int .i64 (x210)), (100, .agg #[.int .i64 0, .int .i64 0, .int .i64 0, .int .i64 0, .int .i64 0, .int .i64 0, .int .i64 0, .int .i64 0, .int .i64 0]), (99, .int .i64 (x56)), (98, .pointer (some ⟨z12, 0, none⟩)), (97, .bool true), (96, .bool true), (95, .bool true), (94, .int .i64 2), (93, .bool true), (92, .bool true), (91, .bool true), (90, .int .i64 2), (89, .bool true), (88, .bool true), (87, .bool true), (86, .int .i64 2), (85, .bool true), (84, .bool true), (83, .bool true), (82, .int .i64 (x118)), (81, .bool true), (80, .bool true), (79, .bool true), (78, .int .i64 (x95)), (77, .bool true), (76, .bool true), (75, .int .i64 (x72)), (20, .int .i64 2), (18, .int .i64 2), (16, .int .i64 2), (14, .int .i64 (x118)), (12, .int .i64 (x95)), (10, .int .i64 (x72)), (8, .int .i64 (x56)), (6, .int .i64 (x54)), (5, .int .i64 (x53)), (3, .pointer (some ⟨z12, 0, none⟩)), (0, .int .i64 (i0))]) (w' := w255) (by kernel_rfl) ?_
                intro a261 hF260; clear hF259
                refine ev_call 16 #[.pointer none, .int .i64 (i0), .agg #[.int .i64 0, .int .i64 0, .int .i64 0, .int .i64 0, .int .i64 0, .int .i64 0, .int .i64 0]] hF260 rfl rfl (by kernel_rfl) rfl (by kernel_rfl) (fun w => by kernel_rfl) ?_
                refine (p_PutSudogN (c := (⟨0, 0, 0, 0, 0, 0, 0⟩ : Su)) hS257).mono ?_
                rintro _ w262 ⟨rfl, hS264⟩ a263 hF265; clear hF260 hS257
                have hF266 : Fr 136 a263 [(127, .int .i64 2), (126, .agg #[.int .i64 0, .int .i64 0, .int .i64 0, .int .i64 0, .int .i64 0, .int .i64 0, .int .i64 0]), (125, .int .i64 (i0)), (124, .bool true), (123, .bool true), (122, .bool true), (121, .int .i64 2), (120, .agg #[.int .i64 0, .int .i64 0, .int .i64 0, .int .i64 0, .int .i64 0, .int .i64 0, .int .i64 0, .int .i64 0, .int .i64 0]), (119, .int .i64 (i0)), (118, .bool true), (117, .bool true), (116, .bool true), (115, .int .i64 (x240)), (114, .agg #[.int .i64 0, .int .i64 0, .int .i64 0, .int .i64 0, .int .i64 0, .int .i64 0, .int .i64 0, .int .i64 0, .int .i64 0, .int .i64 0]), (113, .int .i64 (x54)), (112, .pointer (some ⟨z12, 0, none⟩)), (111, .bool true), (110, .bool true), (109, .bool true), (108, .int .i64 (x225)), (107, .agg #[.int .i64 0, .int .i64 0, .int .i64 0, .int .i64 0, .int .i64 0, .int .i64 0, .int .i64 0]), (106, .int .i64 (x53)), (105, .pointer (some ⟨z12, 0, none⟩)), (104, .bool true), (103, .bool true), (102, .bool true), (101, .int .i64 (x210)), (100, .agg #[.int .i64 0, .int .i64 0, .int .i64 0, .int .i64 0, .int .i64 0, .int .i64 0, .int .i64 0, .int .i64 0, .int .i64 0]), (99, .int .i64 (x56)), (98, .pointer (some ⟨z12, 0, none⟩)), (97, .bool true), (96, .bool true), (95, .bool true), (94, .int .i64 2), (93, .bool true), (92, .bool true), (91, .bool true), (90, .int .i64 2), (89, .bool true), (88, .bool true), (87, .bool true), (86, .int .i64 2), (85, .bool true), (84, .bool true), (83, .bool true), (82, .int .i64 (x118)), (81, .bool true), (80, .bool true), (79, .bool true), (78, .int .i64 (x95)), (77, .bool true), (76, .bool true), (75, .int .i64 (x72)), (20, .int .i64 2), (18, .int .i64 2), (16, .int .i64 2), (14, .int .i64 (x118)), (12, .int .i64 (x95)), (10, .int .i64 (x72)), (8, .int .i64 (x56)), (6, .int .i64 (x54)), (5, .int .i64 (x53)), (3, .pointer (some ⟨z12, 0, none⟩)), (0, .int .i64 (i0))] := hF265
                clear hF265
                refine ev_runs 5 hF266 (l' := [(132, .agg #[.int .i64 0, .int .i64 0, .int .i64 0, .int .i64 0, .int .i64 0, .int .i64 0, .int .i64 0, .int .i64 0, .int .i64 0, .int .i64 0]), (131, .int .i64 (i0)), (130, .bool true), (129, .bool true), (128, .bool true), (127, .int .i64 2), (126, .agg #[.int .i64 0, .int .i64 0, .int .i64 0, .int .i64 0, .int .i64 0, .int .i64 0, .int .i64 0]), (125, .int .i64 (i0)), (124, .bool true), (123, .bool true), (122, .bool true), (121, .int .i64 2), (120, .agg #[.int .i64 0, .int .i64 0, .int .i64 0, .int .i64 0, .int .i64 0, .int .i64 0, .int .i64 0, .int .i64 0, .int .i64 0]), (119, .int .i64 (i0)), (118, .bool true), (117, .bool true), (116, .bool true), (115, .int .i64 (x240)), (114, .agg #[.int .i64 0, .int .i64 0, .int .i64 0, .int .i64 0, .int .i64 0, .int .i64 0, .int .i64 0, .int .i64 0, .int .i64 0, .int .i64 0]), (113, .int .i64 (x54)), (112, .pointer (some ⟨z12, 0, none⟩)), (111, .bool true), (110, .bool true), (109, .bool true), (108, .int .i64 (x225)), (107, .agg #[.int .i64 0, .int .i64 0, .int .i64 0, .int .i64 0, .int .i64 0, .int .i64 0, .int .i64 0]), (106, .int .i64 (x53)), (105, .pointer (some ⟨z12, 0, none⟩)), (104, .bool true), (103, .bool true), (102, .bool true), (101, .int .i64 (x210)), (100, .agg #[.int .i64 0, .int .i64 0, .int .i64 0, .int .i64 0, .int .i64 0, .int .i64 0, .int .i64 0, .int .i64 0, .int .i64 0]), (99, .int .i64 (x56)), (98, .pointer (some ⟨z12, 0, none⟩)), (97, .bool true), (96, .bool true), (95, .bool true), (94, .int .i64 2), (93, .bool true), (92, .bool true), (91, .bool true), (90, .int .i64 2), (89, .bool true), (88, .bool true), (87, .bool true), (86, .int .i64 2), (85, .bool true), (84, .bool true), (83, .bool true), (82, .int .i64 (x118)), (81, .bool true), (80, .bool true), (79, .bool true), (78, .int .i64 (x95)), (77, .bool true), (76, .bool true), (75, .int .i64 (x72)), (20, .int .i64 2), (18, .int .i64 2), (16, .int .i64 2), (14, .int .i64 (x118)), (12, .int .i64 (x95)), (10, .int .i64 (x72)), (8, .int .i64 (x56)), (6, .int .i64 (x54)), (5, .int .i64 (x53)), (3, .pointer (some ⟨z12, 0, none⟩)), (0, .int .i64 (i0))]) (w' := w262) (by kernel_rfl) ?_
                intro a268 hF267; clear hF266
                refine ev_call 17 #[.pointer none, .int .i64 (i0), .agg #[.int .i64 0, .int .i64 0, .int .i64 0, .int .i64 0, .int .i64 0, .int .i64 0, .int .i64 0, .int .i64 0, .int .i64 0, .int .i64 0]] hF267 rfl rfl (by kernel_rfl) rfl (by kernel_rfl) (fun w => by kernel_rfl) ?_
                refine (p_PutGorN (c := (⟨0, 0, 0, 0, 0, 0, 0, 0, 0, 0⟩ : Gr)) hS264).mono ?_
                rintro _ w269 ⟨rfl, hS271⟩ a270 hF272; clear hF267 hS264
                have hF273 : Fr 136 a270 [(133, .int .i64 2), (132, .agg #[.int .i64 0, .int .i64 0, .int .i64 0, .int .i64 0, .int .i64 0, .int .i64 0, .int .i64 0, .int .i64 0, .int .i64 0, .int .i64 0]), (131, .int .i64 (i0)), (130, .bool true), (129, .bool true), (128, .bool true), (127, .int .i64 2), (126, .agg #[.int .i64 0, .int .i64 0, .int .i64 0, .int .i64 0, .int .i64 0, .int .i64 0, .int .i64 0]), (125, .int .i64 (i0)), (124, .bool true), (123, .bool true), (122, .bool true), (121, .int .i64 2), (120, .agg #[.int .i64 0, .int .i64 0, .int .i64 0, .int .i64 0, .int .i64 0, .int .i64 0, .int .i64 0, .int .i64 0, .int .i64 0]), (119, .int .i64 (i0)), (118, .bool true), (117, .bool true), (116, .bool true), (115, .int .i64 (x240)), (114, .agg #[.int .i64 0, .int .i64 0, .int .i64 0, .int .i64 0, .int .i64 0, .int .i64 0, .int .i64 0, .int .i64 0, .int .i64 0, .int .i64 0]), (113, .int .i64 (x54)), (112, .pointer (some ⟨z12, 0, none⟩)), (111, .bool true), (110, .bool true), (109, .bool true), (108, .int .i64 (x225)), (107, .agg #[.int .i64 0, .int .i64 0, .int .i64 0, .int .i64 0, .int .i64 0, .int .i64 0, .int .i64 0]), (106, .int .i64 (x53)), (105, .pointer (some ⟨z12, 0, none⟩)), (104, .bool true), (103, .bool true), (102, .bool true), (101, .int .i64 (x210)), (100, .agg #[.int .i64 0, .int .i64 0, .int .i64 0, .int .i64 0, .int .i64 0, .int .i64 0, .int .i64 0, .int .i64 0, .int .i64 0]), (99, .int .i64 (x56)), (98, .pointer (some ⟨z12, 0, none⟩)), (97, .bool true), (96, .bool true), (95, .bool true), (94, .int .i64 2), (93, .bool true), (92, .bool true), (91, .bool true), (90, .int .i64 2), (89, .bool true), (88, .bool true), (87, .bool true), (86, .int .i64 2), (85, .bool true), (84, .bool true), (83, .bool true), (82, .int .i64 (x118)), (81, .bool true), (80, .bool true), (79, .bool true), (78, .int .i64 (x95)), (77, .bool true), (76, .bool true), (75, .int .i64 (x72)), (20, .int .i64 2), (18, .int .i64 2), (16, .int .i64 2), (14, .int .i64 (x118)), (12, .int .i64 (x95)), (10, .int .i64 (x72)), (8, .int .i64 (x56)), (6, .int .i64 (x54)), (5, .int .i64 (x53)), (3, .pointer (some ⟨z12, 0, none⟩)), (0, .int .i64 (i0))] := hF272
                clear hF272
                refine ev_runs 3 hF273 (l' := [(2, .bool true), (135, .bool true), (134, .bool true), (133, .int .i64 2), (132, .agg #[.int .i64 0, .int .i64 0, .int .i64 0, .int .i64 0, .int .i64 0, .int .i64 0, .int .i64 0, .int .i64 0, .int .i64 0, .int .i64 0]), (131, .int .i64 (i0)), (130, .bool true), (129, .bool true), (128, .bool true), (127, .int .i64 2), (126, .agg #[.int .i64 0, .int .i64 0, .int .i64 0, .int .i64 0, .int .i64 0, .int .i64 0, .int .i64 0]), (125, .int .i64 (i0)), (124, .bool true), (123, .bool true), (122, .bool true), (121, .int .i64 2), (120, .agg #[.int .i64 0, .int .i64 0, .int .i64 0, .int .i64 0, .int .i64 0, .int .i64 0, .int .i64 0, .int .i64 0, .int .i64 0]), (119, .int .i64 (i0)), (118, .bool true), (117, .bool true), (116, .bool true), (115, .int .i64 (x240)), (114, .agg #[.int .i64 0, .int .i64 0, .int .i64 0, .int .i64 0, .int .i64 0, .int .i64 0, .int .i64 0, .int .i64 0, .int .i64 0, .int .i64 0]), (113, .int .i64 (x54)), (112, .pointer (some ⟨z12, 0, none⟩)), (111, .bool true), (110, .bool true), (109, .bool true), (108, .int .i64 (x225)), (107, .agg #[.int .i64 0, .int .i64 0, .int .i64 0, .int .i64 0, .int .i64 0, .int .i64 0, .int .i64 0]), (106, .int .i64 (x53)), (105, .pointer (some ⟨z12, 0, none⟩)), (104, .bool true), (103, .bool true), (102, .bool true), (101, .int .i64 (x210)), (100, .agg #[.int .i64 0, .int .i64 0, .int .i64 0, .int .i64 0, .int .i64 0, .int .i64 0, .int .i64 0, .int .i64 0, .int .i64 0]), (99, .int .i64 (x56)), (98, .pointer (some ⟨z12, 0, none⟩)), (97, .bool true), (96, .bool true), (95, .bool true), (94, .int .i64 2), (93, .bool true), (92, .bool true), (91, .bool true), (90, .int .i64 2), (89, .bool true), (88, .bool true), (87, .bool true), (86, .int .i64 2), (85, .bool true), (84, .bool true), (83, .bool true), (82, .int .i64 (x118)), (81, .bool true), (80, .bool true), (79, .bool true), (78, .int .i64 (x95)), (77, .bool true), (76, .bool true), (75, .int .i64 (x72)), (20, .int .i64 2), (18, .int .i64 2), (16, .int .i64 2), (14, .int .i64 (x118)), (12, .int .i64 (x95)), (10, .int .i64 (x72)), (8, .int .i64 (x56)), (6, .int .i64 (x54)), (5, .int .i64 (x53)), (3, .pointer (some ⟨z12, 0, none⟩)), (0, .int .i64 (i0))]) (w' := w269) (by kernel_rfl) ?_
                intro a275 hF274; clear hF273
                refine wpList_nil ?_
                have hF276 : Fr 136 a275 [(2, .bool true)] := hF274.keep [2]
                clear hF274
                have hS277 : St w0 F0 (ps) w269 := St.ordP [HeapP z12 z13 s241] ps hS271 [] [0] (by kernel_rfl)
                clear hS271
                refine thenN ?_
                refine wp_ret ?_
                obtain rfl := Option.some.inj hm252
                refine ev_ret hF276 [2] (.bool true) rfl rfl rfl ?_
                exact ⟨rfl, hS277⟩
              | false =>
                rw [hc251] at hF249
                rw [hc251] at hm243
                have hm279 := ifF hm243; clear hm243
                refine ev_runs 18 hF249 (l' := [(2, .bool false), (135, .bool false), (134, .tuple #[]), (133, .tuple #[]), (132, .tuple #[]), (131, .tuple #[]), (130, .bool false), (129, .bool false), (128, .tuple #[]), (127, .tuple #[]), (126, .tuple #[]), (125, .tuple #[]), (124, .bool false), (123, .bool false), (122, .tuple #[]), (121, .tuple #[]), (120, .tuple #[]), (119, .tuple #[]), (118, .bool false), (117, .bool false), (116, .bool false), (115, .int .i64 (x240)), (114, .agg #[.int .i64 0, .int .i64 0, .int .i64 0, .int .i64 0, .int .i64 0, .int .i64 0, .int .i64 0, .int .i64 0, .int .i64 0, .int .i64 0]), (113, .int .i64 (x54)), (112, .pointer (some ⟨z12, 0, none⟩)), (111, .bool true), (110, .bool true), (109, .bool true), (108, .int .i64 (x225)), (107, .agg #[.int .i64 0, .int .i64 0, .int .i64 0, .int .i64 0, .int .i64 0, .int .i64 0, .int .i64 0]), (106, .int .i64 (x53)), (105, .pointer (some ⟨z12, 0, none⟩)), (104, .bool true), (103, .bool true), (102, .bool true), (101, .int .i64 (x210)), (100, .agg #[.int .i64 0, .int .i64 0, .int .i64 0, .int .i64 0, .int .i64 0, .int .i64 0, .int .i64 0, .int .i64 0, .int .i64 0]), (99, .int .i64 (x56)), (98, .pointer (some ⟨z12, 0, none⟩)), (97, .bool true), (96, .bool true), (95, .bool true), (94, .int .i64 2), (93, .bool true), (92, .bool true), (91, .bool true), (90, .int .i64 2), (89, .bool true), (88, .bool true), (87, .bool true), (86, .int .i64 2), (85, .bool true), (84, .bool true), (83, .bool true), (82, .int .i64 (x118)), (81, .bool true), (80, .bool true), (79, .bool true), (78, .int .i64 (x95)), (77, .bool true), (76, .bool true), (75, .int .i64 (x72)), (20, .int .i64 2), (18, .int .i64 2), (16, .int .i64 2), (14, .int .i64 (x118)), (12, .int .i64 (x95)), (10, .int .i64 (x72)), (8, .int .i64 (x56)), (6, .int .i64 (x54)), (5, .int .i64 (x53)), (3, .pointer (some ⟨z12, 0, none⟩)), (0, .int .i64 (i0))]) (w' := w244) (by kernel_rfl) ?_
                intro a281 hF280; clear hF249
                refine wpList_nil ?_
                have hF282 : Fr 136 a281 [(2, .bool false)] := hF280.keep [2]
                clear hF280
                have hS283 : St w0 F0 (ps) w244 := St.ordP [HeapP z12 z13 s241] ps hS246 [] [0] (by kernel_rfl)
                clear hS246
                refine thenN ?_
                refine wp_ret ?_
                obtain rfl := Option.some.inj hm279
                refine ev_ret hF282 [2] (.bool false) rfl rfl rfl ?_
                exact ⟨rfl, hS283⟩
            | false =>
              rw [hc236] at hF234
              rw [hc236] at hm228
              have hm285 := ifF hm228; clear hm228
              refine ev_runs 25 hF234 (l' := [(2, .bool false), (135, .bool false), (134, .tuple #[]), (133, .tuple #[]), (132, .tuple #[]), (131, .tuple #[]), (130, .bool false), (129, .bool false), (128, .tuple #[]), (127, .tuple #[]), (126, .tuple #[]), (125, .tuple #[]), (124, .bool false), (123, .bool false), (122, .tuple #[]), (121, .tuple #[]), (120, .tuple #[]), (119, .tuple #[]), (118, .bool false), (117, .bool false), (116, .tuple #[]), (115, .tuple #[]), (114, .tuple #[]), (113, .tuple #[]), (112, .tuple #[]), (111, .bool false), (110, .bool false), (109, .bool false), (108, .int .i64 (x225)), (107, .agg #[.int .i64 0, .int .i64 0, .int .i64 0, .int .i64 0, .int .i64 0, .int .i64 0, .int .i64 0]), (106, .int .i64 (x53)), (105, .pointer (some ⟨z12, 0, none⟩)), (104, .bool true), (103, .bool true), (102, .bool true), (101, .int .i64 (x210)), (100, .agg #[.int .i64 0, .int .i64 0, .int .i64 0, .int .i64 0, .int .i64 0, .int .i64 0, .int .i64 0, .int .i64 0, .int .i64 0]), (99, .int .i64 (x56)), (98, .pointer (some ⟨z12, 0, none⟩)), (97, .bool true), (96, .bool true), (95, .bool true), (94, .int .i64 2), (93, .bool true), (92, .bool true), (91, .bool true), (90, .int .i64 2), (89, .bool true), (88, .bool true), (87, .bool true), (86, .int .i64 2), (85, .bool true), (84, .bool true), (83, .bool true), (82, .int .i64 (x118)), (81, .bool true), (80, .bool true), (79, .bool true), (78, .int .i64 (x95)), (77, .bool true), (76, .bool true), (75, .int .i64 (x72)), (20, .int .i64 2), (18, .int .i64 2), (16, .int .i64 2), (14, .int .i64 (x118)), (12, .int .i64 (x95)), (10, .int .i64 (x72)), (8, .int .i64 (x56)), (6, .int .i64 (x54)), (5, .int .i64 (x53)), (3, .pointer (some ⟨z12, 0, none⟩)), (0, .int .i64 (i0))]) (w' := w229) (by kernel_rfl) ?_
              intro a287 hF286; clear hF234
              refine wpList_nil ?_
              have hF288 : Fr 136 a287 [(2, .bool false)] := hF286.keep [2]
              clear hF286
              have hS289 : St w0 F0 (ps) w229 := St.ordP [HeapP z12 z13 s226] ps hS231 [] [0] (by kernel_rfl)
              clear hS231
              refine thenN ?_
              refine wp_ret ?_
              obtain rfl := Option.some.inj hm285
              refine ev_ret hF288 [2] (.bool false) rfl rfl rfl ?_
              exact ⟨rfl, hS289⟩
          | false =>
            rw [hc221] at hF219
            rw [hc221] at hm213
            have hm291 := ifF hm213; clear hm213
            refine ev_runs 32 hF219 (l' := [(2, .bool false), (135, .bool false), (134, .tuple #[]), (133, .tuple #[]), (132, .tuple #[]), (131, .tuple #[]), (130, .bool false), (129, .bool false), (128, .tuple #[]), (127, .tuple #[]), (126, .tuple #[]), (125, .tuple #[]), (124, .bool false), (123, .bool false), (122, .tuple #[]), (121, .tuple #[]), (120, .tuple #[]), (119, .tuple #[]), (118, .bool false), (117, .bool false), (116, .tuple #[]), (115, .tuple #[]), (114, .tuple #[]), (113, .tuple #[]), (112, .tuple #[]), (111, .bool false), (110, .bool false), (109, .tuple #[]), (108, .tuple #[]), (107, .tuple #[]), (106, .tuple #[]), (105, .tuple #[]), (104, .bool false), (103, .bool false), (102, .bool false), (101, .int .i64 (x210)), (100, .agg #[.int .i64 0, .int .i64 0, .int .i64 0, .int .i64 0, .int .i64 0, .int .i64 0, .int .i64 0, .int .i64 0, .int .i64 0]), (99, .int .i64 (x56)), (98, .pointer (some ⟨z12, 0, none⟩)), (97, .bool true), (96, .bool true), (95, .bool true), (94, .int .i64 2), (93, .bool true), (92, .bool true), (91, .bool true), (90, .int .i64 2), (89, .bool true), (88, .bool true), (87, .bool true), (86, .int .i64 2), (85, .bool true), (84, .bool true), (83, .bool true), (82, .int .i64 (x118)), (81, .bool true), (80, .bool true), (79, .bool true), (78, .int .i64 (x95)), (77, .bool true), (76, .bool true), (75, .int .i64 (x72)), (20, .int .i64 2), (18, .int .i64 2), (16, .int .i64 2), (14, .int .i64 (x118)), (12, .int .i64 (x95)), (10, .int .i64 (x72)), (8, .int .i64 (x56)), (6, .int .i64 (x54)), (5, .int .i64 (x53)), (3, .pointer (some ⟨z12, 0, none⟩)), (0, .int .i64 (i0))]) (w' := w214) (by kernel_rfl) ?_
            intro a293 hF292; clear hF219
            refine wpList_nil ?_
            have hF294 : Fr 136 a293 [(2, .bool false)] := hF292.keep [2]
            clear hF292
            have hS295 : St w0 F0 (ps) w214 := St.ordP [HeapP z12 z13 s211] ps hS216 [] [0] (by kernel_rfl)
            clear hS216
            refine thenN ?_
            refine wp_ret ?_
            obtain rfl := Option.some.inj hm291
            refine ev_ret hF294 [2] (.bool false) rfl rfl rfl ?_
            exact ⟨rfl, hS295⟩
        | false =>
          rw [hc206] at hF204
          rw [hc206] at hm203
          have hm297 := ifF hm203; clear hm203
          refine ev_runs 51 hF204 (l' := [(2, .bool false), (135, .bool false), (134, .tuple #[]), (133, .tuple #[]), (132, .tuple #[]), (131, .tuple #[]), (130, .bool false), (129, .bool false), (128, .tuple #[]), (127, .tuple #[]), (126, .tuple #[]), (125, .tuple #[]), (124, .bool false), (123, .bool false), (122, .tuple #[]), (121, .tuple #[]), (120, .tuple #[]), (119, .tuple #[]), (118, .bool false), (117, .bool false), (116, .tuple #[]), (115, .tuple #[]), (114, .tuple #[]), (113, .tuple #[]), (112, .tuple #[]), (111, .bool false), (110, .bool false), (109, .tuple #[]), (108, .tuple #[]), (107, .tuple #[]), (106, .tuple #[]), (105, .tuple #[]), (104, .bool false), (103, .bool false), (102, .tuple #[]), (101, .tuple #[]), (100, .tuple #[]), (99, .tuple #[]), (98, .tuple #[]), (97, .bool false), (96, .bool false), (95, .tuple #[]), (94, .tuple #[]), (93, .bool false), (92, .bool false), (91, .tuple #[]), (90, .tuple #[]), (89, .bool false), (88, .bool false), (87, .tuple #[]), (86, .tuple #[]), (85, .bool false), (84, .bool false), (83, .bool false), (82, .int .i64 (x118)), (81, .bool true), (80, .bool true), (79, .bool true), (78, .int .i64 (x95)), (77, .bool true), (76, .bool true), (75, .int .i64 (x72)), (20, .int .i64 2), (18, .int .i64 2), (16, .int .i64 2), (14, .int .i64 (x118)), (12, .int .i64 (x95)), (10, .int .i64 (x72)), (8, .int .i64 (x56)), (6, .int .i64 (x54)), (5, .int .i64 (x53)), (3, .pointer (some ⟨z12, 0, none⟩)), (0, .int .i64 (i0))]) (w' := w188) (by kernel_rfl) ?_
          intro a299 hF298; clear hF204
          refine wpList_nil ?_
          have hF300 : Fr 136 a299 [(2, .bool false)] := hF298.keep [2]
          clear hF298
          have hS301 : St w0 F0 (ps) w188 := St.ordP [HeapP z12 z13 s119] ps hS195 [] [0] (by kernel_rfl)
          clear hS195
          refine thenN ?_
          refine wp_ret ?_
          obtain rfl := Option.some.inj hm297
          refine ev_ret hF300 [2] (.bool false) rfl rfl rfl ?_
          exact ⟨rfl, hS301⟩
      | false =>
        rw [hc202] at hF200
        rw [hc202] at hm199
        have hm303 := ifF hm199; clear hm199
        refine ev_runs 55 hF200 (l' := [(2, .bool false), (135, .bool false), (134, .tuple #[]), (133, .tuple #[]), (132, .tuple #[]), (131, .tuple #[]), (130, .bool false), (129, .bool false), (128, .tuple #[]), (127, .tuple #[]), (126, .tuple #[]), (125, .tuple #[]), (124, .bool false), (123, .bool false), (122, .tuple #[]), (121, .tuple #[]), (120, .tuple #[]), (119, .tuple #[]), (118, .bool false), (117, .bool false), (116, .tuple #[]), (115, .tuple #[]), (114, .tuple #[]), (113, .tuple #[]), (112, .tuple #[]), (111, .bool false), (110, .bool false), (109, .tuple #[]), (108, .tuple #[]), (107, .tuple #[]), (106, .tuple #[]), (105, .tuple #[]), (104, .bool false), (103, .bool false), (102, .tuple #[]), (101, .tuple #[]), (100, .tuple #[]), (99, .tuple #[]), (98, .tuple #[]), (97, .bool false), (96, .bool false), (95, .tuple #[]), (94, .tuple #[]), (93, .bool false), (92, .bool false), (91, .tuple #[]), (90, .tuple #[]), (89, .bool false), (88, .bool false), (87, .tuple #[]), (86, .tuple #[]), (85, .bool false), (84, .bool false), (83, .tuple #[]), (82, .tuple #[]), (81, .bool false), (80, .bool false), (79, .bool false), (78, .int .i64 (x95)), (77, .bool true), (76, .bool true), (75, .int .i64 (x72)), (20, .int .i64 2), (18, .int .i64 2), (16, .int .i64 2), (14, .int .i64 (x118)), (12, .int .i64 (x95)), (10, .int .i64 (x72)), (8, .int .i64 (x56)), (6, .int .i64 (x54)), (5, .int .i64 (x53)), (3, .pointer (some ⟨z12, 0, none⟩)), (0, .int .i64 (i0))]) (w' := w188) (by kernel_rfl) ?_
        intro a305 hF304; clear hF200
        refine wpList_nil ?_
        have hF306 : Fr 136 a305 [(2, .bool false)] := hF304.keep [2]
        clear hF304
        have hS307 : St w0 F0 (ps) w188 := St.ordP [HeapP z12 z13 s119] ps hS195 [] [0] (by kernel_rfl)
        clear hS195
        refine thenN ?_
        refine wp_ret ?_
        obtain rfl := Option.some.inj hm303
        refine ev_ret hF306 [2] (.bool false) rfl rfl rfl ?_
        exact ⟨rfl, hS307⟩
    | false =>
      rw [hc198] at hF196
      rw [hc198] at hm121
      have hm309 := ifF hm121; clear hm121
      refine ev_runs 59 hF196 (l' := [(2, .bool false), (135, .bool false), (134, .tuple #[]), (133, .tuple #[]), (132, .tuple #[]), (131, .tuple #[]), (130, .bool false), (129, .bool false), (128, .tuple #[]), (127, .tuple #[]), (126, .tuple #[]), (125, .tuple #[]), (124, .bool false), (123, .bool false), (122, .tuple #[]), (121, .tuple #[]), (120, .tuple #[]), (119, .tuple #[]), (118, .bool false), (117, .bool false), (116, .tuple #[]), (115, .tuple #[]), (114, .tuple #[]), (113, .tuple #[]), (112, .tuple #[]), (111, .bool false), (110, .bool false), (109, .tuple #[]), (108, .tuple #[]), (107, .tuple #[]), (106, .tuple #[]), (105, .tuple #[]), (104, .bool false), (103, .bool false), (102, .tuple #[]), (101, .tuple #[]), (100, .tuple #[]), (99, .tuple #[]), (98, .tuple #[]), (97, .bool false), (96, .bool false), (95, .tuple #[]), (94, .tuple #[]), (93, .bool false), (92, .bool false), (91, .tuple #[]), (90, .tuple #[]), (89, .bool false), (88, .bool false), (87, .tuple #[]), (86, .tuple #[]), (85, .bool false), (84, .bool false), (83, .tuple #[]), (82, .tuple #[]), (81, .bool false), (80, .bool false), (79, .tuple #[]), (78, .tuple #[]), (77, .bool false), (76, .bool false), (75, .int .i64 (x72)), (20, .int .i64 2), (18, .int .i64 2), (16, .int .i64 2), (14, .int .i64 (x118)), (12, .int .i64 (x95)), (10, .int .i64 (x72)), (8, .int .i64 (x56)), (6, .int .i64 (x54)), (5, .int .i64 (x53)), (3, .pointer (some ⟨z12, 0, none⟩)), (0, .int .i64 (i0))]) (w' := w188) (by kernel_rfl) ?_
      intro a311 hF310; clear hF196
      refine wpList_nil ?_
      have hF312 : Fr 136 a311 [(2, .bool false)] := hF310.keep [2]
      clear hF310
      have hS313 : St w0 F0 (ps) w188 := St.ordP [HeapP z12 z13 s119] ps hS195 [] [0] (by kernel_rfl)
      clear hS195
      refine thenN ?_
      refine wp_ret ?_
      obtain rfl := Option.some.inj hm309
      refine ev_ret hF312 [2] (.bool false) rfl rfl rfl ?_
      exact ⟨rfl, hS313⟩

end Go.Proofs.Ytdnelekoplkkcaa
/-
  The walk of 'dormouselaw11.ViewKinds': the call returns true, in a world with at most new blocks.
-/
namespace Go.Proofs.Ytdnelekoplkkcaa.viewKinds
open Go.RowKit
set_option linter.unusedVariables false

theorem table : ViewKinds.m 100 0 = some true := by decide +kernel
theorem pure (i0 : Int) : ViewKinds.m 100 i0 = some true := by
  have h : ViewKinds.m 100 i0 = ViewKinds.m 100 0 := by rfl
  rw [h]
  exact table
theorem walk (a0 : Int) (w0 : (Lit.int .i64 a0).wf = true) (w : World) :
    Calls Try.prog 4 #[.int .i64 a0] w fun e w' => e = .returned (.bool true) ∧ Below w.heap.size w w' := by
  exact (ViewKinds.ok (St.empty w) (pure _)).mono fun e w' ⟨he, h⟩ => ⟨he, h.old⟩

end Go.Proofs.Ytdnelekoplkkcaa.viewKinds
/-
  'ViewKindsSaid' ('dormouselaw11.ViewKinds'): for every input the law returns true, and each argument reads behind the call as it did before.
  Conditions: none beyond the given row's own.
-/
namespace Go.Proofs.Ytdnelekoplkkcaa.viewKinds
open Go.ChangeShapes Go.WideShapes Go.ChangeAt Go.RowKit
set_option linter.unusedVariables false      -- a walk need not use every 'w<i>' (that an integer argument fits its kind)

theorem own : ownKnob Try.prog.godebug = none := by kernel_rfl

/-! ### THE ROW's STEP: WRITTEN OUT: LEAVE IT -/
set_option maxRecDepth 100000 in
theorem lifted (os : Os) (started : os.Started) (H : Type) (enc : TypeId × Value → H) :
    ReturnsInHanded {} Try.checked os 4 .any (Rows.viewKindsSpec.pre6 enc Try.prog Try.f4 Rows.viewKindsRow.domain false) (Rows.viewKindsSpec.post enc Try.prog Try.f4 false true false false) := by
  refine returnsInHanded_of_change (C := Try.checked) own started (by kernel_rfl) Try.func4
    (ChangeSpec.witness6 (enc := enc) (C := Try.checked) false ⟨#[], #[.int .i64 0], []⟩ 8 (by kernel_rfl) (by kernel_rfl) (by kernel_rfl) (by kernel_rfl)) ?_
  intro W base args ds gs before hval0 hW hcnd _
  have hval : ∀ (j : Nat) t v, Try.f4.params[j]? = some t → args[j]? = some v → Value.okWide Try.prog W .any base t v := hval0
  have hW' := hW
  obtain ⟨p, q, hA0, hV, rfl, hfz, hnd⟩ := hW
  have hA : DataW.TrodAll enc Try.prog W 0 (fun _ => true) true Try.f4.params.toList args.toList ds p := hA0
  rw [Try.params4] at hA hval
  obtain ⟨v0, vs0, d0, ds0, p0, q0, hargs, rfl, rfl, h0, r0⟩ := trodAll_cons hA
  obtain ⟨rfl, rfl, rfl⟩ := trodAll_nil r0
  obtain rfl : args = #[v0] := by cases args; simp_all
  obtain ⟨rfl, rfl⟩ := trodVars_none hV
  obtain ⟨a0, rfl, rfl, rfl, w0⟩ := open_int Try.underlying3 (hval 0 3 v0 rfl rfl) h0
  clear hA0 hval0
  simp only [List.append_nil] at hW'
  refine (walk a0 w0 W).mono fun e W' ⟨he, hg⟩ => ?_
  subst he
  exact ⟨_, rfl, _, _, _, [], [], [], hW', (trodAll_cons_mk (shut_bool Try.underlying4 _) trodAll_mk0), (trodAll_cons_mk (shut_int Try.underlying3 w0) trodAll_mk0), rfl, hg.frame _, fun h => by cases h⟩

theorem over : Rows.viewKindsRow.holds Try.pinned (OpenSpec.ofChange Rows.viewKindsSpec) :=
  OpenClaim.holds_of_wide 4 Try.f4 rfl rfl rfl rfl rfl rfl rfl ⟨rfl, rfl, rfl, rfl, rfl⟩ rfl rfl rfl rfl rfl (by kernel_rfl) Try.func4 (by kernel_rfl)
    (of_decide_eq_true (by kernel_rfl)) (by unfold Func.isWrapper; first | (rw [if_pos (by decide +kernel)]; kernel_rfl) | (rw [if_neg (by decide +kernel)]; exact ⟨rfl, rfl⟩))
    (fun os started H enc _ => lifted os started H enc)

/-- ████ THE STATEMENT ████ -/
theorem proved : Rows.ViewKindsSaid :=
  over
#print axioms proved
end Go.Proofs.Ytdnelekoplkkcaa.viewKinds
