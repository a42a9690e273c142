/- G12 -/
import Derived.Test.YtaihdiccmaincaaGreatKG12b
import Derived.Test.YtaihdiccmaincaaGreatKGView
import Derived.Deep.LoopGhost
import Derived.KernelRfl
/- The walks of G12, printed by gen/walk.py. -/
namespace Go.Proofs.YtaihdiccmaincaaGreat
open Go.RowKit
set_option linter.unusedVariables false

def law12_awake.m (k : Nat) : Option (Bool) := bind4 (law12_made.m k [1] 1) fun s7 s8 L9 L10 => bind3 (law12_ch.m k s7 s8 L9 L10 0) fun x49 s50 s51 => bind2 (ring_Put.m k s50 x49 7) fun x59 s60 => bind3 (law12_ch.m k s60 s51 L9 L10 0) fun x73 s74 s75 => bind2 (ring_Put.m k s74 x73 8) fun x83 s84 => bind3 (law12_ch.m k s84 s75 L9 L10 0) fun x97 s98 s99 => bind3 (ring_Take.m k s98 x97) fun x107 x108 s109 => (if (x59 == 0) then (if (x83 == 9) then (if (x108 == 0) then some (x107 == 7) else some (false)) else some (false)) else some (false))
set_option maxRecDepth 100000 in
set_option maxHeartbeats 1500000 in
theorem law12_awake.ok {w0 w : World} {F0 : List Nat} {ps : List Piece} {k : Nat}  {r0 : Bool} (hS : St w0 F0 (ps) w) (hm : law12_awake.m k = some r0) :
    Calls Tryz.prog 14 #[] w fun e w' => e = .returned (.bool r0) ∧ St w0 F0 (ps) w' := by
 refine ev_enterL 48 [] Tryz.func14 rfl rfl (by simp) ?_
 intro a hF
 have hF0 : Fr 48 a [] := hF; clear hF
 unfold law12_awake.m at hm
 refine wp_seq (wp_region_lit ?_)
 refine ev_runK 1 hF0 [] (l' := []) (w' := w) (by kernel_rfl) ?_
 intro a2 hF1; clear hF0
 refine wpList_nil (thenN (wp_seq (wp_region_lit ?_)))
 refine ev_runs 1 hF1 (l' := [(6, .slice (some ⟨w.heap.size, 0, none⟩) 1 1)]) (w' := w.alloc (.cells #[nI 1] 3)) (by kernel_rfl) ?_
 intro a4 hF3; clear hF1
 have hS6 : St w0 F0 (RowP (.slice (some ⟨w.heap.size, 0, none⟩) 1 1) [1] :: ps) (w.alloc (.cells #[nI 1] 3)) := St.lit hS [1] (by unfold maxLen; simp)
 refine ev_call 13 #[.slice (some ⟨w.heap.size, 0, none⟩) 1 1, nI 1] hF3 rfl rfl (by kernel_rfl) rfl (by kernel_rfl) (fun w => by kernel_rfl) ?_
 obtain ⟨s7, s8, L9, L10, hx11, hm12⟩ := bind4E hm; clear hm
 refine (law12_made.ok hS6 hx11).mono ?_
 rintro _ w13 ⟨z17, z18, z19, z20, z21, z22, z23, z24, z25, z26, rfl, hS15⟩ a14 hF16; clear hF3 hS6
 obtain ⟨hl35, p32, c33, rfl, hp34⟩ := St.shape hS15 4 rfl
 obtain ⟨hl39, p36, c37, rfl, hp38⟩ := St.shape hS15 5 rfl
 refine ev_runK 1 hF16 [1] (l' := [(1, nP z17 0)]) (w' := w13) (by kernel_rfl) ?_
 intro a41 hF40; clear hF16
 refine wpList_nil ?_
 have hS42 := hS15.drop
 clear hS15
 refine thenN (wp_seq (wp_seq (wp_region_lit ?_)))
 refine ev_runK 2 hF40 [1, 9] (l' := [(9, .bool false), (1, nP z17 0)]) (w' := w13) (by kernel_rfl) ?_
 intro a44 hF43; clear hF40
 refine wpList_nil (thenN ?_)
 refine ev_condF hF43 rfl rfl ?_
 refine wp_skip ?_
 have hF45 := hF43.keep [1]
 clear hF43
 refine thenN (wp_seq ?_)
 -- draws
 have hS46 := hS42.drew; clear hS42
 refine any_start (fun wS => ∃ qs, St w0 F0 (BlkP z17 32 #[nP z18 0, nP z20 0, .slice p32 L9.length c33, .slice p36 L10.length c37] :: qs) wS) 8 #[false, false, false, false, false, false, false, false] (by kernel_rfl) (by kernel_rfl) (by kernel_rfl) ?_
 refine any_many 5 [(0, some (nP z17 0)), (1, some (nP z17 0)), (2, some (nP z17 0)), (3, some (nP z18 0)), (4, some (nP z17 0))] [1, 2, 13, 14, 15, 16] #[true, true, true, true, true, false, false, false] (by rfl) hF45 (by kernel_rfl) (by kernel_rfl) (by exact (And.intro (fun wS hw => by kernel_rfl) (And.intro (fun wS hw => by kernel_rfl) (And.intro (fun wS hw => by kernel_rfl) (And.intro (fun wS hw => hw.elim fun qs hw => run_loadV rfl rfl (run_loadS rfl rfl (hw.cell 0 rfl 0 rfl))) (And.intro (fun wS hw => by kernel_rfl) trivial)))))) (fun _ _ _ _ _ h => h) ⟨_, hS46⟩ (l' := [(14, nP z17 0), (13, nP z18 0), (1, nP z17 0)]) (by kernel_rfl) ?_
 intro a48 hF47; clear hF45
 refine any_call 5 #[true, true, true, true, true, true, false, false] 16 #[nP z17 0, nI 0] hF47 rfl (by kernel_rfl) rfl rfl (by kernel_rfl) rfl (by kernel_rfl) (fun w => by kernel_rfl) (by kernel_rfl) ?_
 obtain ⟨x49, s50, s51, hx52, hm53⟩ := bind3E hm12; clear hm12
 refine (law12_ch.ok hS46 hx52).mono ?_
 rintro _ w54 ⟨rfl, hS56⟩; clear hS46
 refine ⟨⟨_, hS56⟩, ?_⟩
 intro a55 hF57; clear hF47
 have hS58 := hS56.pick1
 clear hS56
 refine any_call 6 #[true, true, true, true, true, true, true, false] 15 #[nP z18 0, nI x49, nI 7] hF57 rfl (by kernel_rfl) rfl rfl (by kernel_rfl) rfl (by kernel_rfl) (fun w => by kernel_rfl) (by kernel_rfl) ?_
 obtain ⟨x59, s60, hx61, hm62⟩ := bind2E hm53; clear hm53
 refine (ring_Put.ok hS58 hx61).mono ?_
 rintro _ w63 ⟨rfl, hS65⟩; clear hS58
 refine ⟨⟨_, hS65.pick1⟩, ?_⟩
 intro a64 hF66; clear hF57
 refine any_many 1 [(7, some (nI x59))] [1, 2] #[true, true, true, true, true, true, true, true] (by rfl) hF66 (by kernel_rfl) (by kernel_rfl) (by exact (And.intro (fun wS hw => by kernel_rfl) trivial)) (fun _ _ _ _ _ h => h) ⟨_, hS65.pick1⟩ (l' := [(2, nI x59), (1, nP z17 0)]) (by kernel_rfl) ?_
 intro a68 hF67; clear hF66
 refine any_done (by kernel_rfl) ?_
 refine thenN (wp_seq ?_)
 -- draws
 have hS69 := hS65.pick1
 clear hS65
 have hS70 := hS69.drew; clear hS69
 refine any_start (fun wS => ∃ qs, St w0 F0 (BlkP z17 32 #[nP z18 0, nP z20 0, .slice p32 L9.length c33, .slice p36 L10.length c37] :: qs) wS) 8 #[false, false, false, false, false, false, false, false] (by kernel_rfl) (by kernel_rfl) (by kernel_rfl) ?_
 refine any_many 5 [(0, some (nP z17 0)), (1, some (nP z17 0)), (2, some (nP z17 0)), (3, some (nP z18 0)), (4, some (nP z17 0))] [1, 2, 3, 20, 21, 22, 23] #[true, true, true, true, true, false, false, false] (by rfl) hF67 (by kernel_rfl) (by kernel_rfl) (by exact (And.intro (fun wS hw => by kernel_rfl) (And.intro (fun wS hw => by kernel_rfl) (And.intro (fun wS hw => by kernel_rfl) (And.intro (fun wS hw => hw.elim fun qs hw => run_loadV rfl rfl (run_loadS rfl rfl (hw.cell 0 rfl 0 rfl))) (And.intro (fun wS hw => by kernel_rfl) trivial)))))) (fun _ _ _ _ _ h => h) ⟨_, hS70⟩ (l' := [(21, nP z17 0), (20, nP z18 0), (2, nI x59), (1, nP z17 0)]) (by kernel_rfl) ?_
 intro a72 hF71; clear hF67
 refine any_call 5 #[true, true, true, true, true, true, false, false] 16 #[nP z17 0, nI 0] hF71 rfl (by kernel_rfl) rfl rfl (by kernel_rfl) rfl (by kernel_rfl) (fun w => by kernel_rfl) (by kernel_rfl) ?_
 obtain ⟨x73, s74, s75, hx76, hm77⟩ := bind3E hm62; clear hm62
 refine (law12_ch.ok hS70 hx76).mono ?_
 rintro _ w78 ⟨rfl, hS80⟩; clear hS70
 refine ⟨⟨_, hS80⟩, ?_⟩
 intro a79 hF81; clear hF71
 have hS82 := hS80.pick1
 clear hS80
 refine any_call 6 #[true, true, true, true, true, true, true, false] 15 #[nP z18 0, nI x73, nI 8] hF81 rfl (by kernel_rfl) rfl rfl (by kernel_rfl) rfl (by kernel_rfl) (fun w => by kernel_rfl) (by kernel_rfl) ?_
 obtain ⟨x83, s84, hx85, hm86⟩ := bind2E hm77; clear hm77
 refine (ring_Put.ok hS82 hx85).mono ?_
 rintro _ w87 ⟨rfl, hS89⟩; clear hS82
 refine ⟨⟨_, hS89.pick1⟩, ?_⟩
 intro a88 hF90; clear hF81
 refine any_many 1 [(7, some (nI x83))] [1, 2, 3] #[true, true, true, true, true, true, true, true] (by rfl) hF90 (by kernel_rfl) (by kernel_rfl) (by exact (And.intro (fun wS hw => by kernel_rfl) trivial)) (fun _ _ _ _ _ h => h) ⟨_, hS89.pick1⟩ (l' := [(3, nI x83), (2, nI x59), (1, nP z17 0)]) (by kernel_rfl) ?_
 intro a92 hF91; clear hF90
 refine any_done (by kernel_rfl) ?_
 refine thenN (wp_seq ?_)
 -- draws
 have hS93 := hS89.pick1
 clear hS89
 have hS94 := hS93.drew; clear hS93
 refine any_start (fun wS => ∃ qs, St w0 F0 (BlkP z17 32 #[nP z18 0, nP z20 0, .slice p32 L9.length c33, .slice p36 L10.length c37] :: qs) wS) 12 #[false, false, false, false, false, false, false, false, false, false, false, false] (by kernel_rfl) (by kernel_rfl) (by kernel_rfl) ?_
 refine any_many 5 [(0, some (nP z17 0)), (1, some (nP z17 0)), (2, some (nP z17 0)), (3, some (nP z18 0)), (4, some (nP z17 0))] [2, 3, 4, 5, 24, 28, 29, 30, 31, 32, 33] #[true, true, true, true, true, false, false, false, false, false, false, false] (by rfl) hF91 (by kernel_rfl) (by kernel_rfl) (by exact (And.intro (fun wS hw => by kernel_rfl) (And.intro (fun wS hw => by kernel_rfl) (And.intro (fun wS hw => by kernel_rfl) (And.intro (fun wS hw => hw.elim fun qs hw => run_loadV rfl rfl (run_loadS rfl rfl (hw.cell 0 rfl 0 rfl))) (And.intro (fun wS hw => by kernel_rfl) trivial)))))) (fun _ _ _ _ _ h => h) ⟨_, hS94⟩ (l' := [(29, nP z17 0), (28, nP z18 0), (3, nI x83), (2, nI x59)]) (by kernel_rfl) ?_
 intro a96 hF95; clear hF91
 refine any_call 5 #[true, true, true, true, true, true, false, false, false, false, false, false] 16 #[nP z17 0, nI 0] hF95 rfl (by kernel_rfl) rfl rfl (by kernel_rfl) rfl (by kernel_rfl) (fun w => by kernel_rfl) (by kernel_rfl) ?_
 obtain ⟨x97, s98, s99, hx100, hm101⟩ := bind3E hm86; clear hm86
 refine (law12_ch.ok hS94 hx100).mono ?_
 rintro _ w102 ⟨rfl, hS104⟩; clear hS94
 refine ⟨⟨_, hS104⟩, ?_⟩
 intro a103 hF105; clear hF95
 have hS106 := hS104.pick1
 clear hS104
 refine any_call 6 #[true, true, true, true, true, true, true, false, false, false, false, false] 17 #[nP z18 0, nI x97] hF105 rfl (by kernel_rfl) rfl rfl (by kernel_rfl) rfl (by kernel_rfl) (fun w => by kernel_rfl) (by kernel_rfl) ?_
 obtain ⟨x107, x108, s109, hx110, hm111⟩ := bind3E hm101; clear hm101
 refine (ring_Take.ok hS106 hx110).mono ?_
 rintro _ w112 ⟨rfl, hS114⟩; clear hS106
 refine ⟨⟨_, hS114.pick1⟩, ?_⟩
 intro a113 hF115; clear hF105
 refine any_many 5 [(7, some (.tuple #[nI x107, nI x108])), (8, some (nI x107)), (9, some (nI x108)), (10, some (nI x107)), (11, some (nI x108))] [2, 3, 4, 5] #[true, true, true, true, true, true, true, true, true, true, true, true] (by rfl) hF115 (by kernel_rfl) (by kernel_rfl) (by exact (And.intro (fun wS hw => by kernel_rfl) (And.intro (fun wS hw => by kernel_rfl) (And.intro (fun wS hw => by kernel_rfl) (And.intro (fun wS hw => by kernel_rfl) (And.intro (fun wS hw => by kernel_rfl) trivial)))))) (fun _ _ _ _ _ h => h) ⟨_, hS114.pick1⟩ (l' := [(5, nI x108), (4, nI x107), (3, nI x83), (2, nI x59)]) (by kernel_rfl) ?_
 intro a117 hF116; clear hF115
 refine any_done (by kernel_rfl) ?_
 have hS118 := hS114.drop.drop.drop.drop.drop
 clear hS114
 refine thenN (wp_seq (wp_region_lit ?_))
 refine ev_runs 3 hF116 (l' := [(36, .bool (x59 == 0)), (35, .bool (x59 == 0)), (34, nI x59), (5, nI x108), (4, nI x107), (3, nI x83), (2, nI x59)]) (w' := w112) (by kernel_rfl) ?_
 intro a120 hF119; clear hF116
 cases hc121 : (x59 == 0) with
 | true =>
  rw [hc121] at hF119
  rw [hc121] at hm111
  have hm122 := ifT hm111; clear hm111
  refine ev_runs 4 hF119 (l' := [(40, .bool (x83 == 9)), (39, .bool (x83 == 9)), (38, .bool (x83 == 9)), (37, nI x83), (36, .bool true), (35, .bool true), (34, nI x59), (5, nI x108), (4, nI x107), (3, nI x83), (2, nI x59)]) (w' := w112) (by kernel_rfl) ?_
  intro a124 hF123; clear hF119
  cases hc125 : (x83 == 9) with
  | true =>
   rw [hc125] at hF123
   rw [hc125] at hm122
   have hm126 := ifT hm122; clear hm122
   refine ev_runs 4 hF123 (l' := [(44, .bool (x108 == 0)), (43, .bool (x108 == 0)), (42, .bool (x108 == 0)), (41, nI x108), (40, .bool true), (39, .bool true), (38, .bool true), (37, nI x83), (36, .bool true), (35, .bool true), (34, nI x59), (5, nI x108), (4, nI x107), (3, nI x83), (2, nI x59)]) (w' := w112) (by kernel_rfl) ?_
   intro a128 hF127; clear hF123
   cases hc129 : (x108 == 0) with
   | true =>
    rw [hc129] at hF127
    rw [hc129] at hm126
    have hm130 := ifT hm126; clear hm126
    refine ev_runK 4 hF127 [0] (l' := [(0, .bool (x107 == 7))]) (w' := w112) (by kernel_rfl) ?_
    intro a132 hF131; clear hF127
    refine wpList_nil (thenN ?_)
    refine wp_ret ?_
    obtain rfl := Option.some.inj hm130
    refine ev_ret hF131 [0] (.bool (x107 == 7)) rfl rfl rfl ?_
    exact ⟨rfl, hS118⟩
   | false =>
    rw [hc129] at hF127
    rw [hc129] at hm126
    have hm134 := ifF hm126; clear hm126
    refine ev_runK 4 hF127 [0] (l' := [(0, .bool false)]) (w' := w112) (by kernel_rfl) ?_
    intro a136 hF135; clear hF127
    refine wpList_nil (thenN ?_)
    refine wp_ret ?_
    obtain rfl := Option.some.inj hm134
    refine ev_ret hF135 [0] (.bool false) rfl rfl rfl ?_
    exact ⟨rfl, hS118⟩
  | false =>
   rw [hc125] at hF123
   rw [hc125] at hm122
   have hm138 := ifF hm122; clear hm122
   refine ev_runK 8 hF123 [0] (l' := [(0, .bool false)]) (w' := w112) (by kernel_rfl) ?_
   intro a140 hF139; clear hF123
   refine wpList_nil (thenN ?_)
   refine wp_ret ?_
   obtain rfl := Option.some.inj hm138
   refine ev_ret hF139 [0] (.bool false) rfl rfl rfl ?_
   exact ⟨rfl, hS118⟩
 | false =>
  rw [hc121] at hF119
  rw [hc121] at hm111
  have hm142 := ifF hm111; clear hm111
  refine ev_runK 12 hF119 [0] (l' := [(0, .bool false)]) (w' := w112) (by kernel_rfl) ?_
  intro a144 hF143; clear hF119
  refine wpList_nil (thenN ?_)
  refine wp_ret ?_
  obtain rfl := Option.some.inj hm142
  refine ev_ret hF143 [0] (.bool false) rfl rfl rfl ?_
  exact ⟨rfl, hS118⟩

end Go.Proofs.YtaihdiccmaincaaGreat
