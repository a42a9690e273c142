/- G12 GRingEmpty -/
import Derived.Test.YtaihdiccmaincaaGreatKG12b
import Derived.Test.YtaihdiccmaincaaGreatKGView
import Derived.Deep.LoopGhost
import Derived.KernelRfl
/- The walks of G12, printed by gen/walk.py. -/
namespace Go.Proofs.YtaihdiccmaincaaGreat
open Go.RowKit
set_option linter.unusedVariables false

def law12_awake.j1 (y119 : Bool) : Option (Bool) := some (y119)
def law12_awake.m (k : Nat) : Option (Bool) := bind4 (law12_made.m k [1] 1) fun s7 s8 L9 L10 => bind3 (law12_ch.m k s7 s8 L9 L10 0) fun x49 s50 s51 => bind2 (ring_Put.m k s50 x49 7) fun x59 s60 => bind3 (law12_ch.m k s60 s51 L9 L10 0) fun x73 s74 s75 => bind2 (ring_Put.m k s74 x73 8) fun x83 s84 => bind3 (law12_ch.m k s84 s75 L9 L10 0) fun x97 s98 s99 => bind3 (ring_Take.m k s98 x97) fun x107 x108 s109 => (if (x59 == 0) then (if (x83 == 9) then (if (x108 == 0) then law12_awake.j1 (x107 == 7) else law12_awake.j1 false) else law12_awake.j1 false) else law12_awake.j1 false)
set_option maxRecDepth 100000 in
set_option maxHeartbeats 1500000 in
theorem law12_awake.ok {w0 w : World} {F0 : List Nat} {ps : List Piece} {k : Nat}  {r0 : Bool} (hS : St w0 F0 (ps) w) (hm : law12_awake.m k = some r0) :
    Calls Tryz.prog 14 #[] w fun e w' => e = .returned (.bool r0) ∧ St w0 F0 (ps) w' := by
 refine ev_enterL 48 [] Tryz.func14 rfl rfl (by simp) ?_
 intro a hF
 have hF0 : Fr 48 a [] := hF; clear hF
 unfold law12_awake.m at hm
 refine wp_seq (wp_region_lit ?_)
 refine ev_runK 1 hF0 [] (l' := []) (w' := w) (by kernel_rfl) ?_
 intro a2 hF1; clear hF0
 refine wpList_nil (thenN (wp_seq (wp_region_lit ?_)))
 refine ev_runs 1 hF1 (l' := [(6, .slice (some ⟨w.heap.size, 0, none⟩) 1 1)]) (w' := w.alloc (.cells #[nI 1] 3)) (by kernel_rfl) ?_
 intro a4 hF3; clear hF1
 have hS6 : St w0 F0 (RowP (.slice (some ⟨w.heap.size, 0, none⟩) 1 1) [1] :: ps) (w.alloc (.cells #[nI 1] 3)) := St.lit hS [1] (by unfold maxLen; simp)
 refine ev_call 13 #[.slice (some ⟨w.heap.size, 0, none⟩) 1 1, nI 1] hF3 rfl rfl (by kernel_rfl) rfl (by kernel_rfl) (fun w => by kernel_rfl) ?_
 obtain ⟨s7, s8, L9, L10, hx11, hm12⟩ := bind4E hm; clear hm
 refine (law12_made.ok hS6 hx11).mono ?_
 rintro _ w13 ⟨z17, z18, z19, z20, z21, z22, z23, z24, z25, z26, rfl, hS15⟩ a14 hF16; clear hF3 hS6
 obtain ⟨hl35, p32, c33, rfl, hp34⟩ := St.shape hS15 4 rfl
 obtain ⟨hl39, p36, c37, rfl, hp38⟩ := St.shape hS15 5 rfl
 refine ev_runK 1 hF16 [1] (l' := [(1, nP z17 0)]) (w' := w13) (by kernel_rfl) ?_
 intro a41 hF40; clear hF16
 refine wpList_nil ?_
 have hS42 := hS15.drop
 clear hS15
 refine thenN (wp_seq (wp_seq (wp_region_lit ?_)))
 refine ev_runK 2 hF40 [1, 9] (l' := [(9, .bool false), (1, nP z17 0)]) (w' := w13) (by kernel_rfl) ?_
 intro a44 hF43; clear hF40
 refine wpList_nil (thenN ?_)
 refine ev_condF hF43 rfl rfl ?_
 refine wp_skip ?_
 have hF45 := hF43.keep [1]
 clear hF43
 refine thenN (wp_seq ?_)
 -- draws
 have hS46 := hS42.drew; clear hS42
 refine any_start (fun wS => ∃ qs, St w0 F0 (BlkP z17 32 #[nP z18 0, nP z20 0, .slice p32 L9.length c33, .slice p36 L10.length c37] :: qs) wS) 8 #[false, false, false, false, false, false, false, false] (by kernel_rfl) (by kernel_rfl) (by kernel_rfl) ?_
 refine any_many 5 [(0, some (nP z17 0)), (1, some (nP z17 0)), (2, some (nP z17 0)), (3, some (nP z18 0)), (4, some (nP z17 0))] [1, 2, 13, 14, 15, 16] #[true, true, true, true, true, false, false, false] (by rfl) hF45 (by kernel_rfl) (by kernel_rfl) (by exact (And.intro (fun wS hw => by kernel_rfl) (And.intro (fun wS hw => by kernel_rfl) (And.intro (fun wS hw => by kernel_rfl) (And.intro (fun wS hw => hw.elim fun qs hw => run_loadV rfl rfl (run_loadS rfl rfl (hw.cell 0 rfl 0 rfl))) (And.intro (fun wS hw => by kernel_rfl) trivial)))))) (fun _ _ _ _ _ h => h) ⟨_, hS46⟩ (l' := [(14, nP z17 0), (13, nP z18 0), (1, nP z17 0)]) (by kernel_rfl) ?_
 intro a48 hF47; clear hF45
 refine any_call 5 #[true, true, true, true, true, true, false, false] 16 #[nP z17 0, nI 0] hF47 rfl (by kernel_rfl) rfl rfl (by kernel_rfl) rfl (by kernel_rfl) (fun w => by kernel_rfl) (by kernel_rfl) ?_
 obtain ⟨x49, s50, s51, hx52, hm53⟩ := bind3E hm12; clear hm12
 refine (law12_ch.ok hS46 hx52).mono ?_
 rintro _ w54 ⟨rfl, hS56⟩; clear hS46
 refine ⟨⟨_, hS56⟩, ?_⟩
 intro a55 hF57; clear hF47
 have hS58 := hS56.pick1
 clear hS56
 refine any_call 6 #[true, true, true, true, true, true, true, false] 15 #[nP z18 0, nI x49, nI 7] hF57 rfl (by kernel_rfl) rfl rfl (by kernel_rfl) rfl (by kernel_rfl) (fun w => by kernel_rfl) (by kernel_rfl) ?_
 obtain ⟨x59, s60, hx61, hm62⟩ := bind2E hm53; clear hm53
 refine (ring_Put.ok hS58 hx61).mono ?_
 rintro _ w63 ⟨rfl, hS65⟩; clear hS58
 refine ⟨⟨_, hS65.pick1⟩, ?_⟩
 intro a64 hF66; clear hF57
 refine any_many 1 [(7, some (nI x59))] [1, 2] #[true, true, true, true, true, true, true, true] (by rfl) hF66 (by kernel_rfl) (by kernel_rfl) (by exact (And.intro (fun wS hw => by kernel_rfl) trivial)) (fun _ _ _ _ _ h => h) ⟨_, hS65.pick1⟩ (l' := [(2, nI x59), (1, nP z17 0)]) (by kernel_rfl) ?_
 intro a68 hF67; clear hF66
 refine any_done (by kernel_rfl) ?_
 refine thenN (wp_seq ?_)
 -- draws
 have hS69 := hS65.pick1
 clear hS65
 have hS70 := hS69.drew; clear hS69
 refine any_start (fun wS => ∃ qs, St w0 F0 (BlkP z17 32 #[nP z18 0, nP z20 0, .slice p32 L9.length c33, .slice p36 L10.length c37] :: qs) wS) 8 #[false, false, false, false, false, false, false, false] (by kernel_rfl) (by kernel_rfl) (by kernel_rfl) ?_
 refine any_many 5 [(0, some (nP z17 0)), (1, some (nP z17 0)), (2, some (nP z17 0)), (3, some (nP z18 0)), (4, some (nP z17 0))] [1, 2, 3, 20, 21, 22, 23] #[true, true, true, true, true, false, false, false] (by rfl) hF67 (by kernel_rfl) (by kernel_rfl) (by exact (And.intro (fun wS hw => by kernel_rfl) (And.intro (fun wS hw => by kernel_rfl) (And.intro (fun wS hw => by kernel_rfl) (And.intro (fun wS hw => hw.elim fun qs hw => run_loadV rfl rfl (run_loadS rfl rfl (hw.cell 0 rfl 0 rfl))) (And.intro (fun wS hw => by kernel_rfl) trivial)))))) (fun _ _ _ _ _ h => h) ⟨_, hS70⟩ (l' := [(21, nP z17 0), (20, nP z18 0), (2, nI x59), (1, nP z17 0)]) (by kernel_rfl) ?_
 intro a72 hF71; clear hF67
 refine any_call 5 #[true, true, true, true, true, true, false, false] 16 #[nP z17 0, nI 0] hF71 rfl (by kernel_rfl) rfl rfl (by kernel_rfl) rfl (by kernel_rfl) (fun w => by kernel_rfl) (by kernel_rfl) ?_
 obtain ⟨x73, s74, s75, hx76, hm77⟩ := bind3E hm62; clear hm62
 refine (law12_ch.ok hS70 hx76).mono ?_
 rintro _ w78 ⟨rfl, hS80⟩; clear hS70
 refine ⟨⟨_, hS80⟩, ?_⟩
 intro a79 hF81; clear hF71
 have hS82 := hS80.pick1
 clear hS80
 refine any_call 6 #[true, true, true, true, true, true, true, false] 15 #[nP z18 0, nI x73, nI 8] hF81 rfl (by kernel_rfl) rfl rfl (by kernel_rfl) rfl (by kernel_rfl) (fun w => by kernel_rfl) (by kernel_rfl) ?_
 obtain ⟨x83, s84, hx85, hm86⟩ := bind2E hm77; clear hm77
 refine (ring_Put.ok hS82 hx85).mono ?_
 rintro _ w87 ⟨rfl, hS89⟩; clear hS82
 refine ⟨⟨_, hS89.pick1⟩, ?_⟩
 intro a88 hF90; clear hF81
 refine any_many 1 [(7, some (nI x83))] [1, 2, 3] #[true, true, true, true, true, true, true, true] (by rfl) hF90 (by kernel_rfl) (by kernel_rfl) (by exact (And.intro (fun wS hw => by kernel_rfl) trivial)) (fun _ _ _ _ _ h => h) ⟨_, hS89.pick1⟩ (l' := [(3, nI x83), (2, nI x59), (1, nP z17 0)]) (by kernel_rfl) ?_
 intro a92 hF91; clear hF90
 refine any_done (by kernel_rfl) ?_
 refine thenN (wp_seq ?_)
 -- draws
 have hS93 := hS89.pick1
 clear hS89
 have hS94 := hS93.drew; clear hS93
 refine any_start (fun wS => ∃ qs, St w0 F0 (BlkP z17 32 #[nP z18 0, nP z20 0, .slice p32 L9.length c33, .slice p36 L10.length c37] :: qs) wS) 12 #[false, false, false, false, false, false, false, false, false, false, false, false] (by kernel_rfl) (by kernel_rfl) (by kernel_rfl) ?_
 refine any_many 5 [(0, some (nP z17 0)), (1, some (nP z17 0)), (2, some (nP z17 0)), (3, some (nP z18 0)), (4, some (nP z17 0))] [2, 3, 4, 5, 24, 28, 29, 30, 31, 32, 33] #[true, true, true, true, true, false, false, false, false, false, false, false] (by rfl) hF91 (by kernel_rfl) (by kernel_rfl) (by exact (And.intro (fun wS hw => by kernel_rfl) (And.intro (fun wS hw => by kernel_rfl) (And.intro (fun wS hw => by kernel_rfl) (And.intro (fun wS hw => hw.elim fun qs hw => run_loadV rfl rfl (run_loadS rfl rfl (hw.cell 0 rfl 0 rfl))) (And.intro (fun wS hw => by kernel_rfl) trivial)))))) (fun _ _ _ _ _ h => h) ⟨_, hS94⟩ (l' := [(29, nP z17 0), (28, nP z18 0), (3, nI x83), (2, nI x59)]) (by kernel_rfl) ?_
 intro a96 hF95; clear hF91
 refine any_call 5 #[true, true, true, true, true, true, false, false, false, false, false, false] 16 #[nP z17 0, nI 0] hF95 rfl (by kernel_rfl) rfl rfl (by kernel_rfl) rfl (by kernel_rfl) (fun w => by kernel_rfl) (by kernel_rfl) ?_
 obtain ⟨x97, s98, s99, hx100, hm101⟩ := bind3E hm86; clear hm86
 refine (law12_ch.ok hS94 hx100).mono ?_
 rintro _ w102 ⟨rfl, hS104⟩; clear hS94
 refine ⟨⟨_, hS104⟩, ?_⟩
 intro a103 hF105; clear hF95
 have hS106 := hS104.pick1
 clear hS104
 refine any_call 6 #[true, true, true, true, true, true, true, false, false, false, false, false] 17 #[nP z18 0, nI x97] hF105 rfl (by kernel_rfl) rfl rfl (by kernel_rfl) rfl (by kernel_rfl) (fun w => by kernel_rfl) (by kernel_rfl) ?_
 obtain ⟨x107, x108, s109, hx110, hm111⟩ := bind3E hm101; clear hm101
 refine (ring_Take.ok hS106 hx110).mono ?_
 rintro _ w112 ⟨rfl, hS114⟩; clear hS106
 refine ⟨⟨_, hS114.pick1⟩, ?_⟩
 intro a113 hF115; clear hF105
 refine any_many 5 [(7, some (.tuple #[nI x107, nI x108])), (8, some (nI x107)), (9, some (nI x108)), (10, some (nI x107)), (11, some (nI x108))] [2, 3, 4, 5] #[true, true, true, true, true, true, true, true, true, true, true, true] (by rfl) hF115 (by kernel_rfl) (by kernel_rfl) (by exact (And.intro (fun wS hw => by kernel_rfl) (And.intro (fun wS hw => by kernel_rfl) (And.intro (fun wS hw => by kernel_rfl) (And.intro (fun wS hw => by kernel_rfl) (And.intro (fun wS hw => by kernel_rfl) trivial)))))) (fun _ _ _ _ _ h => h) ⟨_, hS114.pick1⟩ (l' := [(5, nI x108), (4, nI x107), (3, nI x83), (2, nI x59)]) (by kernel_rfl) ?_
 intro a117 hF116; clear hF115
 refine any_done (by kernel_rfl) ?_
 have hS118 := hS114.drop.drop.drop.drop.drop
 clear hS114
 refine thenN (wp_seq ?_)
 refine joinQ (fun aI wI => ∃ (y119 : Bool), Fr 48 aI [(0, .bool (y119))] ∧ St w0 F0 (ps) wI ∧ law12_awake.j1 y119 = some r0) ?_ ?_
 rotate_left
 · rintro a121 w122 ⟨y119, hF123, hS124, hm125⟩
   clear hF116 hS118 hm111
   unfold law12_awake.j1 at hm125
   refine thenN ?_
   refine wp_ret ?_
   obtain rfl := Option.some.inj hm125
   refine ev_ret hF123 [0] (.bool (y119)) rfl rfl rfl ?_
   exact ⟨rfl, hS124⟩
 · skip
   refine wp_region_lit ?_
   refine ev_runs 3 hF116 (l' := [(36, .bool (x59 == 0)), (35, .bool (x59 == 0)), (34, nI x59), (5, nI x108), (4, nI x107), (3, nI x83), (2, nI x59)]) (w' := w112) (by kernel_rfl) ?_
   intro a129 hF128; clear hF116
   cases hc130 : (x59 == 0) with
   | true =>
    rw [hc130] at hF128
    have hm131 := ifYes hc130 hm111; clear hm111
    refine ev_runs 4 hF128 (l' := [(40, .bool (x83 == 9)), (39, .bool (x83 == 9)), (38, .bool (x83 == 9)), (37, nI x83), (36, .bool true), (35, .bool true), (34, nI x59), (5, nI x108), (4, nI x107), (3, nI x83), (2, nI x59)]) (w' := w112) (by kernel_rfl) ?_
    intro a133 hF132; clear hF128
    cases hc134 : (x83 == 9) with
    | true =>
     rw [hc134] at hF132
     have hm135 := ifYes hc134 hm131; clear hm131
     refine ev_runs 4 hF132 (l' := [(44, .bool (x108 == 0)), (43, .bool (x108 == 0)), (42, .bool (x108 == 0)), (41, nI x108), (40, .bool true), (39, .bool true), (38, .bool true), (37, nI x83), (36, .bool true), (35, .bool true), (34, nI x59), (5, nI x108), (4, nI x107), (3, nI x83), (2, nI x59)]) (w' := w112) (by kernel_rfl) ?_
     intro a137 hF136; clear hF132
     cases hc138 : (x108 == 0) with
     | true =>
      rw [hc138] at hF136
      have hm139 := ifYes hc138 hm135; clear hm135
      refine ev_runK 4 hF136 [0] (l' := [(0, .bool (x107 == 7))]) (w' := w112) (by kernel_rfl) ?_
      intro a141 hF140; clear hF136
      refine wpList_nil ?_
      exact thenN ⟨x107 == 7, hF140, hS118, hm139⟩
     | false =>
      rw [hc138] at hF136
      have hm142 := ifNot hc138 hm135; clear hm135
      refine ev_runK 4 hF136 [0] (l' := [(0, .bool false)]) (w' := w112) (by kernel_rfl) ?_
      intro a144 hF143; clear hF136
      refine wpList_nil ?_
      exact thenN ⟨false, hF143, hS118, hm142⟩
    | false =>
     rw [hc134] at hF132
     have hm145 := ifNot hc134 hm131; clear hm131
     refine ev_runK 8 hF132 [0] (l' := [(0, .bool false)]) (w' := w112) (by kernel_rfl) ?_
     intro a147 hF146; clear hF132
     refine wpList_nil ?_
     exact thenN ⟨false, hF146, hS118, hm145⟩
   | false =>
    rw [hc130] at hF128
    have hm148 := ifNot hc130 hm111; clear hm111
    refine ev_runK 12 hF128 [0] (l' := [(0, .bool false)]) (w' := w112) (by kernel_rfl) ?_
    intro a150 hF149; clear hF128
    refine wpList_nil ?_
    exact thenN ⟨false, hF149, hS118, hm148⟩

end Go.Proofs.YtaihdiccmaincaaGreat
/- The walks of GRingEmpty, printed by gen/walk.py. -/
namespace Go.Proofs.YtaihdiccmaincaaGreat
open Go.RowKit
set_option linter.unusedVariables false

def RingEmpty.j5 (x72 : Int) (rec75 : HSt → HSt → Int → Option (Bool)) (s126 : HSt) (s136 : HSt) (y145 : Bool) : Option (Bool) := (if (y145) then some (false) else rec75 s136 s126 (IntKind.i64.wrap (x72 + 1)))
def RingEmpty.j10 (x202 : Int) (rec205 : Int → Option (Bool)) (y230 : Bool) : Option (Bool) := (if (y230) then some (false) else rec205 (IntKind.i64.wrap (x202 + 1)))
def RingEmpty.j11 (y259 : Bool) : Option (Bool) := some (y259)
def RingEmpty.l9b (K1 : List Int) (k : Nat) (x5 : Int) (L16 : List Int) (L17 : List Int) (s181 : HSt) (s182 : HSt) (x185 : Int) (x186 : Int) (x187 : Int) (x192 : Int) (rec205 : Int → Option (Bool)) (x202 : Int) : Option (Bool) := (if (decide (x202 < x5)) then bind2 (pLoad x187 x202 s181) fun x220 x221 => (if (x221 != 0) then RingEmpty.j10 x202 rec205 true else RingEmpty.j10 x202 rec205 (x220 != 0)) else (if (x5 == 0) then none else (if (x192 == 0) then (if (x185 == 0) then (if (x186 == (Int.tmod (if 10 < (K1.length : Int) then 10 else (K1.length : Int)) x5)) then bind3 (law12_ch.m k s181 s182 L16 L17 0) fun x287 s288 s289 => bind2 (ring_All.m k s288 x287) fun L297 s298 => bind1 (help_Plain.m k L297 []) fun y314 => RingEmpty.j11 y314 else RingEmpty.j11 false) else RingEmpty.j11 false) else RingEmpty.j11 false)))
def RingEmpty.l9 (K1 : List Int) (k : Nat) (x5 : Int) (L16 : List Int) (L17 : List Int) (s181 : HSt) (s182 : HSt) (x185 : Int) (x186 : Int) (x187 : Int) (x192 : Int) : Nat → Int → Option (Bool)
  | 0 => fun _ => none
  | kI + 1 => RingEmpty.l9b K1 k x5 L16 L17 s181 s182 x185 x186 x187 x192 (RingEmpty.l9 K1 k x5 L16 L17 s181 s182 x185 x186 x187 x192 kI)
def RingEmpty.j6 (K1 : List Int) (k : Nat) (x5 : Int) (L16 : List Int) (L17 : List Int) (s181 : HSt) (s182 : HSt) (x183 : Int) (x184 : Int) (x185 : Int) (x186 : Int) (x187 : Int) (x188 : Int) (x189 : Int) (x190 : Int) (x191 : Int) (x192 : Int) : Option (Bool) := RingEmpty.l9 K1 k x5 L16 L17 s181 s182 x185 x186 x187 x192 k 0
def RingEmpty.l4b (K1 : List Int) (k : Nat) (x5 : Int) (L16 : List Int) (L17 : List Int) (rec75 : HSt → HSt → Int → Option (Bool)) (s70 : HSt) (s71 : HSt) (x72 : Int) : Option (Bool) := (if (decide (x72 < (if 10 < (K1.length : Int) then 10 else (K1.length : Int)))) then (if (inR x72 K1.length) then bind3 (law12_ch.m k s70 s71 L16 L17 0) fun x92 s93 s94 => bind2 (ring_Put.m k s93 x92 (atI K1 x72)) fun x102 s103 => (if (x102 != 0) then some (false) else bind3 (law12_ch.m k s103 s94 L16 L17 0) fun x124 s125 s126 => bind3 (ring_Take.m k s125 x124) fun x134 x135 s136 => (if (x135 != 0) then RingEmpty.j5 x72 rec75 s126 s136 true else RingEmpty.j5 x72 rec75 s126 s136 (x134 != (atI K1 x72)))) else none) else bind3 (law12_ch.m k s70 s71 L16 L17 0) fun x339 s340 s341 => bind2 (pChan x339 s340) fun q349 x350 => RingEmpty.j6 K1 k x5 L16 L17 s340 s341 q349.cap q349.closed q349.count q349.start q349.buf q349.th q349.tt q349.sh q349.st x350)
def RingEmpty.l4 (K1 : List Int) (k : Nat) (x5 : Int) (L16 : List Int) (L17 : List Int) : Nat → HSt → HSt → Int → Option (Bool)
  | 0 => fun _ _ _ => none
  | kI + 1 => RingEmpty.l4b K1 k x5 L16 L17 (RingEmpty.l4 K1 k x5 L16 L17 kI)
def RingEmpty.j1 (K1 : List Int) (k : Nat) (x5 : Int) (s14 : HSt) (s15 : HSt) (L16 : List Int) (L17 : List Int) (y50 : Bool) : Option (Bool) := (if (y50) then some (false) else RingEmpty.l4 K1 k x5 L16 L17 k s14 s15 0)
def RingEmpty.m (k : Nat) (i0 : Int) (K1 : List Int) : Option (Bool) := bind1 (some (IntKind.i64.wrap (1 + (IntKind.i64.wrap (Int.tmod (IntKind.u64.wrap i0) 3))))) fun x5 => bind4 (law12_made.m k [x5] 1) fun s14 s15 L16 L17 => bind1 (law12_awake.m k ) fun y420 => (if (!(y420)) then RingEmpty.j1 K1 k x5 s14 s15 L16 L17 true else RingEmpty.j1 K1 k x5 s14 s15 L16 L17 false)
set_option maxRecDepth 100000 in
set_option maxHeartbeats 40000000 in
theorem RingEmpty.ok {w0 w : World} {ps : List Piece} {k : Nat} {i0 : Int} {pa1 : Option Addr} {ca1 : Nat} {K1 : List Int} (hA1 : ArgInts w0 (.slice pa1 K1.length ca1) K1) {r0 : Bool} (hS : St w0 [] (ps) w) (hm : RingEmpty.m k i0 K1 = some r0) :
    Calls Tryz.prog 5 #[nI i0, .slice pa1 K1.length ca1] w fun e w' => e = .returned (.bool r0) ∧ St w0 [] (ps) w' := by
 refine ev_enterL 126 [nI i0, .slice pa1 K1.length ca1] Tryz.func5 rfl rfl (by simp) ?_
 intro a hF
 have hF0 : Fr 126 a [(0, nI i0), (1, .slice pa1 K1.length ca1)] := hF; clear hF
 unfold RingEmpty.m at hm
 refine wp_seq (wp_region_lit ?_)
 refine ev_runK 1 hF0 [0, 1] (l' := [(0, nI i0), (1, .slice pa1 K1.length ca1)]) (w' := w) (by kernel_rfl) ?_
 intro a2 hF1; clear hF0
 refine wpList_nil (thenN (wp_seq (wp_region_lit ?_)))
 refine ev_runs 6 hF1 (l' := [(0, nI (IntKind.i64.wrap (1 + (IntKind.i64.wrap (Int.tmod (IntKind.u64.wrap i0) 3))))), (19, nI (IntKind.i64.wrap (1 + (IntKind.i64.wrap (Int.tmod (IntKind.u64.wrap i0) 3))))), (18, nI (IntKind.i64.wrap (Int.tmod (IntKind.u64.wrap i0) 3))), (17, .int .u64 (Int.tmod (IntKind.u64.wrap i0) 3)), (16, .int .u64 (IntKind.u64.wrap i0)), (15, nI i0), (1, .slice pa1 K1.length ca1)]) (w' := w) (by kernel_rfl) ?_
 intro a4 hF3; clear hF1
 obtain ⟨x5, hx6, hm7⟩ := bind1E hm; clear hm
 have hF8 := hF3; rw [Option.some.inj hx6] at hF8; clear hF3
 refine wpList_nil ?_
 have hF9 := hF8.keep [0, 1]
 clear hF8
 refine thenN (wp_seq (wp_region_lit ?_))
 refine ev_runs 2 hF9 (l' := [(21, .slice (some ⟨w.heap.size, 0, none⟩) 1 1), (20, nI x5), (0, nI x5), (1, .slice pa1 K1.length ca1)]) (w' := w.alloc (.cells #[nI x5] 3)) (by kernel_rfl) ?_
 intro a11 hF10; clear hF9
 have hS13 : St w0 [] (RowP (.slice (some ⟨w.heap.size, 0, none⟩) 1 1) [x5] :: ps) (w.alloc (.cells #[nI x5] 3)) := St.lit hS [x5] (by unfold maxLen; simp)
 refine ev_call 13 #[.slice (some ⟨w.heap.size, 0, none⟩) 1 1, nI 1] hF10 rfl rfl (by kernel_rfl) rfl (by kernel_rfl) (fun w => by kernel_rfl) ?_
 obtain ⟨s14, s15, L16, L17, hx18, hm19⟩ := bind4E hm7; clear hm7
 refine (law12_made.ok hS13 hx18).mono ?_
 rintro _ w20 ⟨z24, z25, z26, z27, z28, z29, z30, z31, z32, z33, rfl, hS22⟩ a21 hF23; clear hF10 hS13
 obtain ⟨hl42, p39, c40, rfl, hp41⟩ := St.shape hS22 4 rfl
 obtain ⟨hl46, p43, c44, rfl, hp45⟩ := St.shape hS22 5 rfl
 refine ev_runK 1 hF23 [0, 1, 5] (l' := [(5, nP z24 0), (0, nI x5), (1, .slice pa1 K1.length ca1)]) (w' := w20) (by kernel_rfl) ?_
 intro a48 hF47; clear hF23
 refine wpList_nil ?_
 have hS49 := hS22.drop
 clear hS22
 refine thenN (wp_seq (wp_seq ?_))
 refine joinQ (fun aI wI => ∃ (y50 : Bool), Fr 126 aI [(28, .bool (y50)), (5, nP z24 0), (0, nI x5), (1, .slice pa1 K1.length ca1)] ∧ St w0 [] (BlkP z24 32 #[nP z25 0, nP z27 0, .slice p39 L16.length c40, .slice p43 L17.length c44] :: HeapP z25 z26 s14 :: RHeapP z27 z28 z29 z30 z31 s15 :: RowP (.slice p39 L16.length c40) L16 :: RowP (.slice p43 L17.length c44) L17 :: ps) wI ∧ RingEmpty.j1 K1 k x5 s14 s15 L16 L17 y50 = some r0) ?_ ?_
 rotate_left
 · rintro a52 w53 ⟨y50, hF54, hS55, hm56⟩
   clear hF47 hS49 hm19
   unfold RingEmpty.j1 at hm56
   refine thenN ?_
   cases hc58 : (y50) with
   | true =>
    rw [hc58] at hF54
    have hm59 := ifYes hc58 hm56; clear hm56
    refine ev_condT hF54 rfl rfl ?_
    refine wp_seq (wp_region_lit ?_)
    refine ev_runK 1 hF54 [4] (l' := [(4, .bool false)]) (w' := w53) (by kernel_rfl) ?_
    intro a61 hF60; clear hF54
    refine wpList_nil ?_
    have hS62 := hS55.drop.drop.drop.drop.drop
    clear hS55
    refine thenN ?_
    refine wp_ret ?_
    refine thenR ?_
    obtain rfl := Option.some.inj hm59
    refine ev_ret hF60 [4] (.bool false) rfl rfl rfl ?_
    exact ⟨rfl, hS62⟩
   | false =>
    rw [hc58] at hF54
    have hm64 := ifNot hc58 hm56; clear hm56
    refine ev_condF hF54 rfl rfl ?_
    refine wp_skip ?_
    have hF65 := hF54.keep [0, 1, 5]
    clear hF54
    refine thenN (wp_seq (wp_region_lit ?_))
    refine ev_runK 4 hF65 [0, 1, 5, 6] (l' := [(6, nI (if 10 < (K1.length : Int) then 10 else (K1.length : Int))), (5, nP z24 0), (0, nI x5), (1, .slice pa1 K1.length ca1)]) (w' := w53) (by kernel_rfl) ?_
    intro a67 hF66; clear hF65
    refine wpList_nil (thenN (wp_seq (wp_seq (wp_region_lit ?_))))
    refine ev_runs 1 hF66 (l' := [(7, nI 0), (6, nI (if 10 < (K1.length : Int) then 10 else (K1.length : Int))), (5, nP z24 0), (0, nI x5), (1, .slice pa1 K1.length ca1)]) (w' := w53) (by kernel_rfl) ?_
    intro a69 hF68; clear hF66
    refine wpList_nil (thenN ?_)
    refine wp_block ?_
    refine wp_loop_ghost (fun kI aI wI => ∃ (s70 : HSt) (s71 : HSt) (x72 : Int), Fr 126 aI [(7, nI x72), (6, nI (if 10 < (K1.length : Int) then 10 else (K1.length : Int))), (5, nP z24 0), (0, nI x5), (1, .slice pa1 K1.length ca1)] ∧ St w0 [] (BlkP z24 32 #[nP z25 0, nP z27 0, .slice p39 L16.length c40, .slice p43 L17.length c44] :: HeapP z25 z26 s70 :: RHeapP z27 z28 z29 z30 z31 s71 :: RowP (.slice p39 L16.length c40) L16 :: RowP (.slice p43 L17.length c44) L17 :: ps) wI ∧ RingEmpty.l4 K1 k x5 L16 L17 kI s70 s71 x72 = some r0) k ⟨s14, s15, 0, hF68, hS55, hm64⟩ ?_
    rintro k73 a74 w75 ⟨s70, s71, x72, hF76, hS77, hm78⟩
    clear hF68 hS55 hm64
    cases k73 with
    | zero => cases hm78
    | succ k73 =>
     have hm79 : RingEmpty.l4b K1 k x5 L16 L17 (RingEmpty.l4 K1 k x5 L16 L17 k73) s70 s71 x72 = some r0 := hm78
     clear hm78
     unfold RingEmpty.l4b at hm79
     refine wp_seq (wp_seq (wp_region_lit ?_))
     refine ev_runK 3 hF76 [0, 1, 5, 6, 7, 34] (l' := [(34, .bool (decide (x72 < (if 10 < (K1.length : Int) then 10 else (K1.length : Int))))), (7, nI x72), (6, nI (if 10 < (K1.length : Int) then 10 else (K1.length : Int))), (5, nP z24 0), (0, nI x5), (1, .slice pa1 K1.length ca1)]) (w' := w75) (by kernel_rfl) ?_
     intro a81 hF80; clear hF76
     refine wpList_nil (thenN ?_)
     cases hc82 : (decide (x72 < (if 10 < (K1.length : Int) then 10 else (K1.length : Int)))) with
     | true =>
      rw [hc82] at hF80
      have hm83 := ifYes hc82 hm79; clear hm79
      refine ev_condT hF80 rfl rfl ?_
      refine wp_skip ?_
      have hF84 := hF80.keep [0, 1, 5, 6, 7]
      clear hF80
      refine thenN (wp_seq ?_)
      refine wp_block ?_
      refine wp_seq (wp_seq ?_)
      -- draws
      obtain ⟨hc85, hm86⟩ := ifTE hm83; clear hm83
      obtain ⟨b87, o88, rfl⟩ := argK hA1 hc85
      have hS89 := hS77.drew; clear hS77
      refine any_start (fun wS => ∃ qs, St w0 [] (BlkP z24 32 #[nP z25 0, nP z27 0, .slice p39 L16.length c40, .slice p43 L17.length c44] :: qs) wS) 12 #[false, false, false, false, false, false, false, false, false, false, false, false] (by kernel_rfl) (by kernel_rfl) (by kernel_rfl) ?_
      refine any_many 9 [(0, some (nP z24 0)), (1, some (nP z24 0)), (2, some (nP z24 0)), (3, some (nP z25 0)), (4, some (nP z24 0)), (6, some (.slice (some ⟨b87, o88, none⟩) K1.length ca1)), (7, some (nI x72)), (8, some (nP b87 ((o88 + x72.toNat)))), (9, some (nI (atI K1 x72)))] [0, 1, 5, 6, 7, 40, 41, 42, 46, 47, 48] #[true, true, true, true, true, false, true, true, true, true, false, false] (by rfl) hF84 (by kernel_rfl) (by kernel_rfl) (by exact (And.intro (fun wS hw => by kernel_rfl) (And.intro (fun wS hw => by kernel_rfl) (And.intro (fun wS hw => by kernel_rfl) (And.intro (fun wS hw => hw.elim fun qs hw => run_loadV rfl rfl (run_loadS rfl rfl (hw.cell 0 rfl 0 rfl))) (And.intro (fun wS hw => by kernel_rfl) (And.intro (fun wS hw => by kernel_rfl) (And.intro (fun wS hw => by kernel_rfl) (And.intro (fun wS hw => run_idxO rfl rfl rfl rfl rfl (inR_spec hc85).1 (inR_spec hc85).2 _) (And.intro (fun wS hw => run_load1 rfl rfl rfl (hw.elim fun qs hw => argAt hA1 hw hc85)) trivial)))))))))) (fun _ _ _ _ _ h => h) ⟨_, hS89⟩ (l' := [(46, nI (atI K1 x72)), (41, nP z24 0), (40, nP z25 0), (7, nI x72), (6, nI (if 10 < (K1.length : Int) then 10 else (K1.length : Int))), (5, nP z24 0), (0, nI x5), (1, .slice (some ⟨b87, o88, none⟩) K1.length ca1)]) (by kernel_rfl) ?_
      intro a91 hF90; clear hF84
      refine any_call 5 #[true, true, true, true, true, true, true, true, true, true, false, false] 16 #[nP z24 0, nI 0] hF90 rfl (by kernel_rfl) rfl rfl (by kernel_rfl) rfl (by kernel_rfl) (fun w => by kernel_rfl) (by kernel_rfl) ?_
      obtain ⟨x92, s93, s94, hx95, hm96⟩ := bind3E hm86; clear hm86
      refine (law12_ch.ok hS89 hx95).mono ?_
      rintro _ w97 ⟨rfl, hS99⟩; clear hS89
      refine ⟨⟨_, hS99⟩, ?_⟩
      intro a98 hF100; clear hF90
      have hS101 := hS99.pick1
      clear hS99
      refine any_call 10 #[true, true, true, true, true, true, true, true, true, true, true, false] 15 #[nP z25 0, nI x92, nI (atI K1 x72)] hF100 rfl (by kernel_rfl) rfl rfl (by kernel_rfl) rfl (by kernel_rfl) (fun w => by kernel_rfl) (by kernel_rfl) ?_
      obtain ⟨x102, s103, hx104, hm105⟩ := bind2E hm96; clear hm96
      refine (ring_Put.ok hS101 hx104).mono ?_
      rintro _ w106 ⟨rfl, hS108⟩; clear hS101
      refine ⟨⟨_, hS108.pick1⟩, ?_⟩
      intro a107 hF109; clear hF100
      refine any_many 1 [(11, some (.bool (x102 != 0)))] [0, 1, 5, 6, 7, 48] #[true, true, true, true, true, true, true, true, true, true, true, true] (by rfl) hF109 (by kernel_rfl) (by kernel_rfl) (by exact (And.intro (fun wS hw => by kernel_rfl) trivial)) (fun _ _ _ _ _ h => h) ⟨_, hS108.pick1⟩ (l' := [(48, .bool (x102 != 0)), (7, nI x72), (6, nI (if 10 < (K1.length : Int) then 10 else (K1.length : Int))), (5, nP z24 0), (0, nI x5), (1, .slice (some ⟨b87, o88, none⟩) K1.length ca1)]) (by kernel_rfl) ?_
      intro a111 hF110; clear hF109
      refine any_done (by kernel_rfl) ?_
      refine thenN ?_
      cases hc112 : (x102 != 0) with
      | true =>
       rw [hc112] at hF110
       have hm113 := ifYes hc112 hm105; clear hm105
       refine ev_condT hF110 rfl rfl ?_
       refine wp_seq (wp_region_lit ?_)
       refine ev_runK 1 hF110 [4] (l' := [(4, .bool false)]) (w' := w106) (by kernel_rfl) ?_
       intro a115 hF114; clear hF110
       refine wpList_nil ?_
       have hS116 := hS108.drop.drop.drop.drop.drop
       clear hS108
       refine thenN ?_
       refine wp_ret ?_
       refine thenR ?_
       refine blockR ?_
       refine thenR (thenR ?_)
       refine blockR ?_
       refine thenR ?_
       obtain rfl := Option.some.inj hm113
       refine ev_ret hF114 [4] (.bool false) rfl rfl rfl ?_
       exact ⟨rfl, hS116⟩
      | false =>
       rw [hc112] at hF110
       have hm118 := ifNot hc112 hm105; clear hm105
       refine ev_condF hF110 rfl rfl ?_
       refine wp_skip ?_
       have hF119 := hF110.keep [0, 1, 5, 6, 7]
       clear hF110
       refine thenN (wp_seq ?_)
       -- draws
       have hS120 := hS108.pick1
       clear hS108
       have hS121 := hS120.drew; clear hS120
       refine any_start (fun wS => ∃ qs, St w0 [] (BlkP z24 32 #[nP z25 0, nP z27 0, .slice p39 L16.length c40, .slice p43 L17.length c44] :: qs) wS) 12 #[false, false, false, false, false, false, false, false, false, false, false, false] (by kernel_rfl) (by kernel_rfl) (by kernel_rfl) ?_
       refine any_many 5 [(0, some (nP z24 0)), (1, some (nP z24 0)), (2, some (nP z24 0)), (3, some (nP z25 0)), (4, some (nP z24 0))] [0, 1, 5, 6, 7, 8, 9, 49, 53, 54, 55, 56, 57, 58] #[true, true, true, true, true, false, false, false, false, false, false, false] (by rfl) hF119 (by kernel_rfl) (by kernel_rfl) (by exact (And.intro (fun wS hw => by kernel_rfl) (And.intro (fun wS hw => by kernel_rfl) (And.intro (fun wS hw => by kernel_rfl) (And.intro (fun wS hw => hw.elim fun qs hw => run_loadV rfl rfl (run_loadS rfl rfl (hw.cell 0 rfl 0 rfl))) (And.intro (fun wS hw => by kernel_rfl) trivial)))))) (fun _ _ _ _ _ h => h) ⟨_, hS121⟩ (l' := [(54, nP z24 0), (53, nP z25 0), (7, nI x72), (6, nI (if 10 < (K1.length : Int) then 10 else (K1.length : Int))), (5, nP z24 0), (0, nI x5), (1, .slice (some ⟨b87, o88, none⟩) K1.length ca1)]) (by kernel_rfl) ?_
       intro a123 hF122; clear hF119
       refine any_call 5 #[true, true, true, true, true, true, false, false, false, false, false, false] 16 #[nP z24 0, nI 0] hF122 rfl (by kernel_rfl) rfl rfl (by kernel_rfl) rfl (by kernel_rfl) (fun w => by kernel_rfl) (by kernel_rfl) ?_
       obtain ⟨x124, s125, s126, hx127, hm128⟩ := bind3E hm118; clear hm118
       refine (law12_ch.ok hS121 hx127).mono ?_
       rintro _ w129 ⟨rfl, hS131⟩; clear hS121
       refine ⟨⟨_, hS131⟩, ?_⟩
       intro a130 hF132; clear hF122
       have hS133 := hS131.pick1
       clear hS131
       refine any_call 6 #[true, true, true, true, true, true, true, false, false, false, false, false] 17 #[nP z25 0, nI x124] hF132 rfl (by kernel_rfl) rfl rfl (by kernel_rfl) rfl (by kernel_rfl) (fun w => by kernel_rfl) (by kernel_rfl) ?_
       obtain ⟨x134, x135, s136, hx137, hm138⟩ := bind3E hm128; clear hm128
       refine (ring_Take.ok hS133 hx137).mono ?_
       rintro _ w139 ⟨rfl, hS141⟩; clear hS133
       refine ⟨⟨_, hS141.pick1⟩, ?_⟩
       intro a140 hF142; clear hF132
       refine any_many 5 [(7, some (.tuple #[nI x134, nI x135])), (8, some (nI x134)), (9, some (nI x135)), (10, some (nI x134)), (11, some (nI x135))] [0, 1, 5, 6, 7, 8, 9] #[true, true, true, true, true, true, true, true, true, true, true, true] (by rfl) hF142 (by kernel_rfl) (by kernel_rfl) (by exact (And.intro (fun wS hw => by kernel_rfl) (And.intro (fun wS hw => by kernel_rfl) (And.intro (fun wS hw => by kernel_rfl) (And.intro (fun wS hw => by kernel_rfl) (And.intro (fun wS hw => by kernel_rfl) trivial)))))) (fun _ _ _ _ _ h => h) ⟨_, hS141.pick1⟩ (l' := [(9, nI x135), (8, nI x134), (7, nI x72), (6, nI (if 10 < (K1.length : Int) then 10 else (K1.length : Int))), (5, nP z24 0), (0, nI x5), (1, .slice (some ⟨b87, o88, none⟩) K1.length ca1)]) (by kernel_rfl) ?_
       intro a144 hF143; clear hF142
       refine any_done (by kernel_rfl) ?_
       refine thenN (wp_seq ?_)
       refine joinQ (fun aI wI => ∃ (y145 : Bool), Fr 126 aI [(68, .bool (y145)), (7, nI x72), (6, nI (if 10 < (K1.length : Int) then 10 else (K1.length : Int))), (5, nP z24 0), (0, nI x5), (1, .slice (some ⟨b87, o88, none⟩) K1.length ca1)] ∧ St w0 [] (HeapP z25 z26 s136 :: BlkP z24 32 #[nP z25 0, nP z27 0, .slice p39 L16.length c40, .slice p43 L17.length c44] :: RHeapP z27 z28 z29 z30 z31 s126 :: RowP (.slice p39 L16.length c40) L16 :: RowP (.slice p43 L17.length c44) L17 :: ps) wI ∧ RingEmpty.j5 x72 (RingEmpty.l4 K1 k x5 L16 L17 k73) s126 s136 y145 = some r0) ?_ ?_
       rotate_left
       · rintro a147 w148 ⟨y145, hF149, hS150, hm151⟩
         clear hF143 hS141 hm138
         unfold RingEmpty.j5 at hm151
         refine thenN ?_
         cases hc153 : (y145) with
         | true =>
          rw [hc153] at hF149
          have hm154 := ifYes hc153 hm151; clear hm151
          refine ev_condT hF149 rfl rfl ?_
          refine wp_seq (wp_region_lit ?_)
          refine ev_runK 1 hF149 [4] (l' := [(4, .bool false)]) (w' := w148) (by kernel_rfl) ?_
          intro a156 hF155; clear hF149
          refine wpList_nil ?_
          have hS157 := hS150.drop.drop.drop.drop.drop
          clear hS150
          refine thenN ?_
          refine wp_ret ?_
          refine blockR ?_
          refine thenR (thenR ?_)
          refine blockR ?_
          refine thenR ?_
          obtain rfl := Option.some.inj hm154
          refine ev_ret hF155 [4] (.bool false) rfl rfl rfl ?_
          exact ⟨rfl, hS157⟩
         | false =>
          rw [hc153] at hF149
          have hm159 := ifNot hc153 hm151; clear hm151
          refine ev_condF hF149 rfl rfl ?_
          refine wp_skip ?_
          have hF160 := hF149.keep [0, 1, 5, 6, 7]
          clear hF149
          refine blockN ?_
          refine thenN (wp_region_lit ?_)
          refine ev_runK 3 hF160 [0, 1, 5, 6, 7] (l' := [(7, nI (IntKind.i64.wrap (x72 + 1))), (6, nI (if 10 < (K1.length : Int) then 10 else (K1.length : Int))), (5, nP z24 0), (0, nI x5), (1, .slice (some ⟨b87, o88, none⟩) K1.length ca1)]) (w' := w148) (by kernel_rfl) ?_
          intro a162 hF161; clear hF160
          refine wpList_nil ?_
          have hS163 := hS150.pick4.pick4.pick4.pick3.pick4
          clear hS150
          exact thenN ⟨k73, Nat.lt_succ_self _, s136, s126, IntKind.i64.wrap (x72 + 1), hF161, hS163, hm159⟩
       · skip
         refine wp_region_lit ?_
         refine ev_runs 3 hF143 (l' := [(61, .bool (x135 != 0)), (60, .bool (x135 != 0)), (59, nI x135), (9, nI x135), (8, nI x134), (7, nI x72), (6, nI (if 10 < (K1.length : Int) then 10 else (K1.length : Int))), (5, nP z24 0), (0, nI x5), (1, .slice (some ⟨b87, o88, none⟩) K1.length ca1)]) (w' := w139) (by kernel_rfl) ?_
         intro a165 hF164; clear hF143
         cases hc166 : (x135 != 0) with
         | true =>
          rw [hc166] at hF164
          have hm167 := ifYes hc166 hm138; clear hm138
          refine ev_runK 7 hF164 [0, 1, 5, 6, 7, 68] (l' := [(68, .bool true), (7, nI x72), (6, nI (if 10 < (K1.length : Int) then 10 else (K1.length : Int))), (5, nP z24 0), (0, nI x5), (1, .slice (some ⟨b87, o88, none⟩) K1.length ca1)]) (w' := w139) (by kernel_rfl) ?_
          intro a169 hF168; clear hF164
          refine wpList_nil ?_
          exact thenN ⟨true, hF168, hS141, hm167⟩
         | false =>
          rw [hc166] at hF164
          have hm170 := ifNot hc166 hm138; clear hm138
          refine ev_runs 3 hF164 (l' := [(64, nI x72), (63, .slice (some ⟨b87, o88, none⟩) K1.length ca1), (62, nI x134), (61, .bool false), (60, .bool false), (59, nI x135), (9, nI x135), (8, nI x134), (7, nI x72), (6, nI (if 10 < (K1.length : Int) then 10 else (K1.length : Int))), (5, nP z24 0), (0, nI x5), (1, .slice (some ⟨b87, o88, none⟩) K1.length ca1)]) (w' := w139) (by kernel_rfl) ?_
          intro a172 hF171; clear hF164
          refine ev_one (nP b87 ((o88 + x72.toNat))) w139 hF171 (by kernel_rfl) rfl (by kernel_rfl) (run_idxO rfl rfl rfl rfl rfl (inR_spec hc85).1 (inR_spec hc85).2 _) (l' := [(65, nP b87 ((o88 + x72.toNat))), (64, nI x72), (63, .slice (some ⟨b87, o88, none⟩) K1.length ca1), (62, nI x134), (61, .bool false), (60, .bool false), (59, nI x135), (9, nI x135), (8, nI x134), (7, nI x72), (6, nI (if 10 < (K1.length : Int) then 10 else (K1.length : Int))), (5, nP z24 0), (0, nI x5), (1, .slice (some ⟨b87, o88, none⟩) K1.length ca1)]) (by kernel_rfl) ?_
          intro a174 hF173; clear hF171
          refine ev_one (nI (atI K1 x72)) w139 hF173 (by kernel_rfl) rfl (by kernel_rfl) (run_load1 rfl rfl rfl (argAt hA1 hS141 hc85)) (l' := [(66, nI (atI K1 x72)), (65, nP b87 ((o88 + x72.toNat))), (64, nI x72), (63, .slice (some ⟨b87, o88, none⟩) K1.length ca1), (62, nI x134), (61, .bool false), (60, .bool false), (59, nI x135), (9, nI x135), (8, nI x134), (7, nI x72), (6, nI (if 10 < (K1.length : Int) then 10 else (K1.length : Int))), (5, nP z24 0), (0, nI x5), (1, .slice (some ⟨b87, o88, none⟩) K1.length ca1)]) (by kernel_rfl) ?_
          intro a176 hF175; clear hF173
          refine ev_runK 2 hF175 [0, 1, 5, 6, 7, 68] (l' := [(68, .bool (x134 != (atI K1 x72))), (7, nI x72), (6, nI (if 10 < (K1.length : Int) then 10 else (K1.length : Int))), (5, nP z24 0), (0, nI x5), (1, .slice (some ⟨b87, o88, none⟩) K1.length ca1)]) (w' := w139) (by kernel_rfl) ?_
          intro a178 hF177; clear hF175
          refine wpList_nil ?_
          exact thenN ⟨x134 != (atI K1 x72), hF177, hS141, hm170⟩
     | false =>
      rw [hc82] at hF80
      have hm179 := ifNot hc82 hm79; clear hm79
      refine ev_condF hF80 rfl rfl ?_
      refine wp_exit ?_
      refine thenE ?_
      refine thenE ?_
      refine blockE ?_
      refine thenN (wp_seq ?_)
      refine joinQ (fun aI wI => ∃ (g180 : Nat) (s181 : HSt) (s182 : HSt) (x183 : Int) (x184 : Int) (x185 : Int) (x186 : Int) (x187 : Int) (x188 : Int) (x189 : Int) (x190 : Int) (x191 : Int) (x192 : Int), Fr 126 aI [(11, nI x192), (10, nP g180 0), (6, nI (if 10 < (K1.length : Int) then 10 else (K1.length : Int))), (5, nP z24 0), (0, nI x5)] ∧ St w0 [] (BlkP g180 37 #[nI x183, nI x184, nI x185, nI x186, nI x187, nI x188, nI x189, nI x190, nI x191] :: HeapP z25 z26 s181 :: BlkP z24 32 #[nP z25 0, nP z27 0, .slice p39 L16.length c40, .slice p43 L17.length c44] :: RHeapP z27 z28 z29 z30 z31 s182 :: RowP (.slice p39 L16.length c40) L16 :: RowP (.slice p43 L17.length c44) L17 :: ps) wI ∧ RingEmpty.j6 K1 k x5 L16 L17 s181 s182 x183 x184 x185 x186 x187 x188 x189 x190 x191 x192 = some r0) ?_ ?_
      rotate_left
      · rintro a194 w195 ⟨g180, s181, s182, x183, x184, x185, x186, x187, x188, x189, x190, x191, x192, hF196, hS197, hm198⟩
        clear hF80 hS77 hm179
        unfold RingEmpty.j6 at hm198
        refine thenN (wp_seq (wp_seq (wp_region_lit ?_)))
        refine ev_runs 1 hF196 (l' := [(12, nI 0), (11, nI x192), (10, nP g180 0), (6, nI (if 10 < (K1.length : Int) then 10 else (K1.length : Int))), (5, nP z24 0), (0, nI x5)]) (w' := w195) (by kernel_rfl) ?_
        intro a201 hF200; clear hF196
        refine wpList_nil (thenN ?_)
        refine wp_block ?_
        refine wp_loop_ghost (fun kI aI wI => ∃ (x202 : Int), Fr 126 aI [(12, nI x202), (11, nI x192), (10, nP g180 0), (6, nI (if 10 < (K1.length : Int) then 10 else (K1.length : Int))), (5, nP z24 0), (0, nI x5)] ∧ St w0 [] (BlkP g180 37 #[nI x183, nI x184, nI x185, nI x186, nI x187, nI x188, nI x189, nI x190, nI x191] :: HeapP z25 z26 s181 :: BlkP z24 32 #[nP z25 0, nP z27 0, .slice p39 L16.length c40, .slice p43 L17.length c44] :: RHeapP z27 z28 z29 z30 z31 s182 :: RowP (.slice p39 L16.length c40) L16 :: RowP (.slice p43 L17.length c44) L17 :: ps) wI ∧ RingEmpty.l9 K1 k x5 L16 L17 s181 s182 x185 x186 x187 x192 kI x202 = some r0) k ⟨0, hF200, hS197, hm198⟩ ?_
        rintro k203 a204 w205 ⟨x202, hF206, hS207, hm208⟩
        clear hF200 hS197 hm198
        cases k203 with
        | zero => cases hm208
        | succ k203 =>
         have hm209 : RingEmpty.l9b K1 k x5 L16 L17 s181 s182 x185 x186 x187 x192 (RingEmpty.l9 K1 k x5 L16 L17 s181 s182 x185 x186 x187 x192 k203) x202 = some r0 := hm208
         clear hm208
         unfold RingEmpty.l9b at hm209
         refine wp_seq (wp_seq (wp_region_lit ?_))
         refine ev_runK 3 hF206 [0, 5, 6, 10, 11, 12, 81] (l' := [(81, .bool (decide (x202 < x5))), (12, nI x202), (11, nI x192), (10, nP g180 0), (6, nI (if 10 < (K1.length : Int) then 10 else (K1.length : Int))), (5, nP z24 0), (0, nI x5)]) (w' := w205) (by kernel_rfl) ?_
         intro a211 hF210; clear hF206
         refine wpList_nil (thenN ?_)
         cases hc212 : (decide (x202 < x5)) with
         | true =>
          rw [hc212] at hF210
          have hm213 := ifYes hc212 hm209; clear hm209
          refine ev_condT hF210 rfl rfl ?_
          refine wp_skip ?_
          have hF214 := hF210.keep [0, 5, 6, 10, 11, 12]
          clear hF210
          refine thenN (wp_seq ?_)
          refine wp_block ?_
          refine wp_seq ?_
          -- draws
          have hS215 := hS207.pick2
          clear hS207
          have hS216 := hS215.drew; clear hS215
          refine any_start (fun wS => ∃ qs, St w0 [] (BlkP z24 32 #[nP z25 0, nP z27 0, .slice p39 L16.length c40, .slice p43 L17.length c44] :: BlkP g180 37 #[nI x183, nI x184, nI x185, nI x186, nI x187, nI x188, nI x189, nI x190, nI x191] :: qs) wS) 13 #[false, false, false, false, false, false, false, false, false, false, false, false, false] (by kernel_rfl) (by kernel_rfl) (by kernel_rfl) ?_
          refine any_many 7 [(0, some (nP z24 0)), (1, some (nP z24 0)), (2, some (nP z24 0)), (3, some (nP z25 0)), (4, some (nP g180 4)), (5, some (nI x187)), (6, some (nI x202))] [0, 5, 6, 10, 11, 12, 13, 14, 84, 88, 90, 91, 92, 93, 94] #[true, true, true, true, true, true, true, false, false, false, false, false, false] (by rfl) hF214 (by kernel_rfl) (by kernel_rfl) (by exact (And.intro (fun wS hw => by kernel_rfl) (And.intro (fun wS hw => by kernel_rfl) (And.intro (fun wS hw => by kernel_rfl) (And.intro (fun wS hw => hw.elim fun qs hw => run_loadV rfl rfl (run_loadS rfl rfl (hw.cell 0 rfl 0 rfl))) (And.intro (fun wS hw => by kernel_rfl) (And.intro (fun wS hw => hw.elim fun qs hw => run_loadV rfl rfl (run_loadS rfl rfl (hw.cell 1 rfl 4 rfl))) (And.intro (fun wS hw => by kernel_rfl) trivial)))))))) (fun _ _ _ _ _ h => h) ⟨_, hS216⟩ (l' := [(91, nI x202), (90, nI x187), (88, nP z25 0), (12, nI x202), (11, nI x192), (10, nP g180 0), (6, nI (if 10 < (K1.length : Int) then 10 else (K1.length : Int))), (5, nP z24 0), (0, nI x5)]) (by kernel_rfl) ?_
          intro a218 hF217; clear hF214
          have hS219 := hS216.pick2
          clear hS216
          refine any_call 7 #[true, true, true, true, true, true, true, true, false, false, false, false, false] 23 #[nP z25 0, nI x187, nI x202] hF217 rfl (by kernel_rfl) rfl rfl (by kernel_rfl) rfl (by kernel_rfl) (fun w => by kernel_rfl) (by kernel_rfl) ?_
          obtain ⟨x220, x221, hx222, hm223⟩ := bind2E hm213; clear hm213
          refine (p_Load hS219 hx222).mono ?_
          rintro _ w224 ⟨rfl, hS226⟩; clear hS219
          refine ⟨⟨_, hS226.pick2.pick2⟩, ?_⟩
          intro a225 hF227; clear hF217
          refine any_many 5 [(8, some (.tuple #[nI x220, nI x221])), (9, some (nI x220)), (10, some (nI x221)), (11, some (nI x220)), (12, some (nI x221))] [0, 5, 6, 10, 11, 12, 13, 14] #[true, true, true, true, true, true, true, true, true, true, true, true, true] (by rfl) hF227 (by kernel_rfl) (by kernel_rfl) (by exact (And.intro (fun wS hw => by kernel_rfl) (And.intro (fun wS hw => by kernel_rfl) (And.intro (fun wS hw => by kernel_rfl) (And.intro (fun wS hw => by kernel_rfl) (And.intro (fun wS hw => by kernel_rfl) trivial)))))) (fun _ _ _ _ _ h => h) ⟨_, hS226.pick2.pick2⟩ (l' := [(14, nI x221), (13, nI x220), (12, nI x202), (11, nI x192), (10, nP g180 0), (6, nI (if 10 < (K1.length : Int) then 10 else (K1.length : Int))), (5, nP z24 0), (0, nI x5)]) (by kernel_rfl) ?_
          intro a229 hF228; clear hF227
          refine any_done (by kernel_rfl) ?_
          refine thenN (wp_seq ?_)
          refine joinQ (fun aI wI => ∃ (y230 : Bool), Fr 126 aI [(100, .bool (y230)), (12, nI x202), (11, nI x192), (10, nP g180 0), (6, nI (if 10 < (K1.length : Int) then 10 else (K1.length : Int))), (5, nP z24 0), (0, nI x5)] ∧ St w0 [] (HeapP z25 z26 s181 :: BlkP z24 32 #[nP z25 0, nP z27 0, .slice p39 L16.length c40, .slice p43 L17.length c44] :: BlkP g180 37 #[nI x183, nI x184, nI x185, nI x186, nI x187, nI x188, nI x189, nI x190, nI x191] :: RHeapP z27 z28 z29 z30 z31 s182 :: RowP (.slice p39 L16.length c40) L16 :: RowP (.slice p43 L17.length c44) L17 :: ps) wI ∧ RingEmpty.j10 x202 (RingEmpty.l9 K1 k x5 L16 L17 s181 s182 x185 x186 x187 x192 k203) y230 = some r0) ?_ ?_
          rotate_left
          · rintro a232 w233 ⟨y230, hF234, hS235, hm236⟩
            clear hF228 hS226 hm223
            unfold RingEmpty.j10 at hm236
            refine thenN ?_
            cases hc238 : (y230) with
            | true =>
             rw [hc238] at hF234
             have hm239 := ifYes hc238 hm236; clear hm236
             refine ev_condT hF234 rfl rfl ?_
             refine wp_seq (wp_region_lit ?_)
             refine ev_runK 1 hF234 [4] (l' := [(4, .bool false)]) (w' := w233) (by kernel_rfl) ?_
             intro a241 hF240; clear hF234
             refine wpList_nil ?_
             have hS242 := hS235.drop.drop.drop.drop.drop.drop
             clear hS235
             refine thenN ?_
             refine wp_ret ?_
             refine blockR ?_
             refine thenR (thenR ?_)
             refine blockR ?_
             refine thenR ?_
             obtain rfl := Option.some.inj hm239
             refine ev_ret hF240 [4] (.bool false) rfl rfl rfl ?_
             exact ⟨rfl, hS242⟩
            | false =>
             rw [hc238] at hF234
             have hm244 := ifNot hc238 hm236; clear hm236
             refine ev_condF hF234 rfl rfl ?_
             refine wp_skip ?_
             have hF245 := hF234.keep [0, 5, 6, 10, 11, 12]
             clear hF234
             refine blockN ?_
             refine thenN (wp_region_lit ?_)
             refine ev_runK 3 hF245 [0, 5, 6, 10, 11, 12] (l' := [(12, nI (IntKind.i64.wrap (x202 + 1))), (11, nI x192), (10, nP g180 0), (6, nI (if 10 < (K1.length : Int) then 10 else (K1.length : Int))), (5, nP z24 0), (0, nI x5)]) (w' := w233) (by kernel_rfl) ?_
             intro a247 hF246; clear hF245
             refine wpList_nil ?_
             have hS248 := hS235.pick5.pick5.pick5.pick4.pick4.pick5
             clear hS235
             exact thenN ⟨k203, Nat.lt_succ_self _, IntKind.i64.wrap (x202 + 1), hF246, hS248, hm244⟩
          · skip
            refine wp_region_lit ?_
            refine ev_runs 3 hF228 (l' := [(97, .bool (x221 != 0)), (96, .bool (x221 != 0)), (95, nI x221), (14, nI x221), (13, nI x220), (12, nI x202), (11, nI x192), (10, nP g180 0), (6, nI (if 10 < (K1.length : Int) then 10 else (K1.length : Int))), (5, nP z24 0), (0, nI x5)]) (w' := w224) (by kernel_rfl) ?_
            intro a250 hF249; clear hF228
            cases hc251 : (x221 != 0) with
            | true =>
             rw [hc251] at hF249
             have hm252 := ifYes hc251 hm223; clear hm223
             refine ev_runK 3 hF249 [0, 5, 6, 10, 11, 12, 100] (l' := [(100, .bool true), (12, nI x202), (11, nI x192), (10, nP g180 0), (6, nI (if 10 < (K1.length : Int) then 10 else (K1.length : Int))), (5, nP z24 0), (0, nI x5)]) (w' := w224) (by kernel_rfl) ?_
             intro a254 hF253; clear hF249
             refine wpList_nil ?_
             exact thenN ⟨true, hF253, hS226, hm252⟩
            | false =>
             rw [hc251] at hF249
             have hm255 := ifNot hc251 hm223; clear hm223
             refine ev_runK 3 hF249 [0, 5, 6, 10, 11, 12, 100] (l' := [(100, .bool (x220 != 0)), (12, nI x202), (11, nI x192), (10, nP g180 0), (6, nI (if 10 < (K1.length : Int) then 10 else (K1.length : Int))), (5, nP z24 0), (0, nI x5)]) (w' := w224) (by kernel_rfl) ?_
             intro a257 hF256; clear hF249
             refine wpList_nil ?_
             exact thenN ⟨x220 != 0, hF256, hS226, hm255⟩
         | false =>
          rw [hc212] at hF210
          have hm258 := ifNot hc212 hm209; clear hm209
          refine ev_condF hF210 rfl rfl ?_
          refine wp_exit ?_
          refine thenE ?_
          refine thenE ?_
          refine blockE ?_
          refine thenN (wp_seq ?_)
          refine joinQ (fun aI wI => ∃ (y259 : Bool), Fr 126 aI [(4, .bool (y259))] ∧ St w0 [] (ps) wI ∧ RingEmpty.j11 y259 = some r0) ?_ ?_
          rotate_left
          · rintro a261 w262 ⟨y259, hF263, hS264, hm265⟩
            clear hF210 hS207 hm258
            unfold RingEmpty.j11 at hm265
            refine thenN ?_
            refine wp_ret ?_
            obtain rfl := Option.some.inj hm265
            refine ev_ret hF263 [4] (.bool (y259)) rfl rfl rfl ?_
            exact ⟨rfl, hS264⟩
          · skip
            -- draws
            obtain ⟨hc268, hm269⟩ := ifFE hm258; clear hm258
            have hS270 := hS207.pick2.pick1
            clear hS207
            have hS271 := hS270.drew; clear hS270
            refine any_start (fun wS => ∃ qs, St w0 [] (BlkP g180 37 #[nI x183, nI x184, nI x185, nI x186, nI x187, nI x188, nI x189, nI x190, nI x191] :: BlkP z24 32 #[nP z25 0, nP z27 0, .slice p39 L16.length c40, .slice p43 L17.length c44] :: qs) wS) 26 #[false, false, false, false, false, false, false, false, false, false, false, false, false, false, false, false, false, false, false, false, false, false, false, false, false, false] (by kernel_rfl) (by kernel_rfl) (by kernel_rfl) ?_
            refine any_many 3 [(0, some (nI x192)), (1, some (.bool (x192 == 0))), (2, some (.bool (x192 == 0)))] [0, 4, 5, 6, 10, 103, 104, 105, 106, 107, 108, 109, 110, 111, 112, 113, 114, 115, 116, 117, 118, 119, 120, 121, 122, 123, 124, 125] #[true, true, true, false, false, false, false, false, false, false, false, false, false, false, false, false, false, false, false, false, false, false, false, false, false, false] (by rfl) hF210 (by kernel_rfl) (by kernel_rfl) (by exact (And.intro (fun wS hw => by kernel_rfl) (And.intro (fun wS hw => by kernel_rfl) (And.intro (fun wS hw => by kernel_rfl) trivial)))) (fun _ _ _ _ _ h => h) ⟨_, hS271⟩ (l' := [(103, .bool (x192 == 0)), (10, nP g180 0), (6, nI (if 10 < (K1.length : Int) then 10 else (K1.length : Int))), (5, nP z24 0), (0, nI x5)]) (by kernel_rfl) ?_
            intro a273 hF272; clear hF210
            cases hc274 : (x192 == 0) with
            | true =>
             rw [hc274] at hF272
             have hm275 := ifYes hc274 hm269; clear hm269
             refine any_many 5 [(3, some (nP g180 2)), (4, some (nI x185)), (5, some (.bool (x185 == 0))), (6, some (.bool (x185 == 0))), (7, some (.bool (x185 == 0)))] [0, 4, 5, 6, 10, 108, 109, 110, 111, 112, 113, 114, 115, 116, 117, 118, 119, 120, 121, 122, 123, 124, 125] #[true, true, true, true, true, true, true, true, false, false, false, false, false, false, false, false, false, false, false, false, false, false, false, false, false, false] (by rfl) hF272 (by kernel_rfl) (by kernel_rfl) (by exact (And.intro (fun wS hw => by kernel_rfl) (And.intro (fun wS hw => hw.elim fun qs hw => run_loadV rfl rfl (run_loadS rfl rfl (hw.cell 0 rfl 2 rfl))) (And.intro (fun wS hw => by kernel_rfl) (And.intro (fun wS hw => by kernel_rfl) (And.intro (fun wS hw => by kernel_rfl) trivial)))))) (fun _ _ _ _ _ h => h) ⟨_, hS271⟩ (l' := [(108, .bool (x185 == 0)), (10, nP g180 0), (6, nI (if 10 < (K1.length : Int) then 10 else (K1.length : Int))), (5, nP z24 0), (0, nI x5)]) (by kernel_rfl) ?_
             intro a277 hF276; clear hF272
             cases hc278 : (x185 == 0) with
             | true =>
              rw [hc278] at hF276
              have hm279 := ifYes hc278 hm275; clear hm275
              refine any_many 8 [(8, some (nP g180 3)), (9, some (nI x186)), (10, some (nI (if 10 < (K1.length : Int) then 10 else (K1.length : Int)))), (11, some (nI x5)), (12, some (nI (Int.tmod (if 10 < (K1.length : Int) then 10 else (K1.length : Int)) x5))), (13, some (.bool (x186 == (Int.tmod (if 10 < (K1.length : Int) then 10 else (K1.length : Int)) x5)))), (14, some (.bool (x186 == (Int.tmod (if 10 < (K1.length : Int) then 10 else (K1.length : Int)) x5)))), (15, some (.bool (x186 == (Int.tmod (if 10 < (K1.length : Int) then 10 else (K1.length : Int)) x5))))] [4, 5, 116, 117, 118, 119, 120, 121, 122, 123, 124, 125] #[true, true, true, true, true, true, true, true, true, true, true, true, true, true, true, true, false, false, false, false, false, false, false, false, false, false] (by rfl) hF276 (by kernel_rfl) (by kernel_rfl) (by exact (And.intro (fun wS hw => by kernel_rfl) (And.intro (fun wS hw => hw.elim fun qs hw => run_loadV rfl rfl (run_loadS rfl rfl (hw.cell 0 rfl 3 rfl))) (And.intro (fun wS hw => by kernel_rfl) (And.intro (fun wS hw => by kernel_rfl) (And.intro (fun wS hw => run_rem rfl rfl rfl hc268 _) (And.intro (fun wS hw => by kernel_rfl) (And.intro (fun wS hw => by kernel_rfl) (And.intro (fun wS hw => by kernel_rfl) trivial))))))))) (fun _ _ _ _ _ h => h) ⟨_, hS271⟩ (l' := [(116, .bool (x186 == (Int.tmod (if 10 < (K1.length : Int) then 10 else (K1.length : Int)) x5))), (5, nP z24 0)]) (by kernel_rfl) ?_
              intro a281 hF280; clear hF276
              cases hc282 : (x186 == (Int.tmod (if 10 < (K1.length : Int) then 10 else (K1.length : Int)) x5)) with
              | true =>
               rw [hc282] at hF280
               have hm283 := ifYes hc282 hm279; clear hm279
               refine any_many 5 [(16, some (nP z24 0)), (17, some (nP z24 0)), (18, some (nP z24 0)), (19, some (nP z25 0)), (20, some (nP z24 0))] [4, 116, 120, 121, 122, 123, 124, 125] #[true, true, true, true, true, true, true, true, true, true, true, true, true, true, true, true, true, true, true, true, true, false, false, false, false, false] (by rfl) hF280 (by kernel_rfl) (by kernel_rfl) (by exact (And.intro (fun wS hw => by kernel_rfl) (And.intro (fun wS hw => by kernel_rfl) (And.intro (fun wS hw => by kernel_rfl) (And.intro (fun wS hw => hw.elim fun qs hw => run_loadV rfl rfl (run_loadS rfl rfl (hw.cell 1 rfl 0 rfl))) (And.intro (fun wS hw => by kernel_rfl) trivial)))))) (fun _ _ _ _ _ h => h) ⟨_, hS271⟩ (l' := [(121, nP z24 0), (120, nP z25 0), (116, .bool true)]) (by kernel_rfl) ?_
               intro a285 hF284; clear hF280
               have hS286 := hS271.pick5.pick5.pick5.pick5.pick5
               clear hS271
               refine any_call 21 #[true, true, true, true, true, true, true, true, true, true, true, true, true, true, true, true, true, true, true, true, true, true, false, false, false, false] 16 #[nP z24 0, nI 0] hF284 rfl (by kernel_rfl) rfl rfl (by kernel_rfl) rfl (by kernel_rfl) (fun w => by kernel_rfl) (by kernel_rfl) ?_
               obtain ⟨x287, s288, s289, hx290, hm291⟩ := bind3E hm283; clear hm283
               refine (law12_ch.ok hS286 hx290).mono ?_
               rintro _ w292 ⟨rfl, hS294⟩; clear hS286
               refine ⟨⟨_, hS294.pick5⟩, ?_⟩
               intro a293 hF295; clear hF284
               have hS296 := hS294.pick1
               clear hS294
               refine any_call 22 #[true, true, true, true, true, true, true, true, true, true, true, true, true, true, true, true, true, true, true, true, true, true, true, false, false, false] 20 #[nP z25 0, nI x287] hF295 rfl (by kernel_rfl) rfl rfl (by kernel_rfl) rfl (by kernel_rfl) (fun w => by kernel_rfl) (by kernel_rfl) ?_
               obtain ⟨L297, s298, hx299, hm300⟩ := bind2E hm291; clear hm291
               refine (ring_All.ok hS296 hx299).mono ?_
               rintro _ w301 ⟨z305, rfl, hS303⟩; clear hS296
               obtain ⟨hl310, p307, c308, rfl, hp309⟩ := St.shape hS303 1 rfl
               refine ⟨⟨_, hS303.pick2.pick6⟩, ?_⟩
               intro a302 hF304; clear hF295
               have hS312 : St w0 [] (RowP (.slice none 0 0) [] :: HeapP z25 z26 s298 :: RowP (.slice p307 L297.length c308) L297 :: BlkP z24 32 #[nP z25 0, nP z27 0, .slice p39 L16.length c40, .slice p43 L17.length c44] :: RHeapP z27 z28 z29 z30 z31 s289 :: RowP (.slice p39 L16.length c40) L16 :: RowP (.slice p43 L17.length c44) L17 :: BlkP g180 37 #[nI x183, nI x184, nI x185, nI x186, nI x187, nI x188, nI x189, nI x190, nI x191] :: ps) w301 := St.nil hS303
               clear hS303
               have hS313 := hS312.pick2
               clear hS312
               refine any_call 23 #[true, true, true, true, true, true, true, true, true, true, true, true, true, true, true, true, true, true, true, true, true, true, true, true, false, false] 19 #[.slice p307 L297.length c308, .slice none 0 0] hF304 rfl (by kernel_rfl) rfl rfl (by kernel_rfl) rfl (by kernel_rfl) (fun w => by kernel_rfl) (by kernel_rfl) ?_
               obtain ⟨y314, hx315, hm316⟩ := bind1E hm300; clear hm300
               refine (help_Plain.ok hS313 hx315).mono ?_
               rintro _ w317 ⟨rfl, hS319⟩; clear hS313
               refine ⟨⟨_, hS319.pick3.pick7⟩, ?_⟩
               intro a318 hF320; clear hF304
               refine any_many 2 [(24, some (.bool (y314))), (25, some (.bool (y314)))] [4] #[true, true, true, true, true, true, true, true, true, true, true, true, true, true, true, true, true, true, true, true, true, true, true, true, true, true] (by rfl) hF320 (by kernel_rfl) (by kernel_rfl) (by exact (And.intro (fun wS hw => by kernel_rfl) (And.intro (fun wS hw => by kernel_rfl) trivial))) (fun _ _ _ _ _ h => h) ⟨_, hS319.pick3.pick7⟩ (l' := [(4, .bool (y314))]) (by kernel_rfl) ?_
               intro a322 hF321; clear hF320
               refine any_done (by kernel_rfl) ?_
               have hS323 := hS319.drop.drop.drop.drop.drop.drop.drop.drop
               clear hS319
               exact thenN ⟨y314, hF321, hS323, hm316⟩
              | false =>
               rw [hc282] at hF280
               have hm324 := ifNot hc282 hm279; clear hm279
               refine any_many 10 [(16, none), (17, none), (18, none), (19, none), (20, none), (21, none), (22, none), (23, none), (24, some (.bool false)), (25, some (.bool false))] [4] #[true, true, true, true, true, true, true, true, true, true, true, true, true, true, true, true, true, true, true, true, true, true, true, true, true, true] (by rfl) hF280 (by kernel_rfl) (by kernel_rfl) (by exact (And.intro trivial (And.intro trivial (And.intro trivial (And.intro trivial (And.intro trivial (And.intro trivial (And.intro trivial (And.intro trivial (And.intro (fun wS hw => by kernel_rfl) (And.intro (fun wS hw => by kernel_rfl) trivial))))))))))) (fun _ _ _ _ _ h => h) ⟨_, hS271⟩ (l' := [(4, .bool false)]) (by kernel_rfl) ?_
               intro a326 hF325; clear hF280
               refine any_done (by kernel_rfl) ?_
               have hS327 := hS271.drop.drop.drop.drop.drop.drop
               clear hS271
               exact thenN ⟨false, hF325, hS327, hm324⟩
             | false =>
              rw [hc278] at hF276
              have hm328 := ifNot hc278 hm275; clear hm275
              refine any_many 18 [(8, none), (9, none), (10, none), (11, none), (12, none), (13, none), (14, some (.bool false)), (15, some (.bool false)), (16, none), (17, none), (18, none), (19, none), (20, none), (21, none), (22, none), (23, none), (24, some (.bool false)), (25, some (.bool false))] [4] #[true, true, true, true, true, true, true, true, true, true, true, true, true, true, true, true, true, true, true, true, true, true, true, true, true, true] (by rfl) hF276 (by kernel_rfl) (by kernel_rfl) (by exact (And.intro trivial (And.intro trivial (And.intro trivial (And.intro trivial (And.intro trivial (And.intro trivial (And.intro (fun wS hw => by kernel_rfl) (And.intro (fun wS hw => by kernel_rfl) (And.intro trivial (And.intro trivial (And.intro trivial (And.intro trivial (And.intro trivial (And.intro trivial (And.intro trivial (And.intro trivial (And.intro (fun wS hw => by kernel_rfl) (And.intro (fun wS hw => by kernel_rfl) trivial))))))))))))))))))) (fun _ _ _ _ _ h => h) ⟨_, hS271⟩ (l' := [(4, .bool false)]) (by kernel_rfl) ?_
              intro a330 hF329; clear hF276
              refine any_done (by kernel_rfl) ?_
              have hS331 := hS271.drop.drop.drop.drop.drop.drop
              clear hS271
              exact thenN ⟨false, hF329, hS331, hm328⟩
            | false =>
             rw [hc274] at hF272
             have hm332 := ifNot hc274 hm269; clear hm269
             refine any_many 23 [(3, none), (4, none), (5, none), (6, some (.bool false)), (7, some (.bool false)), (8, none), (9, none), (10, none), (11, none), (12, none), (13, none), (14, some (.bool false)), (15, some (.bool false)), (16, none), (17, none), (18, none), (19, none), (20, none), (21, none), (22, none), (23, none), (24, some (.bool false)), (25, some (.bool false))] [4] #[true, true, true, true, true, true, true, true, true, true, true, true, true, true, true, true, true, true, true, true, true, true, true, true, true, true] (by rfl) hF272 (by kernel_rfl) (by kernel_rfl) (by exact (And.intro trivial (And.intro trivial (And.intro trivial (And.intro (fun wS hw => by kernel_rfl) (And.intro (fun wS hw => by kernel_rfl) (And.intro trivial (And.intro trivial (And.intro trivial (And.intro trivial (And.intro trivial (And.intro trivial (And.intro (fun wS hw => by kernel_rfl) (And.intro (fun wS hw => by kernel_rfl) (And.intro trivial (And.intro trivial (And.intro trivial (And.intro trivial (And.intro trivial (And.intro trivial (And.intro trivial (And.intro trivial (And.intro (fun wS hw => by kernel_rfl) (And.intro (fun wS hw => by kernel_rfl) trivial)))))))))))))))))))))))) (fun _ _ _ _ _ h => h) ⟨_, hS271⟩ (l' := [(4, .bool false)]) (by kernel_rfl) ?_
             intro a334 hF333; clear hF272
             refine any_done (by kernel_rfl) ?_
             have hS335 := hS271.drop.drop.drop.drop.drop.drop
             clear hS271
             exact thenN ⟨false, hF333, hS335, hm332⟩
      · skip
        -- draws
        have hS336 := hS77.drew; clear hS77
        refine any_start (fun wS => ∃ qs, St w0 [] (BlkP z24 32 #[nP z25 0, nP z27 0, .slice p39 L16.length c40, .slice p43 L17.length c44] :: qs) wS) 13 #[false, false, false, false, false, false, false, false, false, false, false, false, false] (by kernel_rfl) (by kernel_rfl) (by kernel_rfl) ?_
        refine any_many 5 [(0, some (nP z24 0)), (1, some (nP z24 0)), (2, some (nP z24 0)), (3, some (nP z25 0)), (4, some (nP z24 0))] [0, 5, 6, 10, 11, 69, 73, 74, 75, 76, 77, 78] #[true, true, true, true, true, false, false, false, false, false, false, false, false] (by rfl) hF80 (by kernel_rfl) (by kernel_rfl) (by exact (And.intro (fun wS hw => by kernel_rfl) (And.intro (fun wS hw => by kernel_rfl) (And.intro (fun wS hw => by kernel_rfl) (And.intro (fun wS hw => hw.elim fun qs hw => run_loadV rfl rfl (run_loadS rfl rfl (hw.cell 0 rfl 0 rfl))) (And.intro (fun wS hw => by kernel_rfl) trivial)))))) (fun _ _ _ _ _ h => h) ⟨_, hS336⟩ (l' := [(74, nP z24 0), (73, nP z25 0), (6, nI (if 10 < (K1.length : Int) then 10 else (K1.length : Int))), (5, nP z24 0), (0, nI x5)]) (by kernel_rfl) ?_
        intro a338 hF337; clear hF80
        refine any_two 5 10 (by kernel_rfl) ?_ ?_
        · skip
          refine op_call 5 #[true, true, true, true, true, true, false, false, false, false, false, false, false] 16 #[nP z24 0, nI 0] hF337 rfl rfl rfl (by kernel_rfl) rfl (by kernel_rfl) (fun w => by kernel_rfl) (by kernel_rfl) ?_
          obtain ⟨x339, s340, s341, hx342, hm343⟩ := bind3E hm179; clear hm179
          refine (law12_ch.ok hS336 hx342).mono ?_
          rintro _ w344 ⟨rfl, hS346⟩; clear hS336
          refine ⟨⟨_, hS346⟩, ?_⟩
          intro a345 hF347; clear hF337
          refine any_two 6 10 (by kernel_rfl) ?_ ?_
          · skip
            have hS348 := hS346.pick1
            clear hS346
            refine op_call 6 #[true, true, true, true, true, true, true, false, false, false, false, false, false] 18 #[nP z25 0, nI x339] hF347 rfl rfl rfl (by kernel_rfl) rfl (by kernel_rfl) (fun w => by kernel_rfl) (by kernel_rfl) ?_
            obtain ⟨q349, x350, hx351, hm352⟩ := bind2E hm343; clear hm343
            refine (p_Chan hS348 hx351).mono ?_
            rintro _ w353 ⟨rfl, hS355⟩; clear hS348
            refine ⟨⟨_, hS355.pick1⟩, ?_⟩
            intro a354 hF356; clear hF347
            refine any_many 3 [(7, some (.tuple #[.agg #[nI (q349.cap), nI (q349.closed), nI (q349.count), nI (q349.start), nI (q349.buf), nI (q349.th), nI (q349.tt), nI (q349.sh), nI (q349.st)], nI x350])), (8, some (.agg #[nI (q349.cap), nI (q349.closed), nI (q349.count), nI (q349.start), nI (q349.buf), nI (q349.th), nI (q349.tt), nI (q349.sh), nI (q349.st)])), (9, some (nI x350))] [0, 5, 6, 10, 11, 77, 78] #[true, true, true, true, true, true, true, true, true, true, false, false, false] (by rfl) hF356 (by kernel_rfl) (by kernel_rfl) (by exact (And.intro (fun wS hw => by kernel_rfl) (And.intro (fun wS hw => by kernel_rfl) (And.intro (fun wS hw => by kernel_rfl) trivial)))) (fun _ _ _ _ _ h => h) ⟨_, hS355.pick1⟩ (l' := [(78, nI x350), (77, .agg #[nI (q349.cap), nI (q349.closed), nI (q349.count), nI (q349.start), nI (q349.buf), nI (q349.th), nI (q349.tt), nI (q349.sh), nI (q349.st)]), (6, nI (if 10 < (K1.length : Int) then 10 else (K1.length : Int))), (5, nP z24 0), (0, nI x5)]) (by kernel_rfl) ?_
            intro a358 hF357; clear hF356
            refine any_one 10 (by kernel_rfl) ?_
            have hS359 : St w0 [] (BlkP (w353.heap.size) 37 #[nI 0, nI 0, nI 0, nI 0, nI 0, nI 0, nI 0, nI 0, nI 0] :: HeapP z25 z26 s340 :: BlkP z24 32 #[nP z25 0, nP z27 0, .slice p39 L16.length c40, .slice p43 L17.length c44] :: RHeapP z27 z28 z29 z30 z31 s341 :: RowP (.slice p39 L16.length c40) L16 :: RowP (.slice p43 L17.length c44) L17 :: ps) (w353.alloc (.cells #[nI 0, nI 0, nI 0, nI 0, nI 0, nI 0, nI 0, nI 0, nI 0] 37)) := St.new hS355 #[nI 0, nI 0, nI 0, nI 0, nI 0, nI 0, nI 0, nI 0, nI 0] 37
            clear hS355
            refine op_step 10 #[true, true, true, true, true, true, true, true, true, true, true, false, false] (nP (w353.heap.size) 0) (w353.alloc (.cells #[nI 0, nI 0, nI 0, nI 0, nI 0, nI 0, nI 0, nI 0, nI 0] 37)) hF357 rfl (by kernel_rfl) rfl (by kernel_rfl) (by kernel_rfl) (l' := [(10, nP (w353.heap.size) 0), (78, nI x350), (77, .agg #[nI (q349.cap), nI (q349.closed), nI (q349.count), nI (q349.start), nI (q349.buf), nI (q349.th), nI (q349.tt), nI (q349.sh), nI (q349.st)]), (6, nI (if 10 < (K1.length : Int) then 10 else (K1.length : Int))), (5, nP z24 0), (0, nI x5)]) (by kernel_rfl) ⟨_, hS359.pick2⟩ (by kernel_rfl) ?_
            intro a361 hF360; clear hF357
            refine any_one 11 (by kernel_rfl) ?_
            refine op_store 11 #[true, true, true, true, true, true, true, true, true, true, true, true, false] (.agg #[nI (q349.cap), nI (q349.closed), nI (q349.count), nI (q349.start), nI (q349.buf), nI (q349.th), nI (q349.tt), nI (q349.sh), nI (q349.st)]) #[nI (q349.cap), nI (q349.closed), nI (q349.count), nI (q349.start), nI (q349.buf), nI (q349.th), nI (q349.tt), nI (q349.sh), nI (q349.st)] hF360 rfl (by kernel_rfl) rfl rfl rfl rfl (by kernel_rfl) hS359 (by kernel_rfl) (by kernel_rfl) (by kernel_rfl) (l' := [(10, nP (w353.heap.size) 0), (78, nI x350), (77, .agg #[nI (q349.cap), nI (q349.closed), nI (q349.count), nI (q349.start), nI (q349.buf), nI (q349.th), nI (q349.tt), nI (q349.sh), nI (q349.st)]), (6, nI (if 10 < (K1.length : Int) then 10 else (K1.length : Int))), (5, nP z24 0), (0, nI x5)]) (by kernel_rfl) (by kernel_rfl) ?_
            intro w362 a363 hS364 hF365; clear hF360 hS359
            refine ⟨⟨_, hS364.pick2⟩, ?_⟩
            refine any_many 1 [(12, some (nI x350))] [0, 5, 6, 10, 11] #[true, true, true, true, true, true, true, true, true, true, true, true, true] (by rfl) hF365 (by kernel_rfl) (by kernel_rfl) (by exact (And.intro (fun wS hw => by kernel_rfl) trivial)) (fun _ _ _ _ _ h => h) ⟨_, hS364.pick2⟩ (l' := [(11, nI x350), (10, nP (w353.heap.size) 0), (6, nI (if 10 < (K1.length : Int) then 10 else (K1.length : Int))), (5, nP z24 0), (0, nI x5)]) (by kernel_rfl) ?_
            intro a367 hF366; clear hF365
            refine any_done (by kernel_rfl) ?_
            exact thenN ⟨(w353.heap.size), s340, s341, q349.cap, q349.closed, q349.count, q349.start, q349.buf, q349.th, q349.tt, q349.sh, q349.st, x350, hF366, hS364, hm352⟩
          · skip
            have hS368 : St w0 [] (BlkP (w344.heap.size) 37 #[nI 0, nI 0, nI 0, nI 0, nI 0, nI 0, nI 0, nI 0, nI 0] :: BlkP z24 32 #[nP z25 0, nP z27 0, .slice p39 L16.length c40, .slice p43 L17.length c44] :: HeapP z25 z26 s340 :: RHeapP z27 z28 z29 z30 z31 s341 :: RowP (.slice p39 L16.length c40) L16 :: RowP (.slice p43 L17.length c44) L17 :: ps) (w344.alloc (.cells #[nI 0, nI 0, nI 0, nI 0, nI 0, nI 0, nI 0, nI 0, nI 0] 37)) := St.new hS346 #[nI 0, nI 0, nI 0, nI 0, nI 0, nI 0, nI 0, nI 0, nI 0] 37
            clear hS346
            refine op_step 10 #[true, true, true, true, true, true, false, false, false, false, true, false, false] (nP (w344.heap.size) 0) (w344.alloc (.cells #[nI 0, nI 0, nI 0, nI 0, nI 0, nI 0, nI 0, nI 0, nI 0] 37)) hF347 rfl (by kernel_rfl) rfl (by kernel_rfl) (by kernel_rfl) (l' := [(10, nP (w344.heap.size) 0), (75, nI x339), (74, nP z24 0), (73, nP z25 0), (6, nI (if 10 < (K1.length : Int) then 10 else (K1.length : Int))), (5, nP z24 0), (0, nI x5)]) (by kernel_rfl) ⟨_, hS368.pick1⟩ (by kernel_rfl) ?_
            intro a370 hF369; clear hF347
            have hS371 := hS368.pick2
            clear hS368
            refine any_call 6 #[true, true, true, true, true, true, true, false, false, false, true, false, false] 18 #[nP z25 0, nI x339] hF369 rfl (by kernel_rfl) rfl rfl (by kernel_rfl) rfl (by kernel_rfl) (fun w => by kernel_rfl) (by kernel_rfl) ?_
            obtain ⟨q372, x373, hx374, hm375⟩ := bind2E hm343; clear hm343
            refine (p_Chan hS371 hx374).mono ?_
            rintro _ w376 ⟨rfl, hS378⟩; clear hS371
            refine ⟨⟨_, hS378.pick2⟩, ?_⟩
            intro a377 hF379; clear hF369
            refine any_many 3 [(7, some (.tuple #[.agg #[nI (q372.cap), nI (q372.closed), nI (q372.count), nI (q372.start), nI (q372.buf), nI (q372.th), nI (q372.tt), nI (q372.sh), nI (q372.st)], nI x373])), (8, some (.agg #[nI (q372.cap), nI (q372.closed), nI (q372.count), nI (q372.start), nI (q372.buf), nI (q372.th), nI (q372.tt), nI (q372.sh), nI (q372.st)])), (9, some (nI x373))] [0, 5, 6, 10, 11, 77, 78] #[true, true, true, true, true, true, true, true, true, true, true, false, false] (by rfl) hF379 (by kernel_rfl) (by kernel_rfl) (by exact (And.intro (fun wS hw => by kernel_rfl) (And.intro (fun wS hw => by kernel_rfl) (And.intro (fun wS hw => by kernel_rfl) trivial)))) (fun _ _ _ _ _ h => h) ⟨_, hS378.pick2⟩ (l' := [(78, nI x373), (77, .agg #[nI (q372.cap), nI (q372.closed), nI (q372.count), nI (q372.start), nI (q372.buf), nI (q372.th), nI (q372.tt), nI (q372.sh), nI (q372.st)]), (10, nP (w344.heap.size) 0), (6, nI (if 10 < (K1.length : Int) then 10 else (K1.length : Int))), (5, nP z24 0), (0, nI x5)]) (by kernel_rfl) ?_
            intro a381 hF380; clear hF379
            refine any_one 11 (by kernel_rfl) ?_
            have hS382 := hS378.pick1
            clear hS378
            refine op_store 11 #[true, true, true, true, true, true, true, true, true, true, true, true, false] (.agg #[nI (q372.cap), nI (q372.closed), nI (q372.count), nI (q372.start), nI (q372.buf), nI (q372.th), nI (q372.tt), nI (q372.sh), nI (q372.st)]) #[nI (q372.cap), nI (q372.closed), nI (q372.count), nI (q372.start), nI (q372.buf), nI (q372.th), nI (q372.tt), nI (q372.sh), nI (q372.st)] hF380 rfl (by kernel_rfl) rfl rfl rfl rfl (by kernel_rfl) hS382 (by kernel_rfl) (by kernel_rfl) (by kernel_rfl) (l' := [(78, nI x373), (77, .agg #[nI (q372.cap), nI (q372.closed), nI (q372.count), nI (q372.start), nI (q372.buf), nI (q372.th), nI (q372.tt), nI (q372.sh), nI (q372.st)]), (10, nP (w344.heap.size) 0), (6, nI (if 10 < (K1.length : Int) then 10 else (K1.length : Int))), (5, nP z24 0), (0, nI x5)]) (by kernel_rfl) (by kernel_rfl) ?_
            intro w383 a384 hS385 hF386; clear hF380 hS382
            refine ⟨⟨_, hS385.pick2⟩, ?_⟩
            refine any_many 1 [(12, some (nI x373))] [0, 5, 6, 10, 11] #[true, true, true, true, true, true, true, true, true, true, true, true, true] (by rfl) hF386 (by kernel_rfl) (by kernel_rfl) (by exact (And.intro (fun wS hw => by kernel_rfl) trivial)) (fun _ _ _ _ _ h => h) ⟨_, hS385.pick2⟩ (l' := [(11, nI x373), (10, nP (w344.heap.size) 0), (6, nI (if 10 < (K1.length : Int) then 10 else (K1.length : Int))), (5, nP z24 0), (0, nI x5)]) (by kernel_rfl) ?_
            intro a388 hF387; clear hF386
            refine any_done (by kernel_rfl) ?_
            exact thenN ⟨(w344.heap.size), s340, s341, q372.cap, q372.closed, q372.count, q372.start, q372.buf, q372.th, q372.tt, q372.sh, q372.st, x373, hF387, hS385, hm375⟩
        · skip
          have hS389 : St w0 [] (BlkP ((w75.drew).heap.size) 37 #[nI 0, nI 0, nI 0, nI 0, nI 0, nI 0, nI 0, nI 0, nI 0] :: BlkP z24 32 #[nP z25 0, nP z27 0, .slice p39 L16.length c40, .slice p43 L17.length c44] :: HeapP z25 z26 s70 :: RHeapP z27 z28 z29 z30 z31 s71 :: RowP (.slice p39 L16.length c40) L16 :: RowP (.slice p43 L17.length c44) L17 :: ps) ((w75.drew).alloc (.cells #[nI 0, nI 0, nI 0, nI 0, nI 0, nI 0, nI 0, nI 0, nI 0] 37)) := St.new hS336 #[nI 0, nI 0, nI 0, nI 0, nI 0, nI 0, nI 0, nI 0, nI 0] 37
          clear hS336
          refine op_step 10 #[true, true, true, true, true, false, false, false, false, false, true, false, false] (nP ((w75.drew).heap.size) 0) ((w75.drew).alloc (.cells #[nI 0, nI 0, nI 0, nI 0, nI 0, nI 0, nI 0, nI 0, nI 0] 37)) hF337 rfl (by kernel_rfl) rfl (by kernel_rfl) (by kernel_rfl) (l' := [(10, nP ((w75.drew).heap.size) 0), (74, nP z24 0), (73, nP z25 0), (6, nI (if 10 < (K1.length : Int) then 10 else (K1.length : Int))), (5, nP z24 0), (0, nI x5)]) (by kernel_rfl) ⟨_, hS389.pick1⟩ (by kernel_rfl) ?_
          intro a391 hF390; clear hF337
          have hS392 := hS389.pick5.pick5.pick5.pick5.pick5
          clear hS389
          refine any_call 5 #[true, true, true, true, true, true, false, false, false, false, true, false, false] 16 #[nP z24 0, nI 0] hF390 rfl (by kernel_rfl) rfl rfl (by kernel_rfl) rfl (by kernel_rfl) (fun w => by kernel_rfl) (by kernel_rfl) ?_
          obtain ⟨x393, s394, s395, hx396, hm397⟩ := bind3E hm179; clear hm179
          refine (law12_ch.ok hS392 hx396).mono ?_
          rintro _ w398 ⟨rfl, hS400⟩; clear hS392
          refine ⟨⟨_, hS400⟩, ?_⟩
          intro a399 hF401; clear hF390
          have hS402 := hS400.pick1
          clear hS400
          refine any_call 6 #[true, true, true, true, true, true, true, false, false, false, true, false, false] 18 #[nP z25 0, nI x393] hF401 rfl (by kernel_rfl) rfl rfl (by kernel_rfl) rfl (by kernel_rfl) (fun w => by kernel_rfl) (by kernel_rfl) ?_
          obtain ⟨q403, x404, hx405, hm406⟩ := bind2E hm397; clear hm397
          refine (p_Chan hS402 hx405).mono ?_
          rintro _ w407 ⟨rfl, hS409⟩; clear hS402
          refine ⟨⟨_, hS409.pick1⟩, ?_⟩
          intro a408 hF410; clear hF401
          refine any_many 3 [(7, some (.tuple #[.agg #[nI (q403.cap), nI (q403.closed), nI (q403.count), nI (q403.start), nI (q403.buf), nI (q403.th), nI (q403.tt), nI (q403.sh), nI (q403.st)], nI x404])), (8, some (.agg #[nI (q403.cap), nI (q403.closed), nI (q403.count), nI (q403.start), nI (q403.buf), nI (q403.th), nI (q403.tt), nI (q403.sh), nI (q403.st)])), (9, some (nI x404))] [0, 5, 6, 10, 11, 77, 78] #[true, true, true, true, true, true, true, true, true, true, true, false, false] (by rfl) hF410 (by kernel_rfl) (by kernel_rfl) (by exact (And.intro (fun wS hw => by kernel_rfl) (And.intro (fun wS hw => by kernel_rfl) (And.intro (fun wS hw => by kernel_rfl) trivial)))) (fun _ _ _ _ _ h => h) ⟨_, hS409.pick1⟩ (l' := [(78, nI x404), (77, .agg #[nI (q403.cap), nI (q403.closed), nI (q403.count), nI (q403.start), nI (q403.buf), nI (q403.th), nI (q403.tt), nI (q403.sh), nI (q403.st)]), (10, nP ((w75.drew).heap.size) 0), (6, nI (if 10 < (K1.length : Int) then 10 else (K1.length : Int))), (5, nP z24 0), (0, nI x5)]) (by kernel_rfl) ?_
          intro a412 hF411; clear hF410
          refine any_one 11 (by kernel_rfl) ?_
          have hS413 := hS409.pick5
          clear hS409
          refine op_store 11 #[true, true, true, true, true, true, true, true, true, true, true, true, false] (.agg #[nI (q403.cap), nI (q403.closed), nI (q403.count), nI (q403.start), nI (q403.buf), nI (q403.th), nI (q403.tt), nI (q403.sh), nI (q403.st)]) #[nI (q403.cap), nI (q403.closed), nI (q403.count), nI (q403.start), nI (q403.buf), nI (q403.th), nI (q403.tt), nI (q403.sh), nI (q403.st)] hF411 rfl (by kernel_rfl) rfl rfl rfl rfl (by kernel_rfl) hS413 (by kernel_rfl) (by kernel_rfl) (by kernel_rfl) (l' := [(78, nI x404), (77, .agg #[nI (q403.cap), nI (q403.closed), nI (q403.count), nI (q403.start), nI (q403.buf), nI (q403.th), nI (q403.tt), nI (q403.sh), nI (q403.st)]), (10, nP ((w75.drew).heap.size) 0), (6, nI (if 10 < (K1.length : Int) then 10 else (K1.length : Int))), (5, nP z24 0), (0, nI x5)]) (by kernel_rfl) (by kernel_rfl) ?_
          intro w414 a415 hS416 hF417; clear hF411 hS413
          refine ⟨⟨_, hS416.pick2⟩, ?_⟩
          refine any_many 1 [(12, some (nI x404))] [0, 5, 6, 10, 11] #[true, true, true, true, true, true, true, true, true, true, true, true, true] (by rfl) hF417 (by kernel_rfl) (by kernel_rfl) (by exact (And.intro (fun wS hw => by kernel_rfl) trivial)) (fun _ _ _ _ _ h => h) ⟨_, hS416.pick2⟩ (l' := [(11, nI x404), (10, nP ((w75.drew).heap.size) 0), (6, nI (if 10 < (K1.length : Int) then 10 else (K1.length : Int))), (5, nP z24 0), (0, nI x5)]) (by kernel_rfl) ?_
          intro a419 hF418; clear hF417
          refine any_done (by kernel_rfl) ?_
          exact thenN ⟨((w75.drew).heap.size), s394, s395, q403.cap, q403.closed, q403.count, q403.start, q403.buf, q403.th, q403.tt, q403.sh, q403.st, x404, hF418, hS416, hm406⟩
 · skip
   refine wp_region_lit ?_
   refine ev_call 14 #[] hF47 rfl rfl (by kernel_rfl) rfl (by kernel_rfl) (fun w => by kernel_rfl) ?_
   obtain ⟨y420, hx421, hm422⟩ := bind1E hm19; clear hm19
   refine (law12_awake.ok hS49 hx421).mono ?_
   rintro _ w423 ⟨rfl, hS425⟩ a424 hF426; clear hF47 hS49
   refine ev_runs 2 hF426 (l' := [(25, .bool (!(y420))), (24, .bool (!(y420))), (23, .bool (y420)), (5, nP z24 0), (0, nI x5), (1, .slice pa1 K1.length ca1)]) (w' := w423) (by kernel_rfl) ?_
   intro a428 hF427; clear hF426
   cases hc429 : (!(y420)) with
   | true =>
    rw [hc429] at hF427
    have hm430 := ifYes hc429 hm422; clear hm422
    refine ev_runK 3 hF427 [0, 1, 5, 28] (l' := [(28, .bool true), (5, nP z24 0), (0, nI x5), (1, .slice pa1 K1.length ca1)]) (w' := w423) (by kernel_rfl) ?_
    intro a432 hF431; clear hF427
    refine wpList_nil ?_
    exact thenN ⟨true, hF431, hS425, hm430⟩
   | false =>
    rw [hc429] at hF427
    have hm433 := ifNot hc429 hm422; clear hm422
    refine ev_runK 3 hF427 [0, 1, 5, 28] (l' := [(28, .bool false), (5, nP z24 0), (0, nI x5), (1, .slice pa1 K1.length ca1)]) (w' := w423) (by kernel_rfl) ?_
    intro a435 hF434; clear hF427
    refine wpList_nil ?_
    exact thenN ⟨false, hF434, hS425, hm433⟩

end Go.Proofs.YtaihdiccmaincaaGreat
