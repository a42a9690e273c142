/- G15 GSendOnce -/
import Derived.Test.YtgejcjcpchofiaaGreatKG15w
import Derived.Test.YtgejcjcpchofiaaGreatKGSend
import Derived.Deep.LoopGhost
import Derived.KernelRfl
/- The walks of G15, printed by gen/walk.py. -/
namespace Go.Proofs.YtgejcjcpchofiaaGreat
open Go.RowKit
set_option linter.unusedVariables false

def law15_awake.j1 (y100 : Bool) : Option (Bool) := some (y100)
def law15_awake.m (k : Nat) : Option (Bool) := bind4 (law15_made.m k [1] 1) fun s7 s8 L9 L10 => bind3 (law15_ch.m k s7 s8 L9 L10 0) fun x50 s51 s52 => bind3 (send_Try.m k s51 (IntKind.i64.wrap ((IntKind.i64.wrap (2 * x50)) + 1)) 6) fun x62 x63 s64 => bind3 (law15_ch.m k s64 s52 L9 L10 0) fun x77 s78 s79 => bind3 (send_Try.m k s78 (IntKind.i64.wrap ((IntKind.i64.wrap (2 * x77)) + 1)) 6) fun x89 x90 s91 => (if (x62 == (-1)) then (if (x63 == 1) then (if (x89 == (-1)) then (if (x90 == 0) then bind2 (send_Ready.m k s91 0) fun y129 s130 => law15_awake.j1 (!(y129)) else law15_awake.j1 false) else law15_awake.j1 false) else law15_awake.j1 false) else law15_awake.j1 false)
set_option maxRecDepth 100000 in
set_option maxHeartbeats 1500000 in
theorem law15_awake.ok {w0 w : World} {F0 : List Nat} {ps : List Piece} {k : Nat}  {r0 : Bool} (hS : St w0 F0 (ps) w) (hm : law15_awake.m k = some r0) :
    Calls Tryz.prog 27 #[] w fun e w' => e = .returned (.bool r0) ∧ St w0 F0 (ps) w' := by
 refine ev_enterL 56 [] Tryz.func27 rfl rfl (by simp) ?_
 intro a hF
 have hF0 : Fr 56 a [] := hF; clear hF
 unfold law15_awake.m at hm
 refine wp_seq (wp_region_lit ?_)
 refine ev_runK 1 hF0 [] (l' := []) (w' := w) (by kernel_rfl) ?_
 intro a2 hF1; clear hF0
 refine wpList_nil (thenN (wp_seq (wp_region_lit ?_)))
 refine ev_runs 1 hF1 (l' := [(6, .slice (some ⟨w.heap.size, 0, none⟩) 1 1)]) (w' := w.alloc (.cells #[nI 1] 3)) (by kernel_rfl) ?_
 intro a4 hF3; clear hF1
 have hS6 : St w0 F0 (RowP (.slice (some ⟨w.heap.size, 0, none⟩) 1 1) [1] :: ps) (w.alloc (.cells #[nI 1] 3)) := St.lit hS [1] (by unfold maxLen; simp)
 refine ev_call 26 #[.slice (some ⟨w.heap.size, 0, none⟩) 1 1, nI 1] hF3 rfl rfl (by kernel_rfl) rfl (by kernel_rfl) (fun w => by kernel_rfl) ?_
 obtain ⟨s7, s8, L9, L10, hx11, hm12⟩ := bind4E hm; clear hm
 refine (law15_made.ok hS6 hx11).mono ?_
 rintro _ w13 ⟨z17, z18, z19, z20, z21, z22, z23, z24, z25, z26, rfl, hS15⟩ a14 hF16; clear hF3 hS6
 have hS32 : St w0 F0 (RowP (.slice (some ⟨w.heap.size, 0, none⟩) 1 1) [1] :: BlkP z17 55 #[nP z18 0, nP z20 0, z25, z26] :: HeapP z18 z19 s7 :: RHeapP z20 z21 z22 z23 z24 s8 :: RowP (z25) L9 :: RowP (z26) L10 :: ps) w13 := hS15
 clear hS15
 obtain ⟨hl36, p33, c34, rfl, hp35⟩ := St.shape hS32 4 rfl
 obtain ⟨hl40, p37, c38, rfl, hp39⟩ := St.shape hS32 5 rfl
 refine ev_runK 1 hF16 [1] (l' := [(1, nP z17 0)]) (w' := w13) (by kernel_rfl) ?_
 intro a42 hF41; clear hF16
 refine wpList_nil ?_
 have hS43 := hS32.drop
 clear hS32
 refine thenN (wp_seq (wp_seq (wp_region_lit ?_)))
 refine ev_runK 2 hF41 [1, 9] (l' := [(9, .bool false), (1, nP z17 0)]) (w' := w13) (by kernel_rfl) ?_
 intro a45 hF44; clear hF41
 refine wpList_nil (thenN ?_)
 refine ev_condF hF44 rfl rfl ?_
 refine wp_skip ?_
 have hF46 := hF44.keep [1]
 clear hF44
 refine thenN (wp_seq ?_)
 -- draws
 have hS47 := hS43.drew; clear hS43
 refine any_start (fun wS => ∃ qs, St w0 F0 (BlkP z17 55 #[nP z18 0, nP z20 0, .slice p33 L9.length c34, .slice p37 L10.length c38] :: qs) wS) 14 #[false, false, false, false, false, false, false, false, false, false, false, false, false, false] (by kernel_rfl) (by kernel_rfl) (by kernel_rfl) ?_
 refine any_many 5 [(0, some (nP z17 0)), (1, some (nP z17 0)), (2, some (nP z17 0)), (3, some (nP z18 0)), (4, some (nP z17 0))] [1, 2, 3, 10, 14, 15, 16, 17, 18, 19, 20, 21] #[true, true, true, true, true, false, false, false, false, false, false, false, false, false] (by rfl) hF46 (by kernel_rfl) (by kernel_rfl) (by exact ⟨fun wS hw => by kernel_rfl, fun wS hw => by kernel_rfl, fun wS hw => by kernel_rfl, fun wS hw => hw.elim fun qs hw => run_loadV rfl rfl (run_loadS rfl rfl (hw.cell 0 rfl 0 rfl)), fun wS hw => by kernel_rfl, trivial⟩) (fun _ _ _ _ _ h => h) ⟨_, hS47⟩ (l' := [(15, nP z17 0), (14, nP z18 0), (1, nP z17 0)]) (by kernel_rfl) ?_
 intro a49 hF48; clear hF46
 refine any_call 5 #[true, true, true, true, true, true, false, false, false, false, false, false, false, false] 31 #[nP z17 0, nI 0] hF48 rfl (by kernel_rfl) rfl rfl (by kernel_rfl) rfl (by kernel_rfl) (fun w => by kernel_rfl) (by kernel_rfl) ?_
 obtain ⟨x50, s51, s52, hx53, hm54⟩ := bind3E hm12; clear hm12
 refine (law15_ch.ok hS47 hx53).mono ?_
 rintro _ w55 ⟨rfl, hS57⟩; clear hS47
 refine ⟨⟨_, hS57⟩, ?_⟩
 intro a56 hF58; clear hF48
 refine any_many 2 [(6, some (nI (IntKind.i64.wrap (2 * x50)))), (7, some (nI (IntKind.i64.wrap ((IntKind.i64.wrap (2 * x50)) + 1))))] [1, 2, 3, 10, 14, 18, 19, 20, 21] #[true, true, true, true, true, true, true, true, false, false, false, false, false, false] (by rfl) hF58 (by kernel_rfl) (by kernel_rfl) (by exact ⟨fun wS hw => by kernel_rfl, fun wS hw => by kernel_rfl, trivial⟩) (fun _ _ _ _ _ h => h) ⟨_, hS57⟩ (l' := [(18, nI (IntKind.i64.wrap ((IntKind.i64.wrap (2 * x50)) + 1))), (14, nP z18 0), (1, nP z17 0)]) (by kernel_rfl) ?_
 intro a60 hF59; clear hF58
 have hS61 := hS57.pick1
 clear hS57
 refine any_call 8 #[true, true, true, true, true, true, true, true, true, false, false, false, false, false] 28 #[nP z18 0, nI (IntKind.i64.wrap ((IntKind.i64.wrap (2 * x50)) + 1)), nI 6] hF59 rfl (by kernel_rfl) rfl rfl (by kernel_rfl) rfl (by kernel_rfl) (fun w => by kernel_rfl) (by kernel_rfl) ?_
 obtain ⟨x62, x63, s64, hx65, hm66⟩ := bind3E hm54; clear hm54
 refine (send_Try.ok hS61 hx65).mono ?_
 rintro _ w67 ⟨rfl, hS69⟩; clear hS61
 refine ⟨⟨_, hS69.pick1⟩, ?_⟩
 intro a68 hF70; clear hF59
 refine any_many 5 [(9, some (.tuple #[nI x62, nI x63])), (10, some (nI x62)), (11, some (nI x63)), (12, some (nI x62)), (13, some (nI x63))] [1, 2, 3] #[true, true, true, true, true, true, true, true, true, true, true, true, true, true] (by rfl) hF70 (by kernel_rfl) (by kernel_rfl) (by exact ⟨fun wS hw => by kernel_rfl, fun wS hw => by kernel_rfl, fun wS hw => by kernel_rfl, fun wS hw => by kernel_rfl, fun wS hw => by kernel_rfl, trivial⟩) (fun _ _ _ _ _ h => h) ⟨_, hS69.pick1⟩ (l' := [(3, nI x63), (2, nI x62), (1, nP z17 0)]) (by kernel_rfl) ?_
 intro a72 hF71; clear hF70
 refine any_done (by kernel_rfl) ?_
 refine thenN (wp_seq ?_)
 -- draws
 have hS73 := hS69.pick1
 clear hS69
 have hS74 := hS73.drew; clear hS73
 refine any_start (fun wS => ∃ qs, St w0 F0 (BlkP z17 55 #[nP z18 0, nP z20 0, .slice p33 L9.length c34, .slice p37 L10.length c38] :: qs) wS) 14 #[false, false, false, false, false, false, false, false, false, false, false, false, false, false] (by kernel_rfl) (by kernel_rfl) (by kernel_rfl) ?_
 refine any_many 5 [(0, some (nP z17 0)), (1, some (nP z17 0)), (2, some (nP z17 0)), (3, some (nP z18 0)), (4, some (nP z17 0))] [1, 2, 3, 4, 5, 22, 26, 27, 28, 29, 30, 31, 32, 33] #[true, true, true, true, true, false, false, false, false, false, false, false, false, false] (by rfl) hF71 (by kernel_rfl) (by kernel_rfl) (by exact ⟨fun wS hw => by kernel_rfl, fun wS hw => by kernel_rfl, fun wS hw => by kernel_rfl, fun wS hw => hw.elim fun qs hw => run_loadV rfl rfl (run_loadS rfl rfl (hw.cell 0 rfl 0 rfl)), fun wS hw => by kernel_rfl, trivial⟩) (fun _ _ _ _ _ h => h) ⟨_, hS74⟩ (l' := [(27, nP z17 0), (26, nP z18 0), (3, nI x63), (2, nI x62), (1, nP z17 0)]) (by kernel_rfl) ?_
 intro a76 hF75; clear hF71
 refine any_call 5 #[true, true, true, true, true, true, false, false, false, false, false, false, false, false] 31 #[nP z17 0, nI 0] hF75 rfl (by kernel_rfl) rfl rfl (by kernel_rfl) rfl (by kernel_rfl) (fun w => by kernel_rfl) (by kernel_rfl) ?_
 obtain ⟨x77, s78, s79, hx80, hm81⟩ := bind3E hm66; clear hm66
 refine (law15_ch.ok hS74 hx80).mono ?_
 rintro _ w82 ⟨rfl, hS84⟩; clear hS74
 refine ⟨⟨_, hS84⟩, ?_⟩
 intro a83 hF85; clear hF75
 refine any_many 2 [(6, some (nI (IntKind.i64.wrap (2 * x77)))), (7, some (nI (IntKind.i64.wrap ((IntKind.i64.wrap (2 * x77)) + 1))))] [1, 2, 3, 4, 5, 22, 26, 30, 31, 32, 33] #[true, true, true, true, true, true, true, true, false, false, false, false, false, false] (by rfl) hF85 (by kernel_rfl) (by kernel_rfl) (by exact ⟨fun wS hw => by kernel_rfl, fun wS hw => by kernel_rfl, trivial⟩) (fun _ _ _ _ _ h => h) ⟨_, hS84⟩ (l' := [(30, nI (IntKind.i64.wrap ((IntKind.i64.wrap (2 * x77)) + 1))), (26, nP z18 0), (3, nI x63), (2, nI x62), (1, nP z17 0)]) (by kernel_rfl) ?_
 intro a87 hF86; clear hF85
 have hS88 := hS84.pick1
 clear hS84
 refine any_call 8 #[true, true, true, true, true, true, true, true, true, false, false, false, false, false] 28 #[nP z18 0, nI (IntKind.i64.wrap ((IntKind.i64.wrap (2 * x77)) + 1)), nI 6] hF86 rfl (by kernel_rfl) rfl rfl (by kernel_rfl) rfl (by kernel_rfl) (fun w => by kernel_rfl) (by kernel_rfl) ?_
 obtain ⟨x89, x90, s91, hx92, hm93⟩ := bind3E hm81; clear hm81
 refine (send_Try.ok hS88 hx92).mono ?_
 rintro _ w94 ⟨rfl, hS96⟩; clear hS88
 refine ⟨⟨_, hS96.pick1⟩, ?_⟩
 intro a95 hF97; clear hF86
 refine any_many 5 [(9, some (.tuple #[nI x89, nI x90])), (10, some (nI x89)), (11, some (nI x90)), (12, some (nI x89)), (13, some (nI x90))] [1, 2, 3, 4, 5] #[true, true, true, true, true, true, true, true, true, true, true, true, true, true] (by rfl) hF97 (by kernel_rfl) (by kernel_rfl) (by exact ⟨fun wS hw => by kernel_rfl, fun wS hw => by kernel_rfl, fun wS hw => by kernel_rfl, fun wS hw => by kernel_rfl, fun wS hw => by kernel_rfl, trivial⟩) (fun _ _ _ _ _ h => h) ⟨_, hS96.pick1⟩ (l' := [(5, nI x90), (4, nI x89), (3, nI x63), (2, nI x62), (1, nP z17 0)]) (by kernel_rfl) ?_
 intro a99 hF98; clear hF97
 refine any_done (by kernel_rfl) ?_
 refine thenN (wp_seq ?_)
 refine joinQ (fun aI wI => ∃ (y100 : Bool), Fr 56 aI [(0, .bool (y100))] ∧ St w0 F0 (ps) wI ∧ law15_awake.j1 y100 = some r0) ?_ ?_
 rotate_left
 · rintro a102 w103 ⟨y100, hF104, hS105, hm106⟩
   clear hF98 hS96 hm93
   unfold law15_awake.j1 at hm106
   refine thenN ?_
   refine wp_ret ?_
   obtain rfl := Option.some.inj hm106
   refine ev_ret hF104 [0] (.bool (y100)) rfl rfl rfl ?_
   exact ⟨rfl, hS105⟩
 · skip
   refine wp_region_lit ?_
   refine ev_runs 3 hF98 (l' := [(36, .bool (x62 == (-1))), (35, .bool (x62 == (-1))), (34, nI x62), (5, nI x90), (4, nI x89), (3, nI x63), (2, nI x62), (1, nP z17 0)]) (w' := w94) (by kernel_rfl) ?_
   intro a110 hF109; clear hF98
   cases hc111 : (x62 == (-1))
   case true =>
    rw [hc111] at hF109
    have hm112 := ifYes hc111 hm93; clear hm93
    refine ev_runs 4 hF109 (l' := [(40, .bool (x63 == 1)), (39, .bool (x63 == 1)), (38, .bool (x63 == 1)), (37, nI x63), (36, .bool true), (35, .bool true), (34, nI x62), (5, nI x90), (4, nI x89), (3, nI x63), (2, nI x62), (1, nP z17 0)]) (w' := w94) (by kernel_rfl) ?_
    intro a114 hF113; clear hF109
    cases hc115 : (x63 == 1)
    case true =>
     rw [hc115] at hF113
     have hm116 := ifYes hc115 hm112; clear hm112
     refine ev_runs 4 hF113 (l' := [(44, .bool (x89 == (-1))), (43, .bool (x89 == (-1))), (42, .bool (x89 == (-1))), (41, nI x89), (40, .bool true), (39, .bool true), (38, .bool true), (37, nI x63), (36, .bool true), (35, .bool true), (34, nI x62), (5, nI x90), (4, nI x89), (3, nI x63), (2, nI x62), (1, nP z17 0)]) (w' := w94) (by kernel_rfl) ?_
     intro a118 hF117; clear hF113
     cases hc119 : (x89 == (-1))
     case true =>
      rw [hc119] at hF117
      have hm120 := ifYes hc119 hm116; clear hm116
      refine ev_runs 4 hF117 (l' := [(48, .bool (x90 == 0)), (47, .bool (x90 == 0)), (46, .bool (x90 == 0)), (45, nI x90), (44, .bool true), (43, .bool true), (42, .bool true), (41, nI x89), (40, .bool true), (39, .bool true), (38, .bool true), (37, nI x63), (36, .bool true), (35, .bool true), (34, nI x62), (5, nI x90), (4, nI x89), (3, nI x63), (2, nI x62), (1, nP z17 0)]) (w' := w94) (by kernel_rfl) ?_
      intro a122 hF121; clear hF117
      cases hc123 : (x90 == 0)
      case true =>
       rw [hc123] at hF121
       have hm124 := ifYes hc123 hm120; clear hm120
       refine ev_runs 3 hF121 (l' := [(51, nP z17 0), (50, nP z17 0), (49, nP z17 0), (48, .bool true), (47, .bool true), (46, .bool true), (45, nI x90), (44, .bool true), (43, .bool true), (42, .bool true), (41, nI x89), (40, .bool true), (39, .bool true), (38, .bool true), (37, nI x63), (36, .bool true), (35, .bool true), (34, nI x62), (5, nI x90), (4, nI x89), (3, nI x63), (2, nI x62), (1, nP z17 0)]) (w' := w94) (by kernel_rfl) ?_
       intro a126 hF125; clear hF121
       refine ev_one (nP z18 0) w94 hF125 (by kernel_rfl) rfl (by kernel_rfl) (run_loadV rfl rfl (run_loadS rfl rfl (hS96.cell 1 rfl 0 rfl))) (l' := [(52, nP z18 0), (51, nP z17 0), (50, nP z17 0), (49, nP z17 0), (48, .bool true), (47, .bool true), (46, .bool true), (45, nI x90), (44, .bool true), (43, .bool true), (42, .bool true), (41, nI x89), (40, .bool true), (39, .bool true), (38, .bool true), (37, nI x63), (36, .bool true), (35, .bool true), (34, nI x62), (5, nI x90), (4, nI x89), (3, nI x63), (2, nI x62), (1, nP z17 0)]) (by kernel_rfl) ?_
       intro a128 hF127; clear hF125
       refine ev_call 33 #[nP z18 0, nI 0] hF127 rfl rfl (by kernel_rfl) rfl (by kernel_rfl) (fun w => by kernel_rfl) ?_
       obtain ⟨y129, s130, hx131, hm132⟩ := bind2E hm124; clear hm124
       refine (send_Ready.ok hS96 hx131).mono ?_
       rintro _ w133 ⟨rfl, hS135⟩ a134 hF136; clear hF127 hS96
       refine ev_runK 3 hF136 [0] (l' := [(0, .bool (!(y129)))]) (w' := w133) (by kernel_rfl) ?_
       intro a138 hF137; clear hF136
       refine wpList_nil ?_
       have hS139 := hS135.drop.drop.drop.drop.drop
       clear hS135
       exact thenN ⟨!(y129), hF137, hS139, hm132⟩
      rw [hc123] at hF121
      have hm140 := ifNot hc123 hm120; clear hm120
      refine ev_runK 8 hF121 [0] (l' := [(0, .bool false)]) (w' := w94) (by kernel_rfl) ?_
      intro a142 hF141; clear hF121
      refine wpList_nil ?_
      have hS143 := hS96.drop.drop.drop.drop.drop
      clear hS96
      exact thenN ⟨false, hF141, hS143, hm140⟩
     rw [hc119] at hF117
     have hm144 := ifNot hc119 hm116; clear hm116
     refine ev_runK 12 hF117 [0] (l' := [(0, .bool false)]) (w' := w94) (by kernel_rfl) ?_
     intro a146 hF145; clear hF117
     refine wpList_nil ?_
     have hS147 := hS96.drop.drop.drop.drop.drop
     clear hS96
     exact thenN ⟨false, hF145, hS147, hm144⟩
    rw [hc115] at hF113
    have hm148 := ifNot hc115 hm112; clear hm112
    refine ev_runK 16 hF113 [0] (l' := [(0, .bool false)]) (w' := w94) (by kernel_rfl) ?_
    intro a150 hF149; clear hF113
    refine wpList_nil ?_
    have hS151 := hS96.drop.drop.drop.drop.drop
    clear hS96
    exact thenN ⟨false, hF149, hS151, hm148⟩
   rw [hc111] at hF109
   have hm152 := ifNot hc111 hm93; clear hm93
   refine ev_runK 20 hF109 [0] (l' := [(0, .bool false)]) (w' := w94) (by kernel_rfl) ?_
   intro a154 hF153; clear hF109
   refine wpList_nil ?_
   have hS155 := hS96.drop.drop.drop.drop.drop
   clear hS96
   exact thenN ⟨false, hF153, hS155, hm152⟩

end Go.Proofs.YtgejcjcpchofiaaGreat
/- The walks of GSendOnce, printed by gen/walk.py. -/
namespace Go.Proofs.YtgejcjcpchofiaaGreat
open Go.RowKit
set_option linter.unusedVariables false

def SendOnce.j4 (y132 : Bool) : Option (Bool) := some (y132)
def SendOnce.j3 (i0 : Int) (k : Nat) (L9 : List Int) (L10 : List Int) (x66 : Int) (x67 : Int) (x82 : Int) (x83 : Int) (x100 : Int) (x101 : Int) (s112 : HSt) (s113 : HSt) (x114 : Int) (x115 : Int) (x116 : Int) (x117 : Int) (x118 : Int) (x119 : Int) (x120 : Int) (x121 : Int) (x122 : Int) (x123 : Int) (x124 : Int) : Option (Bool) := bind3 (law15_gor.m k s112 s113 L9 L10 0) fun x144 s145 s146 => (if (x82 == x144) then (if (x83 == 1) then (if (x100 == (-1)) then (if (x101 == 0) then (if (x124 == 0) then (if (x116 == (IntKind.i64.wrap (20 + x67))) then (if (inR x67 6) then (if ((atI [x117, x118, x119, x120, x121, x122] x67) == i0) then (if (inR x66 6) then (if ((atI [x117, x118, x119, x120, x121, x122] x66) == 0) then SendOnce.j4 (x115 == 0) else SendOnce.j4 false) else none) else SendOnce.j4 false) else none) else SendOnce.j4 false) else SendOnce.j4 false) else SendOnce.j4 false) else SendOnce.j4 false) else SendOnce.j4 false) else SendOnce.j4 false)
def SendOnce.j2 (i0 : Int) (i1 : Int) (k : Nat) (L9 : List Int) (L10 : List Int) (s44 : HSt) (s45 : HSt) (x66 : Int) (x67 : Int) : Option (Bool) := (if (inR x67 L9.length) then bind3 (send_Try.m k s44 (IntKind.i64.wrap ((IntKind.i64.wrap (2 * (atI L9 x67))) + 1)) i0) fun x82 x83 s84 => (if (inR x66 L9.length) then bind3 (send_Try.m k s84 (IntKind.i64.wrap ((IntKind.i64.wrap (2 * (atI L9 x66))) + 1)) i1) fun x100 x101 s102 => bind3 (law15_gor.m k s102 s45 L9 L10 0) fun x249 s250 s251 => bind3 (view_Gor.m k s250 x249) fun q259 x260 s261 => SendOnce.j3 i0 k L9 L10 x66 x67 x82 x83 x100 x101 s261 s251 q259.id q259.status q259.pc q259.a q259.b q259.c q259.d q259.e q259.f q259.sudogs x260 else none) else none)
def SendOnce.j1 (i0 : Int) (i1 : Int) (i2 : Bool) (k : Nat) (L9 : List Int) (L10 : List Int) (s44 : HSt) (s45 : HSt) (y46 : Bool) : Option (Bool) := (if (y46) then some (false) else (if (i2) then SendOnce.j2 i0 i1 k L9 L10 s44 s45 0 1 else SendOnce.j2 i0 i1 k L9 L10 s44 s45 1 0))
def SendOnce.m (k : Nat) (i0 : Int) (i1 : Int) (i2 : Bool) : Option (Bool) := bind4 (law15_made.m k [0, 0] 0) fun s7 s8 L9 L10 => bind1 (law15_awake.m k ) fun y341 => (if (!(y341)) then SendOnce.j1 i0 i1 i2 k L9 L10 s7 s8 true else (if (inR (0 : Int) L9.length) then (if (inR (1 : Int) L9.length) then bind3 (law15_gor.m k s7 s8 L9 L10 0) fun x367 s368 s369 => bind3 (law15_wait.m k s368 s369 L9 L10 x367 [atI L9 (0 : Int), atI L9 (1 : Int)] [false, false] 0 20) fun y383 s384 s385 => SendOnce.j1 i0 i1 i2 k L9 L10 s384 s385 (!(y383)) else none) else none))
set_option maxRecDepth 100000 in
set_option maxHeartbeats 40000000 in
theorem SendOnce.ok {w0 w : World} {F0 : List Nat} {ps : List Piece} {k : Nat} {i0 : Int} {i1 : Int} {i2 : Bool} {r0 : Bool} (hS : St w0 F0 (ps) w) (hm : SendOnce.m k i0 i1 i2 = some r0) :
    Calls Tryz.prog 9 #[nI i0, nI i1, .bool (i2)] w fun e w' => e = .returned (.bool r0) ∧ St w0 F0 (ps) w' := by
 refine ev_enterL 139 [nI i0, nI i1, .bool (i2)] Tryz.func9 rfl rfl (by simp) ?_
 intro a hF
 have hF0 : Fr 139 a [(0, nI i0), (1, nI i1), (2, .bool (i2))] := hF; clear hF
 unfold SendOnce.m at hm
 refine wp_seq (wp_region_lit ?_)
 refine ev_runK 1 hF0 [0, 1, 2] (l' := [(0, nI i0), (1, nI i1), (2, .bool (i2))]) (w' := w) (by kernel_rfl) ?_
 intro a2 hF1; clear hF0
 refine wpList_nil (thenN (wp_seq (wp_region_lit ?_)))
 refine ev_runs 1 hF1 (l' := [(16, .slice (some ⟨w.heap.size, 0, none⟩) 2 2), (0, nI i0), (1, nI i1), (2, .bool (i2))]) (w' := w.alloc (.cells #[nI 0, nI 0] 3)) (by kernel_rfl) ?_
 intro a4 hF3; clear hF1
 have hS6 : St w0 F0 (RowP (.slice (some ⟨w.heap.size, 0, none⟩) 2 2) [0, 0] :: ps) (w.alloc (.cells #[nI 0, nI 0] 3)) := St.lit hS [0, 0] (by unfold maxLen; simp)
 refine ev_call 26 #[.slice (some ⟨w.heap.size, 0, none⟩) 2 2, nI 0] hF3 rfl rfl (by kernel_rfl) rfl (by kernel_rfl) (fun w => by kernel_rfl) ?_
 obtain ⟨s7, s8, L9, L10, hx11, hm12⟩ := bind4E hm; clear hm
 refine (law15_made.ok hS6 hx11).mono ?_
 rintro _ w13 ⟨z17, z18, z19, z20, z21, z22, z23, z24, z25, z26, rfl, hS15⟩ a14 hF16; clear hF3 hS6
 have hS32 : St w0 F0 (RowP (.slice (some ⟨w.heap.size, 0, none⟩) 2 2) [0, 0] :: BlkP z17 55 #[nP z18 0, nP z20 0, z25, z26] :: HeapP z18 z19 s7 :: RHeapP z20 z21 z22 z23 z24 s8 :: RowP (z25) L9 :: RowP (z26) L10 :: ps) w13 := hS15
 clear hS15
 obtain ⟨hl36, p33, c34, rfl, hp35⟩ := St.shape hS32 4 rfl
 obtain ⟨hl40, p37, c38, rfl, hp39⟩ := St.shape hS32 5 rfl
 refine ev_runK 1 hF16 [0, 1, 2, 7] (l' := [(7, nP z17 0), (0, nI i0), (1, nI i1), (2, .bool (i2))]) (w' := w13) (by kernel_rfl) ?_
 intro a42 hF41; clear hF16
 refine wpList_nil ?_
 have hS43 := hS32.drop
 clear hS32
 refine thenN (wp_seq (wp_seq ?_))
 refine joinQ (fun aI wI => ∃ (s44 : HSt) (s45 : HSt) (y46 : Bool), Fr 139 aI [(44, .bool (y46)), (7, nP z17 0), (0, nI i0), (1, nI i1), (2, .bool (i2))] ∧ St w0 F0 (BlkP z17 55 #[nP z18 0, nP z20 0, .slice p33 L9.length c34, .slice p37 L10.length c38] :: RowP (.slice p33 L9.length c34) L9 :: HeapP z18 z19 s44 :: RHeapP z20 z21 z22 z23 z24 s45 :: RowP (.slice p37 L10.length c38) L10 :: ps) wI ∧ SendOnce.j1 i0 i1 i2 k L9 L10 s44 s45 y46 = some r0) ?_ ?_
 rotate_left
 · rintro a48 w49 ⟨s44, s45, y46, hF50, hS51, hm52⟩
   clear hF41 hS43 hm12
   unfold SendOnce.j1 at hm52
   refine thenN ?_
   cases hc54 : (y46)
   case true =>
    rw [hc54] at hF50
    have hm55 := ifYes hc54 hm52; clear hm52
    refine ev_condT hF50 rfl rfl ?_
    refine wp_seq (wp_region_lit ?_)
    refine ev_runK 1 hF50 [6] (l' := [(6, .bool false)]) (w' := w49) (by kernel_rfl) ?_
    intro a57 hF56; clear hF50
    refine wpList_nil ?_
    have hS58 := hS51.drop.drop.drop.drop.drop
    clear hS51
    refine thenN ?_
    refine wp_ret ?_
    refine thenR ?_
    obtain rfl := Option.some.inj hm55
    refine ev_ret hF56 [6] (.bool false) rfl rfl rfl ?_
    exact ⟨rfl, hS58⟩
   rw [hc54] at hF50
   have hm60 := ifNot hc54 hm52; clear hm52
   refine ev_condF hF50 rfl rfl ?_
   refine wp_skip ?_
   have hF61 := hF50.keep [0, 1, 2, 7]
   clear hF50
   refine thenN (wp_seq (wp_region_lit ?_))
   refine ev_runs 2 hF61 (l' := [(9, nI 1), (8, nI 0), (7, nP z17 0), (0, nI i0), (1, nI i1), (2, .bool (i2))]) (w' := w49) (by kernel_rfl) ?_
   intro a63 hF62; clear hF61
   refine wpList_nil (thenN (wp_seq (wp_seq (wp_region_lit ?_))))
   refine ev_runK 1 hF62 [0, 1, 7, 8, 9, 45] (l' := [(45, .bool (i2)), (9, nI 1), (8, nI 0), (7, nP z17 0), (0, nI i0), (1, nI i1)]) (w' := w49) (by kernel_rfl) ?_
   intro a65 hF64; clear hF62
   refine wpList_nil (thenN ?_)
   refine joinQ (fun aI wI => ∃ (x66 : Int) (x67 : Int), Fr 139 aI [(9, nI x66), (8, nI x67), (7, nP z17 0), (0, nI i0), (1, nI i1)] ∧ St w0 F0 (BlkP z17 55 #[nP z18 0, nP z20 0, .slice p33 L9.length c34, .slice p37 L10.length c38] :: RowP (.slice p33 L9.length c34) L9 :: HeapP z18 z19 s44 :: RHeapP z20 z21 z22 z23 z24 s45 :: RowP (.slice p37 L10.length c38) L10 :: ps) wI ∧ SendOnce.j2 i0 i1 k L9 L10 s44 s45 x66 x67 = some r0) ?_ ?_
   rotate_left
   · rintro a69 w70 ⟨x66, x67, hF71, hS72, hm73⟩
     clear hF64 hS51 hm60
     unfold SendOnce.j2 at hm73
     refine thenN (wp_seq ?_)
     -- draws
     obtain ⟨hc75, hm76⟩ := ifTE hm73; clear hm73
     obtain ⟨g77, rfl⟩ := hp35.resolve_left (by have := inR_spec hc75; omega)
     have hS78 := hS72.drew; clear hS72
     refine any_start (fun wS => ∃ qs, St w0 F0 (BlkP z17 55 #[nP z18 0, nP z20 0, nS g77 L9 c34, .slice p37 L10.length c38] :: RowP (nS g77 L9 c34) L9 :: qs) wS) 20 #[false, false, false, false, false, false, false, false, false, false, false, false, false, false, false, false, false, false, false, false] (by kernel_rfl) (by kernel_rfl) (by kernel_rfl) ?_
     refine any_many 14 [(0, some (nP z17 0)), (1, some (nP z17 0)), (2, some (nP z17 0)), (3, some (nP z18 0)), (4, some (nP z17 0)), (5, some (nP z17 0)), (6, some (nP z17 2)), (7, some (nS g77 L9 c34)), (8, some (nI x67)), (9, some (nP g77 (x67.toNat))), (10, some (nI (atI L9 x67))), (11, some (nI (IntKind.i64.wrap (2 * (atI L9 x67))))), (12, some (nI (IntKind.i64.wrap ((IntKind.i64.wrap (2 * (atI L9 x67))) + 1)))), (13, some (nI i0))] [0, 1, 7, 8, 9, 10, 11, 46, 50, 59, 60, 61, 62, 63] #[true, true, true, true, true, true, true, true, true, true, true, true, true, true, false, false, false, false, false, false] (by rfl) hF71 (by kernel_rfl) (by kernel_rfl) (by exact ⟨fun wS hw => by kernel_rfl, fun wS hw => by kernel_rfl, fun wS hw => by kernel_rfl, fun wS hw => hw.elim fun qs hw => run_loadV rfl rfl (run_loadS rfl rfl (hw.cell 0 rfl 0 rfl)), fun wS hw => by kernel_rfl, fun wS hw => by kernel_rfl, fun wS hw => by kernel_rfl, fun wS hw => hw.elim fun qs hw => run_loadV rfl rfl (run_loadS rfl rfl (hw.cell 0 rfl 2 rfl)), fun wS hw => by kernel_rfl, fun wS hw => run_idx rfl rfl rfl rfl rfl (inR_spec hc75).1 (inR_spec hc75).2 _, fun wS hw => run_load1 rfl rfl rfl (hw.elim fun qs hw => hw.atI 1 rfl hc75), fun wS hw => by kernel_rfl, fun wS hw => by kernel_rfl, fun wS hw => by kernel_rfl, trivial⟩) (fun _ _ _ _ _ h => h) ⟨_, hS78⟩ (l' := [(60, nI i0), (59, nI (IntKind.i64.wrap ((IntKind.i64.wrap (2 * (atI L9 x67))) + 1))), (50, nP z18 0), (9, nI x66), (8, nI x67), (7, nP z17 0), (0, nI i0), (1, nI i1)]) (by kernel_rfl) ?_
     intro a80 hF79; clear hF71
     have hS81 := hS78.pick2
     clear hS78
     refine any_call 14 #[true, true, true, true, true, true, true, true, true, true, true, true, true, true, true, false, false, false, false, false] 28 #[nP z18 0, nI (IntKind.i64.wrap ((IntKind.i64.wrap (2 * (atI L9 x67))) + 1)), nI i0] hF79 rfl (by kernel_rfl) rfl rfl (by kernel_rfl) rfl (by kernel_rfl) (fun w => by kernel_rfl) (by kernel_rfl) ?_
     obtain ⟨x82, x83, s84, hx85, hm86⟩ := bind3E hm76; clear hm76
     refine (send_Try.ok hS81 hx85).mono ?_
     rintro _ w87 ⟨rfl, hS89⟩; clear hS81
     refine ⟨⟨_, hS89.pick2.pick2⟩, ?_⟩
     intro a88 hF90; clear hF79
     refine any_many 5 [(15, some (.tuple #[nI x82, nI x83])), (16, some (nI x82)), (17, some (nI x83)), (18, some (nI x82)), (19, some (nI x83))] [0, 1, 7, 8, 9, 10, 11] #[true, true, true, true, true, true, true, true, true, true, true, true, true, true, true, true, true, true, true, true] (by rfl) hF90 (by kernel_rfl) (by kernel_rfl) (by exact ⟨fun wS hw => by kernel_rfl, fun wS hw => by kernel_rfl, fun wS hw => by kernel_rfl, fun wS hw => by kernel_rfl, fun wS hw => by kernel_rfl, trivial⟩) (fun _ _ _ _ _ h => h) ⟨_, hS89.pick2.pick2⟩ (l' := [(11, nI x83), (10, nI x82), (9, nI x66), (8, nI x67), (7, nP z17 0), (0, nI i0), (1, nI i1)]) (by kernel_rfl) ?_
     intro a92 hF91; clear hF90
     refine any_done (by kernel_rfl) ?_
     refine thenN (wp_seq ?_)
     -- draws
     obtain ⟨hc93, hm94⟩ := ifTE hm86; clear hm86
     have hS95 := hS89.pick2.pick2
     clear hS89
     have hS96 := hS95.drew; clear hS95
     refine any_start (fun wS => ∃ qs, St w0 F0 (BlkP z17 55 #[nP z18 0, nP z20 0, nS g77 L9 c34, .slice p37 L10.length c38] :: RowP (nS g77 L9 c34) L9 :: qs) wS) 20 #[false, false, false, false, false, false, false, false, false, false, false, false, false, false, false, false, false, false, false, false] (by kernel_rfl) (by kernel_rfl) (by kernel_rfl) ?_
     refine any_many 14 [(0, some (nP z17 0)), (1, some (nP z17 0)), (2, some (nP z17 0)), (3, some (nP z18 0)), (4, some (nP z17 0)), (5, some (nP z17 0)), (6, some (nP z17 2)), (7, some (nS g77 L9 c34)), (8, some (nI x66)), (9, some (nP g77 (x66.toNat))), (10, some (nI (atI L9 x66))), (11, some (nI (IntKind.i64.wrap (2 * (atI L9 x66))))), (12, some (nI (IntKind.i64.wrap ((IntKind.i64.wrap (2 * (atI L9 x66))) + 1)))), (13, some (nI i1))] [0, 7, 8, 9, 10, 11, 12, 13, 64, 68, 77, 78, 79, 80, 81] #[true, true, true, true, true, true, true, true, true, true, true, true, true, true, false, false, false, false, false, false] (by rfl) hF91 (by kernel_rfl) (by kernel_rfl) (by exact ⟨fun wS hw => by kernel_rfl, fun wS hw => by kernel_rfl, fun wS hw => by kernel_rfl, fun wS hw => hw.elim fun qs hw => run_loadV rfl rfl (run_loadS rfl rfl (hw.cell 0 rfl 0 rfl)), fun wS hw => by kernel_rfl, fun wS hw => by kernel_rfl, fun wS hw => by kernel_rfl, fun wS hw => hw.elim fun qs hw => run_loadV rfl rfl (run_loadS rfl rfl (hw.cell 0 rfl 2 rfl)), fun wS hw => by kernel_rfl, fun wS hw => run_idx rfl rfl rfl rfl rfl (inR_spec hc93).1 (inR_spec hc93).2 _, fun wS hw => run_load1 rfl rfl rfl (hw.elim fun qs hw => hw.atI 1 rfl hc93), fun wS hw => by kernel_rfl, fun wS hw => by kernel_rfl, fun wS hw => by kernel_rfl, trivial⟩) (fun _ _ _ _ _ h => h) ⟨_, hS96⟩ (l' := [(78, nI i1), (77, nI (IntKind.i64.wrap ((IntKind.i64.wrap (2 * (atI L9 x66))) + 1))), (68, nP z18 0), (11, nI x83), (10, nI x82), (9, nI x66), (8, nI x67), (7, nP z17 0), (0, nI i0)]) (by kernel_rfl) ?_
     intro a98 hF97; clear hF91
     have hS99 := hS96.pick2
     clear hS96
     refine any_call 14 #[true, true, true, true, true, true, true, true, true, true, true, true, true, true, true, false, false, false, false, false] 28 #[nP z18 0, nI (IntKind.i64.wrap ((IntKind.i64.wrap (2 * (atI L9 x66))) + 1)), nI i1] hF97 rfl (by kernel_rfl) rfl rfl (by kernel_rfl) rfl (by kernel_rfl) (fun w => by kernel_rfl) (by kernel_rfl) ?_
     obtain ⟨x100, x101, s102, hx103, hm104⟩ := bind3E hm94; clear hm94
     refine (send_Try.ok hS99 hx103).mono ?_
     rintro _ w105 ⟨rfl, hS107⟩; clear hS99
     refine ⟨⟨_, hS107.pick2.pick2⟩, ?_⟩
     intro a106 hF108; clear hF97
     refine any_many 5 [(15, some (.tuple #[nI x100, nI x101])), (16, some (nI x100)), (17, some (nI x101)), (18, some (nI x100)), (19, some (nI x101))] [0, 7, 8, 9, 10, 11, 12, 13] #[true, true, true, true, true, true, true, true, true, true, true, true, true, true, true, true, true, true, true, true] (by rfl) hF108 (by kernel_rfl) (by kernel_rfl) (by exact ⟨fun wS hw => by kernel_rfl, fun wS hw => by kernel_rfl, fun wS hw => by kernel_rfl, fun wS hw => by kernel_rfl, fun wS hw => by kernel_rfl, trivial⟩) (fun _ _ _ _ _ h => h) ⟨_, hS107.pick2.pick2⟩ (l' := [(13, nI x101), (12, nI x100), (11, nI x83), (10, nI x82), (9, nI x66), (8, nI x67), (7, nP z17 0), (0, nI i0)]) (by kernel_rfl) ?_
     intro a110 hF109; clear hF108
     refine any_done (by kernel_rfl) ?_
     refine thenN (wp_seq ?_)
     refine joinQ (fun aI wI => ∃ (g111 : Nat) (s112 : HSt) (s113 : HSt) (x114 : Int) (x115 : Int) (x116 : Int) (x117 : Int) (x118 : Int) (x119 : Int) (x120 : Int) (x121 : Int) (x122 : Int) (x123 : Int) (x124 : Int), Fr 139 aI [(15, nI x124), (14, nP g111 0), (13, nI x101), (12, nI x100), (11, nI x83), (10, nI x82), (9, nI x66), (8, nI x67), (7, nP z17 0), (0, nI i0)] ∧ St w0 F0 (BlkP g111 29 #[nI x114, nI x115, nI x116, nI x117, nI x118, nI x119, nI x120, nI x121, nI x122, nI x123] :: HeapP z18 z19 s112 :: BlkP z17 55 #[nP z18 0, nP z20 0, nS g77 L9 c34, .slice p37 L10.length c38] :: RHeapP z20 z21 z22 z23 z24 s113 :: RowP (nS g77 L9 c34) L9 :: RowP (.slice p37 L10.length c38) L10 :: ps) wI ∧ SendOnce.j3 i0 k L9 L10 x66 x67 x82 x83 x100 x101 s112 s113 x114 x115 x116 x117 x118 x119 x120 x121 x122 x123 x124 = some r0) ?_ ?_
     rotate_left
     · rintro a126 w127 ⟨g111, s112, s113, x114, x115, x116, x117, x118, x119, x120, x121, x122, x123, x124, hF128, hS129, hm130⟩
       clear hF109 hS107 hm104
       unfold SendOnce.j3 at hm130
       refine thenN (wp_seq ?_)
       refine joinQ (fun aI wI => ∃ (y132 : Bool), Fr 139 aI [(6, .bool (y132))] ∧ St w0 F0 (ps) wI ∧ SendOnce.j4 y132 = some r0) ?_ ?_
       rotate_left
       · rintro a134 w135 ⟨y132, hF136, hS137, hm138⟩
         clear hF128 hS129 hm130
         unfold SendOnce.j4 at hm138
         refine thenN ?_
         refine wp_ret ?_
         obtain rfl := Option.some.inj hm138
         refine ev_ret hF136 [6] (.bool (y132)) rfl rfl rfl ?_
         exact ⟨rfl, hS137⟩
       · skip
         refine wp_region_lit ?_
         refine ev_runs 2 hF128 (l' := [(93, nP z17 0), (92, nI x82), (15, nI x124), (14, nP g111 0), (13, nI x101), (12, nI x100), (11, nI x83), (10, nI x82), (9, nI x66), (8, nI x67), (7, nP z17 0), (0, nI i0)]) (w' := w127) (by kernel_rfl) ?_
         intro a142 hF141; clear hF128
         have hS143 := hS129.pick5.pick5.pick5.pick4.pick5
         clear hS129
         refine ev_call 29 #[nP z17 0, nI 0] hF141 rfl rfl (by kernel_rfl) rfl (by kernel_rfl) (fun w => by kernel_rfl) ?_
         obtain ⟨x144, s145, s146, hx147, hm148⟩ := bind3E hm130; clear hm130
         refine (law15_gor.ok hS143 hx147).mono ?_
         rintro _ w149 ⟨rfl, hS151⟩ a150 hF152; clear hF141 hS143
         refine ev_runs 2 hF152 (l' := [(96, .bool (x82 == x144)), (95, .bool (x82 == x144)), (94, nI x144), (93, nP z17 0), (92, nI x82), (15, nI x124), (14, nP g111 0), (13, nI x101), (12, nI x100), (11, nI x83), (10, nI x82), (9, nI x66), (8, nI x67), (7, nP z17 0), (0, nI i0)]) (w' := w149) (by kernel_rfl) ?_
         intro a154 hF153; clear hF152
         cases hc155 : (x82 == x144)
         case true =>
          rw [hc155] at hF153
          have hm156 := ifYes hc155 hm148; clear hm148
          refine ev_runs 4 hF153 (l' := [(100, .bool (x83 == 1)), (99, .bool (x83 == 1)), (98, .bool (x83 == 1)), (97, nI x83), (96, .bool true), (95, .bool true), (94, nI x144), (93, nP z17 0), (92, nI x82), (15, nI x124), (14, nP g111 0), (13, nI x101), (12, nI x100), (11, nI x83), (10, nI x82), (9, nI x66), (8, nI x67), (7, nP z17 0), (0, nI i0)]) (w' := w149) (by kernel_rfl) ?_
          intro a158 hF157; clear hF153
          cases hc159 : (x83 == 1)
          case true =>
           rw [hc159] at hF157
           have hm160 := ifYes hc159 hm156; clear hm156
           refine ev_runs 4 hF157 (l' := [(104, .bool (x100 == (-1))), (103, .bool (x100 == (-1))), (102, .bool (x100 == (-1))), (101, nI x100), (100, .bool true), (99, .bool true), (98, .bool true), (97, nI x83), (96, .bool true), (95, .bool true), (94, nI x144), (93, nP z17 0), (92, nI x82), (15, nI x124), (14, nP g111 0), (13, nI x101), (12, nI x100), (11, nI x83), (10, nI x82), (9, nI x66), (8, nI x67), (7, nP z17 0), (0, nI i0)]) (w' := w149) (by kernel_rfl) ?_
           intro a162 hF161; clear hF157
           cases hc163 : (x100 == (-1))
           case true =>
            rw [hc163] at hF161
            have hm164 := ifYes hc163 hm160; clear hm160
            refine ev_runs 4 hF161 (l' := [(108, .bool (x101 == 0)), (107, .bool (x101 == 0)), (106, .bool (x101 == 0)), (105, nI x101), (104, .bool true), (103, .bool true), (102, .bool true), (101, nI x100), (100, .bool true), (99, .bool true), (98, .bool true), (97, nI x83), (96, .bool true), (95, .bool true), (94, nI x144), (93, nP z17 0), (92, nI x82), (15, nI x124), (14, nP g111 0), (13, nI x101), (12, nI x100), (11, nI x83), (10, nI x82), (9, nI x66), (8, nI x67), (7, nP z17 0), (0, nI i0)]) (w' := w149) (by kernel_rfl) ?_
            intro a166 hF165; clear hF161
            cases hc167 : (x101 == 0)
            case true =>
             rw [hc167] at hF165
             have hm168 := ifYes hc167 hm164; clear hm164
             refine ev_runs 4 hF165 (l' := [(112, .bool (x124 == 0)), (111, .bool (x124 == 0)), (110, .bool (x124 == 0)), (109, nI x124), (108, .bool true), (107, .bool true), (106, .bool true), (105, nI x101), (104, .bool true), (103, .bool true), (102, .bool true), (101, nI x100), (100, .bool true), (99, .bool true), (98, .bool true), (97, nI x83), (96, .bool true), (95, .bool true), (94, nI x144), (93, nP z17 0), (92, nI x82), (15, nI x124), (14, nP g111 0), (13, nI x101), (12, nI x100), (11, nI x83), (10, nI x82), (9, nI x66), (8, nI x67), (7, nP z17 0), (0, nI i0)]) (w' := w149) (by kernel_rfl) ?_
             intro a170 hF169; clear hF165
             cases hc171 : (x124 == 0)
             case true =>
              rw [hc171] at hF169
              have hm172 := ifYes hc171 hm168; clear hm168
              refine ev_runs 1 hF169 (l' := [(113, nP g111 2), (112, .bool true), (111, .bool true), (110, .bool true), (109, nI x124), (108, .bool true), (107, .bool true), (106, .bool true), (105, nI x101), (104, .bool true), (103, .bool true), (102, .bool true), (101, nI x100), (100, .bool true), (99, .bool true), (98, .bool true), (97, nI x83), (96, .bool true), (95, .bool true), (94, nI x144), (93, nP z17 0), (92, nI x82), (15, nI x124), (14, nP g111 0), (13, nI x101), (12, nI x100), (11, nI x83), (10, nI x82), (9, nI x66), (8, nI x67), (7, nP z17 0), (0, nI i0)]) (w' := w149) (by kernel_rfl) ?_
              intro a174 hF173; clear hF169
              refine ev_one (nI x116) w149 hF173 (by kernel_rfl) rfl (by kernel_rfl) (run_loadV rfl rfl (run_loadS rfl rfl (hS151.cell 5 rfl 2 rfl))) (l' := [(114, nI x116), (113, nP g111 2), (112, .bool true), (111, .bool true), (110, .bool true), (109, nI x124), (108, .bool true), (107, .bool true), (106, .bool true), (105, nI x101), (104, .bool true), (103, .bool true), (102, .bool true), (101, nI x100), (100, .bool true), (99, .bool true), (98, .bool true), (97, nI x83), (96, .bool true), (95, .bool true), (94, nI x144), (93, nP z17 0), (92, nI x82), (15, nI x124), (14, nP g111 0), (13, nI x101), (12, nI x100), (11, nI x83), (10, nI x82), (9, nI x66), (8, nI x67), (7, nP z17 0), (0, nI i0)]) (by kernel_rfl) ?_
              intro a176 hF175; clear hF173
              refine ev_runs 5 hF175 (l' := [(119, .bool (x116 == (IntKind.i64.wrap (20 + x67)))), (118, .bool (x116 == (IntKind.i64.wrap (20 + x67)))), (117, .bool (x116 == (IntKind.i64.wrap (20 + x67)))), (116, nI (IntKind.i64.wrap (20 + x67))), (115, nI x67), (114, nI x116), (113, nP g111 2), (112, .bool true), (111, .bool true), (110, .bool true), (109, nI x124), (108, .bool true), (107, .bool true), (106, .bool true), (105, nI x101), (104, .bool true), (103, .bool true), (102, .bool true), (101, nI x100), (100, .bool true), (99, .bool true), (98, .bool true), (97, nI x83), (96, .bool true), (95, .bool true), (94, nI x144), (93, nP z17 0), (92, nI x82), (15, nI x124), (14, nP g111 0), (13, nI x101), (12, nI x100), (11, nI x83), (10, nI x82), (9, nI x66), (8, nI x67), (7, nP z17 0), (0, nI i0)]) (w' := w149) (by kernel_rfl) ?_
              intro a178 hF177; clear hF175
              cases hc179 : (x116 == (IntKind.i64.wrap (20 + x67)))
              case true =>
               rw [hc179] at hF177
               have hm180 := ifYes hc179 hm172; clear hm172
               refine ev_runs 2 hF177 (l' := [(121, nP g111 3), (120, nI x67), (119, .bool true), (118, .bool true), (117, .bool true), (116, nI (IntKind.i64.wrap (20 + x67))), (115, nI x67), (114, nI x116), (113, nP g111 2), (112, .bool true), (111, .bool true), (110, .bool true), (109, nI x124), (108, .bool true), (107, .bool true), (106, .bool true), (105, nI x101), (104, .bool true), (103, .bool true), (102, .bool true), (101, nI x100), (100, .bool true), (99, .bool true), (98, .bool true), (97, nI x83), (96, .bool true), (95, .bool true), (94, nI x144), (93, nP z17 0), (92, nI x82), (15, nI x124), (14, nP g111 0), (13, nI x101), (12, nI x100), (11, nI x83), (10, nI x82), (9, nI x66), (8, nI x67), (7, nP z17 0), (0, nI i0)]) (w' := w149) (by kernel_rfl) ?_
               intro a182 hF181; clear hF177
               obtain ⟨hc183, hm184⟩ := ifTE hm180; clear hm180
               refine ev_one (nP g111 ((3 + x67.toNat))) w149 hF181 (by kernel_rfl) rfl (by kernel_rfl) (run_idxA (sz := 1) (q := x67) rfl rfl rfl rfl rfl (inR_spec hc183).1 (inR_spec hc183).2 (by rw [Nat.mul_one]) _) (l' := [(122, nP g111 ((3 + x67.toNat))), (121, nP g111 3), (120, nI x67), (119, .bool true), (118, .bool true), (117, .bool true), (116, nI (IntKind.i64.wrap (20 + x67))), (115, nI x67), (114, nI x116), (113, nP g111 2), (112, .bool true), (111, .bool true), (110, .bool true), (109, nI x124), (108, .bool true), (107, .bool true), (106, .bool true), (105, nI x101), (104, .bool true), (103, .bool true), (102, .bool true), (101, nI x100), (100, .bool true), (99, .bool true), (98, .bool true), (97, nI x83), (96, .bool true), (95, .bool true), (94, nI x144), (93, nP z17 0), (92, nI x82), (15, nI x124), (14, nP g111 0), (13, nI x101), (12, nI x100), (11, nI x83), (10, nI x82), (9, nI x66), (8, nI x67), (7, nP z17 0), (0, nI i0)]) (by kernel_rfl) ?_
               intro a186 hF185; clear hF181
               refine ev_one (nI (atI [x117, x118, x119, x120, x121, x122] x67)) w149 hF185 (by kernel_rfl) rfl (by kernel_rfl) (run_load1 rfl rfl rfl (St.arrAt hS151 5 rfl 3 [x117, x118, x119, x120, x121, x122] rfl hc183)) (l' := [(123, nI (atI [x117, x118, x119, x120, x121, x122] x67)), (122, nP g111 ((3 + x67.toNat))), (121, nP g111 3), (120, nI x67), (119, .bool true), (118, .bool true), (117, .bool true), (116, nI (IntKind.i64.wrap (20 + x67))), (115, nI x67), (114, nI x116), (113, nP g111 2), (112, .bool true), (111, .bool true), (110, .bool true), (109, nI x124), (108, .bool true), (107, .bool true), (106, .bool true), (105, nI x101), (104, .bool true), (103, .bool true), (102, .bool true), (101, nI x100), (100, .bool true), (99, .bool true), (98, .bool true), (97, nI x83), (96, .bool true), (95, .bool true), (94, nI x144), (93, nP z17 0), (92, nI x82), (15, nI x124), (14, nP g111 0), (13, nI x101), (12, nI x100), (11, nI x83), (10, nI x82), (9, nI x66), (8, nI x67), (7, nP z17 0), (0, nI i0)]) (by kernel_rfl) ?_
               intro a188 hF187; clear hF185
               refine ev_runs 4 hF187 (l' := [(127, .bool ((atI [x117, x118, x119, x120, x121, x122] x67) == i0)), (126, .bool ((atI [x117, x118, x119, x120, x121, x122] x67) == i0)), (125, .bool ((atI [x117, x118, x119, x120, x121, x122] x67) == i0)), (124, nI i0), (123, nI (atI [x117, x118, x119, x120, x121, x122] x67)), (122, nP g111 ((3 + x67.toNat))), (121, nP g111 3), (120, nI x67), (119, .bool true), (118, .bool true), (117, .bool true), (116, nI (IntKind.i64.wrap (20 + x67))), (115, nI x67), (114, nI x116), (113, nP g111 2), (112, .bool true), (111, .bool true), (110, .bool true), (109, nI x124), (108, .bool true), (107, .bool true), (106, .bool true), (105, nI x101), (104, .bool true), (103, .bool true), (102, .bool true), (101, nI x100), (100, .bool true), (99, .bool true), (98, .bool true), (97, nI x83), (96, .bool true), (95, .bool true), (94, nI x144), (93, nP z17 0), (92, nI x82), (15, nI x124), (14, nP g111 0), (13, nI x101), (12, nI x100), (11, nI x83), (10, nI x82), (9, nI x66), (8, nI x67), (7, nP z17 0), (0, nI i0)]) (w' := w149) (by kernel_rfl) ?_
               intro a190 hF189; clear hF187
               cases hc191 : ((atI [x117, x118, x119, x120, x121, x122] x67) == i0)
               case true =>
                rw [hc191] at hF189
                have hm192 := ifYes hc191 hm184; clear hm184
                refine ev_runs 2 hF189 (l' := [(129, nP g111 3), (128, nI x66), (127, .bool true), (126, .bool true), (125, .bool true), (124, nI i0), (123, nI (atI [x117, x118, x119, x120, x121, x122] x67)), (122, nP g111 ((3 + x67.toNat))), (121, nP g111 3), (120, nI x67), (119, .bool true), (118, .bool true), (117, .bool true), (116, nI (IntKind.i64.wrap (20 + x67))), (115, nI x67), (114, nI x116), (113, nP g111 2), (112, .bool true), (111, .bool true), (110, .bool true), (109, nI x124), (108, .bool true), (107, .bool true), (106, .bool true), (105, nI x101), (104, .bool true), (103, .bool true), (102, .bool true), (101, nI x100), (100, .bool true), (99, .bool true), (98, .bool true), (97, nI x83), (96, .bool true), (95, .bool true), (94, nI x144), (93, nP z17 0), (92, nI x82), (15, nI x124), (14, nP g111 0), (13, nI x101), (12, nI x100), (11, nI x83), (10, nI x82), (9, nI x66), (8, nI x67), (7, nP z17 0), (0, nI i0)]) (w' := w149) (by kernel_rfl) ?_
                intro a194 hF193; clear hF189
                obtain ⟨hc195, hm196⟩ := ifTE hm192; clear hm192
                refine ev_one (nP g111 ((3 + x66.toNat))) w149 hF193 (by kernel_rfl) rfl (by kernel_rfl) (run_idxA (sz := 1) (q := x66) rfl rfl rfl rfl rfl (inR_spec hc195).1 (inR_spec hc195).2 (by rw [Nat.mul_one]) _) (l' := [(130, nP g111 ((3 + x66.toNat))), (129, nP g111 3), (128, nI x66), (127, .bool true), (126, .bool true), (125, .bool true), (124, nI i0), (123, nI (atI [x117, x118, x119, x120, x121, x122] x67)), (122, nP g111 ((3 + x67.toNat))), (121, nP g111 3), (120, nI x67), (119, .bool true), (118, .bool true), (117, .bool true), (116, nI (IntKind.i64.wrap (20 + x67))), (115, nI x67), (114, nI x116), (113, nP g111 2), (112, .bool true), (111, .bool true), (110, .bool true), (109, nI x124), (108, .bool true), (107, .bool true), (106, .bool true), (105, nI x101), (104, .bool true), (103, .bool true), (102, .bool true), (101, nI x100), (100, .bool true), (99, .bool true), (98, .bool true), (97, nI x83), (96, .bool true), (95, .bool true), (94, nI x144), (93, nP z17 0), (92, nI x82), (15, nI x124), (14, nP g111 0), (13, nI x101), (12, nI x100), (11, nI x83), (10, nI x82), (9, nI x66), (8, nI x67), (7, nP z17 0), (0, nI i0)]) (by kernel_rfl) ?_
                intro a198 hF197; clear hF193
                refine ev_one (nI (atI [x117, x118, x119, x120, x121, x122] x66)) w149 hF197 (by kernel_rfl) rfl (by kernel_rfl) (run_load1 rfl rfl rfl (St.arrAt hS151 5 rfl 3 [x117, x118, x119, x120, x121, x122] rfl hc195)) (l' := [(131, nI (atI [x117, x118, x119, x120, x121, x122] x66)), (130, nP g111 ((3 + x66.toNat))), (129, nP g111 3), (128, nI x66), (127, .bool true), (126, .bool true), (125, .bool true), (124, nI i0), (123, nI (atI [x117, x118, x119, x120, x121, x122] x67)), (122, nP g111 ((3 + x67.toNat))), (121, nP g111 3), (120, nI x67), (119, .bool true), (118, .bool true), (117, .bool true), (116, nI (IntKind.i64.wrap (20 + x67))), (115, nI x67), (114, nI x116), (113, nP g111 2), (112, .bool true), (111, .bool true), (110, .bool true), (109, nI x124), (108, .bool true), (107, .bool true), (106, .bool true), (105, nI x101), (104, .bool true), (103, .bool true), (102, .bool true), (101, nI x100), (100, .bool true), (99, .bool true), (98, .bool true), (97, nI x83), (96, .bool true), (95, .bool true), (94, nI x144), (93, nP z17 0), (92, nI x82), (15, nI x124), (14, nP g111 0), (13, nI x101), (12, nI x100), (11, nI x83), (10, nI x82), (9, nI x66), (8, nI x67), (7, nP z17 0), (0, nI i0)]) (by kernel_rfl) ?_
                intro a200 hF199; clear hF197
                refine ev_runs 3 hF199 (l' := [(134, .bool ((atI [x117, x118, x119, x120, x121, x122] x66) == 0)), (133, .bool ((atI [x117, x118, x119, x120, x121, x122] x66) == 0)), (132, .bool ((atI [x117, x118, x119, x120, x121, x122] x66) == 0)), (131, nI (atI [x117, x118, x119, x120, x121, x122] x66)), (130, nP g111 ((3 + x66.toNat))), (129, nP g111 3), (128, nI x66), (127, .bool true), (126, .bool true), (125, .bool true), (124, nI i0), (123, nI (atI [x117, x118, x119, x120, x121, x122] x67)), (122, nP g111 ((3 + x67.toNat))), (121, nP g111 3), (120, nI x67), (119, .bool true), (118, .bool true), (117, .bool true), (116, nI (IntKind.i64.wrap (20 + x67))), (115, nI x67), (114, nI x116), (113, nP g111 2), (112, .bool true), (111, .bool true), (110, .bool true), (109, nI x124), (108, .bool true), (107, .bool true), (106, .bool true), (105, nI x101), (104, .bool true), (103, .bool true), (102, .bool true), (101, nI x100), (100, .bool true), (99, .bool true), (98, .bool true), (97, nI x83), (96, .bool true), (95, .bool true), (94, nI x144), (93, nP z17 0), (92, nI x82), (15, nI x124), (14, nP g111 0), (13, nI x101), (12, nI x100), (11, nI x83), (10, nI x82), (9, nI x66), (8, nI x67), (7, nP z17 0), (0, nI i0)]) (w' := w149) (by kernel_rfl) ?_
                intro a202 hF201; clear hF199
                cases hc203 : ((atI [x117, x118, x119, x120, x121, x122] x66) == 0)
                case true =>
                 rw [hc203] at hF201
                 have hm204 := ifYes hc203 hm196; clear hm196
                 refine ev_runs 1 hF201 (l' := [(135, nP g111 1), (134, .bool true), (133, .bool true), (132, .bool true), (131, nI (atI [x117, x118, x119, x120, x121, x122] x66)), (130, nP g111 ((3 + x66.toNat))), (129, nP g111 3), (128, nI x66), (127, .bool true), (126, .bool true), (125, .bool true), (124, nI i0), (123, nI (atI [x117, x118, x119, x120, x121, x122] x67)), (122, nP g111 ((3 + x67.toNat))), (121, nP g111 3), (120, nI x67), (119, .bool true), (118, .bool true), (117, .bool true), (116, nI (IntKind.i64.wrap (20 + x67))), (115, nI x67), (114, nI x116), (113, nP g111 2), (112, .bool true), (111, .bool true), (110, .bool true), (109, nI x124), (108, .bool true), (107, .bool true), (106, .bool true), (105, nI x101), (104, .bool true), (103, .bool true), (102, .bool true), (101, nI x100), (100, .bool true), (99, .bool true), (98, .bool true), (97, nI x83), (96, .bool true), (95, .bool true), (94, nI x144), (93, nP z17 0), (92, nI x82), (15, nI x124), (14, nP g111 0), (13, nI x101), (12, nI x100), (11, nI x83), (10, nI x82), (9, nI x66), (8, nI x67), (7, nP z17 0), (0, nI i0)]) (w' := w149) (by kernel_rfl) ?_
                 intro a206 hF205; clear hF201
                 refine ev_one (nI x115) w149 hF205 (by kernel_rfl) rfl (by kernel_rfl) (run_loadV rfl rfl (run_loadS rfl rfl (hS151.cell 5 rfl 1 rfl))) (l' := [(136, nI x115), (135, nP g111 1), (134, .bool true), (133, .bool true), (132, .bool true), (131, nI (atI [x117, x118, x119, x120, x121, x122] x66)), (130, nP g111 ((3 + x66.toNat))), (129, nP g111 3), (128, nI x66), (127, .bool true), (126, .bool true), (125, .bool true), (124, nI i0), (123, nI (atI [x117, x118, x119, x120, x121, x122] x67)), (122, nP g111 ((3 + x67.toNat))), (121, nP g111 3), (120, nI x67), (119, .bool true), (118, .bool true), (117, .bool true), (116, nI (IntKind.i64.wrap (20 + x67))), (115, nI x67), (114, nI x116), (113, nP g111 2), (112, .bool true), (111, .bool true), (110, .bool true), (109, nI x124), (108, .bool true), (107, .bool true), (106, .bool true), (105, nI x101), (104, .bool true), (103, .bool true), (102, .bool true), (101, nI x100), (100, .bool true), (99, .bool true), (98, .bool true), (97, nI x83), (96, .bool true), (95, .bool true), (94, nI x144), (93, nP z17 0), (92, nI x82), (15, nI x124), (14, nP g111 0), (13, nI x101), (12, nI x100), (11, nI x83), (10, nI x82), (9, nI x66), (8, nI x67), (7, nP z17 0), (0, nI i0)]) (by kernel_rfl) ?_
                 intro a208 hF207; clear hF205
                 refine ev_runK 3 hF207 [6] (l' := [(6, .bool (x115 == 0))]) (w' := w149) (by kernel_rfl) ?_
                 intro a210 hF209; clear hF207
                 refine wpList_nil ?_
                 have hS211 := hS151.drop.drop.drop.drop.drop.drop
                 clear hS151
                 exact thenN ⟨x115 == 0, hF209, hS211, hm204⟩
                rw [hc203] at hF201
                have hm212 := ifNot hc203 hm196; clear hm196
                refine ev_runK 5 hF201 [6] (l' := [(6, .bool false)]) (w' := w149) (by kernel_rfl) ?_
                intro a214 hF213; clear hF201
                refine wpList_nil ?_
                have hS215 := hS151.drop.drop.drop.drop.drop.drop
                clear hS151
                exact thenN ⟨false, hF213, hS215, hm212⟩
               rw [hc191] at hF189
               have hm216 := ifNot hc191 hm184; clear hm184
               refine ev_runK 12 hF189 [6] (l' := [(6, .bool false)]) (w' := w149) (by kernel_rfl) ?_
               intro a218 hF217; clear hF189
               refine wpList_nil ?_
               have hS219 := hS151.drop.drop.drop.drop.drop.drop
               clear hS151
               exact thenN ⟨false, hF217, hS219, hm216⟩
              rw [hc179] at hF177
              have hm220 := ifNot hc179 hm172; clear hm172
              refine ev_runK 20 hF177 [6] (l' := [(6, .bool false)]) (w' := w149) (by kernel_rfl) ?_
              intro a222 hF221; clear hF177
              refine wpList_nil ?_
              have hS223 := hS151.drop.drop.drop.drop.drop.drop
              clear hS151
              exact thenN ⟨false, hF221, hS223, hm220⟩
             rw [hc171] at hF169
             have hm224 := ifNot hc171 hm168; clear hm168
             refine ev_runK 27 hF169 [6] (l' := [(6, .bool false)]) (w' := w149) (by kernel_rfl) ?_
             intro a226 hF225; clear hF169
             refine wpList_nil ?_
             have hS227 := hS151.drop.drop.drop.drop.drop.drop
             clear hS151
             exact thenN ⟨false, hF225, hS227, hm224⟩
            rw [hc167] at hF165
            have hm228 := ifNot hc167 hm164; clear hm164
            refine ev_runK 31 hF165 [6] (l' := [(6, .bool false)]) (w' := w149) (by kernel_rfl) ?_
            intro a230 hF229; clear hF165
            refine wpList_nil ?_
            have hS231 := hS151.drop.drop.drop.drop.drop.drop
            clear hS151
            exact thenN ⟨false, hF229, hS231, hm228⟩
           rw [hc163] at hF161
           have hm232 := ifNot hc163 hm160; clear hm160
           refine ev_runK 35 hF161 [6] (l' := [(6, .bool false)]) (w' := w149) (by kernel_rfl) ?_
           intro a234 hF233; clear hF161
           refine wpList_nil ?_
           have hS235 := hS151.drop.drop.drop.drop.drop.drop
           clear hS151
           exact thenN ⟨false, hF233, hS235, hm232⟩
          rw [hc159] at hF157
          have hm236 := ifNot hc159 hm156; clear hm156
          refine ev_runK 39 hF157 [6] (l' := [(6, .bool false)]) (w' := w149) (by kernel_rfl) ?_
          intro a238 hF237; clear hF157
          refine wpList_nil ?_
          have hS239 := hS151.drop.drop.drop.drop.drop.drop
          clear hS151
          exact thenN ⟨false, hF237, hS239, hm236⟩
         rw [hc155] at hF153
         have hm240 := ifNot hc155 hm148; clear hm148
         refine ev_runK 43 hF153 [6] (l' := [(6, .bool false)]) (w' := w149) (by kernel_rfl) ?_
         intro a242 hF241; clear hF153
         refine wpList_nil ?_
         have hS243 := hS151.drop.drop.drop.drop.drop.drop
         clear hS151
         exact thenN ⟨false, hF241, hS243, hm240⟩
     · skip
       -- draws
       have hS244 := hS107.pick1
       clear hS107
       have hS245 := hS244.drew; clear hS244
       refine any_start (fun wS => ∃ qs, St w0 F0 (BlkP z17 55 #[nP z18 0, nP z20 0, nS g77 L9 c34, .slice p37 L10.length c38] :: qs) wS) 13 #[false, false, false, false, false, false, false, false, false, false, false, false, false] (by kernel_rfl) (by kernel_rfl) (by kernel_rfl) ?_
       refine any_many 5 [(0, some (nP z17 0)), (1, some (nP z17 0)), (2, some (nP z17 0)), (3, some (nP z18 0)), (4, some (nP z17 0))] [0, 7, 8, 9, 10, 11, 12, 13, 14, 15, 82, 86, 87, 88, 89, 90, 91] #[true, true, true, true, true, false, false, false, false, false, false, false, false] (by rfl) hF109 (by kernel_rfl) (by kernel_rfl) (by exact ⟨fun wS hw => by kernel_rfl, fun wS hw => by kernel_rfl, fun wS hw => by kernel_rfl, fun wS hw => hw.elim fun qs hw => run_loadV rfl rfl (run_loadS rfl rfl (hw.cell 0 rfl 0 rfl)), fun wS hw => by kernel_rfl, trivial⟩) (fun _ _ _ _ _ h => h) ⟨_, hS245⟩ (l' := [(87, nP z17 0), (86, nP z18 0), (13, nI x101), (12, nI x100), (11, nI x83), (10, nI x82), (9, nI x66), (8, nI x67), (7, nP z17 0), (0, nI i0)]) (by kernel_rfl) ?_
       intro a247 hF246; clear hF109
       refine any_two 5 10 (by kernel_rfl) ?_ ?_
       · skip
         have hS248 := hS245.pick4.pick3.pick4.pick4.pick4
         clear hS245
         refine op_call 5 #[true, true, true, true, true, true, false, false, false, false, false, false, false] 29 #[nP z17 0, nI 0] hF246 rfl rfl rfl (by kernel_rfl) rfl (by kernel_rfl) (fun w => by kernel_rfl) (by kernel_rfl) ?_
         obtain ⟨x249, s250, s251, hx252, hm253⟩ := bind3E hm104; clear hm104
         refine (law15_gor.ok hS248 hx252).mono ?_
         rintro _ w254 ⟨rfl, hS256⟩; clear hS248
         refine ⟨⟨_, hS256⟩, ?_⟩
         intro a255 hF257; clear hF246
         refine any_two 6 10 (by kernel_rfl) ?_ ?_
         · skip
           have hS258 := hS256.pick1
           clear hS256
           refine op_call 6 #[true, true, true, true, true, true, true, false, false, false, false, false, false] 36 #[nP z18 0, nI x249] hF257 rfl rfl rfl (by kernel_rfl) rfl (by kernel_rfl) (fun w => by kernel_rfl) (by kernel_rfl) ?_
           obtain ⟨q259, x260, s261, hx262, hm263⟩ := bind3E hm253; clear hm253
           refine (view_Gor.ok hS258 hx262).mono ?_
           rintro _ w264 ⟨rfl, hS266⟩; clear hS258
           refine ⟨⟨_, hS266.pick1⟩, ?_⟩
           intro a265 hF267; clear hF257
           refine any_many 3 [(7, some (.tuple #[.agg #[nI (q259.id), nI (q259.status), nI (q259.pc), nI (q259.a), nI (q259.b), nI (q259.c), nI (q259.d), nI (q259.e), nI (q259.f), nI (q259.sudogs)], nI x260])), (8, some (.agg #[nI (q259.id), nI (q259.status), nI (q259.pc), nI (q259.a), nI (q259.b), nI (q259.c), nI (q259.d), nI (q259.e), nI (q259.f), nI (q259.sudogs)])), (9, some (nI x260))] [0, 7, 8, 9, 10, 11, 12, 13, 14, 15, 90, 91] #[true, true, true, true, true, true, true, true, true, true, false, false, false] (by rfl) hF267 (by kernel_rfl) (by kernel_rfl) (by exact ⟨fun wS hw => by kernel_rfl, fun wS hw => by kernel_rfl, fun wS hw => by kernel_rfl, trivial⟩) (fun _ _ _ _ _ h => h) ⟨_, hS266.pick1⟩ (l' := [(91, nI x260), (90, .agg #[nI (q259.id), nI (q259.status), nI (q259.pc), nI (q259.a), nI (q259.b), nI (q259.c), nI (q259.d), nI (q259.e), nI (q259.f), nI (q259.sudogs)]), (13, nI x101), (12, nI x100), (11, nI x83), (10, nI x82), (9, nI x66), (8, nI x67), (7, nP z17 0), (0, nI i0)]) (by kernel_rfl) ?_
           intro a269 hF268; clear hF267
           refine any_one 10 (by kernel_rfl) ?_
           have hS270 : St w0 F0 (BlkP (w264.heap.size) 29 #[nI 0, nI 0, nI 0, nI 0, nI 0, nI 0, nI 0, nI 0, nI 0, nI 0] :: HeapP z18 z19 s261 :: BlkP z17 55 #[nP z18 0, nP z20 0, nS g77 L9 c34, .slice p37 L10.length c38] :: RHeapP z20 z21 z22 z23 z24 s251 :: RowP (nS g77 L9 c34) L9 :: RowP (.slice p37 L10.length c38) L10 :: ps) (w264.alloc (.cells #[nI 0, nI 0, nI 0, nI 0, nI 0, nI 0, nI 0, nI 0, nI 0, nI 0] 29)) := St.new hS266 #[nI 0, nI 0, nI 0, nI 0, nI 0, nI 0, nI 0, nI 0, nI 0, nI 0] 29
           clear hS266
           refine op_step 10 #[true, true, true, true, true, true, true, true, true, true, true, false, false] (nB w264) (w264.alloc (.cells #[nI 0, nI 0, nI 0, nI 0, nI 0, nI 0, nI 0, nI 0, nI 0, nI 0] 29)) hF268 rfl (by kernel_rfl) rfl (by kernel_rfl) (by kernel_rfl) (l' := [(14, nB w264), (91, nI x260), (90, .agg #[nI (q259.id), nI (q259.status), nI (q259.pc), nI (q259.a), nI (q259.b), nI (q259.c), nI (q259.d), nI (q259.e), nI (q259.f), nI (q259.sudogs)]), (13, nI x101), (12, nI x100), (11, nI x83), (10, nI x82), (9, nI x66), (8, nI x67), (7, nP z17 0), (0, nI i0)]) (by kernel_rfl) ⟨_, hS270.pick2⟩ (by kernel_rfl) ?_
           intro a272 hF271; clear hF268
           refine any_one 11 (by kernel_rfl) ?_
           refine op_store 11 #[true, true, true, true, true, true, true, true, true, true, true, true, false] (.agg #[nI (q259.id), nI (q259.status), nI (q259.pc), nI (q259.a), nI (q259.b), nI (q259.c), nI (q259.d), nI (q259.e), nI (q259.f), nI (q259.sudogs)]) #[nI (q259.id), nI (q259.status), nI (q259.pc), nI (q259.a), nI (q259.b), nI (q259.c), nI (q259.d), nI (q259.e), nI (q259.f), nI (q259.sudogs)] hF271 rfl (by kernel_rfl) rfl rfl rfl rfl (by kernel_rfl) hS270 (by kernel_rfl) (by kernel_rfl) (by kernel_rfl) (l' := [(14, nB w264), (91, nI x260), (90, .agg #[nI (q259.id), nI (q259.status), nI (q259.pc), nI (q259.a), nI (q259.b), nI (q259.c), nI (q259.d), nI (q259.e), nI (q259.f), nI (q259.sudogs)]), (13, nI x101), (12, nI x100), (11, nI x83), (10, nI x82), (9, nI x66), (8, nI x67), (7, nP z17 0), (0, nI i0)]) (by kernel_rfl) (by kernel_rfl) ?_
           intro w273 a274 hS275 hF276; clear hF271 hS270
           refine ⟨⟨_, hS275.pick2⟩, ?_⟩
           refine any_many 1 [(12, some (nI x260))] [0, 7, 8, 9, 10, 11, 12, 13, 14, 15] #[true, true, true, true, true, true, true, true, true, true, true, true, true] (by rfl) hF276 (by kernel_rfl) (by kernel_rfl) (by exact ⟨fun wS hw => by kernel_rfl, trivial⟩) (fun _ _ _ _ _ h => h) ⟨_, hS275.pick2⟩ (l' := [(15, nI x260), (14, nB w264), (13, nI x101), (12, nI x100), (11, nI x83), (10, nI x82), (9, nI x66), (8, nI x67), (7, nP z17 0), (0, nI i0)]) (by kernel_rfl) ?_
           intro a278 hF277; clear hF276
           refine any_done (by kernel_rfl) ?_
           exact thenN ⟨(w264.heap.size), s261, s251, q259.id, q259.status, q259.pc, q259.a, q259.b, q259.c, q259.d, q259.e, q259.f, q259.sudogs, x260, hF277, hS275, hm263⟩
         · skip
           have hS279 : St w0 F0 (BlkP (w254.heap.size) 29 #[nI 0, nI 0, nI 0, nI 0, nI 0, nI 0, nI 0, nI 0, nI 0, nI 0] :: BlkP z17 55 #[nP z18 0, nP z20 0, nS g77 L9 c34, .slice p37 L10.length c38] :: HeapP z18 z19 s250 :: RHeapP z20 z21 z22 z23 z24 s251 :: RowP (nS g77 L9 c34) L9 :: RowP (.slice p37 L10.length c38) L10 :: ps) (w254.alloc (.cells #[nI 0, nI 0, nI 0, nI 0, nI 0, nI 0, nI 0, nI 0, nI 0, nI 0] 29)) := St.new hS256 #[nI 0, nI 0, nI 0, nI 0, nI 0, nI 0, nI 0, nI 0, nI 0, nI 0] 29
           clear hS256
           refine op_step 10 #[true, true, true, true, true, true, false, false, false, false, true, false, false] (nB w254) (w254.alloc (.cells #[nI 0, nI 0, nI 0, nI 0, nI 0, nI 0, nI 0, nI 0, nI 0, nI 0] 29)) hF257 rfl (by kernel_rfl) rfl (by kernel_rfl) (by kernel_rfl) (l' := [(14, nB w254), (88, nI x249), (87, nP z17 0), (86, nP z18 0), (13, nI x101), (12, nI x100), (11, nI x83), (10, nI x82), (9, nI x66), (8, nI x67), (7, nP z17 0), (0, nI i0)]) (by kernel_rfl) ⟨_, hS279.pick1⟩ (by kernel_rfl) ?_
           intro a281 hF280; clear hF257
           have hS282 := hS279.pick2
           clear hS279
           refine any_call 6 #[true, true, true, true, true, true, true, false, false, false, true, false, false] 36 #[nP z18 0, nI x249] hF280 rfl (by kernel_rfl) rfl rfl (by kernel_rfl) rfl (by kernel_rfl) (fun w => by kernel_rfl) (by kernel_rfl) ?_
           obtain ⟨q283, x284, s285, hx286, hm287⟩ := bind3E hm253; clear hm253
           refine (view_Gor.ok hS282 hx286).mono ?_
           rintro _ w288 ⟨rfl, hS290⟩; clear hS282
           refine ⟨⟨_, hS290.pick2⟩, ?_⟩
           intro a289 hF291; clear hF280
           refine any_many 3 [(7, some (.tuple #[.agg #[nI (q283.id), nI (q283.status), nI (q283.pc), nI (q283.a), nI (q283.b), nI (q283.c), nI (q283.d), nI (q283.e), nI (q283.f), nI (q283.sudogs)], nI x284])), (8, some (.agg #[nI (q283.id), nI (q283.status), nI (q283.pc), nI (q283.a), nI (q283.b), nI (q283.c), nI (q283.d), nI (q283.e), nI (q283.f), nI (q283.sudogs)])), (9, some (nI x284))] [0, 7, 8, 9, 10, 11, 12, 13, 14, 15, 90, 91] #[true, true, true, true, true, true, true, true, true, true, true, false, false] (by rfl) hF291 (by kernel_rfl) (by kernel_rfl) (by exact ⟨fun wS hw => by kernel_rfl, fun wS hw => by kernel_rfl, fun wS hw => by kernel_rfl, trivial⟩) (fun _ _ _ _ _ h => h) ⟨_, hS290.pick2⟩ (l' := [(91, nI x284), (90, .agg #[nI (q283.id), nI (q283.status), nI (q283.pc), nI (q283.a), nI (q283.b), nI (q283.c), nI (q283.d), nI (q283.e), nI (q283.f), nI (q283.sudogs)]), (14, nB w254), (13, nI x101), (12, nI x100), (11, nI x83), (10, nI x82), (9, nI x66), (8, nI x67), (7, nP z17 0), (0, nI i0)]) (by kernel_rfl) ?_
           intro a293 hF292; clear hF291
           refine any_one 11 (by kernel_rfl) ?_
           have hS294 := hS290.pick1
           clear hS290
           refine op_store 11 #[true, true, true, true, true, true, true, true, true, true, true, true, false] (.agg #[nI (q283.id), nI (q283.status), nI (q283.pc), nI (q283.a), nI (q283.b), nI (q283.c), nI (q283.d), nI (q283.e), nI (q283.f), nI (q283.sudogs)]) #[nI (q283.id), nI (q283.status), nI (q283.pc), nI (q283.a), nI (q283.b), nI (q283.c), nI (q283.d), nI (q283.e), nI (q283.f), nI (q283.sudogs)] hF292 rfl (by kernel_rfl) rfl rfl rfl rfl (by kernel_rfl) hS294 (by kernel_rfl) (by kernel_rfl) (by kernel_rfl) (l' := [(91, nI x284), (90, .agg #[nI (q283.id), nI (q283.status), nI (q283.pc), nI (q283.a), nI (q283.b), nI (q283.c), nI (q283.d), nI (q283.e), nI (q283.f), nI (q283.sudogs)]), (14, nB w254), (13, nI x101), (12, nI x100), (11, nI x83), (10, nI x82), (9, nI x66), (8, nI x67), (7, nP z17 0), (0, nI i0)]) (by kernel_rfl) (by kernel_rfl) ?_
           intro w295 a296 hS297 hF298; clear hF292 hS294
           refine ⟨⟨_, hS297.pick2⟩, ?_⟩
           refine any_many 1 [(12, some (nI x284))] [0, 7, 8, 9, 10, 11, 12, 13, 14, 15] #[true, true, true, true, true, true, true, true, true, true, true, true, true] (by rfl) hF298 (by kernel_rfl) (by kernel_rfl) (by exact ⟨fun wS hw => by kernel_rfl, trivial⟩) (fun _ _ _ _ _ h => h) ⟨_, hS297.pick2⟩ (l' := [(15, nI x284), (14, nB w254), (13, nI x101), (12, nI x100), (11, nI x83), (10, nI x82), (9, nI x66), (8, nI x67), (7, nP z17 0), (0, nI i0)]) (by kernel_rfl) ?_
           intro a300 hF299; clear hF298
           refine any_done (by kernel_rfl) ?_
           exact thenN ⟨(w254.heap.size), s285, s251, q283.id, q283.status, q283.pc, q283.a, q283.b, q283.c, q283.d, q283.e, q283.f, q283.sudogs, x284, hF299, hS297, hm287⟩
       · skip
         have hS301 : St w0 F0 (BlkP ((w105.drew).heap.size) 29 #[nI 0, nI 0, nI 0, nI 0, nI 0, nI 0, nI 0, nI 0, nI 0, nI 0] :: BlkP z17 55 #[nP z18 0, nP z20 0, nS g77 L9 c34, .slice p37 L10.length c38] :: HeapP z18 z19 s102 :: RowP (nS g77 L9 c34) L9 :: RHeapP z20 z21 z22 z23 z24 s45 :: RowP (.slice p37 L10.length c38) L10 :: ps) ((w105.drew).alloc (.cells #[nI 0, nI 0, nI 0, nI 0, nI 0, nI 0, nI 0, nI 0, nI 0, nI 0] 29)) := St.new hS245 #[nI 0, nI 0, nI 0, nI 0, nI 0, nI 0, nI 0, nI 0, nI 0, nI 0] 29
         clear hS245
         refine op_step 10 #[true, true, true, true, true, false, false, false, false, false, true, false, false] (nB (w105.drew)) ((w105.drew).alloc (.cells #[nI 0, nI 0, nI 0, nI 0, nI 0, nI 0, nI 0, nI 0, nI 0, nI 0] 29)) hF246 rfl (by kernel_rfl) rfl (by kernel_rfl) (by kernel_rfl) (l' := [(14, nB (w105.drew)), (87, nP z17 0), (86, nP z18 0), (13, nI x101), (12, nI x100), (11, nI x83), (10, nI x82), (9, nI x66), (8, nI x67), (7, nP z17 0), (0, nI i0)]) (by kernel_rfl) ⟨_, hS301.pick1⟩ (by kernel_rfl) ?_
         intro a303 hF302; clear hF246
         have hS304 := hS301.pick5.pick4.pick5.pick5.pick5
         clear hS301
         refine any_call 5 #[true, true, true, true, true, true, false, false, false, false, true, false, false] 29 #[nP z17 0, nI 0] hF302 rfl (by kernel_rfl) rfl rfl (by kernel_rfl) rfl (by kernel_rfl) (fun w => by kernel_rfl) (by kernel_rfl) ?_
         obtain ⟨x305, s306, s307, hx308, hm309⟩ := bind3E hm104; clear hm104
         refine (law15_gor.ok hS304 hx308).mono ?_
         rintro _ w310 ⟨rfl, hS312⟩; clear hS304
         refine ⟨⟨_, hS312⟩, ?_⟩
         intro a311 hF313; clear hF302
         have hS314 := hS312.pick1
         clear hS312
         refine any_call 6 #[true, true, true, true, true, true, true, false, false, false, true, false, false] 36 #[nP z18 0, nI x305] hF313 rfl (by kernel_rfl) rfl rfl (by kernel_rfl) rfl (by kernel_rfl) (fun w => by kernel_rfl) (by kernel_rfl) ?_
         obtain ⟨q315, x316, s317, hx318, hm319⟩ := bind3E hm309; clear hm309
         refine (view_Gor.ok hS314 hx318).mono ?_
         rintro _ w320 ⟨rfl, hS322⟩; clear hS314
         refine ⟨⟨_, hS322.pick1⟩, ?_⟩
         intro a321 hF323; clear hF313
         refine any_many 3 [(7, some (.tuple #[.agg #[nI (q315.id), nI (q315.status), nI (q315.pc), nI (q315.a), nI (q315.b), nI (q315.c), nI (q315.d), nI (q315.e), nI (q315.f), nI (q315.sudogs)], nI x316])), (8, some (.agg #[nI (q315.id), nI (q315.status), nI (q315.pc), nI (q315.a), nI (q315.b), nI (q315.c), nI (q315.d), nI (q315.e), nI (q315.f), nI (q315.sudogs)])), (9, some (nI x316))] [0, 7, 8, 9, 10, 11, 12, 13, 14, 15, 90, 91] #[true, true, true, true, true, true, true, true, true, true, true, false, false] (by rfl) hF323 (by kernel_rfl) (by kernel_rfl) (by exact ⟨fun wS hw => by kernel_rfl, fun wS hw => by kernel_rfl, fun wS hw => by kernel_rfl, trivial⟩) (fun _ _ _ _ _ h => h) ⟨_, hS322.pick1⟩ (l' := [(91, nI x316), (90, .agg #[nI (q315.id), nI (q315.status), nI (q315.pc), nI (q315.a), nI (q315.b), nI (q315.c), nI (q315.d), nI (q315.e), nI (q315.f), nI (q315.sudogs)]), (14, nB (w105.drew)), (13, nI x101), (12, nI x100), (11, nI x83), (10, nI x82), (9, nI x66), (8, nI x67), (7, nP z17 0), (0, nI i0)]) (by kernel_rfl) ?_
         intro a325 hF324; clear hF323
         refine any_one 11 (by kernel_rfl) ?_
         have hS326 := hS322.pick5
         clear hS322
         refine op_store 11 #[true, true, true, true, true, true, true, true, true, true, true, true, false] (.agg #[nI (q315.id), nI (q315.status), nI (q315.pc), nI (q315.a), nI (q315.b), nI (q315.c), nI (q315.d), nI (q315.e), nI (q315.f), nI (q315.sudogs)]) #[nI (q315.id), nI (q315.status), nI (q315.pc), nI (q315.a), nI (q315.b), nI (q315.c), nI (q315.d), nI (q315.e), nI (q315.f), nI (q315.sudogs)] hF324 rfl (by kernel_rfl) rfl rfl rfl rfl (by kernel_rfl) hS326 (by kernel_rfl) (by kernel_rfl) (by kernel_rfl) (l' := [(91, nI x316), (90, .agg #[nI (q315.id), nI (q315.status), nI (q315.pc), nI (q315.a), nI (q315.b), nI (q315.c), nI (q315.d), nI (q315.e), nI (q315.f), nI (q315.sudogs)]), (14, nB (w105.drew)), (13, nI x101), (12, nI x100), (11, nI x83), (10, nI x82), (9, nI x66), (8, nI x67), (7, nP z17 0), (0, nI i0)]) (by kernel_rfl) (by kernel_rfl) ?_
         intro w327 a328 hS329 hF330; clear hF324 hS326
         refine ⟨⟨_, hS329.pick2⟩, ?_⟩
         refine any_many 1 [(12, some (nI x316))] [0, 7, 8, 9, 10, 11, 12, 13, 14, 15] #[true, true, true, true, true, true, true, true, true, true, true, true, true] (by rfl) hF330 (by kernel_rfl) (by kernel_rfl) (by exact ⟨fun wS hw => by kernel_rfl, trivial⟩) (fun _ _ _ _ _ h => h) ⟨_, hS329.pick2⟩ (l' := [(15, nI x316), (14, nB (w105.drew)), (13, nI x101), (12, nI x100), (11, nI x83), (10, nI x82), (9, nI x66), (8, nI x67), (7, nP z17 0), (0, nI i0)]) (by kernel_rfl) ?_
         intro a332 hF331; clear hF330
         refine any_done (by kernel_rfl) ?_
         exact thenN ⟨((w105.drew).heap.size), s317, s307, q315.id, q315.status, q315.pc, q315.a, q315.b, q315.c, q315.d, q315.e, q315.f, q315.sudogs, x316, hF331, hS329, hm319⟩
   · skip
     cases hc333 : (i2)
     case true =>
      rw [hc333] at hF64
      have hm334 := ifYes hc333 hm60; clear hm60
      refine ev_condT hF64 rfl rfl ?_
      refine wp_region_lit ?_
      refine ev_runK 2 hF64 [0, 1, 7, 8, 9] (l' := [(9, nI 0), (8, nI 1), (7, nP z17 0), (0, nI i0), (1, nI i1)]) (w' := w49) (by kernel_rfl) ?_
      intro a336 hF335; clear hF64
      refine wpList_nil ?_
      exact thenN ⟨0, 1, hF335, hS51, hm334⟩
     rw [hc333] at hF64
     have hm337 := ifNot hc333 hm60; clear hm60
     refine ev_condF hF64 rfl rfl ?_
     refine wp_skip ?_
     have hF338 := hF64.keep [0, 1, 7, 8, 9]
     clear hF64
     exact thenN ⟨1, 0, hF338, hS51, hm337⟩
 · skip
   -- draws
   have hS339 := hS43.pick3.pick1
   clear hS43
   have hS340 := hS339.drew; clear hS339
   refine any_start (fun wS => ∃ qs, St w0 F0 (BlkP z17 55 #[nP z18 0, nP z20 0, .slice p33 L9.length c34, .slice p37 L10.length c38] :: RowP (.slice p33 L9.length c34) L9 :: qs) wS) 27 #[false, false, false, false, false, false, false, false, false, false, false, false, false, false, false, false, false, false, false, false, false, false, false, false, false, false, false] (by kernel_rfl) (by kernel_rfl) (by kernel_rfl) ?_
   refine any_call 0 #[true, false, false, false, false, false, false, false, false, false, false, false, false, false, false, false, false, false, false, false, false, false, false, false, false, false, false] 27 #[] hF41 rfl (by kernel_rfl) rfl rfl (by kernel_rfl) rfl (by kernel_rfl) (fun w => by kernel_rfl) (by kernel_rfl) ?_
   obtain ⟨y341, hx342, hm343⟩ := bind1E hm12; clear hm12
   refine (law15_awake.ok hS340 hx342).mono ?_
   rintro _ w344 ⟨rfl, hS346⟩; clear hS340
   refine ⟨⟨_, hS346⟩, ?_⟩
   intro a345 hF347; clear hF41
   refine any_many 2 [(1, some (.bool (!(y341)))), (2, some (.bool (!(y341))))] [0, 1, 2, 7, 20, 21, 22, 23, 24, 25, 26, 27, 28, 29, 30, 31, 32, 33, 34, 35, 36, 37, 38, 39, 40, 41, 42, 43, 44] #[true, true, true, false, false, false, false, false, false, false, false, false, false, false, false, false, false, false, false, false, false, false, false, false, false, false, false] (by rfl) hF347 (by kernel_rfl) (by kernel_rfl) (by exact ⟨fun wS hw => by kernel_rfl, fun wS hw => by kernel_rfl, trivial⟩) (fun _ _ _ _ _ h => h) ⟨_, hS346⟩ (l' := [(20, .bool (!(y341))), (7, nP z17 0), (0, nI i0), (1, nI i1), (2, .bool (i2))]) (by kernel_rfl) ?_
   intro a349 hF348; clear hF347
   cases hc350 : (!(y341))
   case true =>
    rw [hc350] at hF348
    have hm351 := ifYes hc350 hm343; clear hm343
    refine any_many 24 [(3, none), (4, none), (5, some (.bool true)), (6, some (.bool true)), (7, none), (8, none), (9, none), (10, none), (11, none), (12, none), (13, none), (14, none), (15, none), (16, none), (17, none), (18, none), (19, none), (20, none), (21, none), (22, none), (23, none), (24, none), (25, none), (26, some (.bool true))] [0, 1, 2, 7, 44] #[true, true, true, true, true, true, true, true, true, true, true, true, true, true, true, true, true, true, true, true, true, true, true, true, true, true, true] (by rfl) hF348 (by kernel_rfl) (by kernel_rfl) (by exact (And.intro trivial (And.intro trivial (And.intro (fun wS hw => by kernel_rfl) (And.intro (fun wS hw => by kernel_rfl) (And.intro trivial (And.intro trivial (And.intro trivial (And.intro trivial (And.intro trivial (And.intro trivial (And.intro trivial (And.intro trivial (And.intro trivial (And.intro trivial (And.intro trivial (And.intro trivial (And.intro trivial (And.intro trivial (And.intro trivial (And.intro trivial (And.intro trivial (And.intro trivial (And.intro trivial (And.intro (fun wS hw => by kernel_rfl) trivial))))))))))))))))))))))))) (fun _ _ _ _ _ h => h) ⟨_, hS346⟩ (l' := [(44, .bool true), (7, nP z17 0), (0, nI i0), (1, nI i1), (2, .bool (i2))]) (by kernel_rfl) ?_
    intro a353 hF352; clear hF348
    refine any_done (by kernel_rfl) ?_
    exact thenN ⟨s7, s8, true, hF352, hS346, hm351⟩
   rw [hc350] at hF348
   have hm354 := ifNot hc350 hm343; clear hm343
   refine any_many 10 [(3, some (nP z17 0)), (4, some (.bool false)), (5, some (.bool false)), (6, some (.bool false)), (7, some (nP z17 0)), (8, some (nP z17 0)), (10, some (nP z17 0)), (11, some (nP z17 0)), (12, some (nP z17 2)), (13, some (.slice p33 L9.length c34))] [0, 1, 2, 7, 24, 25, 26, 27, 31, 32, 33, 34, 35, 36, 37, 38, 39, 40, 41, 42, 43, 44] #[true, true, true, true, true, true, true, true, true, false, true, true, true, true, false, false, false, false, false, false, false, false, false, false, false, false, false] (by rfl) hF348 (by kernel_rfl) (by kernel_rfl) (by exact ⟨fun wS hw => by kernel_rfl, fun wS hw => by kernel_rfl, fun wS hw => by kernel_rfl, fun wS hw => by kernel_rfl, fun wS hw => by kernel_rfl, fun wS hw => by kernel_rfl, fun wS hw => by kernel_rfl, fun wS hw => by kernel_rfl, fun wS hw => by kernel_rfl, fun wS hw => hw.elim fun qs hw => run_loadV rfl rfl (run_loadS rfl rfl (hw.cell 0 rfl 2 rfl)), trivial⟩) (fun _ _ _ _ _ h => h) ⟨_, hS346⟩ (l' := [(31, .slice p33 L9.length c34), (26, nP z17 0), (25, nP z17 0), (24, .bool false), (7, nP z17 0), (0, nI i0), (1, nI i1), (2, .bool (i2))]) (by kernel_rfl) ?_
   intro a356 hF355; clear hF348
   obtain ⟨hc357, hm358⟩ := ifTE hm354; clear hm354
   obtain ⟨g359, rfl⟩ := hp35.resolve_left (by have := inR_spec hc357; omega)
   refine any_many 6 [(14, some (nP g359 ((0 : Int).toNat))), (15, some (nI (atI L9 (0 : Int)))), (16, some (nP z17 0)), (17, some (nP z17 0)), (18, some (nP z17 2)), (19, some (nS g359 L9 c34))] [0, 1, 2, 7, 24, 25, 26, 27, 33, 37, 38, 39, 40, 41, 42, 43, 44] #[true, true, true, true, true, true, true, true, true, false, true, true, true, true, true, true, true, true, true, true, false, false, false, false, false, false, false] (by rfl) hF355 (by kernel_rfl) (by kernel_rfl) (by exact ⟨fun wS hw => run_idx rfl rfl rfl rfl rfl (inR_spec hc357).1 (inR_spec hc357).2 _, fun wS hw => run_load1 rfl rfl rfl (hw.elim fun qs hw => hw.atI 1 rfl hc357), fun wS hw => by kernel_rfl, fun wS hw => by kernel_rfl, fun wS hw => by kernel_rfl, fun wS hw => hw.elim fun qs hw => run_loadV rfl rfl (run_loadS rfl rfl (hw.cell 0 rfl 2 rfl)), trivial⟩) (fun _ _ _ _ _ h => h) ⟨_, hS346⟩ (l' := [(37, nS g359 L9 c34), (33, nI (atI L9 (0 : Int))), (26, nP z17 0), (25, nP z17 0), (24, .bool false), (7, nP z17 0), (0, nI i0), (1, nI i1), (2, .bool (i2))]) (by kernel_rfl) ?_
   intro a361 hF360; clear hF355
   obtain ⟨hc362, hm363⟩ := ifTE hm358; clear hm358
   refine any_many 2 [(20, some (nP g359 ((1 : Int).toNat))), (21, some (nI (atI L9 (1 : Int))))] [0, 1, 2, 7, 24, 25, 26, 27, 33, 39, 40, 41, 42, 43, 44] #[true, true, true, true, true, true, true, true, true, false, true, true, true, true, true, true, true, true, true, true, true, true, false, false, false, false, false] (by rfl) hF360 (by kernel_rfl) (by kernel_rfl) (by exact ⟨fun wS hw => run_idx rfl rfl rfl rfl rfl (inR_spec hc362).1 (inR_spec hc362).2 _, fun wS hw => run_load1 rfl rfl rfl (hw.elim fun qs hw => hw.atI 1 rfl hc362), trivial⟩) (fun _ _ _ _ _ h => h) ⟨_, hS346⟩ (l' := [(39, nI (atI L9 (1 : Int))), (33, nI (atI L9 (0 : Int))), (26, nP z17 0), (25, nP z17 0), (24, .bool false), (7, nP z17 0), (0, nI i0), (1, nI i1), (2, .bool (i2))]) (by kernel_rfl) ?_
   intro a365 hF364; clear hF360
   refine any_three 9 22 23 (by kernel_rfl) ?_ ?_ ?_
   · skip
     have hS366 := hS346.pick4.pick2.pick4.pick4.pick4
     clear hS346
     refine op_call 9 #[true, true, true, true, true, true, true, true, true, true, true, true, true, true, true, true, true, true, true, true, true, true, false, false, false, false, false] 29 #[nP z17 0, nI 0] hF364 rfl rfl rfl (by kernel_rfl) rfl (by kernel_rfl) (fun w => by kernel_rfl) (by kernel_rfl) ?_
     obtain ⟨x367, s368, s369, hx370, hm371⟩ := bind3E hm363; clear hm363
     refine (law15_gor.ok hS366 hx370).mono ?_
     rintro _ w372 ⟨rfl, hS374⟩; clear hS366
     refine ⟨⟨_, hS374.pick3.pick1⟩, ?_⟩
     intro a373 hF375; clear hF364
     refine any_two 22 23 (by kernel_rfl) ?_ ?_
     · skip
       have hS376 : St w0 F0 (RowP (.slice (some ⟨w372.heap.size, 0, none⟩) 2 2) [atI L9 (0 : Int), atI L9 (1 : Int)] :: BlkP z17 55 #[nP z18 0, nP z20 0, nS g359 L9 c34, .slice p37 L10.length c38] :: HeapP z18 z19 s368 :: RHeapP z20 z21 z22 z23 z24 s369 :: RowP (nS g359 L9 c34) L9 :: RowP (.slice p37 L10.length c38) L10 :: ps) (w372.alloc (.cells #[nI (atI L9 (0 : Int)), nI (atI L9 (1 : Int))] 3)) := St.lit hS374 [atI L9 (0 : Int), atI L9 (1 : Int)] (by unfold maxLen; simp)
       clear hS374
       refine op_step 22 #[true, true, true, true, true, true, true, true, true, true, true, true, true, true, true, true, true, true, true, true, true, true, true, false, false, false, false] (.slice (some ⟨w372.heap.size, 0, none⟩) 2 2) (w372.alloc (.cells #[nI (atI L9 (0 : Int)), nI (atI L9 (1 : Int))] 3)) hF375 rfl (by kernel_rfl) rfl (by kernel_rfl) (by kernel_rfl) (l' := [(40, .slice (some ⟨w372.heap.size, 0, none⟩) 2 2), (27, nI x367), (39, nI (atI L9 (1 : Int))), (33, nI (atI L9 (0 : Int))), (26, nP z17 0), (25, nP z17 0), (24, .bool false), (7, nP z17 0), (0, nI i0), (1, nI i1), (2, .bool (i2))]) (by kernel_rfl) ⟨_, hS376.pick4.pick2⟩ (by kernel_rfl) ?_
       intro a378 hF377; clear hF375
       refine any_one 23 (by kernel_rfl) ?_
       have hS379 : St w0 F0 (BoolsP (.slice (some ⟨(w372.alloc (.cells #[nI (atI L9 (0 : Int)), nI (atI L9 (1 : Int))] 3)).heap.size, 0, none⟩) 2 2) [false, false] :: RowP (.slice (some ⟨w372.heap.size, 0, none⟩) 2 2) [atI L9 (0 : Int), atI L9 (1 : Int)] :: BlkP z17 55 #[nP z18 0, nP z20 0, nS g359 L9 c34, .slice p37 L10.length c38] :: HeapP z18 z19 s368 :: RHeapP z20 z21 z22 z23 z24 s369 :: RowP (nS g359 L9 c34) L9 :: RowP (.slice p37 L10.length c38) L10 :: ps) ((w372.alloc (.cells #[nI (atI L9 (0 : Int)), nI (atI L9 (1 : Int))] 3)).alloc (.cells #[.bool false, .bool false] 4)) := St.litB hS376 [false, false] (by unfold maxLen; simp)
       clear hS376
       refine op_step 23 #[true, true, true, true, true, true, true, true, true, true, true, true, true, true, true, true, true, true, true, true, true, true, true, true, false, false, false] (.slice (some ⟨(w372.alloc (.cells #[nI (atI L9 (0 : Int)), nI (atI L9 (1 : Int))] 3)).heap.size, 0, none⟩) 2 2) ((w372.alloc (.cells #[nI (atI L9 (0 : Int)), nI (atI L9 (1 : Int))] 3)).alloc (.cells #[.bool false, .bool false] 4)) hF377 rfl (by kernel_rfl) rfl (by kernel_rfl) (by kernel_rfl) (l' := [(41, .slice (some ⟨(w372.alloc (.cells #[nI (atI L9 (0 : Int)), nI (atI L9 (1 : Int))] 3)).heap.size, 0, none⟩) 2 2), (40, .slice (some ⟨w372.heap.size, 0, none⟩) 2 2), (27, nI x367), (39, nI (atI L9 (1 : Int))), (33, nI (atI L9 (0 : Int))), (26, nP z17 0), (25, nP z17 0), (24, .bool false), (7, nP z17 0), (0, nI i0), (1, nI i1), (2, .bool (i2))]) (by kernel_rfl) ⟨_, hS379.pick5.pick3⟩ (by kernel_rfl) ?_
       intro a381 hF380; clear hF377
       have hS382 := hS379.pick1.pick6.pick6.pick6.pick6.pick6
       clear hS379
       refine any_call 24 #[true, true, true, true, true, true, true, true, true, true, true, true, true, true, true, true, true, true, true, true, true, true, true, true, true, false, false] 41 #[nP z17 0, nI x367, .slice (some ⟨w372.heap.size, 0, none⟩) 2 2, .slice (some ⟨(w372.alloc (.cells #[nI (atI L9 (0 : Int)), nI (atI L9 (1 : Int))] 3)).heap.size, 0, none⟩) 2 2, nI 0, nI 20] hF380 rfl (by kernel_rfl) rfl rfl (by kernel_rfl) rfl (by kernel_rfl) (fun w => by kernel_rfl) (by kernel_rfl) ?_
       obtain ⟨y383, s384, s385, hx386, hm387⟩ := bind3E hm371; clear hm371
       refine (law15_wait.ok hS382 hx386).mono ?_
       rintro _ w388 ⟨rfl, hS390⟩; clear hS382
       refine ⟨⟨_, hS390.pick3.pick1⟩, ?_⟩
       intro a389 hF391; clear hF380
       refine any_many 2 [(25, some (.bool (!(y383)))), (26, some (.bool (!(y383))))] [0, 1, 2, 7, 44] #[true, true, true, true, true, true, true, true, true, true, true, true, true, true, true, true, true, true, true, true, true, true, true, true, true, true, true] (by rfl) hF391 (by kernel_rfl) (by kernel_rfl) (by exact ⟨fun wS hw => by kernel_rfl, fun wS hw => by kernel_rfl, trivial⟩) (fun _ _ _ _ _ h => h) ⟨_, hS390.pick3.pick1⟩ (l' := [(44, .bool (!(y383))), (7, nP z17 0), (0, nI i0), (1, nI i1), (2, .bool (i2))]) (by kernel_rfl) ?_
       intro a393 hF392; clear hF391
       refine any_done (by kernel_rfl) ?_
       have hS394 := hS390.pick5.drop.pick5.drop
       clear hS390
       have hS395 := hS394.pick4.pick3.pick3.pick4.pick4
       clear hS394
       exact thenN ⟨s384, s385, !(y383), hF392, hS395, hm387⟩
     · skip
       have hS396 : St w0 F0 (BoolsP (.slice (some ⟨w372.heap.size, 0, none⟩) 2 2) [false, false] :: BlkP z17 55 #[nP z18 0, nP z20 0, nS g359 L9 c34, .slice p37 L10.length c38] :: HeapP z18 z19 s368 :: RHeapP z20 z21 z22 z23 z24 s369 :: RowP (nS g359 L9 c34) L9 :: RowP (.slice p37 L10.length c38) L10 :: ps) (w372.alloc (.cells #[.bool false, .bool false] 4)) := St.litB hS374 [false, false] (by unfold maxLen; simp)
       clear hS374
       refine op_step 23 #[true, true, true, true, true, true, true, true, true, true, true, true, true, true, true, true, true, true, true, true, true, true, false, true, false, false, false] (.slice (some ⟨w372.heap.size, 0, none⟩) 2 2) (w372.alloc (.cells #[.bool false, .bool false] 4)) hF375 rfl (by kernel_rfl) rfl (by kernel_rfl) (by kernel_rfl) (l' := [(41, .slice (some ⟨w372.heap.size, 0, none⟩) 2 2), (27, nI x367), (39, nI (atI L9 (1 : Int))), (33, nI (atI L9 (0 : Int))), (26, nP z17 0), (25, nP z17 0), (24, .bool false), (7, nP z17 0), (0, nI i0), (1, nI i1), (2, .bool (i2))]) (by kernel_rfl) ⟨_, hS396.pick4.pick2⟩ (by kernel_rfl) ?_
       intro a398 hF397; clear hF375
       refine any_one 22 (by kernel_rfl) ?_
       have hS399 : St w0 F0 (RowP (.slice (some ⟨(w372.alloc (.cells #[.bool false, .bool false] 4)).heap.size, 0, none⟩) 2 2) [atI L9 (0 : Int), atI L9 (1 : Int)] :: BoolsP (.slice (some ⟨w372.heap.size, 0, none⟩) 2 2) [false, false] :: BlkP z17 55 #[nP z18 0, nP z20 0, nS g359 L9 c34, .slice p37 L10.length c38] :: HeapP z18 z19 s368 :: RHeapP z20 z21 z22 z23 z24 s369 :: RowP (nS g359 L9 c34) L9 :: RowP (.slice p37 L10.length c38) L10 :: ps) ((w372.alloc (.cells #[.bool false, .bool false] 4)).alloc (.cells #[nI (atI L9 (0 : Int)), nI (atI L9 (1 : Int))] 3)) := St.lit hS396 [atI L9 (0 : Int), atI L9 (1 : Int)] (by unfold maxLen; simp)
       clear hS396
       refine op_step 22 #[true, true, true, true, true, true, true, true, true, true, true, true, true, true, true, true, true, true, true, true, true, true, true, true, false, false, false] (.slice (some ⟨(w372.alloc (.cells #[.bool false, .bool false] 4)).heap.size, 0, none⟩) 2 2) ((w372.alloc (.cells #[.bool false, .bool false] 4)).alloc (.cells #[nI (atI L9 (0 : Int)), nI (atI L9 (1 : Int))] 3)) hF397 rfl (by kernel_rfl) rfl (by kernel_rfl) (by kernel_rfl) (l' := [(40, .slice (some ⟨(w372.alloc (.cells #[.bool false, .bool false] 4)).heap.size, 0, none⟩) 2 2), (41, .slice (some ⟨w372.heap.size, 0, none⟩) 2 2), (27, nI x367), (39, nI (atI L9 (1 : Int))), (33, nI (atI L9 (0 : Int))), (26, nP z17 0), (25, nP z17 0), (24, .bool false), (7, nP z17 0), (0, nI i0), (1, nI i1), (2, .bool (i2))]) (by kernel_rfl) ⟨_, hS399.pick5.pick3⟩ (by kernel_rfl) ?_
       intro a401 hF400; clear hF397
       have hS402 := hS399.pick1.pick1.pick6.pick6.pick6.pick6.pick6
       clear hS399
       refine any_call 24 #[true, true, true, true, true, true, true, true, true, true, true, true, true, true, true, true, true, true, true, true, true, true, true, true, true, false, false] 41 #[nP z17 0, nI x367, .slice (some ⟨(w372.alloc (.cells #[.bool false, .bool false] 4)).heap.size, 0, none⟩) 2 2, .slice (some ⟨w372.heap.size, 0, none⟩) 2 2, nI 0, nI 20] hF400 rfl (by kernel_rfl) rfl rfl (by kernel_rfl) rfl (by kernel_rfl) (fun w => by kernel_rfl) (by kernel_rfl) ?_
       obtain ⟨y403, s404, s405, hx406, hm407⟩ := bind3E hm371; clear hm371
       refine (law15_wait.ok hS402 hx406).mono ?_
       rintro _ w408 ⟨rfl, hS410⟩; clear hS402
       refine ⟨⟨_, hS410.pick3.pick1⟩, ?_⟩
       intro a409 hF411; clear hF400
       refine any_many 2 [(25, some (.bool (!(y403)))), (26, some (.bool (!(y403))))] [0, 1, 2, 7, 44] #[true, true, true, true, true, true, true, true, true, true, true, true, true, true, true, true, true, true, true, true, true, true, true, true, true, true, true] (by rfl) hF411 (by kernel_rfl) (by kernel_rfl) (by exact ⟨fun wS hw => by kernel_rfl, fun wS hw => by kernel_rfl, trivial⟩) (fun _ _ _ _ _ h => h) ⟨_, hS410.pick3.pick1⟩ (l' := [(44, .bool (!(y403))), (7, nP z17 0), (0, nI i0), (1, nI i1), (2, .bool (i2))]) (by kernel_rfl) ?_
       intro a413 hF412; clear hF411
       refine any_done (by kernel_rfl) ?_
       have hS414 := hS410.pick5.drop.pick5.drop
       clear hS410
       have hS415 := hS414.pick4.pick3.pick3.pick4.pick4
       clear hS414
       exact thenN ⟨s404, s405, !(y403), hF412, hS415, hm407⟩
   · skip
     have hS416 : St w0 F0 (RowP (.slice (some ⟨w344.heap.size, 0, none⟩) 2 2) [atI L9 (0 : Int), atI L9 (1 : Int)] :: BlkP z17 55 #[nP z18 0, nP z20 0, nS g359 L9 c34, .slice p37 L10.length c38] :: RowP (nS g359 L9 c34) L9 :: HeapP z18 z19 s7 :: RHeapP z20 z21 z22 z23 z24 s8 :: RowP (.slice p37 L10.length c38) L10 :: ps) (w344.alloc (.cells #[nI (atI L9 (0 : Int)), nI (atI L9 (1 : Int))] 3)) := St.lit hS346 [atI L9 (0 : Int), atI L9 (1 : Int)] (by unfold maxLen; simp)
     clear hS346
     refine op_step 22 #[true, true, true, true, true, true, true, true, true, false, true, true, true, true, true, true, true, true, true, true, true, true, true, false, false, false, false] (.slice (some ⟨w344.heap.size, 0, none⟩) 2 2) (w344.alloc (.cells #[nI (atI L9 (0 : Int)), nI (atI L9 (1 : Int))] 3)) hF364 rfl (by kernel_rfl) rfl (by kernel_rfl) (by kernel_rfl) (l' := [(40, .slice (some ⟨w344.heap.size, 0, none⟩) 2 2), (39, nI (atI L9 (1 : Int))), (33, nI (atI L9 (0 : Int))), (26, nP z17 0), (25, nP z17 0), (24, .bool false), (7, nP z17 0), (0, nI i0), (1, nI i1), (2, .bool (i2))]) (by kernel_rfl) ⟨_, hS416.pick2.pick2⟩ (by kernel_rfl) ?_
     intro a418 hF417; clear hF364
     refine any_two 9 23 (by kernel_rfl) ?_ ?_
     · skip
       have hS419 := hS416.pick5.pick3.pick5.pick5.pick5
       clear hS416
       refine op_call 9 #[true, true, true, true, true, true, true, true, true, true, true, true, true, true, true, true, true, true, true, true, true, true, true, false, false, false, false] 29 #[nP z17 0, nI 0] hF417 rfl rfl rfl (by kernel_rfl) rfl (by kernel_rfl) (fun w => by kernel_rfl) (by kernel_rfl) ?_
       obtain ⟨x420, s421, s422, hx423, hm424⟩ := bind3E hm363; clear hm363
       refine (law15_gor.ok hS419 hx423).mono ?_
       rintro _ w425 ⟨rfl, hS427⟩; clear hS419
       refine ⟨⟨_, hS427.pick3.pick1⟩, ?_⟩
       intro a426 hF428; clear hF417
       refine any_one 23 (by kernel_rfl) ?_
       have hS429 : St w0 F0 (BoolsP (.slice (some ⟨w425.heap.size, 0, none⟩) 2 2) [false, false] :: BlkP z17 55 #[nP z18 0, nP z20 0, nS g359 L9 c34, .slice p37 L10.length c38] :: HeapP z18 z19 s421 :: RHeapP z20 z21 z22 z23 z24 s422 :: RowP (nS g359 L9 c34) L9 :: RowP (.slice p37 L10.length c38) L10 :: RowP (.slice (some ⟨w344.heap.size, 0, none⟩) 2 2) [atI L9 (0 : Int), atI L9 (1 : Int)] :: ps) (w425.alloc (.cells #[.bool false, .bool false] 4)) := St.litB hS427 [false, false] (by unfold maxLen; simp)
       clear hS427
       refine op_step 23 #[true, true, true, true, true, true, true, true, true, true, true, true, true, true, true, true, true, true, true, true, true, true, true, true, false, false, false] (.slice (some ⟨w425.heap.size, 0, none⟩) 2 2) (w425.alloc (.cells #[.bool false, .bool false] 4)) hF428 rfl (by kernel_rfl) rfl (by kernel_rfl) (by kernel_rfl) (l' := [(41, .slice (some ⟨w425.heap.size, 0, none⟩) 2 2), (27, nI x420), (40, .slice (some ⟨w344.heap.size, 0, none⟩) 2 2), (39, nI (atI L9 (1 : Int))), (33, nI (atI L9 (0 : Int))), (26, nP z17 0), (25, nP z17 0), (24, .bool false), (7, nP z17 0), (0, nI i0), (1, nI i1), (2, .bool (i2))]) (by kernel_rfl) ⟨_, hS429.pick4.pick2⟩ (by kernel_rfl) ?_
       intro a431 hF430; clear hF428
       have hS432 := hS429.pick6.pick6.pick6.pick6.pick6.pick6
       clear hS429
       refine any_call 24 #[true, true, true, true, true, true, true, true, true, true, true, true, true, true, true, true, true, true, true, true, true, true, true, true, true, false, false] 41 #[nP z17 0, nI x420, .slice (some ⟨w344.heap.size, 0, none⟩) 2 2, .slice (some ⟨w425.heap.size, 0, none⟩) 2 2, nI 0, nI 20] hF430 rfl (by kernel_rfl) rfl rfl (by kernel_rfl) rfl (by kernel_rfl) (fun w => by kernel_rfl) (by kernel_rfl) ?_
       obtain ⟨y433, s434, s435, hx436, hm437⟩ := bind3E hm424; clear hm424
       refine (law15_wait.ok hS432 hx436).mono ?_
       rintro _ w438 ⟨rfl, hS440⟩; clear hS432
       refine ⟨⟨_, hS440.pick3.pick1⟩, ?_⟩
       intro a439 hF441; clear hF430
       refine any_many 2 [(25, some (.bool (!(y433)))), (26, some (.bool (!(y433))))] [0, 1, 2, 7, 44] #[true, true, true, true, true, true, true, true, true, true, true, true, true, true, true, true, true, true, true, true, true, true, true, true, true, true, true] (by rfl) hF441 (by kernel_rfl) (by kernel_rfl) (by exact ⟨fun wS hw => by kernel_rfl, fun wS hw => by kernel_rfl, trivial⟩) (fun _ _ _ _ _ h => h) ⟨_, hS440.pick3.pick1⟩ (l' := [(44, .bool (!(y433))), (7, nP z17 0), (0, nI i0), (1, nI i1), (2, .bool (i2))]) (by kernel_rfl) ?_
       intro a443 hF442; clear hF441
       refine any_done (by kernel_rfl) ?_
       have hS444 := hS440.pick5.drop.pick5.drop
       clear hS440
       have hS445 := hS444.pick4.pick3.pick3.pick4.pick4
       clear hS444
       exact thenN ⟨s434, s435, !(y433), hF442, hS445, hm437⟩
     · skip
       have hS446 : St w0 F0 (BoolsP (.slice (some ⟨(w344.alloc (.cells #[nI (atI L9 (0 : Int)), nI (atI L9 (1 : Int))] 3)).heap.size, 0, none⟩) 2 2) [false, false] :: RowP (.slice (some ⟨w344.heap.size, 0, none⟩) 2 2) [atI L9 (0 : Int), atI L9 (1 : Int)] :: BlkP z17 55 #[nP z18 0, nP z20 0, nS g359 L9 c34, .slice p37 L10.length c38] :: RowP (nS g359 L9 c34) L9 :: HeapP z18 z19 s7 :: RHeapP z20 z21 z22 z23 z24 s8 :: RowP (.slice p37 L10.length c38) L10 :: ps) ((w344.alloc (.cells #[nI (atI L9 (0 : Int)), nI (atI L9 (1 : Int))] 3)).alloc (.cells #[.bool false, .bool false] 4)) := St.litB hS416 [false, false] (by unfold maxLen; simp)
       clear hS416
       refine op_step 23 #[true, true, true, true, true, true, true, true, true, false, true, true, true, true, true, true, true, true, true, true, true, true, true, true, false, false, false] (.slice (some ⟨(w344.alloc (.cells #[nI (atI L9 (0 : Int)), nI (atI L9 (1 : Int))] 3)).heap.size, 0, none⟩) 2 2) ((w344.alloc (.cells #[nI (atI L9 (0 : Int)), nI (atI L9 (1 : Int))] 3)).alloc (.cells #[.bool false, .bool false] 4)) hF417 rfl (by kernel_rfl) rfl (by kernel_rfl) (by kernel_rfl) (l' := [(41, .slice (some ⟨(w344.alloc (.cells #[nI (atI L9 (0 : Int)), nI (atI L9 (1 : Int))] 3)).heap.size, 0, none⟩) 2 2), (40, .slice (some ⟨w344.heap.size, 0, none⟩) 2 2), (39, nI (atI L9 (1 : Int))), (33, nI (atI L9 (0 : Int))), (26, nP z17 0), (25, nP z17 0), (24, .bool false), (7, nP z17 0), (0, nI i0), (1, nI i1), (2, .bool (i2))]) (by kernel_rfl) ⟨_, hS446.pick3.pick3⟩ (by kernel_rfl) ?_
       intro a448 hF447; clear hF417
       have hS449 := hS446.pick6.pick4.pick6.pick6.pick6
       clear hS446
       refine any_call 9 #[true, true, true, true, true, true, true, true, true, true, true, true, true, true, true, true, true, true, true, true, true, true, true, true, false, false, false] 29 #[nP z17 0, nI 0] hF447 rfl (by kernel_rfl) rfl rfl (by kernel_rfl) rfl (by kernel_rfl) (fun w => by kernel_rfl) (by kernel_rfl) ?_
       obtain ⟨x450, s451, s452, hx453, hm454⟩ := bind3E hm363; clear hm363
       refine (law15_gor.ok hS449 hx453).mono ?_
       rintro _ w455 ⟨rfl, hS457⟩; clear hS449
       refine ⟨⟨_, hS457.pick3.pick1⟩, ?_⟩
       intro a456 hF458; clear hF447
       have hS459 := hS457.pick5.pick6.pick6.pick6.pick6.pick6.pick6
       clear hS457
       refine any_call 24 #[true, true, true, true, true, true, true, true, true, true, true, true, true, true, true, true, true, true, true, true, true, true, true, true, true, false, false] 41 #[nP z17 0, nI x450, .slice (some ⟨w344.heap.size, 0, none⟩) 2 2, .slice (some ⟨(w344.alloc (.cells #[nI (atI L9 (0 : Int)), nI (atI L9 (1 : Int))] 3)).heap.size, 0, none⟩) 2 2, nI 0, nI 20] hF458 rfl (by kernel_rfl) rfl rfl (by kernel_rfl) rfl (by kernel_rfl) (fun w => by kernel_rfl) (by kernel_rfl) ?_
       obtain ⟨y460, s461, s462, hx463, hm464⟩ := bind3E hm454; clear hm454
       refine (law15_wait.ok hS459 hx463).mono ?_
       rintro _ w465 ⟨rfl, hS467⟩; clear hS459
       refine ⟨⟨_, hS467.pick3.pick1⟩, ?_⟩
       intro a466 hF468; clear hF458
       refine any_many 2 [(25, some (.bool (!(y460)))), (26, some (.bool (!(y460))))] [0, 1, 2, 7, 44] #[true, true, true, true, true, true, true, true, true, true, true, true, true, true, true, true, true, true, true, true, true, true, true, true, true, true, true] (by rfl) hF468 (by kernel_rfl) (by kernel_rfl) (by exact ⟨fun wS hw => by kernel_rfl, fun wS hw => by kernel_rfl, trivial⟩) (fun _ _ _ _ _ h => h) ⟨_, hS467.pick3.pick1⟩ (l' := [(44, .bool (!(y460))), (7, nP z17 0), (0, nI i0), (1, nI i1), (2, .bool (i2))]) (by kernel_rfl) ?_
       intro a470 hF469; clear hF468
       refine any_done (by kernel_rfl) ?_
       have hS471 := hS467.pick5.drop.pick5.drop
       clear hS467
       have hS472 := hS471.pick4.pick3.pick3.pick4.pick4
       clear hS471
       exact thenN ⟨s461, s462, !(y460), hF469, hS472, hm464⟩
   · skip
     have hS473 : St w0 F0 (BoolsP (.slice (some ⟨w344.heap.size, 0, none⟩) 2 2) [false, false] :: BlkP z17 55 #[nP z18 0, nP z20 0, nS g359 L9 c34, .slice p37 L10.length c38] :: RowP (nS g359 L9 c34) L9 :: HeapP z18 z19 s7 :: RHeapP z20 z21 z22 z23 z24 s8 :: RowP (.slice p37 L10.length c38) L10 :: ps) (w344.alloc (.cells #[.bool false, .bool false] 4)) := St.litB hS346 [false, false] (by unfold maxLen; simp)
     clear hS346
     refine op_step 23 #[true, true, true, true, true, true, true, true, true, false, true, true, true, true, true, true, true, true, true, true, true, true, false, true, false, false, false] (.slice (some ⟨w344.heap.size, 0, none⟩) 2 2) (w344.alloc (.cells #[.bool false, .bool false] 4)) hF364 rfl (by kernel_rfl) rfl (by kernel_rfl) (by kernel_rfl) (l' := [(41, .slice (some ⟨w344.heap.size, 0, none⟩) 2 2), (39, nI (atI L9 (1 : Int))), (33, nI (atI L9 (0 : Int))), (26, nP z17 0), (25, nP z17 0), (24, .bool false), (7, nP z17 0), (0, nI i0), (1, nI i1), (2, .bool (i2))]) (by kernel_rfl) ⟨_, hS473.pick2.pick2⟩ (by kernel_rfl) ?_
     intro a475 hF474; clear hF364
     refine any_two 9 22 (by kernel_rfl) ?_ ?_
     · skip
       have hS476 := hS473.pick5.pick3.pick5.pick5.pick5
       clear hS473
       refine op_call 9 #[true, true, true, true, true, true, true, true, true, true, true, true, true, true, true, true, true, true, true, true, true, true, false, true, false, false, false] 29 #[nP z17 0, nI 0] hF474 rfl rfl rfl (by kernel_rfl) rfl (by kernel_rfl) (fun w => by kernel_rfl) (by kernel_rfl) ?_
       obtain ⟨x477, s478, s479, hx480, hm481⟩ := bind3E hm363; clear hm363
       refine (law15_gor.ok hS476 hx480).mono ?_
       rintro _ w482 ⟨rfl, hS484⟩; clear hS476
       refine ⟨⟨_, hS484.pick3.pick1⟩, ?_⟩
       intro a483 hF485; clear hF474
       refine any_one 22 (by kernel_rfl) ?_
       have hS486 : St w0 F0 (RowP (.slice (some ⟨w482.heap.size, 0, none⟩) 2 2) [atI L9 (0 : Int), atI L9 (1 : Int)] :: BlkP z17 55 #[nP z18 0, nP z20 0, nS g359 L9 c34, .slice p37 L10.length c38] :: HeapP z18 z19 s478 :: RHeapP z20 z21 z22 z23 z24 s479 :: RowP (nS g359 L9 c34) L9 :: RowP (.slice p37 L10.length c38) L10 :: BoolsP (.slice (some ⟨w344.heap.size, 0, none⟩) 2 2) [false, false] :: ps) (w482.alloc (.cells #[nI (atI L9 (0 : Int)), nI (atI L9 (1 : Int))] 3)) := St.lit hS484 [atI L9 (0 : Int), atI L9 (1 : Int)] (by unfold maxLen; simp)
       clear hS484
       refine op_step 22 #[true, true, true, true, true, true, true, true, true, true, true, true, true, true, true, true, true, true, true, true, true, true, true, true, false, false, false] (.slice (some ⟨w482.heap.size, 0, none⟩) 2 2) (w482.alloc (.cells #[nI (atI L9 (0 : Int)), nI (atI L9 (1 : Int))] 3)) hF485 rfl (by kernel_rfl) rfl (by kernel_rfl) (by kernel_rfl) (l' := [(40, .slice (some ⟨w482.heap.size, 0, none⟩) 2 2), (27, nI x477), (41, .slice (some ⟨w344.heap.size, 0, none⟩) 2 2), (39, nI (atI L9 (1 : Int))), (33, nI (atI L9 (0 : Int))), (26, nP z17 0), (25, nP z17 0), (24, .bool false), (7, nP z17 0), (0, nI i0), (1, nI i1), (2, .bool (i2))]) (by kernel_rfl) ⟨_, hS486.pick4.pick2⟩ (by kernel_rfl) ?_
       intro a488 hF487; clear hF485
       have hS489 := hS486.pick6.pick1.pick6.pick6.pick6.pick6.pick6
       clear hS486
       refine any_call 24 #[true, true, true, true, true, true, true, true, true, true, true, true, true, true, true, true, true, true, true, true, true, true, true, true, true, false, false] 41 #[nP z17 0, nI x477, .slice (some ⟨w482.heap.size, 0, none⟩) 2 2, .slice (some ⟨w344.heap.size, 0, none⟩) 2 2, nI 0, nI 20] hF487 rfl (by kernel_rfl) rfl rfl (by kernel_rfl) rfl (by kernel_rfl) (fun w => by kernel_rfl) (by kernel_rfl) ?_
       obtain ⟨y490, s491, s492, hx493, hm494⟩ := bind3E hm481; clear hm481
       refine (law15_wait.ok hS489 hx493).mono ?_
       rintro _ w495 ⟨rfl, hS497⟩; clear hS489
       refine ⟨⟨_, hS497.pick3.pick1⟩, ?_⟩
       intro a496 hF498; clear hF487
       refine any_many 2 [(25, some (.bool (!(y490)))), (26, some (.bool (!(y490))))] [0, 1, 2, 7, 44] #[true, true, true, true, true, true, true, true, true, true, true, true, true, true, true, true, true, true, true, true, true, true, true, true, true, true, true] (by rfl) hF498 (by kernel_rfl) (by kernel_rfl) (by exact ⟨fun wS hw => by kernel_rfl, fun wS hw => by kernel_rfl, trivial⟩) (fun _ _ _ _ _ h => h) ⟨_, hS497.pick3.pick1⟩ (l' := [(44, .bool (!(y490))), (7, nP z17 0), (0, nI i0), (1, nI i1), (2, .bool (i2))]) (by kernel_rfl) ?_
       intro a500 hF499; clear hF498
       refine any_done (by kernel_rfl) ?_
       have hS501 := hS497.pick5.drop.pick5.drop
       clear hS497
       have hS502 := hS501.pick4.pick3.pick3.pick4.pick4
       clear hS501
       exact thenN ⟨s491, s492, !(y490), hF499, hS502, hm494⟩
     · skip
       have hS503 : St w0 F0 (RowP (.slice (some ⟨(w344.alloc (.cells #[.bool false, .bool false] 4)).heap.size, 0, none⟩) 2 2) [atI L9 (0 : Int), atI L9 (1 : Int)] :: BoolsP (.slice (some ⟨w344.heap.size, 0, none⟩) 2 2) [false, false] :: BlkP z17 55 #[nP z18 0, nP z20 0, nS g359 L9 c34, .slice p37 L10.length c38] :: RowP (nS g359 L9 c34) L9 :: HeapP z18 z19 s7 :: RHeapP z20 z21 z22 z23 z24 s8 :: RowP (.slice p37 L10.length c38) L10 :: ps) ((w344.alloc (.cells #[.bool false, .bool false] 4)).alloc (.cells #[nI (atI L9 (0 : Int)), nI (atI L9 (1 : Int))] 3)) := St.lit hS473 [atI L9 (0 : Int), atI L9 (1 : Int)] (by unfold maxLen; simp)
       clear hS473
       refine op_step 22 #[true, true, true, true, true, true, true, true, true, false, true, true, true, true, true, true, true, true, true, true, true, true, true, true, false, false, false] (.slice (some ⟨(w344.alloc (.cells #[.bool false, .bool false] 4)).heap.size, 0, none⟩) 2 2) ((w344.alloc (.cells #[.bool false, .bool false] 4)).alloc (.cells #[nI (atI L9 (0 : Int)), nI (atI L9 (1 : Int))] 3)) hF474 rfl (by kernel_rfl) rfl (by kernel_rfl) (by kernel_rfl) (l' := [(40, .slice (some ⟨(w344.alloc (.cells #[.bool false, .bool false] 4)).heap.size, 0, none⟩) 2 2), (41, .slice (some ⟨w344.heap.size, 0, none⟩) 2 2), (39, nI (atI L9 (1 : Int))), (33, nI (atI L9 (0 : Int))), (26, nP z17 0), (25, nP z17 0), (24, .bool false), (7, nP z17 0), (0, nI i0), (1, nI i1), (2, .bool (i2))]) (by kernel_rfl) ⟨_, hS503.pick3.pick3⟩ (by kernel_rfl) ?_
       intro a505 hF504; clear hF474
       have hS506 := hS503.pick6.pick4.pick6.pick6.pick6
       clear hS503
       refine any_call 9 #[true, true, true, true, true, true, true, true, true, true, true, true, true, true, true, true, true, true, true, true, true, true, true, true, false, false, false] 29 #[nP z17 0, nI 0] hF504 rfl (by kernel_rfl) rfl rfl (by kernel_rfl) rfl (by kernel_rfl) (fun w => by kernel_rfl) (by kernel_rfl) ?_
       obtain ⟨x507, s508, s509, hx510, hm511⟩ := bind3E hm363; clear hm363
       refine (law15_gor.ok hS506 hx510).mono ?_
       rintro _ w512 ⟨rfl, hS514⟩; clear hS506
       refine ⟨⟨_, hS514.pick3.pick1⟩, ?_⟩
       intro a513 hF515; clear hF504
       refine any_call 24 #[true, true, true, true, true, true, true, true, true, true, true, true, true, true, true, true, true, true, true, true, true, true, true, true, true, false, false] 41 #[nP z17 0, nI x507, .slice (some ⟨(w344.alloc (.cells #[.bool false, .bool false] 4)).heap.size, 0, none⟩) 2 2, .slice (some ⟨w344.heap.size, 0, none⟩) 2 2, nI 0, nI 20] hF515 rfl (by kernel_rfl) rfl rfl (by kernel_rfl) rfl (by kernel_rfl) (fun w => by kernel_rfl) (by kernel_rfl) ?_
       obtain ⟨y516, s517, s518, hx519, hm520⟩ := bind3E hm511; clear hm511
       refine (law15_wait.ok hS514 hx519).mono ?_
       rintro _ w521 ⟨rfl, hS523⟩; clear hS514
       refine ⟨⟨_, hS523.pick3.pick1⟩, ?_⟩
       intro a522 hF524; clear hF515
       refine any_many 2 [(25, some (.bool (!(y516)))), (26, some (.bool (!(y516))))] [0, 1, 2, 7, 44] #[true, true, true, true, true, true, true, true, true, true, true, true, true, true, true, true, true, true, true, true, true, true, true, true, true, true, true] (by rfl) hF524 (by kernel_rfl) (by kernel_rfl) (by exact ⟨fun wS hw => by kernel_rfl, fun wS hw => by kernel_rfl, trivial⟩) (fun _ _ _ _ _ h => h) ⟨_, hS523.pick3.pick1⟩ (l' := [(44, .bool (!(y516))), (7, nP z17 0), (0, nI i0), (1, nI i1), (2, .bool (i2))]) (by kernel_rfl) ?_
       intro a526 hF525; clear hF524
       refine any_done (by kernel_rfl) ?_
       have hS527 := hS523.pick5.drop.pick5.drop
       clear hS523
       have hS528 := hS527.pick4.pick3.pick3.pick4.pick4
       clear hS527
       exact thenN ⟨s517, s518, !(y516), hF525, hS528, hm520⟩

end Go.Proofs.YtgejcjcpchofiaaGreat
