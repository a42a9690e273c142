/- G15 GSendNone SendNoneW SendNone -/
import Derived.Test.YtgejcjcpchofiaaGreatKG15w
import Derived.Test.YtgejcjcpchofiaaGreatKGSend
import Derived.Deep.LoopGhost
import Derived.KernelRfl
import Derived.Test.YtgejcjcpchofiaaGreatRows
import Derived.WalkKit
import Derived.WalkSpells
import Derived.WalkLawsBesides
import Derived.ProofKit
import Derived.OpenShut
/- The walks of G15, printed by gen/walk.py. -/
namespace Go.Proofs.YtgejcjcpchofiaaGreat
open Go.RowKit
set_option linter.unusedVariables false

def law15_awake.j1 (y100 : Bool) : Option (Bool) := some (y100)
def law15_awake.m (k : Nat) : Option (Bool) := bind4 (law15_made.m k [1] 1) fun s7 s8 L9 L10 => bind3 (law15_ch.m k s7 s8 L9 L10 0) fun x50 s51 s52 => bind3 (send_Try.m k s51 (IntKind.i64.wrap ((IntKind.i64.wrap (2 * x50)) + 1)) 6) fun x62 x63 s64 => bind3 (law15_ch.m k s64 s52 L9 L10 0) fun x77 s78 s79 => bind3 (send_Try.m k s78 (IntKind.i64.wrap ((IntKind.i64.wrap (2 * x77)) + 1)) 6) fun x89 x90 s91 => (if (x62 == (-1)) then (if (x63 == 1) then (if (x89 == (-1)) then (if (x90 == 0) then bind2 (send_Ready.m k s91 0) fun y129 s130 => law15_awake.j1 (!(y129)) else law15_awake.j1 false) else law15_awake.j1 false) else law15_awake.j1 false) else law15_awake.j1 false)
set_option maxRecDepth 100000 in
set_option maxHeartbeats 1500000 in
theorem law15_awake.ok {w0 w : World} {F0 : List Nat} {ps : List Piece} {k : Nat}  {r0 : Bool} (hS : St w0 F0 (ps) w) (hm : law15_awake.m k = some r0) :
    Calls Tryz.prog 27 #[] w fun e w' => e = .returned (.bool r0) ∧ St w0 F0 (ps) w' := by
 refine ev_enterL 56 [] Tryz.func27 rfl rfl (by simp) ?_
 intro a hF
 have hF0 : Fr 56 a [] := hF; clear hF
 unfold law15_awake.m at hm
 refine wp_seq (wp_region_lit ?_)
 refine ev_runK 1 hF0 [] (l' := []) (w' := w) (by kernel_rfl) ?_
 intro a2 hF1; clear hF0
 refine wpList_nil (thenN (wp_seq (wp_region_lit ?_)))
 refine ev_runs 1 hF1 (l' := [(6, .slice (some ⟨w.heap.size, 0, none⟩) 1 1)]) (w' := w.alloc (.cells #[nI 1] 3)) (by kernel_rfl) ?_
 intro a4 hF3; clear hF1
 have hS6 : St w0 F0 (RowP (.slice (some ⟨w.heap.size, 0, none⟩) 1 1) [1] :: ps) (w.alloc (.cells #[nI 1] 3)) := St.lit hS [1] (by unfold maxLen; simp)
 refine ev_call 26 #[.slice (some ⟨w.heap.size, 0, none⟩) 1 1, nI 1] hF3 rfl rfl (by kernel_rfl) rfl (by kernel_rfl) (fun w => by kernel_rfl) ?_
 obtain ⟨s7, s8, L9, L10, hx11, hm12⟩ := bind4E hm; clear hm
 refine (law15_made.ok hS6 hx11).mono ?_
 rintro _ w13 ⟨z17, z18, z19, z20, z21, z22, z23, z24, z25, z26, rfl, hS15⟩ a14 hF16; clear hF3 hS6
 have hS32 : St w0 F0 (RowP (.slice (some ⟨w.heap.size, 0, none⟩) 1 1) [1] :: BlkP z17 55 #[nP z18 0, nP z20 0, z25, z26] :: HeapP z18 z19 s7 :: RHeapP z20 z21 z22 z23 z24 s8 :: RowP (z25) L9 :: RowP (z26) L10 :: ps) w13 := hS15
 clear hS15
 obtain ⟨hl36, p33, c34, rfl, hp35⟩ := St.shape hS32 4 rfl
 obtain ⟨hl40, p37, c38, rfl, hp39⟩ := St.shape hS32 5 rfl
 refine ev_runK 1 hF16 [1] (l' := [(1, nP z17 0)]) (w' := w13) (by kernel_rfl) ?_
 intro a42 hF41; clear hF16
 refine wpList_nil ?_
 have hS43 := hS32.drop
 clear hS32
 refine thenN (wp_seq (wp_seq (wp_region_lit ?_)))
 refine ev_runK 2 hF41 [1, 9] (l' := [(9, .bool false), (1, nP z17 0)]) (w' := w13) (by kernel_rfl) ?_
 intro a45 hF44; clear hF41
 refine wpList_nil (thenN ?_)
 refine ev_condF hF44 rfl rfl ?_
 refine wp_skip ?_
 have hF46 := hF44.keep [1]
 clear hF44
 refine thenN (wp_seq ?_)
 -- draws
 have hS47 := hS43.drew; clear hS43
 refine any_start (fun wS => ∃ qs, St w0 F0 (BlkP z17 55 #[nP z18 0, nP z20 0, .slice p33 L9.length c34, .slice p37 L10.length c38] :: qs) wS) 14 #[false, false, false, false, false, false, false, false, false, false, false, false, false, false] (by kernel_rfl) (by kernel_rfl) (by kernel_rfl) ?_
 refine any_many 5 [(0, some (nP z17 0)), (1, some (nP z17 0)), (2, some (nP z17 0)), (3, some (nP z18 0)), (4, some (nP z17 0))] [1, 2, 3, 10, 14, 15, 16, 17, 18, 19, 20, 21] #[true, true, true, true, true, false, false, false, false, false, false, false, false, false] (by rfl) hF46 (by kernel_rfl) (by kernel_rfl) (by exact (And.intro (fun wS hw => by kernel_rfl) (And.intro (fun wS hw => by kernel_rfl) (And.intro (fun wS hw => by kernel_rfl) (And.intro (fun wS hw => hw.elim fun qs hw => run_loadV rfl rfl (run_loadS rfl rfl (hw.cell 0 rfl 0 rfl))) (And.intro (fun wS hw => by kernel_rfl) trivial)))))) (fun _ _ _ _ _ h => h) ⟨_, hS47⟩ (l' := [(15, nP z17 0), (14, nP z18 0), (1, nP z17 0)]) (by kernel_rfl) ?_
 intro a49 hF48; clear hF46
 refine any_call 5 #[true, true, true, true, true, true, false, false, false, false, false, false, false, false] 31 #[nP z17 0, nI 0] hF48 rfl (by kernel_rfl) rfl rfl (by kernel_rfl) rfl (by kernel_rfl) (fun w => by kernel_rfl) (by kernel_rfl) ?_
 obtain ⟨x50, s51, s52, hx53, hm54⟩ := bind3E hm12; clear hm12
 refine (law15_ch.ok hS47 hx53).mono ?_
 rintro _ w55 ⟨rfl, hS57⟩; clear hS47
 refine ⟨⟨_, hS57⟩, ?_⟩
 intro a56 hF58; clear hF48
 refine any_many 2 [(6, some (nI (IntKind.i64.wrap (2 * x50)))), (7, some (nI (IntKind.i64.wrap ((IntKind.i64.wrap (2 * x50)) + 1))))] [1, 2, 3, 10, 14, 18, 19, 20, 21] #[true, true, true, true, true, true, true, true, false, false, false, false, false, false] (by rfl) hF58 (by kernel_rfl) (by kernel_rfl) (by exact (And.intro (fun wS hw => by kernel_rfl) (And.intro (fun wS hw => by kernel_rfl) trivial))) (fun _ _ _ _ _ h => h) ⟨_, hS57⟩ (l' := [(18, nI (IntKind.i64.wrap ((IntKind.i64.wrap (2 * x50)) + 1))), (14, nP z18 0), (1, nP z17 0)]) (by kernel_rfl) ?_
 intro a60 hF59; clear hF58
 have hS61 := hS57.pick1
 clear hS57
 refine any_call 8 #[true, true, true, true, true, true, true, true, true, false, false, false, false, false] 28 #[nP z18 0, nI (IntKind.i64.wrap ((IntKind.i64.wrap (2 * x50)) + 1)), nI 6] hF59 rfl (by kernel_rfl) rfl rfl (by kernel_rfl) rfl (by kernel_rfl) (fun w => by kernel_rfl) (by kernel_rfl) ?_
 obtain ⟨x62, x63, s64, hx65, hm66⟩ := bind3E hm54; clear hm54
 refine (send_Try.ok hS61 hx65).mono ?_
 rintro _ w67 ⟨rfl, hS69⟩; clear hS61
 refine ⟨⟨_, hS69.pick1⟩, ?_⟩
 intro a68 hF70; clear hF59
 refine any_many 5 [(9, some (.tuple #[nI x62, nI x63])), (10, some (nI x62)), (11, some (nI x63)), (12, some (nI x62)), (13, some (nI x63))] [1, 2, 3] #[true, true, true, true, true, true, true, true, true, true, true, true, true, true] (by rfl) hF70 (by kernel_rfl) (by kernel_rfl) (by exact (And.intro (fun wS hw => by kernel_rfl) (And.intro (fun wS hw => by kernel_rfl) (And.intro (fun wS hw => by kernel_rfl) (And.intro (fun wS hw => by kernel_rfl) (And.intro (fun wS hw => by kernel_rfl) trivial)))))) (fun _ _ _ _ _ h => h) ⟨_, hS69.pick1⟩ (l' := [(3, nI x63), (2, nI x62), (1, nP z17 0)]) (by kernel_rfl) ?_
 intro a72 hF71; clear hF70
 refine any_done (by kernel_rfl) ?_
 refine thenN (wp_seq ?_)
 -- draws
 have hS73 := hS69.pick1
 clear hS69
 have hS74 := hS73.drew; clear hS73
 refine any_start (fun wS => ∃ qs, St w0 F0 (BlkP z17 55 #[nP z18 0, nP z20 0, .slice p33 L9.length c34, .slice p37 L10.length c38] :: qs) wS) 14 #[false, false, false, false, false, false, false, false, false, false, false, false, false, false] (by kernel_rfl) (by kernel_rfl) (by kernel_rfl) ?_
 refine any_many 5 [(0, some (nP z17 0)), (1, some (nP z17 0)), (2, some (nP z17 0)), (3, some (nP z18 0)), (4, some (nP z17 0))] [1, 2, 3, 4, 5, 22, 26, 27, 28, 29, 30, 31, 32, 33] #[true, true, true, true, true, false, false, false, false, false, false, false, false, false] (by rfl) hF71 (by kernel_rfl) (by kernel_rfl) (by exact (And.intro (fun wS hw => by kernel_rfl) (And.intro (fun wS hw => by kernel_rfl) (And.intro (fun wS hw => by kernel_rfl) (And.intro (fun wS hw => hw.elim fun qs hw => run_loadV rfl rfl (run_loadS rfl rfl (hw.cell 0 rfl 0 rfl))) (And.intro (fun wS hw => by kernel_rfl) trivial)))))) (fun _ _ _ _ _ h => h) ⟨_, hS74⟩ (l' := [(27, nP z17 0), (26, nP z18 0), (3, nI x63), (2, nI x62), (1, nP z17 0)]) (by kernel_rfl) ?_
 intro a76 hF75; clear hF71
 refine any_call 5 #[true, true, true, true, true, true, false, false, false, false, false, false, false, false] 31 #[nP z17 0, nI 0] hF75 rfl (by kernel_rfl) rfl rfl (by kernel_rfl) rfl (by kernel_rfl) (fun w => by kernel_rfl) (by kernel_rfl) ?_
 obtain ⟨x77, s78, s79, hx80, hm81⟩ := bind3E hm66; clear hm66
 refine (law15_ch.ok hS74 hx80).mono ?_
 rintro _ w82 ⟨rfl, hS84⟩; clear hS74
 refine ⟨⟨_, hS84⟩, ?_⟩
 intro a83 hF85; clear hF75
 refine any_many 2 [(6, some (nI (IntKind.i64.wrap (2 * x77)))), (7, some (nI (IntKind.i64.wrap ((IntKind.i64.wrap (2 * x77)) + 1))))] [1, 2, 3, 4, 5, 22, 26, 30, 31, 32, 33] #[true, true, true, true, true, true, true, true, false, false, false, false, false, false] (by rfl) hF85 (by kernel_rfl) (by kernel_rfl) (by exact (And.intro (fun wS hw => by kernel_rfl) (And.intro (fun wS hw => by kernel_rfl) trivial))) (fun _ _ _ _ _ h => h) ⟨_, hS84⟩ (l' := [(30, nI (IntKind.i64.wrap ((IntKind.i64.wrap (2 * x77)) + 1))), (26, nP z18 0), (3, nI x63), (2, nI x62), (1, nP z17 0)]) (by kernel_rfl) ?_
 intro a87 hF86; clear hF85
 have hS88 := hS84.pick1
 clear hS84
 refine any_call 8 #[true, true, true, true, true, true, true, true, true, false, false, false, false, false] 28 #[nP z18 0, nI (IntKind.i64.wrap ((IntKind.i64.wrap (2 * x77)) + 1)), nI 6] hF86 rfl (by kernel_rfl) rfl rfl (by kernel_rfl) rfl (by kernel_rfl) (fun w => by kernel_rfl) (by kernel_rfl) ?_
 obtain ⟨x89, x90, s91, hx92, hm93⟩ := bind3E hm81; clear hm81
 refine (send_Try.ok hS88 hx92).mono ?_
 rintro _ w94 ⟨rfl, hS96⟩; clear hS88
 refine ⟨⟨_, hS96.pick1⟩, ?_⟩
 intro a95 hF97; clear hF86
 refine any_many 5 [(9, some (.tuple #[nI x89, nI x90])), (10, some (nI x89)), (11, some (nI x90)), (12, some (nI x89)), (13, some (nI x90))] [1, 2, 3, 4, 5] #[true, true, true, true, true, true, true, true, true, true, true, true, true, true] (by rfl) hF97 (by kernel_rfl) (by kernel_rfl) (by exact (And.intro (fun wS hw => by kernel_rfl) (And.intro (fun wS hw => by kernel_rfl) (And.intro (fun wS hw => by kernel_rfl) (And.intro (fun wS hw => by kernel_rfl) (And.intro (fun wS hw => by kernel_rfl) trivial)))))) (fun _ _ _ _ _ h => h) ⟨_, hS96.pick1⟩ (l' := [(5, nI x90), (4, nI x89), (3, nI x63), (2, nI x62), (1, nP z17 0)]) (by kernel_rfl) ?_
 intro a99 hF98; clear hF97
 refine any_done (by kernel_rfl) ?_
 refine thenN (wp_seq ?_)
 refine joinQ (fun aI wI => ∃ (y100 : Bool), Fr 56 aI [(0, .bool (y100))] ∧ St w0 F0 (ps) wI ∧ law15_awake.j1 y100 = some r0) ?_ ?_
 rotate_left
 · rintro a102 w103 ⟨y100, hF104, hS105, hm106⟩
   clear hF98 hS96 hm93
   unfold law15_awake.j1 at hm106
   refine thenN ?_
   refine wp_ret ?_
   obtain rfl := Option.some.inj hm106
   refine ev_ret hF104 [0] (.bool (y100)) rfl rfl rfl ?_
   exact ⟨rfl, hS105⟩
 · skip
   refine wp_region_lit ?_
   refine ev_runs 3 hF98 (l' := [(36, .bool (x62 == (-1))), (35, .bool (x62 == (-1))), (34, nI x62), (5, nI x90), (4, nI x89), (3, nI x63), (2, nI x62), (1, nP z17 0)]) (w' := w94) (by kernel_rfl) ?_
   intro a110 hF109; clear hF98
   cases hc111 : (x62 == (-1)) with
   | true =>
    rw [hc111] at hF109
    have hm112 := ifYes hc111 hm93; clear hm93
    refine ev_runs 4 hF109 (l' := [(40, .bool (x63 == 1)), (39, .bool (x63 == 1)), (38, .bool (x63 == 1)), (37, nI x63), (36, .bool true), (35, .bool true), (34, nI x62), (5, nI x90), (4, nI x89), (3, nI x63), (2, nI x62), (1, nP z17 0)]) (w' := w94) (by kernel_rfl) ?_
    intro a114 hF113; clear hF109
    cases hc115 : (x63 == 1) with
    | true =>
     rw [hc115] at hF113
     have hm116 := ifYes hc115 hm112; clear hm112
     refine ev_runs 4 hF113 (l' := [(44, .bool (x89 == (-1))), (43, .bool (x89 == (-1))), (42, .bool (x89 == (-1))), (41, nI x89), (40, .bool true), (39, .bool true), (38, .bool true), (37, nI x63), (36, .bool true), (35, .bool true), (34, nI x62), (5, nI x90), (4, nI x89), (3, nI x63), (2, nI x62), (1, nP z17 0)]) (w' := w94) (by kernel_rfl) ?_
     intro a118 hF117; clear hF113
     cases hc119 : (x89 == (-1)) with
     | true =>
      rw [hc119] at hF117
      have hm120 := ifYes hc119 hm116; clear hm116
      refine ev_runs 4 hF117 (l' := [(48, .bool (x90 == 0)), (47, .bool (x90 == 0)), (46, .bool (x90 == 0)), (45, nI x90), (44, .bool true), (43, .bool true), (42, .bool true), (41, nI x89), (40, .bool true), (39, .bool true), (38, .bool true), (37, nI x63), (36, .bool true), (35, .bool true), (34, nI x62), (5, nI x90), (4, nI x89), (3, nI x63), (2, nI x62), (1, nP z17 0)]) (w' := w94) (by kernel_rfl) ?_
      intro a122 hF121; clear hF117
      cases hc123 : (x90 == 0) with
      | true =>
       rw [hc123] at hF121
       have hm124 := ifYes hc123 hm120; clear hm120
       refine ev_runs 3 hF121 (l' := [(51, nP z17 0), (50, nP z17 0), (49, nP z17 0), (48, .bool true), (47, .bool true), (46, .bool true), (45, nI x90), (44, .bool true), (43, .bool true), (42, .bool true), (41, nI x89), (40, .bool true), (39, .bool true), (38, .bool true), (37, nI x63), (36, .bool true), (35, .bool true), (34, nI x62), (5, nI x90), (4, nI x89), (3, nI x63), (2, nI x62), (1, nP z17 0)]) (w' := w94) (by kernel_rfl) ?_
       intro a126 hF125; clear hF121
       refine ev_one (nP z18 0) w94 hF125 (by kernel_rfl) rfl (by kernel_rfl) (run_loadV rfl rfl (run_loadS rfl rfl (hS96.cell 1 rfl 0 rfl))) (l' := [(52, nP z18 0), (51, nP z17 0), (50, nP z17 0), (49, nP z17 0), (48, .bool true), (47, .bool true), (46, .bool true), (45, nI x90), (44, .bool true), (43, .bool true), (42, .bool true), (41, nI x89), (40, .bool true), (39, .bool true), (38, .bool true), (37, nI x63), (36, .bool true), (35, .bool true), (34, nI x62), (5, nI x90), (4, nI x89), (3, nI x63), (2, nI x62), (1, nP z17 0)]) (by kernel_rfl) ?_
       intro a128 hF127; clear hF125
       refine ev_call 33 #[nP z18 0, nI 0] hF127 rfl rfl (by kernel_rfl) rfl (by kernel_rfl) (fun w => by kernel_rfl) ?_
       obtain ⟨y129, s130, hx131, hm132⟩ := bind2E hm124; clear hm124
       refine (send_Ready.ok hS96 hx131).mono ?_
       rintro _ w133 ⟨rfl, hS135⟩ a134 hF136; clear hF127 hS96
       refine ev_runK 3 hF136 [0] (l' := [(0, .bool (!(y129)))]) (w' := w133) (by kernel_rfl) ?_
       intro a138 hF137; clear hF136
       refine wpList_nil ?_
       have hS139 := hS135.drop.drop.drop.drop.drop
       clear hS135
       exact thenN ⟨!(y129), hF137, hS139, hm132⟩
      | false =>
       rw [hc123] at hF121
       have hm140 := ifNot hc123 hm120; clear hm120
       refine ev_runK 8 hF121 [0] (l' := [(0, .bool false)]) (w' := w94) (by kernel_rfl) ?_
       intro a142 hF141; clear hF121
       refine wpList_nil ?_
       have hS143 := hS96.drop.drop.drop.drop.drop
       clear hS96
       exact thenN ⟨false, hF141, hS143, hm140⟩
     | false =>
      rw [hc119] at hF117
      have hm144 := ifNot hc119 hm116; clear hm116
      refine ev_runK 12 hF117 [0] (l' := [(0, .bool false)]) (w' := w94) (by kernel_rfl) ?_
      intro a146 hF145; clear hF117
      refine wpList_nil ?_
      have hS147 := hS96.drop.drop.drop.drop.drop
      clear hS96
      exact thenN ⟨false, hF145, hS147, hm144⟩
    | false =>
     rw [hc115] at hF113
     have hm148 := ifNot hc115 hm112; clear hm112
     refine ev_runK 16 hF113 [0] (l' := [(0, .bool false)]) (w' := w94) (by kernel_rfl) ?_
     intro a150 hF149; clear hF113
     refine wpList_nil ?_
     have hS151 := hS96.drop.drop.drop.drop.drop
     clear hS96
     exact thenN ⟨false, hF149, hS151, hm148⟩
   | false =>
    rw [hc111] at hF109
    have hm152 := ifNot hc111 hm93; clear hm93
    refine ev_runK 20 hF109 [0] (l' := [(0, .bool false)]) (w' := w94) (by kernel_rfl) ?_
    intro a154 hF153; clear hF109
    refine wpList_nil ?_
    have hS155 := hS96.drop.drop.drop.drop.drop
    clear hS96
    exact thenN ⟨false, hF153, hS155, hm152⟩

end Go.Proofs.YtgejcjcpchofiaaGreat
/- The walks of GSendNone, printed by gen/walk.py. -/
namespace Go.Proofs.YtgejcjcpchofiaaGreat
open Go.RowKit
set_option linter.unusedVariables false

def SendNone.j3 (y211 : Bool) : Option (Bool) := some (y211)
def SendNone.j2 (i0 : Int) (i1 : Int) (k : Nat) (L9 : List Int) (L10 : List Int) (x67 : Int) (x94 : Int) (x111 : Int) (s122 : HSt) (s123 : HSt) (x124 : Int) (x125 : Int) (x126 : Int) (x127 : Int) (x128 : Int) (x129 : Int) (x130 : Int) (x131 : Int) (x132 : Int) : Option (Bool) := bind3 (law15_ch.m k s122 s123 L9 L10 0) fun x152 s153 s154 => bind2 (pPutChan x152 (⟨x124, 1, x126, x127, x128, x129, x130, x131, x132⟩ : Ch) s153) fun x162 s163 => bind3 (law15_ch.m k s163 s154 L9 L10 0) fun x176 s177 s178 => bind3 (send_Try.m k s177 (IntKind.i64.wrap ((IntKind.i64.wrap (2 * x176)) + 1)) i1) fun x188 x189 s190 => bind2 (send_TryN.m k i0 i1) fun x201 x202 => (if (x67 == 0) then (if (x94 == 6) then (if (x111 == 6) then (if (x189 == 3) then (if (x201 == (-1)) then (if (x202 == 6) then bind1 (send_ReadyN.m k i0) fun y248 => (if (y248) then bind3 (law15_ch.m k s190 s178 L9 L10 0) fun x261 s262 s263 => bind2 (send_Ready.m k s262 (IntKind.i64.wrap ((IntKind.i64.wrap (2 * x261)) + 1))) fun y273 s274 => SendNone.j3 y273 else SendNone.j3 false) else SendNone.j3 false) else SendNone.j3 false) else SendNone.j3 false) else SendNone.j3 false) else SendNone.j3 false) else SendNone.j3 false)
def SendNone.j1 (i0 : Int) (i1 : Int) (k : Nat) (s7 : HSt) (s8 : HSt) (L9 : List Int) (L10 : List Int) (y43 : Bool) : Option (Bool) := (if (y43) then some (false) else bind3 (send_Try.m k s7 0 i1) fun x66 x67 s68 => bind3 (law15_gor.m k s68 s8 L9 L10 0) fun x81 s82 s83 => bind3 (send_Try.m k s82 (IntKind.i64.wrap ((IntKind.i64.wrap (2 * x81)) + 1)) i1) fun x93 x94 s95 => bind3 (send_Try.m k s95 (IntKind.i64.wrap (2 * (IntKind.i64.wrap (1 + (iAnd .i64 (Int.tmod i0 1000) (255 : Int)))))) i1) fun x110 x111 s112 => bind3 (law15_ch.m k s112 s83 L9 L10 0) fun x316 s317 s318 => bind2 (pChan x316 s317) fun q326 x327 => SendNone.j2 i0 i1 k L9 L10 x67 x94 x111 s317 s318 q326.cap q326.closed q326.count q326.start q326.buf q326.th q326.tt q326.sh q326.st)
def SendNone.m (k : Nat) (i0 : Int) (i1 : Int) : Option (Bool) := bind4 (law15_made.m k [2] 1) fun s7 s8 L9 L10 => bind1 (law15_awake.m k ) fun y397 => (if (!(y397)) then SendNone.j1 i0 i1 k s7 s8 L9 L10 true else SendNone.j1 i0 i1 k s7 s8 L9 L10 false)
set_option maxRecDepth 100000 in
set_option maxHeartbeats 40000000 in
theorem SendNone.ok {w0 w : World} {F0 : List Nat} {ps : List Piece} {k : Nat} {i0 : Int} {i1 : Int} {r0 : Bool} (hS : St w0 F0 (ps) w) (hm : SendNone.m k i0 i1 = some r0) :
    Calls Tryz.prog 5 #[nI i0, nI i1] w fun e w' => e = .returned (.bool r0) ∧ St w0 F0 (ps) w' := by
 refine ev_enterL 137 [nI i0, nI i1] Tryz.func5 rfl rfl (by simp) ?_
 intro a hF
 have hF0 : Fr 137 a [(0, nI i0), (1, nI i1)] := hF; clear hF
 unfold SendNone.m at hm
 refine wp_seq (wp_region_lit ?_)
 refine ev_runK 1 hF0 [0, 1] (l' := [(0, nI i0), (1, nI i1)]) (w' := w) (by kernel_rfl) ?_
 intro a2 hF1; clear hF0
 refine wpList_nil (thenN (wp_seq (wp_region_lit ?_)))
 refine ev_runs 1 hF1 (l' := [(18, .slice (some ⟨w.heap.size, 0, none⟩) 1 1), (0, nI i0), (1, nI i1)]) (w' := w.alloc (.cells #[nI 2] 3)) (by kernel_rfl) ?_
 intro a4 hF3; clear hF1
 have hS6 : St w0 F0 (RowP (.slice (some ⟨w.heap.size, 0, none⟩) 1 1) [2] :: ps) (w.alloc (.cells #[nI 2] 3)) := St.lit hS [2] (by unfold maxLen; simp)
 refine ev_call 26 #[.slice (some ⟨w.heap.size, 0, none⟩) 1 1, nI 1] hF3 rfl rfl (by kernel_rfl) rfl (by kernel_rfl) (fun w => by kernel_rfl) ?_
 obtain ⟨s7, s8, L9, L10, hx11, hm12⟩ := bind4E hm; clear hm
 refine (law15_made.ok hS6 hx11).mono ?_
 rintro _ w13 ⟨z17, z18, z19, z20, z21, z22, z23, z24, z25, z26, rfl, hS15⟩ a14 hF16; clear hF3 hS6
 obtain ⟨hl35, p32, c33, rfl, hp34⟩ := St.shape hS15 4 rfl
 obtain ⟨hl39, p36, c37, rfl, hp38⟩ := St.shape hS15 5 rfl
 refine ev_runK 1 hF16 [0, 1, 5] (l' := [(5, nP z17 0), (0, nI i0), (1, nI i1)]) (w' := w13) (by kernel_rfl) ?_
 intro a41 hF40; clear hF16
 refine wpList_nil ?_
 have hS42 := hS15.drop
 clear hS15
 refine thenN (wp_seq (wp_seq ?_))
 refine joinQ (fun aI wI => ∃ (y43 : Bool), Fr 137 aI [(25, .bool (y43)), (5, nP z17 0), (0, nI i0), (1, nI i1)] ∧ St w0 F0 (BlkP z17 55 #[nP z18 0, nP z20 0, .slice p32 L9.length c33, .slice p36 L10.length c37] :: HeapP z18 z19 s7 :: RHeapP z20 z21 z22 z23 z24 s8 :: RowP (.slice p32 L9.length c33) L9 :: RowP (.slice p36 L10.length c37) L10 :: ps) wI ∧ SendNone.j1 i0 i1 k s7 s8 L9 L10 y43 = some r0) ?_ ?_
 rotate_left
 · rintro a45 w46 ⟨y43, hF47, hS48, hm49⟩
   clear hF40 hS42 hm12
   unfold SendNone.j1 at hm49
   refine thenN ?_
   cases hc51 : (y43) with
   | true =>
    rw [hc51] at hF47
    have hm52 := ifYes hc51 hm49; clear hm49
    refine ev_condT hF47 rfl rfl ?_
    refine wp_seq (wp_region_lit ?_)
    refine ev_runK 1 hF47 [4] (l' := [(4, .bool false)]) (w' := w46) (by kernel_rfl) ?_
    intro a54 hF53; clear hF47
    refine wpList_nil ?_
    have hS55 := hS48.drop.drop.drop.drop.drop
    clear hS48
    refine thenN ?_
    refine wp_ret ?_
    refine thenR ?_
    obtain rfl := Option.some.inj hm52
    refine ev_ret hF53 [4] (.bool false) rfl rfl rfl ?_
    exact ⟨rfl, hS55⟩
   | false =>
    rw [hc51] at hF47
    have hm57 := ifNot hc51 hm49; clear hm49
    refine ev_condF hF47 rfl rfl ?_
    refine wp_skip ?_
    have hF58 := hF47.keep [0, 1, 5]
    clear hF47
    refine thenN (wp_seq (wp_region_lit ?_))
    refine ev_runs 3 hF58 (l' := [(29, nP z17 0), (28, nP z17 0), (27, nP z17 0), (5, nP z17 0), (0, nI i0), (1, nI i1)]) (w' := w46) (by kernel_rfl) ?_
    intro a60 hF59; clear hF58
    refine ev_one (nP z18 0) w46 hF59 (by kernel_rfl) rfl (by kernel_rfl) (run_loadV rfl rfl (run_loadS rfl rfl (hS48.cell 0 rfl 0 rfl))) (l' := [(30, nP z18 0), (29, nP z17 0), (28, nP z17 0), (27, nP z17 0), (5, nP z17 0), (0, nI i0), (1, nI i1)]) (by kernel_rfl) ?_
    intro a62 hF61; clear hF59
    refine ev_runs 1 hF61 (l' := [(31, nI i1), (30, nP z18 0), (29, nP z17 0), (28, nP z17 0), (27, nP z17 0), (5, nP z17 0), (0, nI i0), (1, nI i1)]) (w' := w46) (by kernel_rfl) ?_
    intro a64 hF63; clear hF61
    have hS65 := hS48.pick1
    clear hS48
    refine ev_call 28 #[nP z18 0, nI 0, nI i1] hF63 rfl rfl (by kernel_rfl) rfl (by kernel_rfl) (fun w => by kernel_rfl) ?_
    obtain ⟨x66, x67, s68, hx69, hm70⟩ := bind3E hm57; clear hm57
    refine (send_Try.ok hS65 hx69).mono ?_
    rintro _ w71 ⟨rfl, hS73⟩ a72 hF74; clear hF63 hS65
    refine ev_runK 5 hF74 [0, 1, 5, 7] (l' := [(7, nI x67), (5, nP z17 0), (0, nI i0), (1, nI i1)]) (w' := w71) (by kernel_rfl) ?_
    intro a76 hF75; clear hF74
    refine wpList_nil (thenN (wp_seq ?_))
    -- draws
    have hS77 := hS73.pick1
    clear hS73
    have hS78 := hS77.drew; clear hS77
    refine any_start (fun wS => ∃ qs, St w0 F0 (BlkP z17 55 #[nP z18 0, nP z20 0, .slice p32 L9.length c33, .slice p36 L10.length c37] :: qs) wS) 15 #[false, false, false, false, false, false, false, false, false, false, false, false, false, false, false] (by kernel_rfl) (by kernel_rfl) (by kernel_rfl) ?_
    refine any_many 6 [(0, some (nP z17 0)), (1, some (nP z17 0)), (2, some (nP z17 0)), (3, some (nP z18 0)), (4, some (nP z17 0)), (8, some (nI i1))] [0, 1, 5, 7, 9, 35, 39, 40, 41, 42, 43, 44, 45, 46, 47] #[true, true, true, true, true, false, false, false, true, false, false, false, false, false, false] (by rfl) hF75 (by kernel_rfl) (by kernel_rfl) (by exact (And.intro (fun wS hw => by kernel_rfl) (And.intro (fun wS hw => by kernel_rfl) (And.intro (fun wS hw => by kernel_rfl) (And.intro (fun wS hw => hw.elim fun qs hw => run_loadV rfl rfl (run_loadS rfl rfl (hw.cell 0 rfl 0 rfl))) (And.intro (fun wS hw => by kernel_rfl) (And.intro (fun wS hw => by kernel_rfl) trivial))))))) (fun _ _ _ _ _ h => h) ⟨_, hS78⟩ (l' := [(44, nI i1), (40, nP z17 0), (39, nP z18 0), (7, nI x67), (5, nP z17 0), (0, nI i0), (1, nI i1)]) (by kernel_rfl) ?_
    intro a80 hF79; clear hF75
    refine any_call 5 #[true, true, true, true, true, true, false, false, true, false, false, false, false, false, false] 29 #[nP z17 0, nI 0] hF79 rfl (by kernel_rfl) rfl rfl (by kernel_rfl) rfl (by kernel_rfl) (fun w => by kernel_rfl) (by kernel_rfl) ?_
    obtain ⟨x81, s82, s83, hx84, hm85⟩ := bind3E hm70; clear hm70
    refine (law15_gor.ok hS78 hx84).mono ?_
    rintro _ w86 ⟨rfl, hS88⟩; clear hS78
    refine ⟨⟨_, hS88⟩, ?_⟩
    intro a87 hF89; clear hF79
    refine any_many 2 [(6, some (nI (IntKind.i64.wrap (2 * x81)))), (7, some (nI (IntKind.i64.wrap ((IntKind.i64.wrap (2 * x81)) + 1))))] [0, 1, 5, 7, 9, 35, 39, 43, 44, 45, 46, 47] #[true, true, true, true, true, true, true, true, true, false, false, false, false, false, false] (by rfl) hF89 (by kernel_rfl) (by kernel_rfl) (by exact (And.intro (fun wS hw => by kernel_rfl) (And.intro (fun wS hw => by kernel_rfl) trivial))) (fun _ _ _ _ _ h => h) ⟨_, hS88⟩ (l' := [(43, nI (IntKind.i64.wrap ((IntKind.i64.wrap (2 * x81)) + 1))), (44, nI i1), (39, nP z18 0), (7, nI x67), (5, nP z17 0), (0, nI i0), (1, nI i1)]) (by kernel_rfl) ?_
    intro a91 hF90; clear hF89
    have hS92 := hS88.pick1
    clear hS88
    refine any_call 9 #[true, true, true, true, true, true, true, true, true, true, false, false, false, false, false] 28 #[nP z18 0, nI (IntKind.i64.wrap ((IntKind.i64.wrap (2 * x81)) + 1)), nI i1] hF90 rfl (by kernel_rfl) rfl rfl (by kernel_rfl) rfl (by kernel_rfl) (fun w => by kernel_rfl) (by kernel_rfl) ?_
    obtain ⟨x93, x94, s95, hx96, hm97⟩ := bind3E hm85; clear hm85
    refine (send_Try.ok hS92 hx96).mono ?_
    rintro _ w98 ⟨rfl, hS100⟩; clear hS92
    refine ⟨⟨_, hS100.pick1⟩, ?_⟩
    intro a99 hF101; clear hF90
    refine any_many 5 [(10, some (.tuple #[nI x93, nI x94])), (11, some (nI x93)), (12, some (nI x94)), (13, some (nI x93)), (14, some (nI x94))] [0, 1, 5, 7, 9] #[true, true, true, true, true, true, true, true, true, true, true, true, true, true, true] (by rfl) hF101 (by kernel_rfl) (by kernel_rfl) (by exact (And.intro (fun wS hw => by kernel_rfl) (And.intro (fun wS hw => by kernel_rfl) (And.intro (fun wS hw => by kernel_rfl) (And.intro (fun wS hw => by kernel_rfl) (And.intro (fun wS hw => by kernel_rfl) trivial)))))) (fun _ _ _ _ _ h => h) ⟨_, hS100.pick1⟩ (l' := [(9, nI x94), (7, nI x67), (5, nP z17 0), (0, nI i0), (1, nI i1)]) (by kernel_rfl) ?_
    intro a103 hF102; clear hF101
    refine any_done (by kernel_rfl) ?_
    refine thenN (wp_seq (wp_region_lit ?_))
    refine ev_runs 3 hF102 (l' := [(51, nP z17 0), (50, nP z17 0), (49, nP z17 0), (9, nI x94), (7, nI x67), (5, nP z17 0), (0, nI i0), (1, nI i1)]) (w' := w98) (by kernel_rfl) ?_
    intro a105 hF104; clear hF102
    refine ev_one (nP z18 0) w98 hF104 (by kernel_rfl) rfl (by kernel_rfl) (run_loadV rfl rfl (run_loadS rfl rfl (hS100.cell 1 rfl 0 rfl))) (l' := [(52, nP z18 0), (51, nP z17 0), (50, nP z17 0), (49, nP z17 0), (9, nI x94), (7, nI x67), (5, nP z17 0), (0, nI i0), (1, nI i1)]) (by kernel_rfl) ?_
    intro a107 hF106; clear hF104
    refine ev_runs 6 hF106 (l' := [(58, nI i1), (57, nI (IntKind.i64.wrap (2 * (IntKind.i64.wrap (1 + (iAnd .i64 (Int.tmod i0 1000) (255 : Int))))))), (56, nI (IntKind.i64.wrap (1 + (iAnd .i64 (Int.tmod i0 1000) (255 : Int))))), (55, nI (iAnd .i64 (Int.tmod i0 1000) (255 : Int))), (54, nI (Int.tmod i0 1000)), (53, nI i0), (52, nP z18 0), (51, nP z17 0), (50, nP z17 0), (49, nP z17 0), (9, nI x94), (7, nI x67), (5, nP z17 0), (0, nI i0), (1, nI i1)]) (w' := w98) (by kernel_rfl) ?_
    intro a109 hF108; clear hF106
    refine ev_call 28 #[nP z18 0, nI (IntKind.i64.wrap (2 * (IntKind.i64.wrap (1 + (iAnd .i64 (Int.tmod i0 1000) (255 : Int)))))), nI i1] hF108 rfl rfl (by kernel_rfl) rfl (by kernel_rfl) (fun w => by kernel_rfl) ?_
    obtain ⟨x110, x111, s112, hx113, hm114⟩ := bind3E hm97; clear hm97
    refine (send_Try.ok hS100 hx113).mono ?_
    rintro _ w115 ⟨rfl, hS117⟩ a116 hF118; clear hF108 hS100
    refine ev_runK 5 hF118 [0, 1, 5, 7, 9, 11] (l' := [(11, nI x111), (9, nI x94), (7, nI x67), (5, nP z17 0), (0, nI i0), (1, nI i1)]) (w' := w115) (by kernel_rfl) ?_
    intro a120 hF119; clear hF118
    refine wpList_nil (thenN (wp_seq ?_))
    refine joinQ (fun aI wI => ∃ (g121 : Nat) (s122 : HSt) (s123 : HSt) (x124 : Int) (x125 : Int) (x126 : Int) (x127 : Int) (x128 : Int) (x129 : Int) (x130 : Int) (x131 : Int) (x132 : Int), Fr 137 aI [(12, nP g121 0), (11, nI x111), (9, nI x94), (7, nI x67), (5, nP z17 0), (0, nI i0), (1, nI i1)] ∧ St w0 F0 (BlkP g121 57 #[nI x124, nI x125, nI x126, nI x127, nI x128, nI x129, nI x130, nI x131, nI x132] :: HeapP z18 z19 s122 :: BlkP z17 55 #[nP z18 0, nP z20 0, .slice p32 L9.length c33, .slice p36 L10.length c37] :: RHeapP z20 z21 z22 z23 z24 s123 :: RowP (.slice p32 L9.length c33) L9 :: RowP (.slice p36 L10.length c37) L10 :: ps) wI ∧ SendNone.j2 i0 i1 k L9 L10 x67 x94 x111 s122 s123 x124 x125 x126 x127 x128 x129 x130 x131 x132 = some r0) ?_ ?_
    rotate_left
    · rintro a134 w135 ⟨g121, s122, s123, x124, x125, x126, x127, x128, x129, x130, x131, x132, hF136, hS137, hm138⟩
      clear hF119 hS117 hm114
      unfold SendNone.j2 at hm138
      refine thenN (wp_seq (wp_region_lit ?_))
      refine ev_runs 1 hF136 (l' := [(72, nP g121 1), (12, nP g121 0), (11, nI x111), (9, nI x94), (7, nI x67), (5, nP z17 0), (0, nI i0), (1, nI i1)]) (w' := w135) (by kernel_rfl) ?_
      intro a141 hF140; clear hF136
      refine ev_store (nI 1) #[nI x124, nI 1, nI x126, nI x127, nI x128, nI x129, nI x130, nI x131, nI x132] hF140 (by kernel_rfl) rfl rfl rfl rfl (by kernel_rfl) hS137 (by kernel_rfl) (by kernel_rfl) (by kernel_rfl) (l' := [(72, nP g121 1), (12, nP g121 0), (11, nI x111), (9, nI x94), (7, nI x67), (5, nP z17 0), (0, nI i0), (1, nI i1)]) (by kernel_rfl) ?_
      intro w142 a143 hS144 hF145; clear hF140 hS137
      refine wpList_nil ?_
      have hF146 := hF145.keep [0, 1, 5, 7, 9, 11, 12]
      clear hF145
      refine thenN (wp_seq ?_)
      -- draws
      have hS147 := hS144.pick2
      clear hS144
      have hS148 := hS147.drew; clear hS147
      refine any_start (fun wS => ∃ qs, St w0 F0 (BlkP z17 55 #[nP z18 0, nP z20 0, .slice p32 L9.length c33, .slice p36 L10.length c37] :: BlkP g121 57 #[nI x124, nI 1, nI x126, nI x127, nI x128, nI x129, nI x130, nI x131, nI x132] :: qs) wS) 8 #[false, false, false, false, false, false, false, false] (by kernel_rfl) (by kernel_rfl) (by kernel_rfl) ?_
      refine any_many 6 [(0, some (nP z17 0)), (1, some (nP z17 0)), (2, some (nP z17 0)), (3, some (nP z18 0)), (4, some (nP z17 0)), (6, some (.agg #[nI x124, nI 1, nI x126, nI x127, nI x128, nI x129, nI x130, nI x131, nI x132]))] [0, 1, 5, 7, 9, 11, 76, 77, 78, 79] #[true, true, true, true, true, false, true, false] (by rfl) hF146 (by kernel_rfl) (by kernel_rfl) (by exact (And.intro (fun wS hw => by kernel_rfl) (And.intro (fun wS hw => by kernel_rfl) (And.intro (fun wS hw => by kernel_rfl) (And.intro (fun wS hw => hw.elim fun qs hw => run_loadV rfl rfl (run_loadS rfl rfl (hw.cell 0 rfl 0 rfl))) (And.intro (fun wS hw => by kernel_rfl) (And.intro (fun wS hw => hw.elim fun qs hw => run_loadV rfl rfl (run_loadA (cs := [nI x124, nI 1, nI x126, nI x127, nI x128, nI x129, nI x130, nI x131, nI x132]) rfl rfl (by kernel_rfl) (blk_cells hw 1 rfl rfl))) trivial))))))) (fun _ _ _ _ _ h => h) ⟨_, hS148⟩ (l' := [(79, .agg #[nI x124, nI 1, nI x126, nI x127, nI x128, nI x129, nI x130, nI x131, nI x132]), (77, nP z17 0), (76, nP z18 0), (11, nI x111), (9, nI x94), (7, nI x67), (5, nP z17 0), (0, nI i0), (1, nI i1)]) (by kernel_rfl) ?_
      intro a150 hF149; clear hF146
      have hS151 := hS148.pick5.pick5.pick5.pick5.pick4
      clear hS148
      refine any_call 5 #[true, true, true, true, true, true, true, false] 31 #[nP z17 0, nI 0] hF149 rfl (by kernel_rfl) rfl rfl (by kernel_rfl) rfl (by kernel_rfl) (fun w => by kernel_rfl) (by kernel_rfl) ?_
      obtain ⟨x152, s153, s154, hx155, hm156⟩ := bind3E hm138; clear hm138
      refine (law15_ch.ok hS151 hx155).mono ?_
      rintro _ w157 ⟨rfl, hS159⟩; clear hS151
      refine ⟨⟨_, hS159.pick5.pick1⟩, ?_⟩
      intro a158 hF160; clear hF149
      have hS161 := hS159.pick1
      clear hS159
      refine any_call 7 #[true, true, true, true, true, true, true, true] 32 #[nP z18 0, nI x152, .agg #[nI x124, nI 1, nI x126, nI x127, nI x128, nI x129, nI x130, nI x131, nI x132]] hF160 rfl (by kernel_rfl) rfl rfl (by kernel_rfl) rfl (by kernel_rfl) (fun w => by kernel_rfl) (by kernel_rfl) ?_
      obtain ⟨x162, s163, hx164, hm165⟩ := bind2E hm156; clear hm156
      refine (p_PutChan hS161 hx164).mono ?_
      rintro _ w166 ⟨rfl, hS168⟩; clear hS161
      refine ⟨⟨_, hS168.pick5.pick2⟩, ?_⟩
      intro a167 hF169; clear hF160
      refine any_done (by kernel_rfl) ?_
      have hF170 := hF169.keep [0, 1, 5, 7, 9, 11]
      clear hF169
      have hS171 := hS168.pick5.drop
      clear hS168
      refine thenN (wp_seq ?_)
      -- draws
      have hS172 := hS171.pick1
      clear hS171
      have hS173 := hS172.drew; clear hS172
      refine any_start (fun wS => ∃ qs, St w0 F0 (BlkP z17 55 #[nP z18 0, nP z20 0, .slice p32 L9.length c33, .slice p36 L10.length c37] :: qs) wS) 15 #[false, false, false, false, false, false, false, false, false, false, false, false, false, false, false] (by kernel_rfl) (by kernel_rfl) (by kernel_rfl) ?_
      refine any_many 6 [(0, some (nP z17 0)), (1, some (nP z17 0)), (2, some (nP z17 0)), (3, some (nP z18 0)), (4, some (nP z17 0)), (8, some (nI i1))] [0, 1, 5, 7, 9, 11, 15, 81, 85, 86, 87, 88, 89, 90, 91, 92, 93] #[true, true, true, true, true, false, false, false, true, false, false, false, false, false, false] (by rfl) hF170 (by kernel_rfl) (by kernel_rfl) (by exact (And.intro (fun wS hw => by kernel_rfl) (And.intro (fun wS hw => by kernel_rfl) (And.intro (fun wS hw => by kernel_rfl) (And.intro (fun wS hw => hw.elim fun qs hw => run_loadV rfl rfl (run_loadS rfl rfl (hw.cell 0 rfl 0 rfl))) (And.intro (fun wS hw => by kernel_rfl) (And.intro (fun wS hw => by kernel_rfl) trivial))))))) (fun _ _ _ _ _ h => h) ⟨_, hS173⟩ (l' := [(90, nI i1), (86, nP z17 0), (85, nP z18 0), (11, nI x111), (9, nI x94), (7, nI x67), (5, nP z17 0), (0, nI i0), (1, nI i1)]) (by kernel_rfl) ?_
      intro a175 hF174; clear hF170
      refine any_call 5 #[true, true, true, true, true, true, false, false, true, false, false, false, false, false, false] 31 #[nP z17 0, nI 0] hF174 rfl (by kernel_rfl) rfl rfl (by kernel_rfl) rfl (by kernel_rfl) (fun w => by kernel_rfl) (by kernel_rfl) ?_
      obtain ⟨x176, s177, s178, hx179, hm180⟩ := bind3E hm165; clear hm165
      refine (law15_ch.ok hS173 hx179).mono ?_
      rintro _ w181 ⟨rfl, hS183⟩; clear hS173
      refine ⟨⟨_, hS183⟩, ?_⟩
      intro a182 hF184; clear hF174
      refine any_many 2 [(6, some (nI (IntKind.i64.wrap (2 * x176)))), (7, some (nI (IntKind.i64.wrap ((IntKind.i64.wrap (2 * x176)) + 1))))] [0, 1, 5, 7, 9, 11, 15, 81, 85, 89, 90, 91, 92, 93] #[true, true, true, true, true, true, true, true, true, false, false, false, false, false, false] (by rfl) hF184 (by kernel_rfl) (by kernel_rfl) (by exact (And.intro (fun wS hw => by kernel_rfl) (And.intro (fun wS hw => by kernel_rfl) trivial))) (fun _ _ _ _ _ h => h) ⟨_, hS183⟩ (l' := [(89, nI (IntKind.i64.wrap ((IntKind.i64.wrap (2 * x176)) + 1))), (90, nI i1), (85, nP z18 0), (11, nI x111), (9, nI x94), (7, nI x67), (5, nP z17 0), (0, nI i0), (1, nI i1)]) (by kernel_rfl) ?_
      intro a186 hF185; clear hF184
      have hS187 := hS183.pick1
      clear hS183
      refine any_call 9 #[true, true, true, true, true, true, true, true, true, true, false, false, false, false, false] 28 #[nP z18 0, nI (IntKind.i64.wrap ((IntKind.i64.wrap (2 * x176)) + 1)), nI i1] hF185 rfl (by kernel_rfl) rfl rfl (by kernel_rfl) rfl (by kernel_rfl) (fun w => by kernel_rfl) (by kernel_rfl) ?_
      obtain ⟨x188, x189, s190, hx191, hm192⟩ := bind3E hm180; clear hm180
      refine (send_Try.ok hS187 hx191).mono ?_
      rintro _ w193 ⟨rfl, hS195⟩; clear hS187
      refine ⟨⟨_, hS195.pick1⟩, ?_⟩
      intro a194 hF196; clear hF185
      refine any_many 5 [(10, some (.tuple #[nI x188, nI x189])), (11, some (nI x188)), (12, some (nI x189)), (13, some (nI x188)), (14, some (nI x189))] [0, 1, 5, 7, 9, 11, 15] #[true, true, true, true, true, true, true, true, true, true, true, true, true, true, true] (by rfl) hF196 (by kernel_rfl) (by kernel_rfl) (by exact (And.intro (fun wS hw => by kernel_rfl) (And.intro (fun wS hw => by kernel_rfl) (And.intro (fun wS hw => by kernel_rfl) (And.intro (fun wS hw => by kernel_rfl) (And.intro (fun wS hw => by kernel_rfl) trivial)))))) (fun _ _ _ _ _ h => h) ⟨_, hS195.pick1⟩ (l' := [(15, nI x189), (11, nI x111), (9, nI x94), (7, nI x67), (5, nP z17 0), (0, nI i0), (1, nI i1)]) (by kernel_rfl) ?_
      intro a198 hF197; clear hF196
      refine any_done (by kernel_rfl) ?_
      refine thenN (wp_seq (wp_region_lit ?_))
      refine ev_runs 2 hF197 (l' := [(96, nI i1), (95, nI i0), (15, nI x189), (11, nI x111), (9, nI x94), (7, nI x67), (5, nP z17 0), (0, nI i0), (1, nI i1)]) (w' := w193) (by kernel_rfl) ?_
      intro a200 hF199; clear hF197
      refine ev_call 28 #[.pointer none, nI i0, nI i1] hF199 rfl rfl (by kernel_rfl) rfl (by kernel_rfl) (fun w => by kernel_rfl) ?_
      obtain ⟨x201, x202, hx203, hm204⟩ := bind2E hm192; clear hm192
      refine (send_TryN.ok hS195 hx203).mono ?_
      rintro _ w205 ⟨rfl, hS207⟩ a206 hF208; clear hF199 hS195
      refine ev_runK 5 hF208 [0, 5, 7, 9, 11, 15, 16, 17] (l' := [(17, nI x202), (16, nI x201), (15, nI x189), (11, nI x111), (9, nI x94), (7, nI x67), (5, nP z17 0), (0, nI i0)]) (w' := w205) (by kernel_rfl) ?_
      intro a210 hF209; clear hF208
      refine wpList_nil (thenN (wp_seq ?_))
      refine joinQ (fun aI wI => ∃ (y211 : Bool), Fr 137 aI [(4, .bool (y211))] ∧ St w0 F0 (ps) wI ∧ SendNone.j3 y211 = some r0) ?_ ?_
      rotate_left
      · rintro a213 w214 ⟨y211, hF215, hS216, hm217⟩
        clear hF209 hS207 hm204
        unfold SendNone.j3 at hm217
        refine thenN ?_
        refine wp_ret ?_
        obtain rfl := Option.some.inj hm217
        refine ev_ret hF215 [4] (.bool (y211)) rfl rfl rfl ?_
        exact ⟨rfl, hS216⟩
      · skip
        -- draws
        have hS220 := hS207.pick1
        clear hS207
        have hS221 := hS220.drew; clear hS220
        refine any_start (fun wS => ∃ qs, St w0 F0 (BlkP z17 55 #[nP z18 0, nP z20 0, .slice p32 L9.length c33, .slice p36 L10.length c37] :: qs) wS) 38 #[false, false, false, false, false, false, false, false, false, false, false, false, false, false, false, false, false, false, false, false, false, false, false, false, false, false, false, false, false, false, false, false, false, false, false, false, false, false] (by kernel_rfl) (by kernel_rfl) (by kernel_rfl) ?_
        refine any_many 3 [(0, some (nI x67)), (1, some (.bool (x67 == 0))), (2, some (.bool (x67 == 0)))] [0, 4, 5, 9, 11, 15, 16, 17, 102, 103, 104, 105, 106, 107, 108, 109, 110, 111, 112, 113, 114, 115, 116, 117, 118, 119, 120, 121, 122, 123, 124, 125, 126, 127, 128, 129, 130, 131, 132, 133, 134, 135, 136] #[true, true, true, false, false, false, false, false, false, false, false, false, false, false, false, false, false, false, false, false, false, false, false, false, false, false, false, false, false, false, false, false, false, false, false, false, false, false] (by rfl) hF209 (by kernel_rfl) (by kernel_rfl) (by exact (And.intro (fun wS hw => by kernel_rfl) (And.intro (fun wS hw => by kernel_rfl) (And.intro (fun wS hw => by kernel_rfl) trivial)))) (fun _ _ _ _ _ h => h) ⟨_, hS221⟩ (l' := [(102, .bool (x67 == 0)), (17, nI x202), (16, nI x201), (15, nI x189), (11, nI x111), (9, nI x94), (5, nP z17 0), (0, nI i0)]) (by kernel_rfl) ?_
        intro a223 hF222; clear hF209
        cases hc224 : (x67 == 0) with
        | true =>
         rw [hc224] at hF222
         have hm225 := ifYes hc224 hm204; clear hm204
         refine any_many 4 [(3, some (nI x94)), (4, some (.bool (x94 == 6))), (5, some (.bool (x94 == 6))), (6, some (.bool (x94 == 6)))] [0, 4, 5, 11, 15, 16, 17, 106, 107, 108, 109, 110, 111, 112, 113, 114, 115, 116, 117, 118, 119, 120, 121, 122, 123, 124, 125, 126, 127, 128, 129, 130, 131, 132, 133, 134, 135, 136] #[true, true, true, true, true, true, true, false, false, false, false, false, false, false, false, false, false, false, false, false, false, false, false, false, false, false, false, false, false, false, false, false, false, false, false, false, false, false] (by rfl) hF222 (by kernel_rfl) (by kernel_rfl) (by exact (And.intro (fun wS hw => by kernel_rfl) (And.intro (fun wS hw => by kernel_rfl) (And.intro (fun wS hw => by kernel_rfl) (And.intro (fun wS hw => by kernel_rfl) trivial))))) (fun _ _ _ _ _ h => h) ⟨_, hS221⟩ (l' := [(106, .bool (x94 == 6)), (17, nI x202), (16, nI x201), (15, nI x189), (11, nI x111), (5, nP z17 0), (0, nI i0)]) (by kernel_rfl) ?_
         intro a227 hF226; clear hF222
         cases hc228 : (x94 == 6) with
         | true =>
          rw [hc228] at hF226
          have hm229 := ifYes hc228 hm225; clear hm225
          refine any_many 4 [(7, some (nI x111)), (8, some (.bool (x111 == 6))), (9, some (.bool (x111 == 6))), (10, some (.bool (x111 == 6)))] [0, 4, 5, 15, 16, 17, 110, 111, 112, 113, 114, 115, 116, 117, 118, 119, 120, 121, 122, 123, 124, 125, 126, 127, 128, 129, 130, 131, 132, 133, 134, 135, 136] #[true, true, true, true, true, true, true, true, true, true, true, false, false, false, false, false, false, false, false, false, false, false, false, false, false, false, false, false, false, false, false, false, false, false, false, false, false, false] (by rfl) hF226 (by kernel_rfl) (by kernel_rfl) (by exact (And.intro (fun wS hw => by kernel_rfl) (And.intro (fun wS hw => by kernel_rfl) (And.intro (fun wS hw => by kernel_rfl) (And.intro (fun wS hw => by kernel_rfl) trivial))))) (fun _ _ _ _ _ h => h) ⟨_, hS221⟩ (l' := [(110, .bool (x111 == 6)), (17, nI x202), (16, nI x201), (15, nI x189), (5, nP z17 0), (0, nI i0)]) (by kernel_rfl) ?_
          intro a231 hF230; clear hF226
          cases hc232 : (x111 == 6) with
          | true =>
           rw [hc232] at hF230
           have hm233 := ifYes hc232 hm229; clear hm229
           refine any_many 4 [(11, some (nI x189)), (12, some (.bool (x189 == 3))), (13, some (.bool (x189 == 3))), (14, some (.bool (x189 == 3)))] [0, 4, 5, 16, 17, 114, 115, 116, 117, 118, 119, 120, 121, 122, 123, 124, 125, 126, 127, 128, 129, 130, 131, 132, 133, 134, 135, 136] #[true, true, true, true, true, true, true, true, true, true, true, true, true, true, true, false, false, false, false, false, false, false, false, false, false, false, false, false, false, false, false, false, false, false, false, false, false, false] (by rfl) hF230 (by kernel_rfl) (by kernel_rfl) (by exact (And.intro (fun wS hw => by kernel_rfl) (And.intro (fun wS hw => by kernel_rfl) (And.intro (fun wS hw => by kernel_rfl) (And.intro (fun wS hw => by kernel_rfl) trivial))))) (fun _ _ _ _ _ h => h) ⟨_, hS221⟩ (l' := [(114, .bool (x189 == 3)), (17, nI x202), (16, nI x201), (5, nP z17 0), (0, nI i0)]) (by kernel_rfl) ?_
           intro a235 hF234; clear hF230
           cases hc236 : (x189 == 3) with
           | true =>
            rw [hc236] at hF234
            have hm237 := ifYes hc236 hm233; clear hm233
            refine any_many 4 [(15, some (nI x201)), (16, some (.bool (x201 == (-1)))), (17, some (.bool (x201 == (-1)))), (18, some (.bool (x201 == (-1))))] [0, 4, 5, 17, 118, 119, 120, 121, 122, 123, 124, 125, 126, 127, 128, 129, 130, 131, 132, 133, 134, 135, 136] #[true, true, true, true, true, true, true, true, true, true, true, true, true, true, true, true, true, true, true, false, false, false, false, false, false, false, false, false, false, false, false, false, false, false, false, false, false, false] (by rfl) hF234 (by kernel_rfl) (by kernel_rfl) (by exact (And.intro (fun wS hw => by kernel_rfl) (And.intro (fun wS hw => by kernel_rfl) (And.intro (fun wS hw => by kernel_rfl) (And.intro (fun wS hw => by kernel_rfl) trivial))))) (fun _ _ _ _ _ h => h) ⟨_, hS221⟩ (l' := [(118, .bool (x201 == (-1))), (17, nI x202), (5, nP z17 0), (0, nI i0)]) (by kernel_rfl) ?_
            intro a239 hF238; clear hF234
            cases hc240 : (x201 == (-1)) with
            | true =>
             rw [hc240] at hF238
             have hm241 := ifYes hc240 hm237; clear hm237
             refine any_many 4 [(19, some (nI x202)), (20, some (.bool (x202 == 6))), (21, some (.bool (x202 == 6))), (22, some (.bool (x202 == 6)))] [0, 4, 5, 122, 123, 124, 125, 126, 127, 128, 129, 130, 131, 132, 133, 134, 135, 136] #[true, true, true, true, true, true, true, true, true, true, true, true, true, true, true, true, true, true, true, true, true, true, true, false, false, false, false, false, false, false, false, false, false, false, false, false, false, false] (by rfl) hF238 (by kernel_rfl) (by kernel_rfl) (by exact (And.intro (fun wS hw => by kernel_rfl) (And.intro (fun wS hw => by kernel_rfl) (And.intro (fun wS hw => by kernel_rfl) (And.intro (fun wS hw => by kernel_rfl) trivial))))) (fun _ _ _ _ _ h => h) ⟨_, hS221⟩ (l' := [(122, .bool (x202 == 6)), (5, nP z17 0), (0, nI i0)]) (by kernel_rfl) ?_
             intro a243 hF242; clear hF238
             cases hc244 : (x202 == 6) with
             | true =>
              rw [hc244] at hF242
              have hm245 := ifYes hc244 hm241; clear hm241
              refine any_many 1 [(23, some (nI i0))] [4, 5, 122, 123, 124, 125, 126, 127, 128, 129, 130, 131, 132, 133, 134, 135, 136] #[true, true, true, true, true, true, true, true, true, true, true, true, true, true, true, true, true, true, true, true, true, true, true, true, false, false, false, false, false, false, false, false, false, false, false, false, false, false] (by rfl) hF242 (by kernel_rfl) (by kernel_rfl) (by exact (And.intro (fun wS hw => by kernel_rfl) trivial)) (fun _ _ _ _ _ h => h) ⟨_, hS221⟩ (l' := [(123, nI i0), (122, .bool true), (5, nP z17 0)]) (by kernel_rfl) ?_
              intro a247 hF246; clear hF242
              refine any_call 24 #[true, true, true, true, true, true, true, true, true, true, true, true, true, true, true, true, true, true, true, true, true, true, true, true, true, false, false, false, false, false, false, false, false, false, false, false, false, false] 33 #[.pointer none, nI i0] hF246 rfl (by kernel_rfl) rfl rfl (by kernel_rfl) rfl (by kernel_rfl) (fun w => by kernel_rfl) (by kernel_rfl) ?_
              obtain ⟨y248, hx249, hm250⟩ := bind1E hm245; clear hm245
              refine (send_ReadyN.ok hS221 hx249).mono ?_
              rintro _ w251 ⟨rfl, hS253⟩; clear hS221
              refine ⟨⟨_, hS253⟩, ?_⟩
              intro a252 hF254; clear hF246
              refine any_many 2 [(25, some (.bool (y248))), (26, some (.bool (y248)))] [4, 5, 126, 127, 128, 129, 130, 131, 132, 133, 134, 135, 136] #[true, true, true, true, true, true, true, true, true, true, true, true, true, true, true, true, true, true, true, true, true, true, true, true, true, true, true, false, false, false, false, false, false, false, false, false, false, false] (by rfl) hF254 (by kernel_rfl) (by kernel_rfl) (by exact (And.intro (fun wS hw => by kernel_rfl) (And.intro (fun wS hw => by kernel_rfl) trivial))) (fun _ _ _ _ _ h => h) ⟨_, hS253⟩ (l' := [(126, .bool (y248)), (5, nP z17 0)]) (by kernel_rfl) ?_
              intro a256 hF255; clear hF254
              cases hc257 : (y248) with
              | true =>
               rw [hc257] at hF255
               have hm258 := ifYes hc257 hm250; clear hm250
               refine any_many 5 [(27, some (nP z17 0)), (28, some (nP z17 0)), (29, some (nP z17 0)), (30, some (nP z18 0)), (31, some (nP z17 0))] [4, 126, 130, 131, 132, 133, 134, 135, 136] #[true, true, true, true, true, true, true, true, true, true, true, true, true, true, true, true, true, true, true, true, true, true, true, true, true, true, true, true, true, true, true, true, false, false, false, false, false, false] (by rfl) hF255 (by kernel_rfl) (by kernel_rfl) (by exact (And.intro (fun wS hw => by kernel_rfl) (And.intro (fun wS hw => by kernel_rfl) (And.intro (fun wS hw => by kernel_rfl) (And.intro (fun wS hw => hw.elim fun qs hw => run_loadV rfl rfl (run_loadS rfl rfl (hw.cell 0 rfl 0 rfl))) (And.intro (fun wS hw => by kernel_rfl) trivial)))))) (fun _ _ _ _ _ h => h) ⟨_, hS253⟩ (l' := [(131, nP z17 0), (130, nP z18 0), (126, .bool true)]) (by kernel_rfl) ?_
               intro a260 hF259; clear hF255
               refine any_call 32 #[true, true, true, true, true, true, true, true, true, true, true, true, true, true, true, true, true, true, true, true, true, true, true, true, true, true, true, true, true, true, true, true, true, false, false, false, false, false] 31 #[nP z17 0, nI 0] hF259 rfl (by kernel_rfl) rfl rfl (by kernel_rfl) rfl (by kernel_rfl) (fun w => by kernel_rfl) (by kernel_rfl) ?_
               obtain ⟨x261, s262, s263, hx264, hm265⟩ := bind3E hm258; clear hm258
               refine (law15_ch.ok hS253 hx264).mono ?_
               rintro _ w266 ⟨rfl, hS268⟩; clear hS253
               refine ⟨⟨_, hS268⟩, ?_⟩
               intro a267 hF269; clear hF259
               refine any_many 2 [(33, some (nI (IntKind.i64.wrap (2 * x261)))), (34, some (nI (IntKind.i64.wrap ((IntKind.i64.wrap (2 * x261)) + 1))))] [4, 126, 130, 134, 135, 136] #[true, true, true, true, true, true, true, true, true, true, true, true, true, true, true, true, true, true, true, true, true, true, true, true, true, true, true, true, true, true, true, true, true, true, true, false, false, false] (by rfl) hF269 (by kernel_rfl) (by kernel_rfl) (by exact (And.intro (fun wS hw => by kernel_rfl) (And.intro (fun wS hw => by kernel_rfl) trivial))) (fun _ _ _ _ _ h => h) ⟨_, hS268⟩ (l' := [(134, nI (IntKind.i64.wrap ((IntKind.i64.wrap (2 * x261)) + 1))), (130, nP z18 0), (126, .bool true)]) (by kernel_rfl) ?_
               intro a271 hF270; clear hF269
               have hS272 := hS268.pick1
               clear hS268
               refine any_call 35 #[true, true, true, true, true, true, true, true, true, true, true, true, true, true, true, true, true, true, true, true, true, true, true, true, true, true, true, true, true, true, true, true, true, true, true, true, false, false] 33 #[nP z18 0, nI (IntKind.i64.wrap ((IntKind.i64.wrap (2 * x261)) + 1))] hF270 rfl (by kernel_rfl) rfl rfl (by kernel_rfl) rfl (by kernel_rfl) (fun w => by kernel_rfl) (by kernel_rfl) ?_
               obtain ⟨y273, s274, hx275, hm276⟩ := bind2E hm265; clear hm265
               refine (send_Ready.ok hS272 hx275).mono ?_
               rintro _ w277 ⟨rfl, hS279⟩; clear hS272
               refine ⟨⟨_, hS279.pick1⟩, ?_⟩
               intro a278 hF280; clear hF270
               refine any_many 2 [(36, some (.bool (y273))), (37, some (.bool (y273)))] [4] #[true, true, true, true, true, true, true, true, true, true, true, true, true, true, true, true, true, true, true, true, true, true, true, true, true, true, true, true, true, true, true, true, true, true, true, true, true, true] (by rfl) hF280 (by kernel_rfl) (by kernel_rfl) (by exact (And.intro (fun wS hw => by kernel_rfl) (And.intro (fun wS hw => by kernel_rfl) trivial))) (fun _ _ _ _ _ h => h) ⟨_, hS279.pick1⟩ (l' := [(4, .bool (y273))]) (by kernel_rfl) ?_
               intro a282 hF281; clear hF280
               refine any_done (by kernel_rfl) ?_
               have hS283 := hS279.drop.drop.drop.drop.drop
               clear hS279
               exact thenN ⟨y273, hF281, hS283, hm276⟩
              | false =>
               rw [hc257] at hF255
               have hm284 := ifNot hc257 hm250; clear hm250
               refine any_many 11 [(27, none), (28, none), (29, none), (30, none), (31, none), (32, none), (33, none), (34, none), (35, none), (36, some (.bool false)), (37, some (.bool false))] [4] #[true, true, true, true, true, true, true, true, true, true, true, true, true, true, true, true, true, true, true, true, true, true, true, true, true, true, true, true, true, true, true, true, true, true, true, true, true, true] (by rfl) hF255 (by kernel_rfl) (by kernel_rfl) (by exact (And.intro trivial (And.intro trivial (And.intro trivial (And.intro trivial (And.intro trivial (And.intro trivial (And.intro trivial (And.intro trivial (And.intro trivial (And.intro (fun wS hw => by kernel_rfl) (And.intro (fun wS hw => by kernel_rfl) trivial)))))))))))) (fun _ _ _ _ _ h => h) ⟨_, hS253⟩ (l' := [(4, .bool false)]) (by kernel_rfl) ?_
               intro a286 hF285; clear hF255
               refine any_done (by kernel_rfl) ?_
               have hS287 := hS253.drop.drop.drop.drop.drop
               clear hS253
               exact thenN ⟨false, hF285, hS287, hm284⟩
             | false =>
              rw [hc244] at hF242
              have hm288 := ifNot hc244 hm241; clear hm241
              refine any_many 15 [(23, none), (24, none), (25, some (.bool false)), (26, some (.bool false)), (27, none), (28, none), (29, none), (30, none), (31, none), (32, none), (33, none), (34, none), (35, none), (36, some (.bool false)), (37, some (.bool false))] [4] #[true, true, true, true, true, true, true, true, true, true, true, true, true, true, true, true, true, true, true, true, true, true, true, true, true, true, true, true, true, true, true, true, true, true, true, true, true, true] (by rfl) hF242 (by kernel_rfl) (by kernel_rfl) (by exact (And.intro trivial (And.intro trivial (And.intro (fun wS hw => by kernel_rfl) (And.intro (fun wS hw => by kernel_rfl) (And.intro trivial (And.intro trivial (And.intro trivial (And.intro trivial (And.intro trivial (And.intro trivial (And.intro trivial (And.intro trivial (And.intro trivial (And.intro (fun wS hw => by kernel_rfl) (And.intro (fun wS hw => by kernel_rfl) trivial)))))))))))))))) (fun _ _ _ _ _ h => h) ⟨_, hS221⟩ (l' := [(4, .bool false)]) (by kernel_rfl) ?_
              intro a290 hF289; clear hF242
              refine any_done (by kernel_rfl) ?_
              have hS291 := hS221.drop.drop.drop.drop.drop
              clear hS221
              exact thenN ⟨false, hF289, hS291, hm288⟩
            | false =>
             rw [hc240] at hF238
             have hm292 := ifNot hc240 hm237; clear hm237
             refine any_many 19 [(19, none), (20, none), (21, some (.bool false)), (22, some (.bool false)), (23, none), (24, none), (25, some (.bool false)), (26, some (.bool false)), (27, none), (28, none), (29, none), (30, none), (31, none), (32, none), (33, none), (34, none), (35, none), (36, some (.bool false)), (37, some (.bool false))] [4] #[true, true, true, true, true, true, true, true, true, true, true, true, true, true, true, true, true, true, true, true, true, true, true, true, true, true, true, true, true, true, true, true, true, true, true, true, true, true] (by rfl) hF238 (by kernel_rfl) (by kernel_rfl) (by exact (And.intro trivial (And.intro trivial (And.intro (fun wS hw => by kernel_rfl) (And.intro (fun wS hw => by kernel_rfl) (And.intro trivial (And.intro trivial (And.intro (fun wS hw => by kernel_rfl) (And.intro (fun wS hw => by kernel_rfl) (And.intro trivial (And.intro trivial (And.intro trivial (And.intro trivial (And.intro trivial (And.intro trivial (And.intro trivial (And.intro trivial (And.intro trivial (And.intro (fun wS hw => by kernel_rfl) (And.intro (fun wS hw => by kernel_rfl) trivial)))))))))))))))))))) (fun _ _ _ _ _ h => h) ⟨_, hS221⟩ (l' := [(4, .bool false)]) (by kernel_rfl) ?_
             intro a294 hF293; clear hF238
             refine any_done (by kernel_rfl) ?_
             have hS295 := hS221.drop.drop.drop.drop.drop
             clear hS221
             exact thenN ⟨false, hF293, hS295, hm292⟩
           | false =>
            rw [hc236] at hF234
            have hm296 := ifNot hc236 hm233; clear hm233
            refine any_many 23 [(15, none), (16, none), (17, some (.bool false)), (18, some (.bool false)), (19, none), (20, none), (21, some (.bool false)), (22, some (.bool false)), (23, none), (24, none), (25, some (.bool false)), (26, some (.bool false)), (27, none), (28, none), (29, none), (30, none), (31, none), (32, none), (33, none), (34, none), (35, none), (36, some (.bool false)), (37, some (.bool false))] [4] #[true, true, true, true, true, true, true, true, true, true, true, true, true, true, true, true, true, true, true, true, true, true, true, true, true, true, true, true, true, true, true, true, true, true, true, true, true, true] (by rfl) hF234 (by kernel_rfl) (by kernel_rfl) (by exact (And.intro trivial (And.intro trivial (And.intro (fun wS hw => by kernel_rfl) (And.intro (fun wS hw => by kernel_rfl) (And.intro trivial (And.intro trivial (And.intro (fun wS hw => by kernel_rfl) (And.intro (fun wS hw => by kernel_rfl) (And.intro trivial (And.intro trivial (And.intro (fun wS hw => by kernel_rfl) (And.intro (fun wS hw => by kernel_rfl) (And.intro trivial (And.intro trivial (And.intro trivial (And.intro trivial (And.intro trivial (And.intro trivial (And.intro trivial (And.intro trivial (And.intro trivial (And.intro (fun wS hw => by kernel_rfl) (And.intro (fun wS hw => by kernel_rfl) trivial)))))))))))))))))))))))) (fun _ _ _ _ _ h => h) ⟨_, hS221⟩ (l' := [(4, .bool false)]) (by kernel_rfl) ?_
            intro a298 hF297; clear hF234
            refine any_done (by kernel_rfl) ?_
            have hS299 := hS221.drop.drop.drop.drop.drop
            clear hS221
            exact thenN ⟨false, hF297, hS299, hm296⟩
          | false =>
           rw [hc232] at hF230
           have hm300 := ifNot hc232 hm229; clear hm229
           refine any_many 27 [(11, none), (12, none), (13, some (.bool false)), (14, some (.bool false)), (15, none), (16, none), (17, some (.bool false)), (18, some (.bool false)), (19, none), (20, none), (21, some (.bool false)), (22, some (.bool false)), (23, none), (24, none), (25, some (.bool false)), (26, some (.bool false)), (27, none), (28, none), (29, none), (30, none), (31, none), (32, none), (33, none), (34, none), (35, none), (36, some (.bool false)), (37, some (.bool false))] [4] #[true, true, true, true, true, true, true, true, true, true, true, true, true, true, true, true, true, true, true, true, true, true, true, true, true, true, true, true, true, true, true, true, true, true, true, true, true, true] (by rfl) hF230 (by kernel_rfl) (by kernel_rfl) (by exact (And.intro trivial (And.intro trivial (And.intro (fun wS hw => by kernel_rfl) (And.intro (fun wS hw => by kernel_rfl) (And.intro trivial (And.intro trivial (And.intro (fun wS hw => by kernel_rfl) (And.intro (fun wS hw => by kernel_rfl) (And.intro trivial (And.intro trivial (And.intro (fun wS hw => by kernel_rfl) (And.intro (fun wS hw => by kernel_rfl) (And.intro trivial (And.intro trivial (And.intro (fun wS hw => by kernel_rfl) (And.intro (fun wS hw => by kernel_rfl) (And.intro trivial (And.intro trivial (And.intro trivial (And.intro trivial (And.intro trivial (And.intro trivial (And.intro trivial (And.intro trivial (And.intro trivial (And.intro (fun wS hw => by kernel_rfl) (And.intro (fun wS hw => by kernel_rfl) trivial)))))))))))))))))))))))))))) (fun _ _ _ _ _ h => h) ⟨_, hS221⟩ (l' := [(4, .bool false)]) (by kernel_rfl) ?_
           intro a302 hF301; clear hF230
           refine any_done (by kernel_rfl) ?_
           have hS303 := hS221.drop.drop.drop.drop.drop
           clear hS221
           exact thenN ⟨false, hF301, hS303, hm300⟩
         | false =>
          rw [hc228] at hF226
          have hm304 := ifNot hc228 hm225; clear hm225
          refine any_many 31 [(7, none), (8, none), (9, some (.bool false)), (10, some (.bool false)), (11, none), (12, none), (13, some (.bool false)), (14, some (.bool false)), (15, none), (16, none), (17, some (.bool false)), (18, some (.bool false)), (19, none), (20, none), (21, some (.bool false)), (22, some (.bool false)), (23, none), (24, none), (25, some (.bool false)), (26, some (.bool false)), (27, none), (28, none), (29, none), (30, none), (31, none), (32, none), (33, none), (34, none), (35, none), (36, some (.bool false)), (37, some (.bool false))] [4] #[true, true, true, true, true, true, true, true, true, true, true, true, true, true, true, true, true, true, true, true, true, true, true, true, true, true, true, true, true, true, true, true, true, true, true, true, true, true] (by rfl) hF226 (by kernel_rfl) (by kernel_rfl) (by exact (And.intro trivial (And.intro trivial (And.intro (fun wS hw => by kernel_rfl) (And.intro (fun wS hw => by kernel_rfl) (And.intro trivial (And.intro trivial (And.intro (fun wS hw => by kernel_rfl) (And.intro (fun wS hw => by kernel_rfl) (And.intro trivial (And.intro trivial (And.intro (fun wS hw => by kernel_rfl) (And.intro (fun wS hw => by kernel_rfl) (And.intro trivial (And.intro trivial (And.intro (fun wS hw => by kernel_rfl) (And.intro (fun wS hw => by kernel_rfl) (And.intro trivial (And.intro trivial (And.intro (fun wS hw => by kernel_rfl) (And.intro (fun wS hw => by kernel_rfl) (And.intro trivial (And.intro trivial (And.intro trivial (And.intro trivial (And.intro trivial (And.intro trivial (And.intro trivial (And.intro trivial (And.intro trivial (And.intro (fun wS hw => by kernel_rfl) (And.intro (fun wS hw => by kernel_rfl) trivial)))))))))))))))))))))))))))))))) (fun _ _ _ _ _ h => h) ⟨_, hS221⟩ (l' := [(4, .bool false)]) (by kernel_rfl) ?_
          intro a306 hF305; clear hF226
          refine any_done (by kernel_rfl) ?_
          have hS307 := hS221.drop.drop.drop.drop.drop
          clear hS221
          exact thenN ⟨false, hF305, hS307, hm304⟩
        | false =>
         rw [hc224] at hF222
         have hm308 := ifNot hc224 hm204; clear hm204
         refine any_many 35 [(3, none), (4, none), (5, some (.bool false)), (6, some (.bool false)), (7, none), (8, none), (9, some (.bool false)), (10, some (.bool false)), (11, none), (12, none), (13, some (.bool false)), (14, some (.bool false)), (15, none), (16, none), (17, some (.bool false)), (18, some (.bool false)), (19, none), (20, none), (21, some (.bool false)), (22, some (.bool false)), (23, none), (24, none), (25, some (.bool false)), (26, some (.bool false)), (27, none), (28, none), (29, none), (30, none), (31, none), (32, none), (33, none), (34, none), (35, none), (36, some (.bool false)), (37, some (.bool false))] [4] #[true, true, true, true, true, true, true, true, true, true, true, true, true, true, true, true, true, true, true, true, true, true, true, true, true, true, true, true, true, true, true, true, true, true, true, true, true, true] (by rfl) hF222 (by kernel_rfl) (by kernel_rfl) (by exact (And.intro trivial (And.intro trivial (And.intro (fun wS hw => by kernel_rfl) (And.intro (fun wS hw => by kernel_rfl) (And.intro trivial (And.intro trivial (And.intro (fun wS hw => by kernel_rfl) (And.intro (fun wS hw => by kernel_rfl) (And.intro trivial (And.intro trivial (And.intro (fun wS hw => by kernel_rfl) (And.intro (fun wS hw => by kernel_rfl) (And.intro trivial (And.intro trivial (And.intro (fun wS hw => by kernel_rfl) (And.intro (fun wS hw => by kernel_rfl) (And.intro trivial (And.intro trivial (And.intro (fun wS hw => by kernel_rfl) (And.intro (fun wS hw => by kernel_rfl) (And.intro trivial (And.intro trivial (And.intro (fun wS hw => by kernel_rfl) (And.intro (fun wS hw => by kernel_rfl) (And.intro trivial (And.intro trivial (And.intro trivial (And.intro trivial (And.intro trivial (And.intro trivial (And.intro trivial (And.intro trivial (And.intro trivial (And.intro (fun wS hw => by kernel_rfl) (And.intro (fun wS hw => by kernel_rfl) trivial)))))))))))))))))))))))))))))))))))) (fun _ _ _ _ _ h => h) ⟨_, hS221⟩ (l' := [(4, .bool false)]) (by kernel_rfl) ?_
         intro a310 hF309; clear hF222
         refine any_done (by kernel_rfl) ?_
         have hS311 := hS221.drop.drop.drop.drop.drop
         clear hS221
         exact thenN ⟨false, hF309, hS311, hm308⟩
    · skip
      -- draws
      have hS312 := hS117.pick1
      clear hS117
      have hS313 := hS312.drew; clear hS312
      refine any_start (fun wS => ∃ qs, St w0 F0 (BlkP z17 55 #[nP z18 0, nP z20 0, .slice p32 L9.length c33, .slice p36 L10.length c37] :: qs) wS) 13 #[false, false, false, false, false, false, false, false, false, false, false, false, false] (by kernel_rfl) (by kernel_rfl) (by kernel_rfl) ?_
      refine any_many 5 [(0, some (nP z17 0)), (1, some (nP z17 0)), (2, some (nP z17 0)), (3, some (nP z18 0)), (4, some (nP z17 0))] [0, 1, 5, 7, 9, 11, 12, 62, 66, 67, 68, 69, 70, 71] #[true, true, true, true, true, false, false, false, false, false, false, false, false] (by rfl) hF119 (by kernel_rfl) (by kernel_rfl) (by exact (And.intro (fun wS hw => by kernel_rfl) (And.intro (fun wS hw => by kernel_rfl) (And.intro (fun wS hw => by kernel_rfl) (And.intro (fun wS hw => hw.elim fun qs hw => run_loadV rfl rfl (run_loadS rfl rfl (hw.cell 0 rfl 0 rfl))) (And.intro (fun wS hw => by kernel_rfl) trivial)))))) (fun _ _ _ _ _ h => h) ⟨_, hS313⟩ (l' := [(67, nP z17 0), (66, nP z18 0), (11, nI x111), (9, nI x94), (7, nI x67), (5, nP z17 0), (0, nI i0), (1, nI i1)]) (by kernel_rfl) ?_
      intro a315 hF314; clear hF119
      refine any_two 5 10 (by kernel_rfl) ?_ ?_
      · skip
        refine op_call 5 #[true, true, true, true, true, true, false, false, false, false, false, false, false] 31 #[nP z17 0, nI 0] hF314 rfl rfl rfl (by kernel_rfl) rfl (by kernel_rfl) (fun w => by kernel_rfl) (by kernel_rfl) ?_
        obtain ⟨x316, s317, s318, hx319, hm320⟩ := bind3E hm114; clear hm114
        refine (law15_ch.ok hS313 hx319).mono ?_
        rintro _ w321 ⟨rfl, hS323⟩; clear hS313
        refine ⟨⟨_, hS323⟩, ?_⟩
        intro a322 hF324; clear hF314
        refine any_two 6 10 (by kernel_rfl) ?_ ?_
        · skip
          have hS325 := hS323.pick1
          clear hS323
          refine op_call 6 #[true, true, true, true, true, true, true, false, false, false, false, false, false] 30 #[nP z18 0, nI x316] hF324 rfl rfl rfl (by kernel_rfl) rfl (by kernel_rfl) (fun w => by kernel_rfl) (by kernel_rfl) ?_
          obtain ⟨q326, x327, hx328, hm329⟩ := bind2E hm320; clear hm320
          refine (p_Chan hS325 hx328).mono ?_
          rintro _ w330 ⟨rfl, hS332⟩; clear hS325
          refine ⟨⟨_, hS332.pick1⟩, ?_⟩
          intro a331 hF333; clear hF324
          refine any_many 3 [(7, some (.tuple #[.agg #[nI (q326.cap), nI (q326.closed), nI (q326.count), nI (q326.start), nI (q326.buf), nI (q326.th), nI (q326.tt), nI (q326.sh), nI (q326.st)], nI x327])), (8, some (.agg #[nI (q326.cap), nI (q326.closed), nI (q326.count), nI (q326.start), nI (q326.buf), nI (q326.th), nI (q326.tt), nI (q326.sh), nI (q326.st)])), (9, some (nI x327))] [0, 1, 5, 7, 9, 11, 12, 70, 71] #[true, true, true, true, true, true, true, true, true, true, false, false, false] (by rfl) hF333 (by kernel_rfl) (by kernel_rfl) (by exact (And.intro (fun wS hw => by kernel_rfl) (And.intro (fun wS hw => by kernel_rfl) (And.intro (fun wS hw => by kernel_rfl) trivial)))) (fun _ _ _ _ _ h => h) ⟨_, hS332.pick1⟩ (l' := [(71, nI x327), (70, .agg #[nI (q326.cap), nI (q326.closed), nI (q326.count), nI (q326.start), nI (q326.buf), nI (q326.th), nI (q326.tt), nI (q326.sh), nI (q326.st)]), (11, nI x111), (9, nI x94), (7, nI x67), (5, nP z17 0), (0, nI i0), (1, nI i1)]) (by kernel_rfl) ?_
          intro a335 hF334; clear hF333
          refine any_one 10 (by kernel_rfl) ?_
          have hS336 : St w0 F0 (BlkP (w330.heap.size) 57 #[nI 0, nI 0, nI 0, nI 0, nI 0, nI 0, nI 0, nI 0, nI 0] :: HeapP z18 z19 s317 :: BlkP z17 55 #[nP z18 0, nP z20 0, .slice p32 L9.length c33, .slice p36 L10.length c37] :: RHeapP z20 z21 z22 z23 z24 s318 :: RowP (.slice p32 L9.length c33) L9 :: RowP (.slice p36 L10.length c37) L10 :: ps) (w330.alloc (.cells #[nI 0, nI 0, nI 0, nI 0, nI 0, nI 0, nI 0, nI 0, nI 0] 57)) := St.new hS332 #[nI 0, nI 0, nI 0, nI 0, nI 0, nI 0, nI 0, nI 0, nI 0] 57
          clear hS332
          refine op_step 10 #[true, true, true, true, true, true, true, true, true, true, true, false, false] (nP (w330.heap.size) 0) (w330.alloc (.cells #[nI 0, nI 0, nI 0, nI 0, nI 0, nI 0, nI 0, nI 0, nI 0] 57)) hF334 rfl (by kernel_rfl) rfl (by kernel_rfl) (by kernel_rfl) (l' := [(12, nP (w330.heap.size) 0), (71, nI x327), (70, .agg #[nI (q326.cap), nI (q326.closed), nI (q326.count), nI (q326.start), nI (q326.buf), nI (q326.th), nI (q326.tt), nI (q326.sh), nI (q326.st)]), (11, nI x111), (9, nI x94), (7, nI x67), (5, nP z17 0), (0, nI i0), (1, nI i1)]) (by kernel_rfl) ⟨_, hS336.pick2⟩ (by kernel_rfl) ?_
          intro a338 hF337; clear hF334
          refine any_one 11 (by kernel_rfl) ?_
          refine op_store 11 #[true, true, true, true, true, true, true, true, true, true, true, true, false] (.agg #[nI (q326.cap), nI (q326.closed), nI (q326.count), nI (q326.start), nI (q326.buf), nI (q326.th), nI (q326.tt), nI (q326.sh), nI (q326.st)]) #[nI (q326.cap), nI (q326.closed), nI (q326.count), nI (q326.start), nI (q326.buf), nI (q326.th), nI (q326.tt), nI (q326.sh), nI (q326.st)] hF337 rfl (by kernel_rfl) rfl rfl rfl rfl (by kernel_rfl) hS336 (by kernel_rfl) (by kernel_rfl) (by kernel_rfl) (l' := [(12, nP (w330.heap.size) 0), (71, nI x327), (70, .agg #[nI (q326.cap), nI (q326.closed), nI (q326.count), nI (q326.start), nI (q326.buf), nI (q326.th), nI (q326.tt), nI (q326.sh), nI (q326.st)]), (11, nI x111), (9, nI x94), (7, nI x67), (5, nP z17 0), (0, nI i0), (1, nI i1)]) (by kernel_rfl) (by kernel_rfl) ?_
          intro w339 a340 hS341 hF342; clear hF337 hS336
          refine ⟨⟨_, hS341.pick2⟩, ?_⟩
          refine any_many 1 [(12, some (nI x327))] [0, 1, 5, 7, 9, 11, 12] #[true, true, true, true, true, true, true, true, true, true, true, true, true] (by rfl) hF342 (by kernel_rfl) (by kernel_rfl) (by exact (And.intro (fun wS hw => by kernel_rfl) trivial)) (fun _ _ _ _ _ h => h) ⟨_, hS341.pick2⟩ (l' := [(12, nP (w330.heap.size) 0), (11, nI x111), (9, nI x94), (7, nI x67), (5, nP z17 0), (0, nI i0), (1, nI i1)]) (by kernel_rfl) ?_
          intro a344 hF343; clear hF342
          refine any_done (by kernel_rfl) ?_
          exact thenN ⟨(w330.heap.size), s317, s318, q326.cap, q326.closed, q326.count, q326.start, q326.buf, q326.th, q326.tt, q326.sh, q326.st, hF343, hS341, hm329⟩
        · skip
          have hS345 : St w0 F0 (BlkP (w321.heap.size) 57 #[nI 0, nI 0, nI 0, nI 0, nI 0, nI 0, nI 0, nI 0, nI 0] :: BlkP z17 55 #[nP z18 0, nP z20 0, .slice p32 L9.length c33, .slice p36 L10.length c37] :: HeapP z18 z19 s317 :: RHeapP z20 z21 z22 z23 z24 s318 :: RowP (.slice p32 L9.length c33) L9 :: RowP (.slice p36 L10.length c37) L10 :: ps) (w321.alloc (.cells #[nI 0, nI 0, nI 0, nI 0, nI 0, nI 0, nI 0, nI 0, nI 0] 57)) := St.new hS323 #[nI 0, nI 0, nI 0, nI 0, nI 0, nI 0, nI 0, nI 0, nI 0] 57
          clear hS323
          refine op_step 10 #[true, true, true, true, true, true, false, false, false, false, true, false, false] (nP (w321.heap.size) 0) (w321.alloc (.cells #[nI 0, nI 0, nI 0, nI 0, nI 0, nI 0, nI 0, nI 0, nI 0] 57)) hF324 rfl (by kernel_rfl) rfl (by kernel_rfl) (by kernel_rfl) (l' := [(12, nP (w321.heap.size) 0), (68, nI x316), (67, nP z17 0), (66, nP z18 0), (11, nI x111), (9, nI x94), (7, nI x67), (5, nP z17 0), (0, nI i0), (1, nI i1)]) (by kernel_rfl) ⟨_, hS345.pick1⟩ (by kernel_rfl) ?_
          intro a347 hF346; clear hF324
          have hS348 := hS345.pick2
          clear hS345
          refine any_call 6 #[true, true, true, true, true, true, true, false, false, false, true, false, false] 30 #[nP z18 0, nI x316] hF346 rfl (by kernel_rfl) rfl rfl (by kernel_rfl) rfl (by kernel_rfl) (fun w => by kernel_rfl) (by kernel_rfl) ?_
          obtain ⟨q349, x350, hx351, hm352⟩ := bind2E hm320; clear hm320
          refine (p_Chan hS348 hx351).mono ?_
          rintro _ w353 ⟨rfl, hS355⟩; clear hS348
          refine ⟨⟨_, hS355.pick2⟩, ?_⟩
          intro a354 hF356; clear hF346
          refine any_many 3 [(7, some (.tuple #[.agg #[nI (q349.cap), nI (q349.closed), nI (q349.count), nI (q349.start), nI (q349.buf), nI (q349.th), nI (q349.tt), nI (q349.sh), nI (q349.st)], nI x350])), (8, some (.agg #[nI (q349.cap), nI (q349.closed), nI (q349.count), nI (q349.start), nI (q349.buf), nI (q349.th), nI (q349.tt), nI (q349.sh), nI (q349.st)])), (9, some (nI x350))] [0, 1, 5, 7, 9, 11, 12, 70, 71] #[true, true, true, true, true, true, true, true, true, true, true, false, false] (by rfl) hF356 (by kernel_rfl) (by kernel_rfl) (by exact (And.intro (fun wS hw => by kernel_rfl) (And.intro (fun wS hw => by kernel_rfl) (And.intro (fun wS hw => by kernel_rfl) trivial)))) (fun _ _ _ _ _ h => h) ⟨_, hS355.pick2⟩ (l' := [(71, nI x350), (70, .agg #[nI (q349.cap), nI (q349.closed), nI (q349.count), nI (q349.start), nI (q349.buf), nI (q349.th), nI (q349.tt), nI (q349.sh), nI (q349.st)]), (12, nP (w321.heap.size) 0), (11, nI x111), (9, nI x94), (7, nI x67), (5, nP z17 0), (0, nI i0), (1, nI i1)]) (by kernel_rfl) ?_
          intro a358 hF357; clear hF356
          refine any_one 11 (by kernel_rfl) ?_
          have hS359 := hS355.pick1
          clear hS355
          refine op_store 11 #[true, true, true, true, true, true, true, true, true, true, true, true, false] (.agg #[nI (q349.cap), nI (q349.closed), nI (q349.count), nI (q349.start), nI (q349.buf), nI (q349.th), nI (q349.tt), nI (q349.sh), nI (q349.st)]) #[nI (q349.cap), nI (q349.closed), nI (q349.count), nI (q349.start), nI (q349.buf), nI (q349.th), nI (q349.tt), nI (q349.sh), nI (q349.st)] hF357 rfl (by kernel_rfl) rfl rfl rfl rfl (by kernel_rfl) hS359 (by kernel_rfl) (by kernel_rfl) (by kernel_rfl) (l' := [(71, nI x350), (70, .agg #[nI (q349.cap), nI (q349.closed), nI (q349.count), nI (q349.start), nI (q349.buf), nI (q349.th), nI (q349.tt), nI (q349.sh), nI (q349.st)]), (12, nP (w321.heap.size) 0), (11, nI x111), (9, nI x94), (7, nI x67), (5, nP z17 0), (0, nI i0), (1, nI i1)]) (by kernel_rfl) (by kernel_rfl) ?_
          intro w360 a361 hS362 hF363; clear hF357 hS359
          refine ⟨⟨_, hS362.pick2⟩, ?_⟩
          refine any_many 1 [(12, some (nI x350))] [0, 1, 5, 7, 9, 11, 12] #[true, true, true, true, true, true, true, true, true, true, true, true, true] (by rfl) hF363 (by kernel_rfl) (by kernel_rfl) (by exact (And.intro (fun wS hw => by kernel_rfl) trivial)) (fun _ _ _ _ _ h => h) ⟨_, hS362.pick2⟩ (l' := [(12, nP (w321.heap.size) 0), (11, nI x111), (9, nI x94), (7, nI x67), (5, nP z17 0), (0, nI i0), (1, nI i1)]) (by kernel_rfl) ?_
          intro a365 hF364; clear hF363
          refine any_done (by kernel_rfl) ?_
          exact thenN ⟨(w321.heap.size), s317, s318, q349.cap, q349.closed, q349.count, q349.start, q349.buf, q349.th, q349.tt, q349.sh, q349.st, hF364, hS362, hm352⟩
      · skip
        have hS366 : St w0 F0 (BlkP ((w115.drew).heap.size) 57 #[nI 0, nI 0, nI 0, nI 0, nI 0, nI 0, nI 0, nI 0, nI 0] :: BlkP z17 55 #[nP z18 0, nP z20 0, .slice p32 L9.length c33, .slice p36 L10.length c37] :: HeapP z18 z19 s112 :: RHeapP z20 z21 z22 z23 z24 s83 :: RowP (.slice p32 L9.length c33) L9 :: RowP (.slice p36 L10.length c37) L10 :: ps) ((w115.drew).alloc (.cells #[nI 0, nI 0, nI 0, nI 0, nI 0, nI 0, nI 0, nI 0, nI 0] 57)) := St.new hS313 #[nI 0, nI 0, nI 0, nI 0, nI 0, nI 0, nI 0, nI 0, nI 0] 57
        clear hS313
        refine op_step 10 #[true, true, true, true, true, false, false, false, false, false, true, false, false] (nP ((w115.drew).heap.size) 0) ((w115.drew).alloc (.cells #[nI 0, nI 0, nI 0, nI 0, nI 0, nI 0, nI 0, nI 0, nI 0] 57)) hF314 rfl (by kernel_rfl) rfl (by kernel_rfl) (by kernel_rfl) (l' := [(12, nP ((w115.drew).heap.size) 0), (67, nP z17 0), (66, nP z18 0), (11, nI x111), (9, nI x94), (7, nI x67), (5, nP z17 0), (0, nI i0), (1, nI i1)]) (by kernel_rfl) ⟨_, hS366.pick1⟩ (by kernel_rfl) ?_
        intro a368 hF367; clear hF314
        have hS369 := hS366.pick5.pick5.pick5.pick5.pick5
        clear hS366
        refine any_call 5 #[true, true, true, true, true, true, false, false, false, false, true, false, false] 31 #[nP z17 0, nI 0] hF367 rfl (by kernel_rfl) rfl rfl (by kernel_rfl) rfl (by kernel_rfl) (fun w => by kernel_rfl) (by kernel_rfl) ?_
        obtain ⟨x370, s371, s372, hx373, hm374⟩ := bind3E hm114; clear hm114
        refine (law15_ch.ok hS369 hx373).mono ?_
        rintro _ w375 ⟨rfl, hS377⟩; clear hS369
        refine ⟨⟨_, hS377⟩, ?_⟩
        intro a376 hF378; clear hF367
        have hS379 := hS377.pick1
        clear hS377
        refine any_call 6 #[true, true, true, true, true, true, true, false, false, false, true, false, false] 30 #[nP z18 0, nI x370] hF378 rfl (by kernel_rfl) rfl rfl (by kernel_rfl) rfl (by kernel_rfl) (fun w => by kernel_rfl) (by kernel_rfl) ?_
        obtain ⟨q380, x381, hx382, hm383⟩ := bind2E hm374; clear hm374
        refine (p_Chan hS379 hx382).mono ?_
        rintro _ w384 ⟨rfl, hS386⟩; clear hS379
        refine ⟨⟨_, hS386.pick1⟩, ?_⟩
        intro a385 hF387; clear hF378
        refine any_many 3 [(7, some (.tuple #[.agg #[nI (q380.cap), nI (q380.closed), nI (q380.count), nI (q380.start), nI (q380.buf), nI (q380.th), nI (q380.tt), nI (q380.sh), nI (q380.st)], nI x381])), (8, some (.agg #[nI (q380.cap), nI (q380.closed), nI (q380.count), nI (q380.start), nI (q380.buf), nI (q380.th), nI (q380.tt), nI (q380.sh), nI (q380.st)])), (9, some (nI x381))] [0, 1, 5, 7, 9, 11, 12, 70, 71] #[true, true, true, true, true, true, true, true, true, true, true, false, false] (by rfl) hF387 (by kernel_rfl) (by kernel_rfl) (by exact (And.intro (fun wS hw => by kernel_rfl) (And.intro (fun wS hw => by kernel_rfl) (And.intro (fun wS hw => by kernel_rfl) trivial)))) (fun _ _ _ _ _ h => h) ⟨_, hS386.pick1⟩ (l' := [(71, nI x381), (70, .agg #[nI (q380.cap), nI (q380.closed), nI (q380.count), nI (q380.start), nI (q380.buf), nI (q380.th), nI (q380.tt), nI (q380.sh), nI (q380.st)]), (12, nP ((w115.drew).heap.size) 0), (11, nI x111), (9, nI x94), (7, nI x67), (5, nP z17 0), (0, nI i0), (1, nI i1)]) (by kernel_rfl) ?_
        intro a389 hF388; clear hF387
        refine any_one 11 (by kernel_rfl) ?_
        have hS390 := hS386.pick5
        clear hS386
        refine op_store 11 #[true, true, true, true, true, true, true, true, true, true, true, true, false] (.agg #[nI (q380.cap), nI (q380.closed), nI (q380.count), nI (q380.start), nI (q380.buf), nI (q380.th), nI (q380.tt), nI (q380.sh), nI (q380.st)]) #[nI (q380.cap), nI (q380.closed), nI (q380.count), nI (q380.start), nI (q380.buf), nI (q380.th), nI (q380.tt), nI (q380.sh), nI (q380.st)] hF388 rfl (by kernel_rfl) rfl rfl rfl rfl (by kernel_rfl) hS390 (by kernel_rfl) (by kernel_rfl) (by kernel_rfl) (l' := [(71, nI x381), (70, .agg #[nI (q380.cap), nI (q380.closed), nI (q380.count), nI (q380.start), nI (q380.buf), nI (q380.th), nI (q380.tt), nI (q380.sh), nI (q380.st)]), (12, nP ((w115.drew).heap.size) 0), (11, nI x111), (9, nI x94), (7, nI x67), (5, nP z17 0), (0, nI i0), (1, nI i1)]) (by kernel_rfl) (by kernel_rfl) ?_
        intro w391 a392 hS393 hF394; clear hF388 hS390
        refine ⟨⟨_, hS393.pick2⟩, ?_⟩
        refine any_many 1 [(12, some (nI x381))] [0, 1, 5, 7, 9, 11, 12] #[true, true, true, true, true, true, true, true, true, true, true, true, true] (by rfl) hF394 (by kernel_rfl) (by kernel_rfl) (by exact (And.intro (fun wS hw => by kernel_rfl) trivial)) (fun _ _ _ _ _ h => h) ⟨_, hS393.pick2⟩ (l' := [(12, nP ((w115.drew).heap.size) 0), (11, nI x111), (9, nI x94), (7, nI x67), (5, nP z17 0), (0, nI i0), (1, nI i1)]) (by kernel_rfl) ?_
        intro a396 hF395; clear hF394
        refine any_done (by kernel_rfl) ?_
        exact thenN ⟨((w115.drew).heap.size), s371, s372, q380.cap, q380.closed, q380.count, q380.start, q380.buf, q380.th, q380.tt, q380.sh, q380.st, hF395, hS393, hm383⟩
 · skip
   refine wp_region_lit ?_
   refine ev_call 27 #[] hF40 rfl rfl (by kernel_rfl) rfl (by kernel_rfl) (fun w => by kernel_rfl) ?_
   obtain ⟨y397, hx398, hm399⟩ := bind1E hm12; clear hm12
   refine (law15_awake.ok hS42 hx398).mono ?_
   rintro _ w400 ⟨rfl, hS402⟩ a401 hF403; clear hF40 hS42
   refine ev_runs 2 hF403 (l' := [(22, .bool (!(y397))), (21, .bool (!(y397))), (20, .bool (y397)), (5, nP z17 0), (0, nI i0), (1, nI i1)]) (w' := w400) (by kernel_rfl) ?_
   intro a405 hF404; clear hF403
   cases hc406 : (!(y397)) with
   | true =>
    rw [hc406] at hF404
    have hm407 := ifYes hc406 hm399; clear hm399
    refine ev_runK 3 hF404 [0, 1, 5, 25] (l' := [(25, .bool true), (5, nP z17 0), (0, nI i0), (1, nI i1)]) (w' := w400) (by kernel_rfl) ?_
    intro a409 hF408; clear hF404
    refine wpList_nil ?_
    exact thenN ⟨true, hF408, hS402, hm407⟩
   | false =>
    rw [hc406] at hF404
    have hm410 := ifNot hc406 hm399; clear hm399
    refine ev_runK 3 hF404 [0, 1, 5, 25] (l' := [(25, .bool false), (5, nP z17 0), (0, nI i0), (1, nI i1)]) (w' := w400) (by kernel_rfl) ?_
    intro a412 hF411; clear hF404
    refine wpList_nil ?_
    exact thenN ⟨false, hF411, hS402, hm410⟩

end Go.Proofs.YtgejcjcpchofiaaGreat
/-
  The walk of 'dormouselaw15.SendNone': the call returns true, in a world with at most new blocks.
-/
namespace Go.Proofs.YtgejcjcpchofiaaGreat.sendNone
open Go.RowKit
set_option linter.unusedVariables false

theorem and_small (a : Int) : 0 ≤ iAnd .i64 a 255 ∧ iAnd .i64 a 255 ≤ 255 := by
  unfold iAnd
  have h : ((BitVec.ofInt IntKind.i64.bits a &&& BitVec.ofInt IntKind.i64.bits 255).toNat : Int) ≤ 255 := by
    rw [BitVec.toNat_and]
    have := Nat.and_le_right (n := (BitVec.ofInt IntKind.i64.bits a).toNat) (m := (BitVec.ofInt IntKind.i64.bits 255).toNat)
    have e : (BitVec.ofInt IntKind.i64.bits 255).toNat = 255 := by decide
    omega
  obtain ⟨n, hn⟩ : ∃ n : Nat, (BitVec.ofInt IntKind.i64.bits a &&& BitVec.ofInt IntKind.i64.bits 255).toNat = n := ⟨_, rfl⟩
  rw [hn] at h ⊢
  have e0 : ∀ n < 256, IntKind.i64.wrap ((n : Nat) : Int) = n := by decide +kernel
  have e2 : IntKind.i64.wrap (n : Int) = n := e0 n (by omega)
  rw [e2]; omega
theorem even_at (y : Int) (h0 : 0 ≤ y) (h1 : y ≤ 255) : (IntKind.i64.wrap (2 * (IntKind.i64.wrap (1 + y))) == wrap64 (2 * 0)) = false ∧ pAt (IntKind.i64.wrap (2 * (IntKind.i64.wrap (1 + y)))) = pAt 2 := by
  obtain ⟨n, rfl⟩ : ∃ n : Nat, y = n := ⟨y.toNat, by omega⟩
  have : ∀ n < 256, (IntKind.i64.wrap (2 * (IntKind.i64.wrap (1 + ((n : Nat) : Int)))) == wrap64 (2 * 0)) = false ∧ pAt (IntKind.i64.wrap (2 * (IntKind.i64.wrap (1 + ((n : Nat) : Int))))) = pAt 2 := by decide +kernel
  exact this n (by omega)
theorem try_same (i0 : Int) (k : Nat) (s : HSt) (v : Int) : send_Try.m k s (IntKind.i64.wrap (2 * (IntKind.i64.wrap (1 + (iAnd .i64 (Int.tmod i0 1000) (255 : Int)))))) v = send_Try.m k s 2 v := by
  obtain ⟨h0, h1⟩ := and_small (Int.tmod i0 1000)
  obtain ⟨e1, e2⟩ := even_at _ h0 h1
  have hm : mouth_Of.m k s (IntKind.i64.wrap (2 * (IntKind.i64.wrap (1 + (iAnd .i64 (Int.tmod i0 1000) (255 : Int)))))) = mouth_Of.m k s 2 := by
    unfold mouth_Of.m
    have e3 : ((2 : Int) == wrap64 (2 * 0)) = false := by decide +kernel
    rw [e1, e2, e3]
  unfold send_Try.m
  rw [hm]
theorem pure (i0 i1 : Int) : SendNone.m 100 i0 i1 = some true := by
  unfold SendNone.m SendNone.j1
  simp only [try_same]
  kernel_rfl
theorem walk (a0 : Int) (a1 : Int) (w0 : (Lit.int .i64 a0).wf = true) (w1 : (Lit.int .i64 a1).wf = true) (w : World) :
    Calls Tryz.prog 5 #[.int .i64 a0, .int .i64 a1] w fun e w' => e = .returned (.bool true) ∧ Below w.heap.size w w' := by
  exact (SendNone.ok (St.empty w) (pure _ _)).mono fun e w' ⟨he, h⟩ => ⟨he, h.old⟩

end Go.Proofs.YtgejcjcpchofiaaGreat.sendNone
/-
  'SendNoneSaid' ('dormouselaw15.SendNone'): for every input the law returns true, and each argument reads behind the call as it did before.
  Conditions: none beyond the given row's own.
-/
namespace Go.Proofs.YtgejcjcpchofiaaGreat.sendNone
open Go.ChangeShapes Go.WideShapes Go.ChangeAt Go.RowKit
set_option linter.unusedVariables false      -- a walk need not use every 'w<i>' (that an integer argument fits its kind)

theorem own : ownKnob Tryz.prog.godebug = none := by kernel_rfl

/-! ### THE ROW's STEP: WRITTEN OUT: LEAVE IT -/
set_option maxRecDepth 100000 in
theorem lifted (os : Os) (started : os.Started) (H : Type) (enc : TypeId × Value → H) :
    ReturnsInHanded {} Tryz.checked os 5 .any (Rows.sendNoneSpec.pre6 enc Tryz.prog Tryz.f5 Rows.sendNoneRow.domain false) (Rows.sendNoneSpec.post enc Tryz.prog Tryz.f5 false true false false) := by
  refine returnsInHanded_of_change (C := Tryz.checked) own started (by kernel_rfl) Tryz.func5
    (ChangeSpec.witness6 (enc := enc) (C := Tryz.checked) false ⟨#[], #[.int .i64 0, .int .i64 0], []⟩ 8 (by kernel_rfl) (by kernel_rfl) (by kernel_rfl) (by kernel_rfl)) ?_
  intro W base args ds gs before hval0 hW hcnd _
  have hval : ∀ (j : Nat) t v, Tryz.f5.params[j]? = some t → args[j]? = some v → Value.okWide Tryz.prog W .any base t v := hval0
  have hW' := hW
  obtain ⟨p, q, hA0, hV, rfl, hfz, hnd⟩ := hW
  have hA : DataW.TrodAll enc Tryz.prog W 0 (fun _ => true) true Tryz.f5.params.toList args.toList ds p := hA0
  rw [Tryz.params5] at hA hval
  obtain ⟨v0, vs0, d0, ds0, p0, q0, hargs, rfl, rfl, h0, r0⟩ := trodAll_cons hA
  obtain ⟨v1, vs1, d1, ds1, p1, q1, rfl, rfl, rfl, h1, r1⟩ := trodAll_cons r0
  obtain ⟨rfl, rfl, rfl⟩ := trodAll_nil r1
  obtain rfl : args = #[v0, v1] := by cases args; simp_all
  obtain ⟨rfl, rfl⟩ := trodVars_none hV
  obtain ⟨a0, rfl, rfl, rfl, w0⟩ := open_int Tryz.underlying3 (hval 0 3 v0 rfl rfl) h0
  obtain ⟨a1, rfl, rfl, rfl, w1⟩ := open_int Tryz.underlying3 (hval 1 3 v1 rfl rfl) h1
  clear hA0 hval0
  simp only [List.append_nil] at hW'
  refine (walk a0 a1 w0 w1 W).mono fun e W' ⟨he, hg⟩ => ?_
  subst he
  exact ⟨_, rfl, _, _, _, [], [], [], hW', (trodAll_cons_mk (shut_bool Tryz.underlying4 _) trodAll_mk0), (trodAll_cons_mk (shut_int Tryz.underlying3 w0) (trodAll_cons_mk (shut_int Tryz.underlying3 w1) trodAll_mk0)), rfl, hg.frame _, fun h => by cases h⟩

theorem over : Rows.sendNoneRow.holds Tryz.pinned (OpenSpec.ofChange Rows.sendNoneSpec) :=
  OpenClaim.holds_of_wide 5 Tryz.f5 rfl rfl rfl rfl rfl rfl rfl ⟨rfl, rfl, rfl, rfl, rfl⟩ rfl rfl rfl rfl rfl (by kernel_rfl) Tryz.func5 (by kernel_rfl)
    (of_decide_eq_true (by kernel_rfl)) (by unfold Func.isWrapper; first | (rw [if_pos (by decide +kernel)]; kernel_rfl) | (rw [if_neg (by decide +kernel)]; exact ⟨rfl, rfl⟩))
    (fun os started H enc _ => lifted os started H enc)

/-- ████ THE STATEMENT ████ -/
theorem proved : Rows.SendNoneSaid :=
  over
#print axioms proved
end Go.Proofs.YtgejcjcpchofiaaGreat.sendNone
