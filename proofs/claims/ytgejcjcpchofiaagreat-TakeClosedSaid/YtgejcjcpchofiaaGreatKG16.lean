/- G16 GTakeClosed -/
import Derived.Test.YtgejcjcpchofiaaGreatKG16w
import Derived.Test.YtgejcjcpchofiaaGreatKGSend
import Derived.Test.YtgejcjcpchofiaaGreatKGTake
import Derived.Deep.LoopGhost
import Derived.KernelRfl
/- The walks of G16, printed by gen/walk.py. -/
namespace Go.Proofs.YtgejcjcpchofiaaGreat
open Go.RowKit
set_option linter.unusedVariables false

def law16_awake.j1 (y101 : Bool) : Option (Bool) := some (y101)
def law16_awake.m (k : Nat) : Option (Bool) := bind4 (law16_made.m k [1] 1) fun s7 s8 L9 L10 => bind3 (law16_ch.m k s7 s8 L9 L10 0) fun x50 s51 s52 => bind3 (send_Try.m k s51 (IntKind.i64.wrap ((IntKind.i64.wrap (2 * x50)) + 1)) 6) fun x62 x63 s64 => bind3 (law16_ch.m k s64 s52 L9 L10 0) fun x77 s78 s79 => bind4 (take_Try.m k s78 (IntKind.i64.wrap ((IntKind.i64.wrap (2 * x77)) + 1))) fun x89 x90 x91 s92 => (if (x63 == 1) then (if (x89 == 6) then (if (x90 == (-1)) then (if (x91 == 1) then bind2 (take_Ready.m k s92 0) fun y130 s131 => law16_awake.j1 (!(y130)) else law16_awake.j1 false) else law16_awake.j1 false) else law16_awake.j1 false) else law16_awake.j1 false)
set_option maxRecDepth 100000 in
set_option maxHeartbeats 1500000 in
theorem law16_awake.ok {w0 w : World} {F0 : List Nat} {ps : List Piece} {k : Nat}  {r0 : Bool} (hS : St w0 F0 (ps) w) (hm : law16_awake.m k = some r0) :
    Calls Tryz.prog 43 #[] w fun e w' => e = .returned (.bool r0) ∧ St w0 F0 (ps) w' := by
 refine ev_enterL 58 [] Tryz.func43 rfl rfl (by simp) ?_
 intro a hF
 have hF0 : Fr 58 a [] := hF; clear hF
 unfold law16_awake.m at hm
 refine wp_seq (wp_region_lit ?_)
 refine ev_runK 1 hF0 [] (l' := []) (w' := w) (by kernel_rfl) ?_
 intro a2 hF1; clear hF0
 refine wpList_nil (thenN (wp_seq (wp_region_lit ?_)))
 refine ev_runs 1 hF1 (l' := [(7, .slice (some ⟨w.heap.size, 0, none⟩) 1 1)]) (w' := w.alloc (.cells #[nI 1] 3)) (by kernel_rfl) ?_
 intro a4 hF3; clear hF1
 have hS6 : St w0 F0 (RowP (.slice (some ⟨w.heap.size, 0, none⟩) 1 1) [1] :: ps) (w.alloc (.cells #[nI 1] 3)) := St.lit hS [1] (by unfold maxLen; simp)
 refine ev_call 42 #[.slice (some ⟨w.heap.size, 0, none⟩) 1 1, nI 1] hF3 rfl rfl (by kernel_rfl) rfl (by kernel_rfl) (fun w => by kernel_rfl) ?_
 obtain ⟨s7, s8, L9, L10, hx11, hm12⟩ := bind4E hm; clear hm
 refine (law16_made.ok hS6 hx11).mono ?_
 rintro _ w13 ⟨z17, z18, z19, z20, z21, z22, z23, z24, z25, z26, rfl, hS15⟩ a14 hF16; clear hF3 hS6
 have hS32 : St w0 F0 (RowP (.slice (some ⟨w.heap.size, 0, none⟩) 1 1) [1] :: BlkP z17 77 #[nP z18 0, nP z20 0, z25, z26] :: HeapP z18 z19 s7 :: RHeapP z20 z21 z22 z23 z24 s8 :: RowP (z25) L9 :: RowP (z26) L10 :: ps) w13 := hS15
 clear hS15
 obtain ⟨hl36, p33, c34, rfl, hp35⟩ := St.shape hS32 4 rfl
 obtain ⟨hl40, p37, c38, rfl, hp39⟩ := St.shape hS32 5 rfl
 refine ev_runK 1 hF16 [1] (l' := [(1, nP z17 0)]) (w' := w13) (by kernel_rfl) ?_
 intro a42 hF41; clear hF16
 refine wpList_nil ?_
 have hS43 := hS32.drop
 clear hS32
 refine thenN (wp_seq (wp_seq (wp_region_lit ?_)))
 refine ev_runK 2 hF41 [1, 10] (l' := [(10, .bool false), (1, nP z17 0)]) (w' := w13) (by kernel_rfl) ?_
 intro a45 hF44; clear hF41
 refine wpList_nil (thenN ?_)
 refine ev_condF hF44 rfl rfl ?_
 refine wp_skip ?_
 have hF46 := hF44.keep [1]
 clear hF44
 refine thenN (wp_seq ?_)
 -- draws
 have hS47 := hS43.drew; clear hS43
 refine any_start (fun wS => ∃ qs, St w0 F0 (BlkP z17 77 #[nP z18 0, nP z20 0, .slice p33 L9.length c34, .slice p37 L10.length c38] :: qs) wS) 14 #[false, false, false, false, false, false, false, false, false, false, false, false, false, false] (by kernel_rfl) (by kernel_rfl) (by kernel_rfl) ?_
 refine any_many 5 [(0, some (nP z17 0)), (1, some (nP z17 0)), (2, some (nP z17 0)), (3, some (nP z18 0)), (4, some (nP z17 0))] [1, 3, 11, 15, 16, 17, 18, 19, 20, 21, 22] #[true, true, true, true, true, false, false, false, false, false, false, false, false, false] (by rfl) hF46 (by kernel_rfl) (by kernel_rfl) (by exact ⟨fun wS hw => by kernel_rfl, fun wS hw => by kernel_rfl, fun wS hw => by kernel_rfl, fun wS hw => hw.elim fun qs hw => run_loadV rfl rfl (run_loadS rfl rfl (hw.cell 0 rfl 0 rfl)), fun wS hw => by kernel_rfl, trivial⟩) (fun _ _ _ _ _ h => h) ⟨_, hS47⟩ (l' := [(16, nP z17 0), (15, nP z18 0), (1, nP z17 0)]) (by kernel_rfl) ?_
 intro a49 hF48; clear hF46
 refine any_call 5 #[true, true, true, true, true, true, false, false, false, false, false, false, false, false] 44 #[nP z17 0, nI 0] hF48 rfl (by kernel_rfl) rfl rfl (by kernel_rfl) rfl (by kernel_rfl) (fun w => by kernel_rfl) (by kernel_rfl) ?_
 obtain ⟨x50, s51, s52, hx53, hm54⟩ := bind3E hm12; clear hm12
 refine (law16_ch.ok hS47 hx53).mono ?_
 rintro _ w55 ⟨rfl, hS57⟩; clear hS47
 refine ⟨⟨_, hS57⟩, ?_⟩
 intro a56 hF58; clear hF48
 refine any_many 2 [(6, some (nI (IntKind.i64.wrap (2 * x50)))), (7, some (nI (IntKind.i64.wrap ((IntKind.i64.wrap (2 * x50)) + 1))))] [1, 3, 11, 15, 19, 20, 21, 22] #[true, true, true, true, true, true, true, true, false, false, false, false, false, false] (by rfl) hF58 (by kernel_rfl) (by kernel_rfl) (by exact ⟨fun wS hw => by kernel_rfl, fun wS hw => by kernel_rfl, trivial⟩) (fun _ _ _ _ _ h => h) ⟨_, hS57⟩ (l' := [(19, nI (IntKind.i64.wrap ((IntKind.i64.wrap (2 * x50)) + 1))), (15, nP z18 0), (1, nP z17 0)]) (by kernel_rfl) ?_
 intro a60 hF59; clear hF58
 have hS61 := hS57.pick1
 clear hS57
 refine any_call 8 #[true, true, true, true, true, true, true, true, true, false, false, false, false, false] 28 #[nP z18 0, nI (IntKind.i64.wrap ((IntKind.i64.wrap (2 * x50)) + 1)), nI 6] hF59 rfl (by kernel_rfl) rfl rfl (by kernel_rfl) rfl (by kernel_rfl) (fun w => by kernel_rfl) (by kernel_rfl) ?_
 obtain ⟨x62, x63, s64, hx65, hm66⟩ := bind3E hm54; clear hm54
 refine (send_Try.ok hS61 hx65).mono ?_
 rintro _ w67 ⟨rfl, hS69⟩; clear hS61
 refine ⟨⟨_, hS69.pick1⟩, ?_⟩
 intro a68 hF70; clear hF59
 refine any_many 5 [(9, some (.tuple #[nI x62, nI x63])), (10, some (nI x62)), (11, some (nI x63)), (12, some (nI x62)), (13, some (nI x63))] [1, 3] #[true, true, true, true, true, true, true, true, true, true, true, true, true, true] (by rfl) hF70 (by kernel_rfl) (by kernel_rfl) (by exact ⟨fun wS hw => by kernel_rfl, fun wS hw => by kernel_rfl, fun wS hw => by kernel_rfl, fun wS hw => by kernel_rfl, fun wS hw => by kernel_rfl, trivial⟩) (fun _ _ _ _ _ h => h) ⟨_, hS69.pick1⟩ (l' := [(3, nI x63), (1, nP z17 0)]) (by kernel_rfl) ?_
 intro a72 hF71; clear hF70
 refine any_done (by kernel_rfl) ?_
 refine thenN (wp_seq ?_)
 -- draws
 have hS73 := hS69.pick1
 clear hS69
 have hS74 := hS73.drew; clear hS73
 refine any_start (fun wS => ∃ qs, St w0 F0 (BlkP z17 77 #[nP z18 0, nP z20 0, .slice p33 L9.length c34, .slice p37 L10.length c38] :: qs) wS) 16 #[false, false, false, false, false, false, false, false, false, false, false, false, false, false, false, false] (by kernel_rfl) (by kernel_rfl) (by kernel_rfl) ?_
 refine any_many 5 [(0, some (nP z17 0)), (1, some (nP z17 0)), (2, some (nP z17 0)), (3, some (nP z18 0)), (4, some (nP z17 0))] [1, 3, 4, 5, 6, 23, 27, 28, 29, 30, 31, 32, 33, 34, 35] #[true, true, true, true, true, false, false, false, false, false, false, false, false, false, false, false] (by rfl) hF71 (by kernel_rfl) (by kernel_rfl) (by exact ⟨fun wS hw => by kernel_rfl, fun wS hw => by kernel_rfl, fun wS hw => by kernel_rfl, fun wS hw => hw.elim fun qs hw => run_loadV rfl rfl (run_loadS rfl rfl (hw.cell 0 rfl 0 rfl)), fun wS hw => by kernel_rfl, trivial⟩) (fun _ _ _ _ _ h => h) ⟨_, hS74⟩ (l' := [(28, nP z17 0), (27, nP z18 0), (3, nI x63), (1, nP z17 0)]) (by kernel_rfl) ?_
 intro a76 hF75; clear hF71
 refine any_call 5 #[true, true, true, true, true, true, false, false, false, false, false, false, false, false, false, false] 44 #[nP z17 0, nI 0] hF75 rfl (by kernel_rfl) rfl rfl (by kernel_rfl) rfl (by kernel_rfl) (fun w => by kernel_rfl) (by kernel_rfl) ?_
 obtain ⟨x77, s78, s79, hx80, hm81⟩ := bind3E hm66; clear hm66
 refine (law16_ch.ok hS74 hx80).mono ?_
 rintro _ w82 ⟨rfl, hS84⟩; clear hS74
 refine ⟨⟨_, hS84⟩, ?_⟩
 intro a83 hF85; clear hF75
 refine any_many 2 [(6, some (nI (IntKind.i64.wrap (2 * x77)))), (7, some (nI (IntKind.i64.wrap ((IntKind.i64.wrap (2 * x77)) + 1))))] [1, 3, 4, 5, 6, 23, 27, 31, 32, 33, 34, 35] #[true, true, true, true, true, true, true, true, false, false, false, false, false, false, false, false] (by rfl) hF85 (by kernel_rfl) (by kernel_rfl) (by exact ⟨fun wS hw => by kernel_rfl, fun wS hw => by kernel_rfl, trivial⟩) (fun _ _ _ _ _ h => h) ⟨_, hS84⟩ (l' := [(31, nI (IntKind.i64.wrap ((IntKind.i64.wrap (2 * x77)) + 1))), (27, nP z18 0), (3, nI x63), (1, nP z17 0)]) (by kernel_rfl) ?_
 intro a87 hF86; clear hF85
 have hS88 := hS84.pick1
 clear hS84
 refine any_call 8 #[true, true, true, true, true, true, true, true, true, false, false, false, false, false, false, false] 45 #[nP z18 0, nI (IntKind.i64.wrap ((IntKind.i64.wrap (2 * x77)) + 1))] hF86 rfl (by kernel_rfl) rfl rfl (by kernel_rfl) rfl (by kernel_rfl) (fun w => by kernel_rfl) (by kernel_rfl) ?_
 obtain ⟨x89, x90, x91, s92, hx93, hm94⟩ := bind4E hm81; clear hm81
 refine (take_Try.ok hS88 hx93).mono ?_
 rintro _ w95 ⟨rfl, hS97⟩; clear hS88
 refine ⟨⟨_, hS97.pick1⟩, ?_⟩
 intro a96 hF98; clear hF86
 refine any_many 7 [(9, some (.tuple #[nI x89, nI x90, nI x91])), (10, some (nI x89)), (11, some (nI x90)), (12, some (nI x91)), (13, some (nI x89)), (14, some (nI x90)), (15, some (nI x91))] [1, 3, 4, 5, 6] #[true, true, true, true, true, true, true, true, true, true, true, true, true, true, true, true] (by rfl) hF98 (by kernel_rfl) (by kernel_rfl) (by exact ⟨fun wS hw => by kernel_rfl, fun wS hw => by kernel_rfl, fun wS hw => by kernel_rfl, fun wS hw => by kernel_rfl, fun wS hw => by kernel_rfl, fun wS hw => by kernel_rfl, fun wS hw => by kernel_rfl, trivial⟩) (fun _ _ _ _ _ h => h) ⟨_, hS97.pick1⟩ (l' := [(6, nI x91), (5, nI x90), (4, nI x89), (3, nI x63), (1, nP z17 0)]) (by kernel_rfl) ?_
 intro a100 hF99; clear hF98
 refine any_done (by kernel_rfl) ?_
 refine thenN (wp_seq ?_)
 refine joinQ (fun aI wI => ∃ (y101 : Bool), Fr 58 aI [(0, .bool (y101))] ∧ St w0 F0 (ps) wI ∧ law16_awake.j1 y101 = some r0) ?_ ?_
 rotate_left
 · rintro a103 w104 ⟨y101, hF105, hS106, hm107⟩
   clear hF99 hS97 hm94
   unfold law16_awake.j1 at hm107
   refine thenN ?_
   refine wp_ret ?_
   obtain rfl := Option.some.inj hm107
   refine ev_ret hF105 [0] (.bool (y101)) rfl rfl rfl ?_
   exact ⟨rfl, hS106⟩
 · skip
   refine wp_region_lit ?_
   refine ev_runs 3 hF99 (l' := [(38, .bool (x63 == 1)), (37, .bool (x63 == 1)), (36, nI x63), (6, nI x91), (5, nI x90), (4, nI x89), (3, nI x63), (1, nP z17 0)]) (w' := w95) (by kernel_rfl) ?_
   intro a111 hF110; clear hF99
   cases hc112 : (x63 == 1)
   case true =>
    rw [hc112] at hF110
    have hm113 := ifYes hc112 hm94; clear hm94
    refine ev_runs 4 hF110 (l' := [(42, .bool (x89 == 6)), (41, .bool (x89 == 6)), (40, .bool (x89 == 6)), (39, nI x89), (38, .bool true), (37, .bool true), (36, nI x63), (6, nI x91), (5, nI x90), (4, nI x89), (3, nI x63), (1, nP z17 0)]) (w' := w95) (by kernel_rfl) ?_
    intro a115 hF114; clear hF110
    cases hc116 : (x89 == 6)
    case true =>
     rw [hc116] at hF114
     have hm117 := ifYes hc116 hm113; clear hm113
     refine ev_runs 4 hF114 (l' := [(46, .bool (x90 == (-1))), (45, .bool (x90 == (-1))), (44, .bool (x90 == (-1))), (43, nI x90), (42, .bool true), (41, .bool true), (40, .bool true), (39, nI x89), (38, .bool true), (37, .bool true), (36, nI x63), (6, nI x91), (5, nI x90), (4, nI x89), (3, nI x63), (1, nP z17 0)]) (w' := w95) (by kernel_rfl) ?_
     intro a119 hF118; clear hF114
     cases hc120 : (x90 == (-1))
     case true =>
      rw [hc120] at hF118
      have hm121 := ifYes hc120 hm117; clear hm117
      refine ev_runs 4 hF118 (l' := [(50, .bool (x91 == 1)), (49, .bool (x91 == 1)), (48, .bool (x91 == 1)), (47, nI x91), (46, .bool true), (45, .bool true), (44, .bool true), (43, nI x90), (42, .bool true), (41, .bool true), (40, .bool true), (39, nI x89), (38, .bool true), (37, .bool true), (36, nI x63), (6, nI x91), (5, nI x90), (4, nI x89), (3, nI x63), (1, nP z17 0)]) (w' := w95) (by kernel_rfl) ?_
      intro a123 hF122; clear hF118
      cases hc124 : (x91 == 1)
      case true =>
       rw [hc124] at hF122
       have hm125 := ifYes hc124 hm121; clear hm121
       refine ev_runs 3 hF122 (l' := [(53, nP z17 0), (52, nP z17 0), (51, nP z17 0), (50, .bool true), (49, .bool true), (48, .bool true), (47, nI x91), (46, .bool true), (45, .bool true), (44, .bool true), (43, nI x90), (42, .bool true), (41, .bool true), (40, .bool true), (39, nI x89), (38, .bool true), (37, .bool true), (36, nI x63), (6, nI x91), (5, nI x90), (4, nI x89), (3, nI x63), (1, nP z17 0)]) (w' := w95) (by kernel_rfl) ?_
       intro a127 hF126; clear hF122
       refine ev_one (nP z18 0) w95 hF126 (by kernel_rfl) rfl (by kernel_rfl) (run_loadV rfl rfl (run_loadS rfl rfl (hS97.cell 1 rfl 0 rfl))) (l' := [(54, nP z18 0), (53, nP z17 0), (52, nP z17 0), (51, nP z17 0), (50, .bool true), (49, .bool true), (48, .bool true), (47, nI x91), (46, .bool true), (45, .bool true), (44, .bool true), (43, nI x90), (42, .bool true), (41, .bool true), (40, .bool true), (39, nI x89), (38, .bool true), (37, .bool true), (36, nI x63), (6, nI x91), (5, nI x90), (4, nI x89), (3, nI x63), (1, nP z17 0)]) (by kernel_rfl) ?_
       intro a129 hF128; clear hF126
       refine ev_call 46 #[nP z18 0, nI 0] hF128 rfl rfl (by kernel_rfl) rfl (by kernel_rfl) (fun w => by kernel_rfl) ?_
       obtain ⟨y130, s131, hx132, hm133⟩ := bind2E hm125; clear hm125
       refine (take_Ready.ok hS97 hx132).mono ?_
       rintro _ w134 ⟨rfl, hS136⟩ a135 hF137; clear hF128 hS97
       refine ev_runK 3 hF137 [0] (l' := [(0, .bool (!(y130)))]) (w' := w134) (by kernel_rfl) ?_
       intro a139 hF138; clear hF137
       refine wpList_nil ?_
       have hS140 := hS136.drop.drop.drop.drop.drop
       clear hS136
       exact thenN ⟨!(y130), hF138, hS140, hm133⟩
      rw [hc124] at hF122
      have hm141 := ifNot hc124 hm121; clear hm121
      refine ev_runK 8 hF122 [0] (l' := [(0, .bool false)]) (w' := w95) (by kernel_rfl) ?_
      intro a143 hF142; clear hF122
      refine wpList_nil ?_
      have hS144 := hS97.drop.drop.drop.drop.drop
      clear hS97
      exact thenN ⟨false, hF142, hS144, hm141⟩
     rw [hc120] at hF118
     have hm145 := ifNot hc120 hm117; clear hm117
     refine ev_runK 12 hF118 [0] (l' := [(0, .bool false)]) (w' := w95) (by kernel_rfl) ?_
     intro a147 hF146; clear hF118
     refine wpList_nil ?_
     have hS148 := hS97.drop.drop.drop.drop.drop
     clear hS97
     exact thenN ⟨false, hF146, hS148, hm145⟩
    rw [hc116] at hF114
    have hm149 := ifNot hc116 hm113; clear hm113
    refine ev_runK 16 hF114 [0] (l' := [(0, .bool false)]) (w' := w95) (by kernel_rfl) ?_
    intro a151 hF150; clear hF114
    refine wpList_nil ?_
    have hS152 := hS97.drop.drop.drop.drop.drop
    clear hS97
    exact thenN ⟨false, hF150, hS152, hm149⟩
   rw [hc112] at hF110
   have hm153 := ifNot hc112 hm94; clear hm94
   refine ev_runK 20 hF110 [0] (l' := [(0, .bool false)]) (w' := w95) (by kernel_rfl) ?_
   intro a155 hF154; clear hF110
   refine wpList_nil ?_
   have hS156 := hS97.drop.drop.drop.drop.drop
   clear hS97
   exact thenN ⟨false, hF154, hS156, hm153⟩

end Go.Proofs.YtgejcjcpchofiaaGreat
/- The walks of GTakeClosed, printed by gen/walk.py. -/
namespace Go.Proofs.YtgejcjcpchofiaaGreat
open Go.RowKit
set_option linter.unusedVariables false

def TakeClosed.j10 (x178 : Int) (rec181 : HSt → HSt → Int → Option (Bool)) (s231 : HSt) (s232 : HSt) (y233 : Bool) : Option (Bool) := (if (y233) then some (false) else rec181 s231 s232 (IntKind.i64.wrap (x178 + 1)))
def TakeClosed.j9 (k : Nat) (L9 : List Int) (L10 : List Int) (x178 : Int) (rec181 : HSt → HSt → Int → Option (Bool)) (s197 : HSt) (x207 : Int) (x208 : Int) (x209 : Int) (s210 : HSt) (x223 : Int) : Option (Bool) := (if (x207 != x223) then TakeClosed.j10 x178 rec181 s210 s197 true else (if (x208 != (-1)) then TakeClosed.j10 x178 rec181 s210 s197 true else (if (x209 != 1) then TakeClosed.j10 x178 rec181 s210 s197 true else bind3 (law16_ch.m k s210 s197 L9 L10 0) fun x277 s278 s279 => bind2 (take_Ready.m k s278 (IntKind.i64.wrap ((IntKind.i64.wrap (2 * x277)) + 1))) fun y289 s290 => TakeClosed.j10 x178 rec181 s290 s279 (!(y289)))))
def TakeClosed.j11 (y374 : Bool) : Option (Bool) := some (y374)
def TakeClosed.l8b (K0 : List Int) (i1 : Int) (i2 : Int) (k : Nat) (L9 : List Int) (L10 : List Int) (rec181 : HSt → HSt → Int → Option (Bool)) (s176 : HSt) (s177 : HSt) (x178 : Int) : Option (Bool) := (if (decide (x178 < (IntKind.i64.wrap ((if 3 < (K0.length : Int) then 3 else (K0.length : Int)) + (IntKind.i64.wrap (Int.tmod (IntKind.u64.wrap i1) 4)))))) then bind3 (law16_ch.m k s176 s177 L9 L10 0) fun x195 s196 s197 => bind4 (take_Try.m k s196 (IntKind.i64.wrap ((IntKind.i64.wrap (2 * x195)) + 1))) fun x207 x208 x209 s210 => (if (decide (x178 < (if 3 < (K0.length : Int) then 3 else (K0.length : Int)))) then (if (inR x178 K0.length) then TakeClosed.j9 k L9 L10 x178 rec181 s197 x207 x208 x209 s210 (atI K0 x178) else none) else TakeClosed.j9 k L9 L10 x178 rec181 s197 x207 x208 x209 s210 0) else bind4 (take_Try.m k s176 0) fun x321 x322 x323 s324 => bind3 (law16_gor.m k s324 s177 L9 L10 0) fun x337 s338 s339 => bind4 (take_Try.m k s338 (IntKind.i64.wrap ((IntKind.i64.wrap (2 * x337)) + 1))) fun x349 x350 x351 s352 => bind3 (take_TryN.m k i2) fun x363 x364 x365 => (if (x323 == 0) then (if (x351 == 6) then (if (x364 == (-1)) then (if (x365 == 6) then bind1 (take_ReadyN.m k i2) fun y401 => (if (y401) then bind2 (take_Ready.m k s352 0) fun y416 s417 => TakeClosed.j11 (!(y416)) else TakeClosed.j11 false) else TakeClosed.j11 false) else TakeClosed.j11 false) else TakeClosed.j11 false) else TakeClosed.j11 false))
def TakeClosed.l8 (K0 : List Int) (i1 : Int) (i2 : Int) (k : Nat) (L9 : List Int) (L10 : List Int) : Nat → HSt → HSt → Int → Option (Bool)
  | 0 => fun _ _ _ => none
  | kI + 1 => TakeClosed.l8b K0 i1 i2 k L9 L10 (TakeClosed.l8 K0 i1 i2 k L9 L10 kI)
def TakeClosed.j3 (K0 : List Int) (i1 : Int) (i2 : Int) (k : Nat) (L9 : List Int) (L10 : List Int) (s124 : HSt) (s125 : HSt) (x126 : Int) (x127 : Int) (x128 : Int) (x129 : Int) (x130 : Int) (x131 : Int) (x132 : Int) (x133 : Int) (x134 : Int) : Option (Bool) := bind3 (law16_ch.m k s124 s125 L9 L10 0) fun x154 s155 s156 => bind2 (pPutChan x154 (⟨x126, 1, x128, x129, x130, x131, x132, x133, x134⟩ : Ch) s155) fun x164 s165 => TakeClosed.l8 K0 i1 i2 k L9 L10 k s165 s156 0
def TakeClosed.l2b (K0 : List Int) (i1 : Int) (i2 : Int) (k : Nat) (L9 : List Int) (L10 : List Int) (rec69 : HSt → HSt → Int → Option (Bool)) (s64 : HSt) (s65 : HSt) (x66 : Int) : Option (Bool) := (if (decide (x66 < (if 3 < (K0.length : Int) then 3 else (K0.length : Int)))) then (if (inR x66 K0.length) then bind3 (law16_ch.m k s64 s65 L9 L10 0) fun x86 s87 s88 => bind3 (send_Try.m k s87 (IntKind.i64.wrap ((IntKind.i64.wrap (2 * x86)) + 1)) (atI K0 x66)) fun x98 x99 s100 => (if (x99 != 1) then some (false) else rec69 s100 s88 (IntKind.i64.wrap (x66 + 1))) else none) else bind3 (law16_ch.m k s64 s65 L9 L10 0) fun x450 s451 s452 => bind2 (pChan x450 s451) fun q460 x461 => TakeClosed.j3 K0 i1 i2 k L9 L10 s451 s452 q460.cap q460.closed q460.count q460.start q460.buf q460.th q460.tt q460.sh q460.st)
def TakeClosed.l2 (K0 : List Int) (i1 : Int) (i2 : Int) (k : Nat) (L9 : List Int) (L10 : List Int) : Nat → HSt → HSt → Int → Option (Bool)
  | 0 => fun _ _ _ => none
  | kI + 1 => TakeClosed.l2b K0 i1 i2 k L9 L10 (TakeClosed.l2 K0 i1 i2 k L9 L10 kI)
def TakeClosed.j1 (K0 : List Int) (i1 : Int) (i2 : Int) (k : Nat) (s7 : HSt) (s8 : HSt) (L9 : List Int) (L10 : List Int) (y44 : Bool) : Option (Bool) := (if (y44) then some (false) else TakeClosed.l2 K0 i1 i2 k L9 L10 k s7 s8 0)
def TakeClosed.m (k : Nat) (K0 : List Int) (i1 : Int) (i2 : Int) : Option (Bool) := bind4 (law16_made.m k [3] 1) fun s7 s8 L9 L10 => bind1 (law16_awake.m k ) fun y531 => (if (!(y531)) then TakeClosed.j1 K0 i1 i2 k s7 s8 L9 L10 true else TakeClosed.j1 K0 i1 i2 k s7 s8 L9 L10 false)
set_option maxRecDepth 100000 in
set_option maxHeartbeats 40000000 in
theorem TakeClosed.ok {w0 w : World} {ps : List Piece} {k : Nat} {pa0 : Option Addr} {ca0 : Nat} {K0 : List Int} (hA0 : ArgInts w0 (.slice pa0 K0.length ca0) K0) {i1 : Int} {i2 : Int} {r0 : Bool} (hS : St w0 [] (ps) w) (hm : TakeClosed.m k K0 i1 i2 = some r0) :
    Calls Tryz.prog 10 #[.slice pa0 K0.length ca0, nI i1, nI i2] w fun e w' => e = .returned (.bool r0) ∧ St w0 [] (ps) w' := by
 refine ev_enterL 188 [.slice pa0 K0.length ca0, nI i1, nI i2] Tryz.func10 rfl rfl (by simp) ?_
 intro a hF
 have hF0 : Fr 188 a [(0, .slice pa0 K0.length ca0), (1, nI i1), (2, nI i2)] := hF; clear hF
 unfold TakeClosed.m at hm
 refine wp_seq (wp_region_lit ?_)
 refine ev_runK 1 hF0 [0, 1, 2] (l' := [(0, .slice pa0 K0.length ca0), (1, nI i1), (2, nI i2)]) (w' := w) (by kernel_rfl) ?_
 intro a2 hF1; clear hF0
 refine wpList_nil (thenN (wp_seq (wp_region_lit ?_)))
 refine ev_runs 1 hF1 (l' := [(28, .slice (some ⟨w.heap.size, 0, none⟩) 1 1), (0, .slice pa0 K0.length ca0), (1, nI i1), (2, nI i2)]) (w' := w.alloc (.cells #[nI 3] 3)) (by kernel_rfl) ?_
 intro a4 hF3; clear hF1
 have hS6 : St w0 [] (RowP (.slice (some ⟨w.heap.size, 0, none⟩) 1 1) [3] :: ps) (w.alloc (.cells #[nI 3] 3)) := St.lit hS [3] (by unfold maxLen; simp)
 refine ev_call 42 #[.slice (some ⟨w.heap.size, 0, none⟩) 1 1, nI 1] hF3 rfl rfl (by kernel_rfl) rfl (by kernel_rfl) (fun w => by kernel_rfl) ?_
 obtain ⟨s7, s8, L9, L10, hx11, hm12⟩ := bind4E hm; clear hm
 refine (law16_made.ok hS6 hx11).mono ?_
 rintro _ w13 ⟨z17, z18, z19, z20, z21, z22, z23, z24, z25, z26, rfl, hS15⟩ a14 hF16; clear hF3 hS6
 have hS32 : St w0 [] (RowP (.slice (some ⟨w.heap.size, 0, none⟩) 1 1) [3] :: BlkP z17 77 #[nP z18 0, nP z20 0, z25, z26] :: HeapP z18 z19 s7 :: RHeapP z20 z21 z22 z23 z24 s8 :: RowP (z25) L9 :: RowP (z26) L10 :: ps) w13 := hS15
 clear hS15
 obtain ⟨hl36, p33, c34, rfl, hp35⟩ := St.shape hS32 4 rfl
 obtain ⟨hl40, p37, c38, rfl, hp39⟩ := St.shape hS32 5 rfl
 refine ev_runK 1 hF16 [0, 1, 2, 7] (l' := [(7, nP z17 0), (0, .slice pa0 K0.length ca0), (1, nI i1), (2, nI i2)]) (w' := w13) (by kernel_rfl) ?_
 intro a42 hF41; clear hF16
 refine wpList_nil ?_
 have hS43 := hS32.drop
 clear hS32
 refine thenN (wp_seq (wp_seq ?_))
 refine joinQ (fun aI wI => ∃ (y44 : Bool), Fr 188 aI [(35, .bool (y44)), (7, nP z17 0), (0, .slice pa0 K0.length ca0), (1, nI i1), (2, nI i2)] ∧ St w0 [] (BlkP z17 77 #[nP z18 0, nP z20 0, .slice p33 L9.length c34, .slice p37 L10.length c38] :: HeapP z18 z19 s7 :: RHeapP z20 z21 z22 z23 z24 s8 :: RowP (.slice p33 L9.length c34) L9 :: RowP (.slice p37 L10.length c38) L10 :: ps) wI ∧ TakeClosed.j1 K0 i1 i2 k s7 s8 L9 L10 y44 = some r0) ?_ ?_
 rotate_left
 · rintro a46 w47 ⟨y44, hF48, hS49, hm50⟩
   clear hF41 hS43 hm12
   unfold TakeClosed.j1 at hm50
   refine thenN ?_
   cases hc52 : (y44)
   case true =>
    rw [hc52] at hF48
    have hm53 := ifYes hc52 hm50; clear hm50
    refine ev_condT hF48 rfl rfl ?_
    refine wp_seq (wp_region_lit ?_)
    refine ev_runK 1 hF48 [6] (l' := [(6, .bool false)]) (w' := w47) (by kernel_rfl) ?_
    intro a55 hF54; clear hF48
    refine wpList_nil ?_
    have hS56 := hS49.drop.drop.drop.drop.drop
    clear hS49
    refine thenN ?_
    refine wp_ret ?_
    refine thenR ?_
    obtain rfl := Option.some.inj hm53
    refine ev_ret hF54 [6] (.bool false) rfl rfl rfl ?_
    exact ⟨rfl, hS56⟩
   rw [hc52] at hF48
   have hm58 := ifNot hc52 hm50; clear hm50
   refine ev_condF hF48 rfl rfl ?_
   refine wp_skip ?_
   have hF59 := hF48.keep [0, 1, 2, 7]
   clear hF48
   refine thenN (wp_seq (wp_region_lit ?_))
   refine ev_runK 4 hF59 [0, 1, 2, 7, 8] (l' := [(8, nI (if 3 < (K0.length : Int) then 3 else (K0.length : Int))), (7, nP z17 0), (0, .slice pa0 K0.length ca0), (1, nI i1), (2, nI i2)]) (w' := w47) (by kernel_rfl) ?_
   intro a61 hF60; clear hF59
   refine wpList_nil (thenN (wp_seq (wp_seq (wp_region_lit ?_))))
   refine ev_runs 1 hF60 (l' := [(9, nI 0), (8, nI (if 3 < (K0.length : Int) then 3 else (K0.length : Int))), (7, nP z17 0), (0, .slice pa0 K0.length ca0), (1, nI i1), (2, nI i2)]) (w' := w47) (by kernel_rfl) ?_
   intro a63 hF62; clear hF60
   refine wpList_nil (thenN ?_)
   refine wp_block ?_
   refine wp_loop_ghost (fun kI aI wI => ∃ (s64 : HSt) (s65 : HSt) (x66 : Int), Fr 188 aI [(9, nI x66), (8, nI (if 3 < (K0.length : Int) then 3 else (K0.length : Int))), (7, nP z17 0), (0, .slice pa0 K0.length ca0), (1, nI i1), (2, nI i2)] ∧ St w0 [] (BlkP z17 77 #[nP z18 0, nP z20 0, .slice p33 L9.length c34, .slice p37 L10.length c38] :: HeapP z18 z19 s64 :: RHeapP z20 z21 z22 z23 z24 s65 :: RowP (.slice p33 L9.length c34) L9 :: RowP (.slice p37 L10.length c38) L10 :: ps) wI ∧ TakeClosed.l2 K0 i1 i2 k L9 L10 kI s64 s65 x66 = some r0) k ⟨s7, s8, 0, hF62, hS49, hm58⟩ ?_
   rintro k67 a68 w69 ⟨s64, s65, x66, hF70, hS71, hm72⟩
   clear hF62 hS49 hm58
   rcases k67 with _ | k67
   · cases hm72
   have hm73 : TakeClosed.l2b K0 i1 i2 k L9 L10 (TakeClosed.l2 K0 i1 i2 k L9 L10 k67) s64 s65 x66 = some r0 := hm72
   clear hm72
   unfold TakeClosed.l2b at hm73
   refine wp_seq (wp_seq (wp_region_lit ?_))
   refine ev_runK 3 hF70 [0, 1, 2, 7, 8, 9, 41] (l' := [(41, .bool (decide (x66 < (if 3 < (K0.length : Int) then 3 else (K0.length : Int))))), (9, nI x66), (8, nI (if 3 < (K0.length : Int) then 3 else (K0.length : Int))), (7, nP z17 0), (0, .slice pa0 K0.length ca0), (1, nI i1), (2, nI i2)]) (w' := w69) (by kernel_rfl) ?_
   intro a75 hF74; clear hF70
   refine wpList_nil (thenN ?_)
   cases hc76 : (decide (x66 < (if 3 < (K0.length : Int) then 3 else (K0.length : Int))))
   case true =>
    rw [hc76] at hF74
    have hm77 := ifYes hc76 hm73; clear hm73
    refine ev_condT hF74 rfl rfl ?_
    refine wp_skip ?_
    have hF78 := hF74.keep [0, 1, 2, 7, 8, 9]
    clear hF74
    refine thenN (wp_seq ?_)
    refine wp_block ?_
    refine wp_seq ?_
    -- draws
    obtain ⟨hc79, hm80⟩ := ifTE hm77; clear hm77
    obtain ⟨b81, o82, rfl⟩ := argK hA0 hc79
    have hS83 := hS71.drew; clear hS71
    refine any_start (fun wS => ∃ qs, St w0 [] (BlkP z17 77 #[nP z18 0, nP z20 0, .slice p33 L9.length c34, .slice p37 L10.length c38] :: qs) wS) 18 #[false, false, false, false, false, false, false, false, false, false, false, false, false, false, false, false, false, false] (by kernel_rfl) (by kernel_rfl) (by kernel_rfl) ?_
    refine any_many 9 [(0, some (nP z17 0)), (1, some (nP z17 0)), (2, some (nP z17 0)), (3, some (nP z18 0)), (4, some (nP z17 0)), (8, some (.slice (some ⟨b81, o82, none⟩) K0.length ca0)), (9, some (nI x66)), (10, some (nP b81 ((o82 + x66.toNat)))), (11, some (nI (atI K0 x66)))] [0, 1, 2, 7, 8, 9, 11, 44, 48, 49, 50, 51, 52, 56, 57, 58, 59] #[true, true, true, true, true, false, false, false, true, true, true, true, false, false, false, false, false, false] (by rfl) hF78 (by kernel_rfl) (by kernel_rfl) (by exact ⟨fun wS hw => by kernel_rfl, fun wS hw => by kernel_rfl, fun wS hw => by kernel_rfl, fun wS hw => hw.elim fun qs hw => run_loadV rfl rfl (run_loadS rfl rfl (hw.cell 0 rfl 0 rfl)), fun wS hw => by kernel_rfl, fun wS hw => by kernel_rfl, fun wS hw => by kernel_rfl, fun wS hw => run_idxO rfl rfl rfl rfl rfl (inR_spec hc79).1 (inR_spec hc79).2 _, fun wS hw => run_load1 rfl rfl rfl (hw.elim fun qs hw => argAt hA0 hw hc79), trivial⟩) (fun _ _ _ _ _ h => h) ⟨_, hS83⟩ (l' := [(56, nI (atI K0 x66)), (49, nP z17 0), (48, nP z18 0), (9, nI x66), (8, nI (if 3 < (K0.length : Int) then 3 else (K0.length : Int))), (7, nP z17 0), (0, .slice (some ⟨b81, o82, none⟩) K0.length ca0), (1, nI i1), (2, nI i2)]) (by kernel_rfl) ?_
    intro a85 hF84; clear hF78
    refine any_call 5 #[true, true, true, true, true, true, false, false, true, true, true, true, false, false, false, false, false, false] 44 #[nP z17 0, nI 0] hF84 rfl (by kernel_rfl) rfl rfl (by kernel_rfl) rfl (by kernel_rfl) (fun w => by kernel_rfl) (by kernel_rfl) ?_
    obtain ⟨x86, s87, s88, hx89, hm90⟩ := bind3E hm80; clear hm80
    refine (law16_ch.ok hS83 hx89).mono ?_
    rintro _ w91 ⟨rfl, hS93⟩; clear hS83
    refine ⟨⟨_, hS93⟩, ?_⟩
    intro a92 hF94; clear hF84
    refine any_many 2 [(6, some (nI (IntKind.i64.wrap (2 * x86)))), (7, some (nI (IntKind.i64.wrap ((IntKind.i64.wrap (2 * x86)) + 1))))] [0, 1, 2, 7, 8, 9, 11, 44, 48, 52, 56, 57, 58, 59] #[true, true, true, true, true, true, true, true, true, true, true, true, false, false, false, false, false, false] (by rfl) hF94 (by kernel_rfl) (by kernel_rfl) (by exact ⟨fun wS hw => by kernel_rfl, fun wS hw => by kernel_rfl, trivial⟩) (fun _ _ _ _ _ h => h) ⟨_, hS93⟩ (l' := [(52, nI (IntKind.i64.wrap ((IntKind.i64.wrap (2 * x86)) + 1))), (56, nI (atI K0 x66)), (48, nP z18 0), (9, nI x66), (8, nI (if 3 < (K0.length : Int) then 3 else (K0.length : Int))), (7, nP z17 0), (0, .slice (some ⟨b81, o82, none⟩) K0.length ca0), (1, nI i1), (2, nI i2)]) (by kernel_rfl) ?_
    intro a96 hF95; clear hF94
    have hS97 := hS93.pick1
    clear hS93
    refine any_call 12 #[true, true, true, true, true, true, true, true, true, true, true, true, true, false, false, false, false, false] 28 #[nP z18 0, nI (IntKind.i64.wrap ((IntKind.i64.wrap (2 * x86)) + 1)), nI (atI K0 x66)] hF95 rfl (by kernel_rfl) rfl rfl (by kernel_rfl) rfl (by kernel_rfl) (fun w => by kernel_rfl) (by kernel_rfl) ?_
    obtain ⟨x98, x99, s100, hx101, hm102⟩ := bind3E hm90; clear hm90
    refine (send_Try.ok hS97 hx101).mono ?_
    rintro _ w103 ⟨rfl, hS105⟩; clear hS97
    refine ⟨⟨_, hS105.pick1⟩, ?_⟩
    intro a104 hF106; clear hF95
    refine any_many 5 [(13, some (.tuple #[nI x98, nI x99])), (14, some (nI x98)), (15, some (nI x99)), (16, some (nI x98)), (17, some (nI x99))] [0, 1, 2, 7, 8, 9, 11] #[true, true, true, true, true, true, true, true, true, true, true, true, true, true, true, true, true, true] (by rfl) hF106 (by kernel_rfl) (by kernel_rfl) (by exact ⟨fun wS hw => by kernel_rfl, fun wS hw => by kernel_rfl, fun wS hw => by kernel_rfl, fun wS hw => by kernel_rfl, fun wS hw => by kernel_rfl, trivial⟩) (fun _ _ _ _ _ h => h) ⟨_, hS105.pick1⟩ (l' := [(11, nI x99), (9, nI x66), (8, nI (if 3 < (K0.length : Int) then 3 else (K0.length : Int))), (7, nP z17 0), (0, .slice (some ⟨b81, o82, none⟩) K0.length ca0), (1, nI i1), (2, nI i2)]) (by kernel_rfl) ?_
    intro a108 hF107; clear hF106
    refine any_done (by kernel_rfl) ?_
    refine thenN (wp_seq (wp_region_lit ?_))
    refine ev_runK 2 hF107 [0, 1, 2, 7, 8, 9, 61] (l' := [(61, .bool (x99 != 1)), (9, nI x66), (8, nI (if 3 < (K0.length : Int) then 3 else (K0.length : Int))), (7, nP z17 0), (0, .slice (some ⟨b81, o82, none⟩) K0.length ca0), (1, nI i1), (2, nI i2)]) (w' := w103) (by kernel_rfl) ?_
    intro a110 hF109; clear hF107
    refine wpList_nil (thenN ?_)
    cases hc111 : (x99 != 1)
    case true =>
     rw [hc111] at hF109
     have hm112 := ifYes hc111 hm102; clear hm102
     refine ev_condT hF109 rfl rfl ?_
     refine wp_seq (wp_region_lit ?_)
     refine ev_runK 1 hF109 [6] (l' := [(6, .bool false)]) (w' := w103) (by kernel_rfl) ?_
     intro a114 hF113; clear hF109
     refine wpList_nil ?_
     have hS115 := hS105.drop.drop.drop.drop.drop
     clear hS105
     refine thenN ?_
     refine wp_ret ?_
     refine blockR ?_
     refine thenR (thenR ?_)
     refine blockR ?_
     refine thenR ?_
     obtain rfl := Option.some.inj hm112
     refine ev_ret hF113 [6] (.bool false) rfl rfl rfl ?_
     exact ⟨rfl, hS115⟩
    rw [hc111] at hF109
    have hm117 := ifNot hc111 hm102; clear hm102
    refine ev_condF hF109 rfl rfl ?_
    refine wp_skip ?_
    have hF118 := hF109.keep [0, 1, 2, 7, 8, 9]
    clear hF109
    refine blockN ?_
    refine thenN (wp_region_lit ?_)
    refine ev_runK 3 hF118 [0, 1, 2, 7, 8, 9] (l' := [(9, nI (IntKind.i64.wrap (x66 + 1))), (8, nI (if 3 < (K0.length : Int) then 3 else (K0.length : Int))), (7, nP z17 0), (0, .slice (some ⟨b81, o82, none⟩) K0.length ca0), (1, nI i1), (2, nI i2)]) (w' := w103) (by kernel_rfl) ?_
    intro a120 hF119; clear hF118
    refine wpList_nil ?_
    have hS121 := hS105.pick4.pick4.pick4.pick3.pick4
    clear hS105
    exact thenN ⟨k67, Nat.lt_succ_self _, s100, s88, IntKind.i64.wrap (x66 + 1), hF119, hS121, hm117⟩
   rw [hc76] at hF74
   have hm122 := ifNot hc76 hm73; clear hm73
   refine ev_condF hF74 rfl rfl ?_
   refine wp_exit ?_
   refine thenE ?_
   refine thenE ?_
   refine blockE ?_
   refine thenN (wp_seq ?_)
   refine joinQ (fun aI wI => ∃ (g123 : Nat) (s124 : HSt) (s125 : HSt) (x126 : Int) (x127 : Int) (x128 : Int) (x129 : Int) (x130 : Int) (x131 : Int) (x132 : Int) (x133 : Int) (x134 : Int), Fr 188 aI [(12, nP g123 0), (8, nI (if 3 < (K0.length : Int) then 3 else (K0.length : Int))), (7, nP z17 0), (0, .slice pa0 K0.length ca0), (1, nI i1), (2, nI i2)] ∧ St w0 [] (BlkP g123 57 #[nI x126, nI x127, nI x128, nI x129, nI x130, nI x131, nI x132, nI x133, nI x134] :: HeapP z18 z19 s124 :: BlkP z17 77 #[nP z18 0, nP z20 0, .slice p33 L9.length c34, .slice p37 L10.length c38] :: RHeapP z20 z21 z22 z23 z24 s125 :: RowP (.slice p33 L9.length c34) L9 :: RowP (.slice p37 L10.length c38) L10 :: ps) wI ∧ TakeClosed.j3 K0 i1 i2 k L9 L10 s124 s125 x126 x127 x128 x129 x130 x131 x132 x133 x134 = some r0) ?_ ?_
   rotate_left
   · rintro a136 w137 ⟨g123, s124, s125, x126, x127, x128, x129, x130, x131, x132, x133, x134, hF138, hS139, hm140⟩
     clear hF74 hS71 hm122
     unfold TakeClosed.j3 at hm140
     refine thenN (wp_seq (wp_region_lit ?_))
     refine ev_runs 1 hF138 (l' := [(72, nP g123 1), (12, nP g123 0), (8, nI (if 3 < (K0.length : Int) then 3 else (K0.length : Int))), (7, nP z17 0), (0, .slice pa0 K0.length ca0), (1, nI i1), (2, nI i2)]) (w' := w137) (by kernel_rfl) ?_
     intro a143 hF142; clear hF138
     refine ev_store (nI 1) #[nI x126, nI 1, nI x128, nI x129, nI x130, nI x131, nI x132, nI x133, nI x134] hF142 (by kernel_rfl) rfl rfl rfl rfl (by kernel_rfl) hS139 (by kernel_rfl) (by kernel_rfl) (by kernel_rfl) (l' := [(72, nP g123 1), (12, nP g123 0), (8, nI (if 3 < (K0.length : Int) then 3 else (K0.length : Int))), (7, nP z17 0), (0, .slice pa0 K0.length ca0), (1, nI i1), (2, nI i2)]) (by kernel_rfl) ?_
     intro w144 a145 hS146 hF147; clear hF142 hS139
     refine wpList_nil ?_
     have hF148 := hF147.keep [0, 1, 2, 7, 8, 12]
     clear hF147
     refine thenN (wp_seq ?_)
     -- draws
     have hS149 := hS146.pick2
     clear hS146
     have hS150 := hS149.drew; clear hS149
     refine any_start (fun wS => ∃ qs, St w0 [] (BlkP z17 77 #[nP z18 0, nP z20 0, .slice p33 L9.length c34, .slice p37 L10.length c38] :: BlkP g123 57 #[nI x126, nI 1, nI x128, nI x129, nI x130, nI x131, nI x132, nI x133, nI x134] :: qs) wS) 8 #[false, false, false, false, false, false, false, false] (by kernel_rfl) (by kernel_rfl) (by kernel_rfl) ?_
     refine any_many 6 [(0, some (nP z17 0)), (1, some (nP z17 0)), (2, some (nP z17 0)), (3, some (nP z18 0)), (4, some (nP z17 0)), (6, some (.agg #[nI x126, nI 1, nI x128, nI x129, nI x130, nI x131, nI x132, nI x133, nI x134]))] [0, 1, 2, 7, 8, 76, 77, 78, 79] #[true, true, true, true, true, false, true, false] (by rfl) hF148 (by kernel_rfl) (by kernel_rfl) (by exact ⟨fun wS hw => by kernel_rfl, fun wS hw => by kernel_rfl, fun wS hw => by kernel_rfl, fun wS hw => hw.elim fun qs hw => run_loadV rfl rfl (run_loadS rfl rfl (hw.cell 0 rfl 0 rfl)), fun wS hw => by kernel_rfl, fun wS hw => hw.elim fun qs hw => run_loadV rfl rfl (run_loadA (cs := [nI x126, nI 1, nI x128, nI x129, nI x130, nI x131, nI x132, nI x133, nI x134]) rfl rfl (by kernel_rfl) (blk_cells hw 1 rfl rfl)), trivial⟩) (fun _ _ _ _ _ h => h) ⟨_, hS150⟩ (l' := [(79, .agg #[nI x126, nI 1, nI x128, nI x129, nI x130, nI x131, nI x132, nI x133, nI x134]), (77, nP z17 0), (76, nP z18 0), (8, nI (if 3 < (K0.length : Int) then 3 else (K0.length : Int))), (7, nP z17 0), (0, .slice pa0 K0.length ca0), (1, nI i1), (2, nI i2)]) (by kernel_rfl) ?_
     intro a152 hF151; clear hF148
     have hS153 := hS150.pick5.pick5.pick5.pick5.pick4
     clear hS150
     refine any_call 5 #[true, true, true, true, true, true, true, false] 44 #[nP z17 0, nI 0] hF151 rfl (by kernel_rfl) rfl rfl (by kernel_rfl) rfl (by kernel_rfl) (fun w => by kernel_rfl) (by kernel_rfl) ?_
     obtain ⟨x154, s155, s156, hx157, hm158⟩ := bind3E hm140; clear hm140
     refine (law16_ch.ok hS153 hx157).mono ?_
     rintro _ w159 ⟨rfl, hS161⟩; clear hS153
     refine ⟨⟨_, hS161.pick5.pick1⟩, ?_⟩
     intro a160 hF162; clear hF151
     have hS163 := hS161.pick1
     clear hS161
     refine any_call 7 #[true, true, true, true, true, true, true, true] 32 #[nP z18 0, nI x154, .agg #[nI x126, nI 1, nI x128, nI x129, nI x130, nI x131, nI x132, nI x133, nI x134]] hF162 rfl (by kernel_rfl) rfl rfl (by kernel_rfl) rfl (by kernel_rfl) (fun w => by kernel_rfl) (by kernel_rfl) ?_
     obtain ⟨x164, s165, hx166, hm167⟩ := bind2E hm158; clear hm158
     refine (p_PutChan hS163 hx166).mono ?_
     rintro _ w168 ⟨rfl, hS170⟩; clear hS163
     refine ⟨⟨_, hS170.pick5.pick2⟩, ?_⟩
     intro a169 hF171; clear hF162
     refine any_done (by kernel_rfl) ?_
     have hF172 := hF171.keep [0, 1, 2, 7, 8]
     clear hF171
     have hS173 := hS170.pick5.drop
     clear hS170
     refine thenN (wp_seq (wp_seq (wp_region_lit ?_)))
     refine ev_runs 1 hF172 (l' := [(14, nI 0), (8, nI (if 3 < (K0.length : Int) then 3 else (K0.length : Int))), (7, nP z17 0), (0, .slice pa0 K0.length ca0), (1, nI i1), (2, nI i2)]) (w' := w168) (by kernel_rfl) ?_
     intro a175 hF174; clear hF172
     refine wpList_nil (thenN ?_)
     refine wp_block ?_
     refine wp_loop_ghost (fun kI aI wI => ∃ (s176 : HSt) (s177 : HSt) (x178 : Int), Fr 188 aI [(14, nI x178), (8, nI (if 3 < (K0.length : Int) then 3 else (K0.length : Int))), (7, nP z17 0), (0, .slice pa0 K0.length ca0), (1, nI i1), (2, nI i2)] ∧ St w0 [] (HeapP z18 z19 s176 :: BlkP z17 77 #[nP z18 0, nP z20 0, .slice p33 L9.length c34, .slice p37 L10.length c38] :: RHeapP z20 z21 z22 z23 z24 s177 :: RowP (.slice p33 L9.length c34) L9 :: RowP (.slice p37 L10.length c38) L10 :: ps) wI ∧ TakeClosed.l8 K0 i1 i2 k L9 L10 kI s176 s177 x178 = some r0) k ⟨s165, s156, 0, hF174, hS173, hm167⟩ ?_
     rintro k179 a180 w181 ⟨s176, s177, x178, hF182, hS183, hm184⟩
     clear hF174 hS173 hm167
     rcases k179 with _ | k179
     · cases hm184
     have hm185 : TakeClosed.l8b K0 i1 i2 k L9 L10 (TakeClosed.l8 K0 i1 i2 k L9 L10 k179) s176 s177 x178 = some r0 := hm184
     clear hm184
     unfold TakeClosed.l8b at hm185
     refine wp_seq (wp_seq (wp_region_lit ?_))
     refine ev_runK 8 hF182 [0, 1, 2, 7, 8, 14, 88] (l' := [(88, .bool (decide (x178 < (IntKind.i64.wrap ((if 3 < (K0.length : Int) then 3 else (K0.length : Int)) + (IntKind.i64.wrap (Int.tmod (IntKind.u64.wrap i1) 4))))))), (14, nI x178), (8, nI (if 3 < (K0.length : Int) then 3 else (K0.length : Int))), (7, nP z17 0), (0, .slice pa0 K0.length ca0), (1, nI i1), (2, nI i2)]) (w' := w181) (by kernel_rfl) ?_
     intro a187 hF186; clear hF182
     refine wpList_nil (thenN ?_)
     cases hc188 : (decide (x178 < (IntKind.i64.wrap ((if 3 < (K0.length : Int) then 3 else (K0.length : Int)) + (IntKind.i64.wrap (Int.tmod (IntKind.u64.wrap i1) 4))))))
     case true =>
      rw [hc188] at hF186
      have hm189 := ifYes hc188 hm185; clear hm185
      refine ev_condT hF186 rfl rfl ?_
      refine wp_skip ?_
      have hF190 := hF186.keep [0, 1, 2, 7, 8, 14]
      clear hF186
      refine thenN (wp_seq ?_)
      refine wp_block ?_
      refine wp_seq ?_
      -- draws
      have hS191 := hS183.pick1
      clear hS183
      have hS192 := hS191.drew; clear hS191
      refine any_start (fun wS => ∃ qs, St w0 [] (BlkP z17 77 #[nP z18 0, nP z20 0, .slice p33 L9.length c34, .slice p37 L10.length c38] :: qs) wS) 16 #[false, false, false, false, false, false, false, false, false, false, false, false, false, false, false, false] (by kernel_rfl) (by kernel_rfl) (by kernel_rfl) ?_
      refine any_many 5 [(0, some (nP z17 0)), (1, some (nP z17 0)), (2, some (nP z17 0)), (3, some (nP z18 0)), (4, some (nP z17 0))] [0, 1, 2, 7, 8, 14, 15, 16, 17, 91, 95, 96, 97, 98, 99, 100, 101, 102, 103] #[true, true, true, true, true, false, false, false, false, false, false, false, false, false, false, false] (by rfl) hF190 (by kernel_rfl) (by kernel_rfl) (by exact ⟨fun wS hw => by kernel_rfl, fun wS hw => by kernel_rfl, fun wS hw => by kernel_rfl, fun wS hw => hw.elim fun qs hw => run_loadV rfl rfl (run_loadS rfl rfl (hw.cell 0 rfl 0 rfl)), fun wS hw => by kernel_rfl, trivial⟩) (fun _ _ _ _ _ h => h) ⟨_, hS192⟩ (l' := [(96, nP z17 0), (95, nP z18 0), (14, nI x178), (8, nI (if 3 < (K0.length : Int) then 3 else (K0.length : Int))), (7, nP z17 0), (0, .slice pa0 K0.length ca0), (1, nI i1), (2, nI i2)]) (by kernel_rfl) ?_
      intro a194 hF193; clear hF190
      refine any_call 5 #[true, true, true, true, true, true, false, false, false, false, false, false, false, false, false, false] 44 #[nP z17 0, nI 0] hF193 rfl (by kernel_rfl) rfl rfl (by kernel_rfl) rfl (by kernel_rfl) (fun w => by kernel_rfl) (by kernel_rfl) ?_
      obtain ⟨x195, s196, s197, hx198, hm199⟩ := bind3E hm189; clear hm189
      refine (law16_ch.ok hS192 hx198).mono ?_
      rintro _ w200 ⟨rfl, hS202⟩; clear hS192
      refine ⟨⟨_, hS202⟩, ?_⟩
      intro a201 hF203; clear hF193
      refine any_many 2 [(6, some (nI (IntKind.i64.wrap (2 * x195)))), (7, some (nI (IntKind.i64.wrap ((IntKind.i64.wrap (2 * x195)) + 1))))] [0, 1, 2, 7, 8, 14, 15, 16, 17, 91, 95, 99, 100, 101, 102, 103] #[true, true, true, true, true, true, true, true, false, false, false, false, false, false, false, false] (by rfl) hF203 (by kernel_rfl) (by kernel_rfl) (by exact ⟨fun wS hw => by kernel_rfl, fun wS hw => by kernel_rfl, trivial⟩) (fun _ _ _ _ _ h => h) ⟨_, hS202⟩ (l' := [(99, nI (IntKind.i64.wrap ((IntKind.i64.wrap (2 * x195)) + 1))), (95, nP z18 0), (14, nI x178), (8, nI (if 3 < (K0.length : Int) then 3 else (K0.length : Int))), (7, nP z17 0), (0, .slice pa0 K0.length ca0), (1, nI i1), (2, nI i2)]) (by kernel_rfl) ?_
      intro a205 hF204; clear hF203
      have hS206 := hS202.pick1
      clear hS202
      refine any_call 8 #[true, true, true, true, true, true, true, true, true, false, false, false, false, false, false, false] 45 #[nP z18 0, nI (IntKind.i64.wrap ((IntKind.i64.wrap (2 * x195)) + 1))] hF204 rfl (by kernel_rfl) rfl rfl (by kernel_rfl) rfl (by kernel_rfl) (fun w => by kernel_rfl) (by kernel_rfl) ?_
      obtain ⟨x207, x208, x209, s210, hx211, hm212⟩ := bind4E hm199; clear hm199
      refine (take_Try.ok hS206 hx211).mono ?_
      rintro _ w213 ⟨rfl, hS215⟩; clear hS206
      refine ⟨⟨_, hS215.pick1⟩, ?_⟩
      intro a214 hF216; clear hF204
      refine any_many 7 [(9, some (.tuple #[nI x207, nI x208, nI x209])), (10, some (nI x207)), (11, some (nI x208)), (12, some (nI x209)), (13, some (nI x207)), (14, some (nI x208)), (15, some (nI x209))] [0, 1, 2, 7, 8, 14, 15, 16, 17] #[true, true, true, true, true, true, true, true, true, true, true, true, true, true, true, true] (by rfl) hF216 (by kernel_rfl) (by kernel_rfl) (by exact ⟨fun wS hw => by kernel_rfl, fun wS hw => by kernel_rfl, fun wS hw => by kernel_rfl, fun wS hw => by kernel_rfl, fun wS hw => by kernel_rfl, fun wS hw => by kernel_rfl, fun wS hw => by kernel_rfl, trivial⟩) (fun _ _ _ _ _ h => h) ⟨_, hS215.pick1⟩ (l' := [(17, nI x209), (16, nI x208), (15, nI x207), (14, nI x178), (8, nI (if 3 < (K0.length : Int) then 3 else (K0.length : Int))), (7, nP z17 0), (0, .slice pa0 K0.length ca0), (1, nI i1), (2, nI i2)]) (by kernel_rfl) ?_
      intro a218 hF217; clear hF216
      refine any_done (by kernel_rfl) ?_
      refine thenN (wp_seq (wp_region_lit ?_))
      refine ev_runs 1 hF217 (l' := [(18, nI 0), (17, nI x209), (16, nI x208), (15, nI x207), (14, nI x178), (8, nI (if 3 < (K0.length : Int) then 3 else (K0.length : Int))), (7, nP z17 0), (0, .slice pa0 K0.length ca0), (1, nI i1), (2, nI i2)]) (w' := w213) (by kernel_rfl) ?_
      intro a220 hF219; clear hF217
      refine wpList_nil (thenN (wp_seq (wp_seq (wp_region_lit ?_))))
      refine ev_runK 3 hF219 [0, 1, 2, 7, 8, 14, 15, 16, 17, 18, 106] (l' := [(106, .bool (decide (x178 < (if 3 < (K0.length : Int) then 3 else (K0.length : Int))))), (18, nI 0), (17, nI x209), (16, nI x208), (15, nI x207), (14, nI x178), (8, nI (if 3 < (K0.length : Int) then 3 else (K0.length : Int))), (7, nP z17 0), (0, .slice pa0 K0.length ca0), (1, nI i1), (2, nI i2)]) (w' := w213) (by kernel_rfl) ?_
      intro a222 hF221; clear hF219
      refine wpList_nil (thenN ?_)
      refine joinQ (fun aI wI => ∃ (x223 : Int), Fr 188 aI [(18, nI x223), (17, nI x209), (16, nI x208), (15, nI x207), (14, nI x178), (8, nI (if 3 < (K0.length : Int) then 3 else (K0.length : Int))), (7, nP z17 0), (0, .slice pa0 K0.length ca0), (1, nI i1), (2, nI i2)] ∧ St w0 [] (HeapP z18 z19 s210 :: BlkP z17 77 #[nP z18 0, nP z20 0, .slice p33 L9.length c34, .slice p37 L10.length c38] :: RHeapP z20 z21 z22 z23 z24 s197 :: RowP (.slice p33 L9.length c34) L9 :: RowP (.slice p37 L10.length c38) L10 :: ps) wI ∧ TakeClosed.j9 k L9 L10 x178 (TakeClosed.l8 K0 i1 i2 k L9 L10 k179) s197 x207 x208 x209 s210 x223 = some r0) ?_ ?_
      rotate_left
      · rintro a225 w226 ⟨x223, hF227, hS228, hm229⟩
        clear hF221 hS215 hm212
        unfold TakeClosed.j9 at hm229
        refine thenN (wp_seq ?_)
        refine joinQ (fun aI wI => ∃ (s231 : HSt) (s232 : HSt) (y233 : Bool), Fr 188 aI [(133, .bool (y233)), (14, nI x178), (8, nI (if 3 < (K0.length : Int) then 3 else (K0.length : Int))), (7, nP z17 0), (0, .slice pa0 K0.length ca0), (1, nI i1), (2, nI i2)] ∧ St w0 [] (BlkP z17 77 #[nP z18 0, nP z20 0, .slice p33 L9.length c34, .slice p37 L10.length c38] :: HeapP z18 z19 s231 :: RHeapP z20 z21 z22 z23 z24 s232 :: RowP (.slice p33 L9.length c34) L9 :: RowP (.slice p37 L10.length c38) L10 :: ps) wI ∧ TakeClosed.j10 x178 (TakeClosed.l8 K0 i1 i2 k L9 L10 k179) s231 s232 y233 = some r0) ?_ ?_
        rotate_left
        · rintro a235 w236 ⟨s231, s232, y233, hF237, hS238, hm239⟩
          clear hF227 hS228 hm229
          unfold TakeClosed.j10 at hm239
          refine thenN ?_
          cases hc241 : (y233)
          case true =>
           rw [hc241] at hF237
           have hm242 := ifYes hc241 hm239; clear hm239
           refine ev_condT hF237 rfl rfl ?_
           refine wp_seq (wp_region_lit ?_)
           refine ev_runK 1 hF237 [6] (l' := [(6, .bool false)]) (w' := w236) (by kernel_rfl) ?_
           intro a244 hF243; clear hF237
           refine wpList_nil ?_
           have hS245 := hS238.drop.drop.drop.drop.drop
           clear hS238
           refine thenN ?_
           refine wp_ret ?_
           refine blockR ?_
           refine thenR (thenR ?_)
           refine blockR ?_
           refine thenR ?_
           obtain rfl := Option.some.inj hm242
           refine ev_ret hF243 [6] (.bool false) rfl rfl rfl ?_
           exact ⟨rfl, hS245⟩
          rw [hc241] at hF237
          have hm247 := ifNot hc241 hm239; clear hm239
          refine ev_condF hF237 rfl rfl ?_
          refine wp_skip ?_
          have hF248 := hF237.keep [0, 1, 2, 7, 8, 14]
          clear hF237
          refine blockN ?_
          refine thenN (wp_region_lit ?_)
          refine ev_runK 3 hF248 [0, 1, 2, 7, 8, 14] (l' := [(14, nI (IntKind.i64.wrap (x178 + 1))), (8, nI (if 3 < (K0.length : Int) then 3 else (K0.length : Int))), (7, nP z17 0), (0, .slice pa0 K0.length ca0), (1, nI i1), (2, nI i2)]) (w' := w236) (by kernel_rfl) ?_
          intro a250 hF249; clear hF248
          refine wpList_nil ?_
          have hS251 := hS238.pick4.pick4.pick4.pick3.pick4
          clear hS238
          exact thenN ⟨k179, Nat.lt_succ_self _, s231, s232, IntKind.i64.wrap (x178 + 1), hF249, hS251, hm247⟩
        · skip
          -- draws
          have hS252 := hS228.pick1
          clear hS228
          have hS253 := hS252.drew; clear hS252
          refine any_start (fun wS => ∃ qs, St w0 [] (BlkP z17 77 #[nP z18 0, nP z20 0, .slice p33 L9.length c34, .slice p37 L10.length c38] :: qs) wS) 23 #[false, false, false, false, false, false, false, false, false, false, false, false, false, false, false, false, false, false, false, false, false, false, false] (by kernel_rfl) (by kernel_rfl) (by kernel_rfl) ?_
          refine any_many 4 [(0, some (nI x207)), (1, some (nI x223)), (2, some (.bool (x207 != x223))), (3, some (.bool (x207 != x223)))] [0, 1, 2, 7, 8, 14, 16, 17, 114, 115, 116, 117, 118, 119, 120, 121, 122, 123, 124, 125, 126, 127, 128, 129, 130, 131, 132, 133] #[true, true, true, true, false, false, false, false, false, false, false, false, false, false, false, false, false, false, false, false, false, false, false] (by rfl) hF227 (by kernel_rfl) (by kernel_rfl) (by exact ⟨fun wS hw => by kernel_rfl, fun wS hw => by kernel_rfl, fun wS hw => by kernel_rfl, fun wS hw => by kernel_rfl, trivial⟩) (fun _ _ _ _ _ h => h) ⟨_, hS253⟩ (l' := [(114, .bool (x207 != x223)), (17, nI x209), (16, nI x208), (14, nI x178), (8, nI (if 3 < (K0.length : Int) then 3 else (K0.length : Int))), (7, nP z17 0), (0, .slice pa0 K0.length ca0), (1, nI i1), (2, nI i2)]) (by kernel_rfl) ?_
          intro a255 hF254; clear hF227
          cases hc256 : (x207 != x223)
          case true =>
           rw [hc256] at hF254
           have hm257 := ifYes hc256 hm229; clear hm229
           refine any_many 19 [(4, none), (5, none), (6, some (.bool true)), (7, some (.bool true)), (8, none), (9, none), (10, some (.bool true)), (11, some (.bool true)), (12, none), (13, none), (14, none), (15, none), (16, none), (17, none), (18, none), (19, none), (20, none), (21, none), (22, some (.bool true))] [0, 1, 2, 7, 8, 14, 133] #[true, true, true, true, true, true, true, true, true, true, true, true, true, true, true, true, true, true, true, true, true, true, true] (by rfl) hF254 (by kernel_rfl) (by kernel_rfl) (by exact (And.intro trivial (And.intro trivial (And.intro (fun wS hw => by kernel_rfl) (And.intro (fun wS hw => by kernel_rfl) (And.intro trivial (And.intro trivial (And.intro (fun wS hw => by kernel_rfl) (And.intro (fun wS hw => by kernel_rfl) (And.intro trivial (And.intro trivial (And.intro trivial (And.intro trivial (And.intro trivial (And.intro trivial (And.intro trivial (And.intro trivial (And.intro trivial (And.intro trivial (And.intro (fun wS hw => by kernel_rfl) trivial)))))))))))))))))))) (fun _ _ _ _ _ h => h) ⟨_, hS253⟩ (l' := [(133, .bool true), (14, nI x178), (8, nI (if 3 < (K0.length : Int) then 3 else (K0.length : Int))), (7, nP z17 0), (0, .slice pa0 K0.length ca0), (1, nI i1), (2, nI i2)]) (by kernel_rfl) ?_
           intro a259 hF258; clear hF254
           refine any_done (by kernel_rfl) ?_
           exact thenN ⟨s210, s197, true, hF258, hS253, hm257⟩
          rw [hc256] at hF254
          have hm260 := ifNot hc256 hm229; clear hm229
          refine any_many 4 [(4, some (nI x208)), (5, some (.bool (x208 != (-1)))), (6, some (.bool (x208 != (-1)))), (7, some (.bool (x208 != (-1))))] [0, 1, 2, 7, 8, 14, 17, 118, 119, 120, 121, 122, 123, 124, 125, 126, 127, 128, 129, 130, 131, 132, 133] #[true, true, true, true, true, true, true, true, false, false, false, false, false, false, false, false, false, false, false, false, false, false, false] (by rfl) hF254 (by kernel_rfl) (by kernel_rfl) (by exact ⟨fun wS hw => by kernel_rfl, fun wS hw => by kernel_rfl, fun wS hw => by kernel_rfl, fun wS hw => by kernel_rfl, trivial⟩) (fun _ _ _ _ _ h => h) ⟨_, hS253⟩ (l' := [(118, .bool (x208 != (-1))), (17, nI x209), (14, nI x178), (8, nI (if 3 < (K0.length : Int) then 3 else (K0.length : Int))), (7, nP z17 0), (0, .slice pa0 K0.length ca0), (1, nI i1), (2, nI i2)]) (by kernel_rfl) ?_
          intro a262 hF261; clear hF254
          cases hc263 : (x208 != (-1))
          case true =>
           rw [hc263] at hF261
           have hm264 := ifYes hc263 hm260; clear hm260
           refine any_many 15 [(8, none), (9, none), (10, some (.bool true)), (11, some (.bool true)), (12, none), (13, none), (14, none), (15, none), (16, none), (17, none), (18, none), (19, none), (20, none), (21, none), (22, some (.bool true))] [0, 1, 2, 7, 8, 14, 133] #[true, true, true, true, true, true, true, true, true, true, true, true, true, true, true, true, true, true, true, true, true, true, true] (by rfl) hF261 (by kernel_rfl) (by kernel_rfl) (by exact (And.intro trivial (And.intro trivial (And.intro (fun wS hw => by kernel_rfl) (And.intro (fun wS hw => by kernel_rfl) (And.intro trivial (And.intro trivial (And.intro trivial (And.intro trivial (And.intro trivial (And.intro trivial (And.intro trivial (And.intro trivial (And.intro trivial (And.intro trivial (And.intro (fun wS hw => by kernel_rfl) trivial)))))))))))))))) (fun _ _ _ _ _ h => h) ⟨_, hS253⟩ (l' := [(133, .bool true), (14, nI x178), (8, nI (if 3 < (K0.length : Int) then 3 else (K0.length : Int))), (7, nP z17 0), (0, .slice pa0 K0.length ca0), (1, nI i1), (2, nI i2)]) (by kernel_rfl) ?_
           intro a266 hF265; clear hF261
           refine any_done (by kernel_rfl) ?_
           exact thenN ⟨s210, s197, true, hF265, hS253, hm264⟩
          rw [hc263] at hF261
          have hm267 := ifNot hc263 hm260; clear hm260
          refine any_many 4 [(8, some (nI x209)), (9, some (.bool (x209 != 1))), (10, some (.bool (x209 != 1))), (11, some (.bool (x209 != 1)))] [0, 1, 2, 7, 8, 14, 122, 123, 124, 125, 126, 127, 128, 129, 130, 131, 132, 133] #[true, true, true, true, true, true, true, true, true, true, true, true, false, false, false, false, false, false, false, false, false, false, false] (by rfl) hF261 (by kernel_rfl) (by kernel_rfl) (by exact ⟨fun wS hw => by kernel_rfl, fun wS hw => by kernel_rfl, fun wS hw => by kernel_rfl, fun wS hw => by kernel_rfl, trivial⟩) (fun _ _ _ _ _ h => h) ⟨_, hS253⟩ (l' := [(122, .bool (x209 != 1)), (14, nI x178), (8, nI (if 3 < (K0.length : Int) then 3 else (K0.length : Int))), (7, nP z17 0), (0, .slice pa0 K0.length ca0), (1, nI i1), (2, nI i2)]) (by kernel_rfl) ?_
          intro a269 hF268; clear hF261
          cases hc270 : (x209 != 1)
          case true =>
           rw [hc270] at hF268
           have hm271 := ifYes hc270 hm267; clear hm267
           refine any_many 11 [(12, none), (13, none), (14, none), (15, none), (16, none), (17, none), (18, none), (19, none), (20, none), (21, none), (22, some (.bool true))] [0, 1, 2, 7, 8, 14, 133] #[true, true, true, true, true, true, true, true, true, true, true, true, true, true, true, true, true, true, true, true, true, true, true] (by rfl) hF268 (by kernel_rfl) (by kernel_rfl) (by exact (And.intro trivial (And.intro trivial (And.intro trivial (And.intro trivial (And.intro trivial (And.intro trivial (And.intro trivial (And.intro trivial (And.intro trivial (And.intro trivial (And.intro (fun wS hw => by kernel_rfl) trivial)))))))))))) (fun _ _ _ _ _ h => h) ⟨_, hS253⟩ (l' := [(133, .bool true), (14, nI x178), (8, nI (if 3 < (K0.length : Int) then 3 else (K0.length : Int))), (7, nP z17 0), (0, .slice pa0 K0.length ca0), (1, nI i1), (2, nI i2)]) (by kernel_rfl) ?_
           intro a273 hF272; clear hF268
           refine any_done (by kernel_rfl) ?_
           exact thenN ⟨s210, s197, true, hF272, hS253, hm271⟩
          rw [hc270] at hF268
          have hm274 := ifNot hc270 hm267; clear hm267
          refine any_many 5 [(12, some (nP z17 0)), (13, some (nP z17 0)), (14, some (nP z17 0)), (15, some (nP z18 0)), (16, some (nP z17 0))] [0, 1, 2, 7, 8, 14, 122, 126, 127, 128, 129, 130, 131, 132, 133] #[true, true, true, true, true, true, true, true, true, true, true, true, true, true, true, true, true, false, false, false, false, false, false] (by rfl) hF268 (by kernel_rfl) (by kernel_rfl) (by exact ⟨fun wS hw => by kernel_rfl, fun wS hw => by kernel_rfl, fun wS hw => by kernel_rfl, fun wS hw => hw.elim fun qs hw => run_loadV rfl rfl (run_loadS rfl rfl (hw.cell 0 rfl 0 rfl)), fun wS hw => by kernel_rfl, trivial⟩) (fun _ _ _ _ _ h => h) ⟨_, hS253⟩ (l' := [(127, nP z17 0), (126, nP z18 0), (122, .bool false), (14, nI x178), (8, nI (if 3 < (K0.length : Int) then 3 else (K0.length : Int))), (7, nP z17 0), (0, .slice pa0 K0.length ca0), (1, nI i1), (2, nI i2)]) (by kernel_rfl) ?_
          intro a276 hF275; clear hF268
          refine any_call 17 #[true, true, true, true, true, true, true, true, true, true, true, true, true, true, true, true, true, true, false, false, false, false, false] 44 #[nP z17 0, nI 0] hF275 rfl (by kernel_rfl) rfl rfl (by kernel_rfl) rfl (by kernel_rfl) (fun w => by kernel_rfl) (by kernel_rfl) ?_
          obtain ⟨x277, s278, s279, hx280, hm281⟩ := bind3E hm274; clear hm274
          refine (law16_ch.ok hS253 hx280).mono ?_
          rintro _ w282 ⟨rfl, hS284⟩; clear hS253
          refine ⟨⟨_, hS284⟩, ?_⟩
          intro a283 hF285; clear hF275
          refine any_many 2 [(18, some (nI (IntKind.i64.wrap (2 * x277)))), (19, some (nI (IntKind.i64.wrap ((IntKind.i64.wrap (2 * x277)) + 1))))] [0, 1, 2, 7, 8, 14, 122, 126, 130, 131, 132, 133] #[true, true, true, true, true, true, true, true, true, true, true, true, true, true, true, true, true, true, true, true, false, false, false] (by rfl) hF285 (by kernel_rfl) (by kernel_rfl) (by exact ⟨fun wS hw => by kernel_rfl, fun wS hw => by kernel_rfl, trivial⟩) (fun _ _ _ _ _ h => h) ⟨_, hS284⟩ (l' := [(130, nI (IntKind.i64.wrap ((IntKind.i64.wrap (2 * x277)) + 1))), (126, nP z18 0), (122, .bool false), (14, nI x178), (8, nI (if 3 < (K0.length : Int) then 3 else (K0.length : Int))), (7, nP z17 0), (0, .slice pa0 K0.length ca0), (1, nI i1), (2, nI i2)]) (by kernel_rfl) ?_
          intro a287 hF286; clear hF285
          have hS288 := hS284.pick1
          clear hS284
          refine any_call 20 #[true, true, true, true, true, true, true, true, true, true, true, true, true, true, true, true, true, true, true, true, true, false, false] 46 #[nP z18 0, nI (IntKind.i64.wrap ((IntKind.i64.wrap (2 * x277)) + 1))] hF286 rfl (by kernel_rfl) rfl rfl (by kernel_rfl) rfl (by kernel_rfl) (fun w => by kernel_rfl) (by kernel_rfl) ?_
          obtain ⟨y289, s290, hx291, hm292⟩ := bind2E hm281; clear hm281
          refine (take_Ready.ok hS288 hx291).mono ?_
          rintro _ w293 ⟨rfl, hS295⟩; clear hS288
          refine ⟨⟨_, hS295.pick1⟩, ?_⟩
          intro a294 hF296; clear hF286
          refine any_many 2 [(21, some (.bool (!(y289)))), (22, some (.bool (!(y289))))] [0, 1, 2, 7, 8, 14, 133] #[true, true, true, true, true, true, true, true, true, true, true, true, true, true, true, true, true, true, true, true, true, true, true] (by rfl) hF296 (by kernel_rfl) (by kernel_rfl) (by exact ⟨fun wS hw => by kernel_rfl, fun wS hw => by kernel_rfl, trivial⟩) (fun _ _ _ _ _ h => h) ⟨_, hS295.pick1⟩ (l' := [(133, .bool (!(y289))), (14, nI x178), (8, nI (if 3 < (K0.length : Int) then 3 else (K0.length : Int))), (7, nP z17 0), (0, .slice pa0 K0.length ca0), (1, nI i1), (2, nI i2)]) (by kernel_rfl) ?_
          intro a298 hF297; clear hF296
          refine any_done (by kernel_rfl) ?_
          have hS299 := hS295.pick4.pick4.pick4.pick3.pick4
          clear hS295
          exact thenN ⟨s290, s279, !(y289), hF297, hS299, hm292⟩
      · skip
        cases hc300 : (decide (x178 < (if 3 < (K0.length : Int) then 3 else (K0.length : Int))))
        case true =>
         rw [hc300] at hF221
         have hm301 := ifYes hc300 hm212; clear hm212
         refine ev_condT hF221 rfl rfl ?_
         refine wp_region_lit ?_
         refine ev_runs 2 hF221 (l' := [(108, nI x178), (107, .slice pa0 K0.length ca0), (106, .bool true), (18, nI 0), (17, nI x209), (16, nI x208), (15, nI x207), (14, nI x178), (8, nI (if 3 < (K0.length : Int) then 3 else (K0.length : Int))), (7, nP z17 0), (0, .slice pa0 K0.length ca0), (1, nI i1), (2, nI i2)]) (w' := w213) (by kernel_rfl) ?_
         intro a303 hF302; clear hF221
         obtain ⟨hc304, hm305⟩ := ifTE hm301; clear hm301
         obtain ⟨b306, o307, rfl⟩ := argK hA0 hc304
         refine ev_one (nP b306 ((o307 + x178.toNat))) w213 hF302 (by kernel_rfl) rfl (by kernel_rfl) (run_idxO rfl rfl rfl rfl rfl (inR_spec hc304).1 (inR_spec hc304).2 _) (l' := [(109, nP b306 ((o307 + x178.toNat))), (108, nI x178), (107, .slice (some ⟨b306, o307, none⟩) K0.length ca0), (106, .bool true), (18, nI 0), (17, nI x209), (16, nI x208), (15, nI x207), (14, nI x178), (8, nI (if 3 < (K0.length : Int) then 3 else (K0.length : Int))), (7, nP z17 0), (0, .slice (some ⟨b306, o307, none⟩) K0.length ca0), (1, nI i1), (2, nI i2)]) (by kernel_rfl) ?_
         intro a309 hF308; clear hF302
         refine ev_one (nI (atI K0 x178)) w213 hF308 (by kernel_rfl) rfl (by kernel_rfl) (run_load1 rfl rfl rfl (argAt hA0 hS215 hc304)) (l' := [(110, nI (atI K0 x178)), (109, nP b306 ((o307 + x178.toNat))), (108, nI x178), (107, .slice (some ⟨b306, o307, none⟩) K0.length ca0), (106, .bool true), (18, nI 0), (17, nI x209), (16, nI x208), (15, nI x207), (14, nI x178), (8, nI (if 3 < (K0.length : Int) then 3 else (K0.length : Int))), (7, nP z17 0), (0, .slice (some ⟨b306, o307, none⟩) K0.length ca0), (1, nI i1), (2, nI i2)]) (by kernel_rfl) ?_
         intro a311 hF310; clear hF308
         refine ev_runK 1 hF310 [0, 1, 2, 7, 8, 14, 15, 16, 17, 18] (l' := [(18, nI (atI K0 x178)), (17, nI x209), (16, nI x208), (15, nI x207), (14, nI x178), (8, nI (if 3 < (K0.length : Int) then 3 else (K0.length : Int))), (7, nP z17 0), (0, .slice (some ⟨b306, o307, none⟩) K0.length ca0), (1, nI i1), (2, nI i2)]) (w' := w213) (by kernel_rfl) ?_
         intro a313 hF312; clear hF310
         refine wpList_nil ?_
         exact thenN ⟨atI K0 x178, hF312, hS215, hm305⟩
        rw [hc300] at hF221
        have hm314 := ifNot hc300 hm212; clear hm212
        refine ev_condF hF221 rfl rfl ?_
        refine wp_skip ?_
        have hF315 := hF221.keep [0, 1, 2, 7, 8, 14, 15, 16, 17, 18]
        clear hF221
        exact thenN ⟨0, hF315, hS215, hm314⟩
     rw [hc188] at hF186
     have hm316 := ifNot hc188 hm185; clear hm185
     refine ev_condF hF186 rfl rfl ?_
     refine wp_exit ?_
     refine thenE ?_
     refine thenE ?_
     refine blockE ?_
     refine thenN (wp_seq (wp_region_lit ?_))
     refine ev_runs 3 hF186 (l' := [(137, nP z17 0), (136, nP z17 0), (135, nP z17 0), (88, .bool false), (14, nI x178), (8, nI (if 3 < (K0.length : Int) then 3 else (K0.length : Int))), (7, nP z17 0), (0, .slice pa0 K0.length ca0), (1, nI i1), (2, nI i2)]) (w' := w181) (by kernel_rfl) ?_
     intro a318 hF317; clear hF186
     refine ev_one (nP z18 0) w181 hF317 (by kernel_rfl) rfl (by kernel_rfl) (run_loadV rfl rfl (run_loadS rfl rfl (hS183.cell 1 rfl 0 rfl))) (l' := [(138, nP z18 0), (137, nP z17 0), (136, nP z17 0), (135, nP z17 0), (88, .bool false), (14, nI x178), (8, nI (if 3 < (K0.length : Int) then 3 else (K0.length : Int))), (7, nP z17 0), (0, .slice pa0 K0.length ca0), (1, nI i1), (2, nI i2)]) (by kernel_rfl) ?_
     intro a320 hF319; clear hF317
     refine ev_call 45 #[nP z18 0, nI 0] hF319 rfl rfl (by kernel_rfl) rfl (by kernel_rfl) (fun w => by kernel_rfl) ?_
     obtain ⟨x321, x322, x323, s324, hx325, hm326⟩ := bind4E hm316; clear hm316
     refine (take_Try.ok hS183 hx325).mono ?_
     rintro _ w327 ⟨rfl, hS329⟩ a328 hF330; clear hF319 hS183
     refine ev_runK 7 hF330 [2, 7, 21] (l' := [(21, nI x323), (7, nP z17 0), (2, nI i2)]) (w' := w327) (by kernel_rfl) ?_
     intro a332 hF331; clear hF330
     refine wpList_nil (thenN (wp_seq ?_))
     -- draws
     have hS333 := hS329.pick1
     clear hS329
     have hS334 := hS333.drew; clear hS333
     refine any_start (fun wS => ∃ qs, St w0 [] (BlkP z17 77 #[nP z18 0, nP z20 0, .slice p33 L9.length c34, .slice p37 L10.length c38] :: qs) wS) 16 #[false, false, false, false, false, false, false, false, false, false, false, false, false, false, false, false] (by kernel_rfl) (by kernel_rfl) (by kernel_rfl) ?_
     refine any_many 5 [(0, some (nP z17 0)), (1, some (nP z17 0)), (2, some (nP z17 0)), (3, some (nP z18 0)), (4, some (nP z17 0))] [2, 7, 21, 24, 143, 147, 148, 149, 150, 151, 152, 153, 154, 155] #[true, true, true, true, true, false, false, false, false, false, false, false, false, false, false, false] (by rfl) hF331 (by kernel_rfl) (by kernel_rfl) (by exact ⟨fun wS hw => by kernel_rfl, fun wS hw => by kernel_rfl, fun wS hw => by kernel_rfl, fun wS hw => hw.elim fun qs hw => run_loadV rfl rfl (run_loadS rfl rfl (hw.cell 0 rfl 0 rfl)), fun wS hw => by kernel_rfl, trivial⟩) (fun _ _ _ _ _ h => h) ⟨_, hS334⟩ (l' := [(148, nP z17 0), (147, nP z18 0), (21, nI x323), (7, nP z17 0), (2, nI i2)]) (by kernel_rfl) ?_
     intro a336 hF335; clear hF331
     refine any_call 5 #[true, true, true, true, true, true, false, false, false, false, false, false, false, false, false, false] 47 #[nP z17 0, nI 0] hF335 rfl (by kernel_rfl) rfl rfl (by kernel_rfl) rfl (by kernel_rfl) (fun w => by kernel_rfl) (by kernel_rfl) ?_
     obtain ⟨x337, s338, s339, hx340, hm341⟩ := bind3E hm326; clear hm326
     refine (law16_gor.ok hS334 hx340).mono ?_
     rintro _ w342 ⟨rfl, hS344⟩; clear hS334
     refine ⟨⟨_, hS344⟩, ?_⟩
     intro a343 hF345; clear hF335
     refine any_many 2 [(6, some (nI (IntKind.i64.wrap (2 * x337)))), (7, some (nI (IntKind.i64.wrap ((IntKind.i64.wrap (2 * x337)) + 1))))] [2, 7, 21, 24, 143, 147, 151, 152, 153, 154, 155] #[true, true, true, true, true, true, true, true, false, false, false, false, false, false, false, false] (by rfl) hF345 (by kernel_rfl) (by kernel_rfl) (by exact ⟨fun wS hw => by kernel_rfl, fun wS hw => by kernel_rfl, trivial⟩) (fun _ _ _ _ _ h => h) ⟨_, hS344⟩ (l' := [(151, nI (IntKind.i64.wrap ((IntKind.i64.wrap (2 * x337)) + 1))), (147, nP z18 0), (21, nI x323), (7, nP z17 0), (2, nI i2)]) (by kernel_rfl) ?_
     intro a347 hF346; clear hF345
     have hS348 := hS344.pick1
     clear hS344
     refine any_call 8 #[true, true, true, true, true, true, true, true, true, false, false, false, false, false, false, false] 45 #[nP z18 0, nI (IntKind.i64.wrap ((IntKind.i64.wrap (2 * x337)) + 1))] hF346 rfl (by kernel_rfl) rfl rfl (by kernel_rfl) rfl (by kernel_rfl) (fun w => by kernel_rfl) (by kernel_rfl) ?_
     obtain ⟨x349, x350, x351, s352, hx353, hm354⟩ := bind4E hm341; clear hm341
     refine (take_Try.ok hS348 hx353).mono ?_
     rintro _ w355 ⟨rfl, hS357⟩; clear hS348
     refine ⟨⟨_, hS357.pick1⟩, ?_⟩
     intro a356 hF358; clear hF346
     refine any_many 7 [(9, some (.tuple #[nI x349, nI x350, nI x351])), (10, some (nI x349)), (11, some (nI x350)), (12, some (nI x351)), (13, some (nI x349)), (14, some (nI x350)), (15, some (nI x351))] [2, 7, 21, 24] #[true, true, true, true, true, true, true, true, true, true, true, true, true, true, true, true] (by rfl) hF358 (by kernel_rfl) (by kernel_rfl) (by exact ⟨fun wS hw => by kernel_rfl, fun wS hw => by kernel_rfl, fun wS hw => by kernel_rfl, fun wS hw => by kernel_rfl, fun wS hw => by kernel_rfl, fun wS hw => by kernel_rfl, fun wS hw => by kernel_rfl, trivial⟩) (fun _ _ _ _ _ h => h) ⟨_, hS357.pick1⟩ (l' := [(24, nI x351), (21, nI x323), (7, nP z17 0), (2, nI i2)]) (by kernel_rfl) ?_
     intro a360 hF359; clear hF358
     refine any_done (by kernel_rfl) ?_
     refine thenN (wp_seq (wp_region_lit ?_))
     refine ev_runs 1 hF359 (l' := [(157, nI i2), (24, nI x351), (21, nI x323), (7, nP z17 0), (2, nI i2)]) (w' := w355) (by kernel_rfl) ?_
     intro a362 hF361; clear hF359
     refine ev_call 45 #[.pointer none, nI i2] hF361 rfl rfl (by kernel_rfl) rfl (by kernel_rfl) (fun w => by kernel_rfl) ?_
     obtain ⟨x363, x364, x365, hx366, hm367⟩ := bind3E hm354; clear hm354
     refine (take_TryN.ok hS357 hx366).mono ?_
     rintro _ w368 ⟨rfl, hS370⟩ a369 hF371; clear hF361 hS357
     refine ev_runK 7 hF371 [2, 7, 21, 24, 26, 27] (l' := [(27, nI x365), (26, nI x364), (24, nI x351), (21, nI x323), (7, nP z17 0), (2, nI i2)]) (w' := w368) (by kernel_rfl) ?_
     intro a373 hF372; clear hF371
     refine wpList_nil (thenN (wp_seq ?_))
     refine joinQ (fun aI wI => ∃ (y374 : Bool), Fr 188 aI [(6, .bool (y374))] ∧ St w0 [] (ps) wI ∧ TakeClosed.j11 y374 = some r0) ?_ ?_
     rotate_left
     · rintro a376 w377 ⟨y374, hF378, hS379, hm380⟩
       clear hF372 hS370 hm367
       unfold TakeClosed.j11 at hm380
       refine thenN ?_
       refine wp_ret ?_
       obtain rfl := Option.some.inj hm380
       refine ev_ret hF378 [6] (.bool (y374)) rfl rfl rfl ?_
       exact ⟨rfl, hS379⟩
     · skip
       refine wp_region_lit ?_
       refine ev_runs 3 hF372 (l' := [(164, .bool (x323 == 0)), (163, .bool (x323 == 0)), (162, nI x323), (27, nI x365), (26, nI x364), (24, nI x351), (21, nI x323), (7, nP z17 0), (2, nI i2)]) (w' := w368) (by kernel_rfl) ?_
       intro a384 hF383; clear hF372
       cases hc385 : (x323 == 0)
       case true =>
        rw [hc385] at hF383
        have hm386 := ifYes hc385 hm367; clear hm367
        refine ev_runs 4 hF383 (l' := [(168, .bool (x351 == 6)), (167, .bool (x351 == 6)), (166, .bool (x351 == 6)), (165, nI x351), (164, .bool true), (163, .bool true), (162, nI x323), (27, nI x365), (26, nI x364), (24, nI x351), (21, nI x323), (7, nP z17 0), (2, nI i2)]) (w' := w368) (by kernel_rfl) ?_
        intro a388 hF387; clear hF383
        cases hc389 : (x351 == 6)
        case true =>
         rw [hc389] at hF387
         have hm390 := ifYes hc389 hm386; clear hm386
         refine ev_runs 4 hF387 (l' := [(172, .bool (x364 == (-1))), (171, .bool (x364 == (-1))), (170, .bool (x364 == (-1))), (169, nI x364), (168, .bool true), (167, .bool true), (166, .bool true), (165, nI x351), (164, .bool true), (163, .bool true), (162, nI x323), (27, nI x365), (26, nI x364), (24, nI x351), (21, nI x323), (7, nP z17 0), (2, nI i2)]) (w' := w368) (by kernel_rfl) ?_
         intro a392 hF391; clear hF387
         cases hc393 : (x364 == (-1))
         case true =>
          rw [hc393] at hF391
          have hm394 := ifYes hc393 hm390; clear hm390
          refine ev_runs 4 hF391 (l' := [(176, .bool (x365 == 6)), (175, .bool (x365 == 6)), (174, .bool (x365 == 6)), (173, nI x365), (172, .bool true), (171, .bool true), (170, .bool true), (169, nI x364), (168, .bool true), (167, .bool true), (166, .bool true), (165, nI x351), (164, .bool true), (163, .bool true), (162, nI x323), (27, nI x365), (26, nI x364), (24, nI x351), (21, nI x323), (7, nP z17 0), (2, nI i2)]) (w' := w368) (by kernel_rfl) ?_
          intro a396 hF395; clear hF391
          cases hc397 : (x365 == 6)
          case true =>
           rw [hc397] at hF395
           have hm398 := ifYes hc397 hm394; clear hm394
           refine ev_runs 1 hF395 (l' := [(177, nI i2), (176, .bool true), (175, .bool true), (174, .bool true), (173, nI x365), (172, .bool true), (171, .bool true), (170, .bool true), (169, nI x364), (168, .bool true), (167, .bool true), (166, .bool true), (165, nI x351), (164, .bool true), (163, .bool true), (162, nI x323), (27, nI x365), (26, nI x364), (24, nI x351), (21, nI x323), (7, nP z17 0), (2, nI i2)]) (w' := w368) (by kernel_rfl) ?_
           intro a400 hF399; clear hF395
           refine ev_call 46 #[.pointer none, nI i2] hF399 rfl rfl (by kernel_rfl) rfl (by kernel_rfl) (fun w => by kernel_rfl) ?_
           obtain ⟨y401, hx402, hm403⟩ := bind1E hm398; clear hm398
           refine (take_ReadyN.ok hS370 hx402).mono ?_
           rintro _ w404 ⟨rfl, hS406⟩ a405 hF407; clear hF399 hS370
           refine ev_runs 2 hF407 (l' := [(180, .bool (y401)), (179, .bool (y401)), (178, .bool (y401)), (177, nI i2), (176, .bool true), (175, .bool true), (174, .bool true), (173, nI x365), (172, .bool true), (171, .bool true), (170, .bool true), (169, nI x364), (168, .bool true), (167, .bool true), (166, .bool true), (165, nI x351), (164, .bool true), (163, .bool true), (162, nI x323), (27, nI x365), (26, nI x364), (24, nI x351), (21, nI x323), (7, nP z17 0), (2, nI i2)]) (w' := w404) (by kernel_rfl) ?_
           intro a409 hF408; clear hF407
           cases hc410 : (y401)
           case true =>
            rw [hc410] at hF408
            have hm411 := ifYes hc410 hm403; clear hm403
            refine ev_runs 3 hF408 (l' := [(183, nP z17 0), (182, nP z17 0), (181, nP z17 0), (180, .bool true), (179, .bool true), (178, .bool true), (177, nI i2), (176, .bool true), (175, .bool true), (174, .bool true), (173, nI x365), (172, .bool true), (171, .bool true), (170, .bool true), (169, nI x364), (168, .bool true), (167, .bool true), (166, .bool true), (165, nI x351), (164, .bool true), (163, .bool true), (162, nI x323), (27, nI x365), (26, nI x364), (24, nI x351), (21, nI x323), (7, nP z17 0), (2, nI i2)]) (w' := w404) (by kernel_rfl) ?_
            intro a413 hF412; clear hF408
            refine ev_one (nP z18 0) w404 hF412 (by kernel_rfl) rfl (by kernel_rfl) (run_loadV rfl rfl (run_loadS rfl rfl (hS406.cell 1 rfl 0 rfl))) (l' := [(184, nP z18 0), (183, nP z17 0), (182, nP z17 0), (181, nP z17 0), (180, .bool true), (179, .bool true), (178, .bool true), (177, nI i2), (176, .bool true), (175, .bool true), (174, .bool true), (173, nI x365), (172, .bool true), (171, .bool true), (170, .bool true), (169, nI x364), (168, .bool true), (167, .bool true), (166, .bool true), (165, nI x351), (164, .bool true), (163, .bool true), (162, nI x323), (27, nI x365), (26, nI x364), (24, nI x351), (21, nI x323), (7, nP z17 0), (2, nI i2)]) (by kernel_rfl) ?_
            intro a415 hF414; clear hF412
            refine ev_call 46 #[nP z18 0, nI 0] hF414 rfl rfl (by kernel_rfl) rfl (by kernel_rfl) (fun w => by kernel_rfl) ?_
            obtain ⟨y416, s417, hx418, hm419⟩ := bind2E hm411; clear hm411
            refine (take_Ready.ok hS406 hx418).mono ?_
            rintro _ w420 ⟨rfl, hS422⟩ a421 hF423; clear hF414 hS406
            refine ev_runK 3 hF423 [6] (l' := [(6, .bool (!(y416)))]) (w' := w420) (by kernel_rfl) ?_
            intro a425 hF424; clear hF423
            refine wpList_nil ?_
            have hS426 := hS422.drop.drop.drop.drop.drop
            clear hS422
            exact thenN ⟨!(y416), hF424, hS426, hm419⟩
           rw [hc410] at hF408
           have hm427 := ifNot hc410 hm403; clear hm403
           refine ev_runK 8 hF408 [6] (l' := [(6, .bool false)]) (w' := w404) (by kernel_rfl) ?_
           intro a429 hF428; clear hF408
           refine wpList_nil ?_
           have hS430 := hS406.drop.drop.drop.drop.drop
           clear hS406
           exact thenN ⟨false, hF428, hS430, hm427⟩
          rw [hc397] at hF395
          have hm431 := ifNot hc397 hm394; clear hm394
          refine ev_runK 12 hF395 [6] (l' := [(6, .bool false)]) (w' := w368) (by kernel_rfl) ?_
          intro a433 hF432; clear hF395
          refine wpList_nil ?_
          have hS434 := hS370.drop.drop.drop.drop.drop
          clear hS370
          exact thenN ⟨false, hF432, hS434, hm431⟩
         rw [hc393] at hF391
         have hm435 := ifNot hc393 hm390; clear hm390
         refine ev_runK 16 hF391 [6] (l' := [(6, .bool false)]) (w' := w368) (by kernel_rfl) ?_
         intro a437 hF436; clear hF391
         refine wpList_nil ?_
         have hS438 := hS370.drop.drop.drop.drop.drop
         clear hS370
         exact thenN ⟨false, hF436, hS438, hm435⟩
        rw [hc389] at hF387
        have hm439 := ifNot hc389 hm386; clear hm386
        refine ev_runK 20 hF387 [6] (l' := [(6, .bool false)]) (w' := w368) (by kernel_rfl) ?_
        intro a441 hF440; clear hF387
        refine wpList_nil ?_
        have hS442 := hS370.drop.drop.drop.drop.drop
        clear hS370
        exact thenN ⟨false, hF440, hS442, hm439⟩
       rw [hc385] at hF383
       have hm443 := ifNot hc385 hm367; clear hm367
       refine ev_runK 24 hF383 [6] (l' := [(6, .bool false)]) (w' := w368) (by kernel_rfl) ?_
       intro a445 hF444; clear hF383
       refine wpList_nil ?_
       have hS446 := hS370.drop.drop.drop.drop.drop
       clear hS370
       exact thenN ⟨false, hF444, hS446, hm443⟩
   · skip
     -- draws
     have hS447 := hS71.drew; clear hS71
     refine any_start (fun wS => ∃ qs, St w0 [] (BlkP z17 77 #[nP z18 0, nP z20 0, .slice p33 L9.length c34, .slice p37 L10.length c38] :: qs) wS) 13 #[false, false, false, false, false, false, false, false, false, false, false, false, false] (by kernel_rfl) (by kernel_rfl) (by kernel_rfl) ?_
     refine any_many 5 [(0, some (nP z17 0)), (1, some (nP z17 0)), (2, some (nP z17 0)), (3, some (nP z18 0)), (4, some (nP z17 0))] [0, 1, 2, 7, 8, 12, 62, 66, 67, 68, 69, 70, 71] #[true, true, true, true, true, false, false, false, false, false, false, false, false] (by rfl) hF74 (by kernel_rfl) (by kernel_rfl) (by exact ⟨fun wS hw => by kernel_rfl, fun wS hw => by kernel_rfl, fun wS hw => by kernel_rfl, fun wS hw => hw.elim fun qs hw => run_loadV rfl rfl (run_loadS rfl rfl (hw.cell 0 rfl 0 rfl)), fun wS hw => by kernel_rfl, trivial⟩) (fun _ _ _ _ _ h => h) ⟨_, hS447⟩ (l' := [(67, nP z17 0), (66, nP z18 0), (8, nI (if 3 < (K0.length : Int) then 3 else (K0.length : Int))), (7, nP z17 0), (0, .slice pa0 K0.length ca0), (1, nI i1), (2, nI i2)]) (by kernel_rfl) ?_
     intro a449 hF448; clear hF74
     refine any_two 5 10 (by kernel_rfl) ?_ ?_
     · skip
       refine op_call 5 #[true, true, true, true, true, true, false, false, false, false, false, false, false] 44 #[nP z17 0, nI 0] hF448 rfl rfl rfl (by kernel_rfl) rfl (by kernel_rfl) (fun w => by kernel_rfl) (by kernel_rfl) ?_
       obtain ⟨x450, s451, s452, hx453, hm454⟩ := bind3E hm122; clear hm122
       refine (law16_ch.ok hS447 hx453).mono ?_
       rintro _ w455 ⟨rfl, hS457⟩; clear hS447
       refine ⟨⟨_, hS457⟩, ?_⟩
       intro a456 hF458; clear hF448
       refine any_two 6 10 (by kernel_rfl) ?_ ?_
       · skip
         have hS459 := hS457.pick1
         clear hS457
         refine op_call 6 #[true, true, true, true, true, true, true, false, false, false, false, false, false] 30 #[nP z18 0, nI x450] hF458 rfl rfl rfl (by kernel_rfl) rfl (by kernel_rfl) (fun w => by kernel_rfl) (by kernel_rfl) ?_
         obtain ⟨q460, x461, hx462, hm463⟩ := bind2E hm454; clear hm454
         refine (p_Chan hS459 hx462).mono ?_
         rintro _ w464 ⟨rfl, hS466⟩; clear hS459
         refine ⟨⟨_, hS466.pick1⟩, ?_⟩
         intro a465 hF467; clear hF458
         refine any_many 3 [(7, some (.tuple #[.agg #[nI (q460.cap), nI (q460.closed), nI (q460.count), nI (q460.start), nI (q460.buf), nI (q460.th), nI (q460.tt), nI (q460.sh), nI (q460.st)], nI x461])), (8, some (.agg #[nI (q460.cap), nI (q460.closed), nI (q460.count), nI (q460.start), nI (q460.buf), nI (q460.th), nI (q460.tt), nI (q460.sh), nI (q460.st)])), (9, some (nI x461))] [0, 1, 2, 7, 8, 12, 70, 71] #[true, true, true, true, true, true, true, true, true, true, false, false, false] (by rfl) hF467 (by kernel_rfl) (by kernel_rfl) (by exact ⟨fun wS hw => by kernel_rfl, fun wS hw => by kernel_rfl, fun wS hw => by kernel_rfl, trivial⟩) (fun _ _ _ _ _ h => h) ⟨_, hS466.pick1⟩ (l' := [(71, nI x461), (70, .agg #[nI (q460.cap), nI (q460.closed), nI (q460.count), nI (q460.start), nI (q460.buf), nI (q460.th), nI (q460.tt), nI (q460.sh), nI (q460.st)]), (8, nI (if 3 < (K0.length : Int) then 3 else (K0.length : Int))), (7, nP z17 0), (0, .slice pa0 K0.length ca0), (1, nI i1), (2, nI i2)]) (by kernel_rfl) ?_
         intro a469 hF468; clear hF467
         refine any_one 10 (by kernel_rfl) ?_
         have hS470 : St w0 [] (BlkP (w464.heap.size) 57 #[nI 0, nI 0, nI 0, nI 0, nI 0, nI 0, nI 0, nI 0, nI 0] :: HeapP z18 z19 s451 :: BlkP z17 77 #[nP z18 0, nP z20 0, .slice p33 L9.length c34, .slice p37 L10.length c38] :: RHeapP z20 z21 z22 z23 z24 s452 :: RowP (.slice p33 L9.length c34) L9 :: RowP (.slice p37 L10.length c38) L10 :: ps) (w464.alloc (.cells #[nI 0, nI 0, nI 0, nI 0, nI 0, nI 0, nI 0, nI 0, nI 0] 57)) := St.new hS466 #[nI 0, nI 0, nI 0, nI 0, nI 0, nI 0, nI 0, nI 0, nI 0] 57
         clear hS466
         refine op_step 10 #[true, true, true, true, true, true, true, true, true, true, true, false, false] (nB w464) (w464.alloc (.cells #[nI 0, nI 0, nI 0, nI 0, nI 0, nI 0, nI 0, nI 0, nI 0] 57)) hF468 rfl (by kernel_rfl) rfl (by kernel_rfl) (by kernel_rfl) (l' := [(12, nB w464), (71, nI x461), (70, .agg #[nI (q460.cap), nI (q460.closed), nI (q460.count), nI (q460.start), nI (q460.buf), nI (q460.th), nI (q460.tt), nI (q460.sh), nI (q460.st)]), (8, nI (if 3 < (K0.length : Int) then 3 else (K0.length : Int))), (7, nP z17 0), (0, .slice pa0 K0.length ca0), (1, nI i1), (2, nI i2)]) (by kernel_rfl) ⟨_, hS470.pick2⟩ (by kernel_rfl) ?_
         intro a472 hF471; clear hF468
         refine any_one 11 (by kernel_rfl) ?_
         refine op_store 11 #[true, true, true, true, true, true, true, true, true, true, true, true, false] (.agg #[nI (q460.cap), nI (q460.closed), nI (q460.count), nI (q460.start), nI (q460.buf), nI (q460.th), nI (q460.tt), nI (q460.sh), nI (q460.st)]) #[nI (q460.cap), nI (q460.closed), nI (q460.count), nI (q460.start), nI (q460.buf), nI (q460.th), nI (q460.tt), nI (q460.sh), nI (q460.st)] hF471 rfl (by kernel_rfl) rfl rfl rfl rfl (by kernel_rfl) hS470 (by kernel_rfl) (by kernel_rfl) (by kernel_rfl) (l' := [(12, nB w464), (71, nI x461), (70, .agg #[nI (q460.cap), nI (q460.closed), nI (q460.count), nI (q460.start), nI (q460.buf), nI (q460.th), nI (q460.tt), nI (q460.sh), nI (q460.st)]), (8, nI (if 3 < (K0.length : Int) then 3 else (K0.length : Int))), (7, nP z17 0), (0, .slice pa0 K0.length ca0), (1, nI i1), (2, nI i2)]) (by kernel_rfl) (by kernel_rfl) ?_
         intro w473 a474 hS475 hF476; clear hF471 hS470
         refine ⟨⟨_, hS475.pick2⟩, ?_⟩
         refine any_many 1 [(12, some (nI x461))] [0, 1, 2, 7, 8, 12] #[true, true, true, true, true, true, true, true, true, true, true, true, true] (by rfl) hF476 (by kernel_rfl) (by kernel_rfl) (by exact ⟨fun wS hw => by kernel_rfl, trivial⟩) (fun _ _ _ _ _ h => h) ⟨_, hS475.pick2⟩ (l' := [(12, nB w464), (8, nI (if 3 < (K0.length : Int) then 3 else (K0.length : Int))), (7, nP z17 0), (0, .slice pa0 K0.length ca0), (1, nI i1), (2, nI i2)]) (by kernel_rfl) ?_
         intro a478 hF477; clear hF476
         refine any_done (by kernel_rfl) ?_
         exact thenN ⟨(w464.heap.size), s451, s452, q460.cap, q460.closed, q460.count, q460.start, q460.buf, q460.th, q460.tt, q460.sh, q460.st, hF477, hS475, hm463⟩
       · skip
         have hS479 : St w0 [] (BlkP (w455.heap.size) 57 #[nI 0, nI 0, nI 0, nI 0, nI 0, nI 0, nI 0, nI 0, nI 0] :: BlkP z17 77 #[nP z18 0, nP z20 0, .slice p33 L9.length c34, .slice p37 L10.length c38] :: HeapP z18 z19 s451 :: RHeapP z20 z21 z22 z23 z24 s452 :: RowP (.slice p33 L9.length c34) L9 :: RowP (.slice p37 L10.length c38) L10 :: ps) (w455.alloc (.cells #[nI 0, nI 0, nI 0, nI 0, nI 0, nI 0, nI 0, nI 0, nI 0] 57)) := St.new hS457 #[nI 0, nI 0, nI 0, nI 0, nI 0, nI 0, nI 0, nI 0, nI 0] 57
         clear hS457
         refine op_step 10 #[true, true, true, true, true, true, false, false, false, false, true, false, false] (nB w455) (w455.alloc (.cells #[nI 0, nI 0, nI 0, nI 0, nI 0, nI 0, nI 0, nI 0, nI 0] 57)) hF458 rfl (by kernel_rfl) rfl (by kernel_rfl) (by kernel_rfl) (l' := [(12, nB w455), (68, nI x450), (67, nP z17 0), (66, nP z18 0), (8, nI (if 3 < (K0.length : Int) then 3 else (K0.length : Int))), (7, nP z17 0), (0, .slice pa0 K0.length ca0), (1, nI i1), (2, nI i2)]) (by kernel_rfl) ⟨_, hS479.pick1⟩ (by kernel_rfl) ?_
         intro a481 hF480; clear hF458
         have hS482 := hS479.pick2
         clear hS479
         refine any_call 6 #[true, true, true, true, true, true, true, false, false, false, true, false, false] 30 #[nP z18 0, nI x450] hF480 rfl (by kernel_rfl) rfl rfl (by kernel_rfl) rfl (by kernel_rfl) (fun w => by kernel_rfl) (by kernel_rfl) ?_
         obtain ⟨q483, x484, hx485, hm486⟩ := bind2E hm454; clear hm454
         refine (p_Chan hS482 hx485).mono ?_
         rintro _ w487 ⟨rfl, hS489⟩; clear hS482
         refine ⟨⟨_, hS489.pick2⟩, ?_⟩
         intro a488 hF490; clear hF480
         refine any_many 3 [(7, some (.tuple #[.agg #[nI (q483.cap), nI (q483.closed), nI (q483.count), nI (q483.start), nI (q483.buf), nI (q483.th), nI (q483.tt), nI (q483.sh), nI (q483.st)], nI x484])), (8, some (.agg #[nI (q483.cap), nI (q483.closed), nI (q483.count), nI (q483.start), nI (q483.buf), nI (q483.th), nI (q483.tt), nI (q483.sh), nI (q483.st)])), (9, some (nI x484))] [0, 1, 2, 7, 8, 12, 70, 71] #[true, true, true, true, true, true, true, true, true, true, true, false, false] (by rfl) hF490 (by kernel_rfl) (by kernel_rfl) (by exact ⟨fun wS hw => by kernel_rfl, fun wS hw => by kernel_rfl, fun wS hw => by kernel_rfl, trivial⟩) (fun _ _ _ _ _ h => h) ⟨_, hS489.pick2⟩ (l' := [(71, nI x484), (70, .agg #[nI (q483.cap), nI (q483.closed), nI (q483.count), nI (q483.start), nI (q483.buf), nI (q483.th), nI (q483.tt), nI (q483.sh), nI (q483.st)]), (12, nB w455), (8, nI (if 3 < (K0.length : Int) then 3 else (K0.length : Int))), (7, nP z17 0), (0, .slice pa0 K0.length ca0), (1, nI i1), (2, nI i2)]) (by kernel_rfl) ?_
         intro a492 hF491; clear hF490
         refine any_one 11 (by kernel_rfl) ?_
         have hS493 := hS489.pick1
         clear hS489
         refine op_store 11 #[true, true, true, true, true, true, true, true, true, true, true, true, false] (.agg #[nI (q483.cap), nI (q483.closed), nI (q483.count), nI (q483.start), nI (q483.buf), nI (q483.th), nI (q483.tt), nI (q483.sh), nI (q483.st)]) #[nI (q483.cap), nI (q483.closed), nI (q483.count), nI (q483.start), nI (q483.buf), nI (q483.th), nI (q483.tt), nI (q483.sh), nI (q483.st)] hF491 rfl (by kernel_rfl) rfl rfl rfl rfl (by kernel_rfl) hS493 (by kernel_rfl) (by kernel_rfl) (by kernel_rfl) (l' := [(71, nI x484), (70, .agg #[nI (q483.cap), nI (q483.closed), nI (q483.count), nI (q483.start), nI (q483.buf), nI (q483.th), nI (q483.tt), nI (q483.sh), nI (q483.st)]), (12, nB w455), (8, nI (if 3 < (K0.length : Int) then 3 else (K0.length : Int))), (7, nP z17 0), (0, .slice pa0 K0.length ca0), (1, nI i1), (2, nI i2)]) (by kernel_rfl) (by kernel_rfl) ?_
         intro w494 a495 hS496 hF497; clear hF491 hS493
         refine ⟨⟨_, hS496.pick2⟩, ?_⟩
         refine any_many 1 [(12, some (nI x484))] [0, 1, 2, 7, 8, 12] #[true, true, true, true, true, true, true, true, true, true, true, true, true] (by rfl) hF497 (by kernel_rfl) (by kernel_rfl) (by exact ⟨fun wS hw => by kernel_rfl, trivial⟩) (fun _ _ _ _ _ h => h) ⟨_, hS496.pick2⟩ (l' := [(12, nB w455), (8, nI (if 3 < (K0.length : Int) then 3 else (K0.length : Int))), (7, nP z17 0), (0, .slice pa0 K0.length ca0), (1, nI i1), (2, nI i2)]) (by kernel_rfl) ?_
         intro a499 hF498; clear hF497
         refine any_done (by kernel_rfl) ?_
         exact thenN ⟨(w455.heap.size), s451, s452, q483.cap, q483.closed, q483.count, q483.start, q483.buf, q483.th, q483.tt, q483.sh, q483.st, hF498, hS496, hm486⟩
     · skip
       have hS500 : St w0 [] (BlkP ((w69.drew).heap.size) 57 #[nI 0, nI 0, nI 0, nI 0, nI 0, nI 0, nI 0, nI 0, nI 0] :: BlkP z17 77 #[nP z18 0, nP z20 0, .slice p33 L9.length c34, .slice p37 L10.length c38] :: HeapP z18 z19 s64 :: RHeapP z20 z21 z22 z23 z24 s65 :: RowP (.slice p33 L9.length c34) L9 :: RowP (.slice p37 L10.length c38) L10 :: ps) ((w69.drew).alloc (.cells #[nI 0, nI 0, nI 0, nI 0, nI 0, nI 0, nI 0, nI 0, nI 0] 57)) := St.new hS447 #[nI 0, nI 0, nI 0, nI 0, nI 0, nI 0, nI 0, nI 0, nI 0] 57
       clear hS447
       refine op_step 10 #[true, true, true, true, true, false, false, false, false, false, true, false, false] (nB (w69.drew)) ((w69.drew).alloc (.cells #[nI 0, nI 0, nI 0, nI 0, nI 0, nI 0, nI 0, nI 0, nI 0] 57)) hF448 rfl (by kernel_rfl) rfl (by kernel_rfl) (by kernel_rfl) (l' := [(12, nB (w69.drew)), (67, nP z17 0), (66, nP z18 0), (8, nI (if 3 < (K0.length : Int) then 3 else (K0.length : Int))), (7, nP z17 0), (0, .slice pa0 K0.length ca0), (1, nI i1), (2, nI i2)]) (by kernel_rfl) ⟨_, hS500.pick1⟩ (by kernel_rfl) ?_
       intro a502 hF501; clear hF448
       have hS503 := hS500.pick5.pick5.pick5.pick5.pick5
       clear hS500
       refine any_call 5 #[true, true, true, true, true, true, false, false, false, false, true, false, false] 44 #[nP z17 0, nI 0] hF501 rfl (by kernel_rfl) rfl rfl (by kernel_rfl) rfl (by kernel_rfl) (fun w => by kernel_rfl) (by kernel_rfl) ?_
       obtain ⟨x504, s505, s506, hx507, hm508⟩ := bind3E hm122; clear hm122
       refine (law16_ch.ok hS503 hx507).mono ?_
       rintro _ w509 ⟨rfl, hS511⟩; clear hS503
       refine ⟨⟨_, hS511⟩, ?_⟩
       intro a510 hF512; clear hF501
       have hS513 := hS511.pick1
       clear hS511
       refine any_call 6 #[true, true, true, true, true, true, true, false, false, false, true, false, false] 30 #[nP z18 0, nI x504] hF512 rfl (by kernel_rfl) rfl rfl (by kernel_rfl) rfl (by kernel_rfl) (fun w => by kernel_rfl) (by kernel_rfl) ?_
       obtain ⟨q514, x515, hx516, hm517⟩ := bind2E hm508; clear hm508
       refine (p_Chan hS513 hx516).mono ?_
       rintro _ w518 ⟨rfl, hS520⟩; clear hS513
       refine ⟨⟨_, hS520.pick1⟩, ?_⟩
       intro a519 hF521; clear hF512
       refine any_many 3 [(7, some (.tuple #[.agg #[nI (q514.cap), nI (q514.closed), nI (q514.count), nI (q514.start), nI (q514.buf), nI (q514.th), nI (q514.tt), nI (q514.sh), nI (q514.st)], nI x515])), (8, some (.agg #[nI (q514.cap), nI (q514.closed), nI (q514.count), nI (q514.start), nI (q514.buf), nI (q514.th), nI (q514.tt), nI (q514.sh), nI (q514.st)])), (9, some (nI x515))] [0, 1, 2, 7, 8, 12, 70, 71] #[true, true, true, true, true, true, true, true, true, true, true, false, false] (by rfl) hF521 (by kernel_rfl) (by kernel_rfl) (by exact ⟨fun wS hw => by kernel_rfl, fun wS hw => by kernel_rfl, fun wS hw => by kernel_rfl, trivial⟩) (fun _ _ _ _ _ h => h) ⟨_, hS520.pick1⟩ (l' := [(71, nI x515), (70, .agg #[nI (q514.cap), nI (q514.closed), nI (q514.count), nI (q514.start), nI (q514.buf), nI (q514.th), nI (q514.tt), nI (q514.sh), nI (q514.st)]), (12, nB (w69.drew)), (8, nI (if 3 < (K0.length : Int) then 3 else (K0.length : Int))), (7, nP z17 0), (0, .slice pa0 K0.length ca0), (1, nI i1), (2, nI i2)]) (by kernel_rfl) ?_
       intro a523 hF522; clear hF521
       refine any_one 11 (by kernel_rfl) ?_
       have hS524 := hS520.pick5
       clear hS520
       refine op_store 11 #[true, true, true, true, true, true, true, true, true, true, true, true, false] (.agg #[nI (q514.cap), nI (q514.closed), nI (q514.count), nI (q514.start), nI (q514.buf), nI (q514.th), nI (q514.tt), nI (q514.sh), nI (q514.st)]) #[nI (q514.cap), nI (q514.closed), nI (q514.count), nI (q514.start), nI (q514.buf), nI (q514.th), nI (q514.tt), nI (q514.sh), nI (q514.st)] hF522 rfl (by kernel_rfl) rfl rfl rfl rfl (by kernel_rfl) hS524 (by kernel_rfl) (by kernel_rfl) (by kernel_rfl) (l' := [(71, nI x515), (70, .agg #[nI (q514.cap), nI (q514.closed), nI (q514.count), nI (q514.start), nI (q514.buf), nI (q514.th), nI (q514.tt), nI (q514.sh), nI (q514.st)]), (12, nB (w69.drew)), (8, nI (if 3 < (K0.length : Int) then 3 else (K0.length : Int))), (7, nP z17 0), (0, .slice pa0 K0.length ca0), (1, nI i1), (2, nI i2)]) (by kernel_rfl) (by kernel_rfl) ?_
       intro w525 a526 hS527 hF528; clear hF522 hS524
       refine ⟨⟨_, hS527.pick2⟩, ?_⟩
       refine any_many 1 [(12, some (nI x515))] [0, 1, 2, 7, 8, 12] #[true, true, true, true, true, true, true, true, true, true, true, true, true] (by rfl) hF528 (by kernel_rfl) (by kernel_rfl) (by exact ⟨fun wS hw => by kernel_rfl, trivial⟩) (fun _ _ _ _ _ h => h) ⟨_, hS527.pick2⟩ (l' := [(12, nB (w69.drew)), (8, nI (if 3 < (K0.length : Int) then 3 else (K0.length : Int))), (7, nP z17 0), (0, .slice pa0 K0.length ca0), (1, nI i1), (2, nI i2)]) (by kernel_rfl) ?_
       intro a530 hF529; clear hF528
       refine any_done (by kernel_rfl) ?_
       exact thenN ⟨((w69.drew).heap.size), s505, s506, q514.cap, q514.closed, q514.count, q514.start, q514.buf, q514.th, q514.tt, q514.sh, q514.st, hF529, hS527, hm517⟩
 · skip
   refine wp_region_lit ?_
   refine ev_call 43 #[] hF41 rfl rfl (by kernel_rfl) rfl (by kernel_rfl) (fun w => by kernel_rfl) ?_
   obtain ⟨y531, hx532, hm533⟩ := bind1E hm12; clear hm12
   refine (law16_awake.ok hS43 hx532).mono ?_
   rintro _ w534 ⟨rfl, hS536⟩ a535 hF537; clear hF41 hS43
   refine ev_runs 2 hF537 (l' := [(32, .bool (!(y531))), (31, .bool (!(y531))), (30, .bool (y531)), (7, nP z17 0), (0, .slice pa0 K0.length ca0), (1, nI i1), (2, nI i2)]) (w' := w534) (by kernel_rfl) ?_
   intro a539 hF538; clear hF537
   cases hc540 : (!(y531))
   case true =>
    rw [hc540] at hF538
    have hm541 := ifYes hc540 hm533; clear hm533
    refine ev_runK 3 hF538 [0, 1, 2, 7, 35] (l' := [(35, .bool true), (7, nP z17 0), (0, .slice pa0 K0.length ca0), (1, nI i1), (2, nI i2)]) (w' := w534) (by kernel_rfl) ?_
    intro a543 hF542; clear hF538
    refine wpList_nil ?_
    exact thenN ⟨true, hF542, hS536, hm541⟩
   rw [hc540] at hF538
   have hm544 := ifNot hc540 hm533; clear hm533
   refine ev_runK 3 hF538 [0, 1, 2, 7, 35] (l' := [(35, .bool false), (7, nP z17 0), (0, .slice pa0 K0.length ca0), (1, nI i1), (2, nI i2)]) (w' := w534) (by kernel_rfl) ?_
   intro a546 hF545; clear hF538
   refine wpList_nil ?_
   exact thenN ⟨false, hF545, hS536, hm544⟩

end Go.Proofs.YtgejcjcpchofiaaGreat
