/- G17 -/
import Derived.Test.YtgejcjcpchofiaaGreatKG17w
import Derived.Test.YtgejcjcpchofiaaGreatKGShut
import Derived.Deep.LoopGhost
import Derived.KernelRfl
/- The walks of G17, printed by gen/walk.py. -/
namespace Go.Proofs.YtgejcjcpchofiaaGreat
open Go.RowKit
set_option linter.unusedVariables false

def law17_awake.j1 (y138 : Bool) : Option (Bool) := some (y138)
def law17_awake.m (k : Nat) : Option (Bool) := bind4 (law17_made.m k [1] 1) fun s7 s8 L9 L10 => bind3 (shut_Try.m k s7 0) fun L52 x53 s54 => bind3 (law17_ch.m k s54 s8 L9 L10 0) fun x74 s75 s76 => bind3 (shut_Try.m k s75 (IntKind.i64.wrap ((IntKind.i64.wrap (2 * x74)) + 1))) fun L86 x87 s88 => bind3 (law17_ch.m k s88 s76 L9 L10 0) fun x108 s109 s110 => bind3 (shut_Try.m k s109 (IntKind.i64.wrap ((IntKind.i64.wrap (2 * x108)) + 1))) fun L120 x121 s122 => (if (x53 == 5) then (if (x87 == 1) then law17_awake.j1 (x121 == 4) else law17_awake.j1 false) else law17_awake.j1 false)
set_option maxRecDepth 100000 in
set_option maxHeartbeats 1500000 in
theorem law17_awake.ok {w0 w : World} {F0 : List Nat} {ps : List Piece} {k : Nat}  {r0 : Bool} (hS : St w0 F0 (ps) w) (hm : law17_awake.m k = some r0) :
    Calls Tryz.prog 22 #[] w fun e w' => e = .returned (.bool r0) ∧ St w0 F0 (ps) w' := by
 refine ev_enterL 54 [] Tryz.func22 rfl rfl (by simp) ?_
 intro a hF
 have hF0 : Fr 54 a [] := hF; clear hF
 unfold law17_awake.m at hm
 refine wp_seq (wp_region_lit ?_)
 refine ev_runK 1 hF0 [] (l' := []) (w' := w) (by kernel_rfl) ?_
 intro a2 hF1; clear hF0
 refine wpList_nil (thenN (wp_seq (wp_region_lit ?_)))
 refine ev_runs 1 hF1 (l' := [(8, .slice (some ⟨w.heap.size, 0, none⟩) 1 1)]) (w' := w.alloc (.cells #[nI 1] 3)) (by kernel_rfl) ?_
 intro a4 hF3; clear hF1
 have hS6 : St w0 F0 (RowP (.slice (some ⟨w.heap.size, 0, none⟩) 1 1) [1] :: ps) (w.alloc (.cells #[nI 1] 3)) := St.lit hS [1] (by unfold maxLen; simp)
 refine ev_call 21 #[.slice (some ⟨w.heap.size, 0, none⟩) 1 1, nI 1] hF3 rfl rfl (by kernel_rfl) rfl (by kernel_rfl) (fun w => by kernel_rfl) ?_
 obtain ⟨s7, s8, L9, L10, hx11, hm12⟩ := bind4E hm; clear hm
 refine (law17_made.ok hS6 hx11).mono ?_
 rintro _ w13 ⟨z17, z18, z19, z20, z21, z22, z23, z24, z25, z26, rfl, hS15⟩ a14 hF16; clear hF3 hS6
 have hS32 : St w0 F0 (RowP (.slice (some ⟨w.heap.size, 0, none⟩) 1 1) [1] :: BlkP z17 46 #[nP z18 0, nP z20 0, z25, z26] :: HeapP z18 z19 s7 :: RHeapP z20 z21 z22 z23 z24 s8 :: RowP (z25) L9 :: RowP (z26) L10 :: ps) w13 := hS15
 clear hS15
 obtain ⟨hl36, p33, c34, rfl, hp35⟩ := St.shape hS32 4 rfl
 obtain ⟨hl40, p37, c38, rfl, hp39⟩ := St.shape hS32 5 rfl
 refine ev_runK 1 hF16 [1] (l' := [(1, nP z17 0)]) (w' := w13) (by kernel_rfl) ?_
 intro a42 hF41; clear hF16
 refine wpList_nil ?_
 have hS43 := hS32.drop
 clear hS32
 refine thenN (wp_seq (wp_seq (wp_region_lit ?_)))
 refine ev_runK 2 hF41 [1, 11] (l' := [(11, .bool false), (1, nP z17 0)]) (w' := w13) (by kernel_rfl) ?_
 intro a45 hF44; clear hF41
 refine wpList_nil (thenN ?_)
 refine ev_condF hF44 rfl rfl ?_
 refine wp_skip ?_
 have hF46 := hF44.keep [1]
 clear hF44
 refine thenN (wp_seq (wp_region_lit ?_))
 refine ev_runs 3 hF46 (l' := [(15, nP z17 0), (14, nP z17 0), (13, nP z17 0), (1, nP z17 0)]) (w' := w13) (by kernel_rfl) ?_
 intro a48 hF47; clear hF46
 refine ev_one (nP z18 0) w13 hF47 (by kernel_rfl) rfl (by kernel_rfl) (run_loadV rfl rfl (run_loadS rfl rfl (hS43.cell 0 rfl 0 rfl))) (l' := [(16, nP z18 0), (15, nP z17 0), (14, nP z17 0), (13, nP z17 0), (1, nP z17 0)]) (by kernel_rfl) ?_
 intro a50 hF49; clear hF47
 have hS51 := hS43.pick1
 clear hS43
 refine ev_call 23 #[nP z18 0, nI 0] hF49 rfl rfl (by kernel_rfl) rfl (by kernel_rfl) (fun w => by kernel_rfl) ?_
 obtain ⟨L52, x53, s54, hx55, hm56⟩ := bind3E hm12; clear hm12
 refine (shut_Try.ok hS51 hx55).mono ?_
 rintro _ w57 ⟨z61, rfl, hS59⟩ a58 hF60; clear hF49 hS51
 obtain ⟨hl66, p63, c64, rfl, hp65⟩ := St.shape hS59 1 rfl
 refine ev_runK 5 hF60 [1, 3] (l' := [(3, nI x53), (1, nP z17 0)]) (w' := w57) (by kernel_rfl) ?_
 intro a68 hF67; clear hF60
 refine wpList_nil ?_
 have hS69 := hS59.pick1.drop
 clear hS59
 refine thenN (wp_seq ?_)
 -- draws
 have hS70 := hS69.pick1
 clear hS69
 have hS71 := hS70.drew; clear hS70
 refine any_start (fun wS => ∃ qs, St w0 F0 (BlkP z17 46 #[nP z18 0, nP z20 0, .slice p33 L9.length c34, .slice p37 L10.length c38] :: qs) wS) 14 #[false, false, false, false, false, false, false, false, false, false, false, false, false, false] (by kernel_rfl) (by kernel_rfl) (by kernel_rfl) ?_
 refine any_many 5 [(0, some (nP z17 0)), (1, some (nP z17 0)), (2, some (nP z17 0)), (3, some (nP z18 0)), (4, some (nP z17 0))] [1, 3, 5, 20, 24, 25, 26, 27, 28, 29, 30, 31] #[true, true, true, true, true, false, false, false, false, false, false, false, false, false] (by rfl) hF67 (by kernel_rfl) (by kernel_rfl) (by exact ⟨fun wS hw => by kernel_rfl, fun wS hw => by kernel_rfl, fun wS hw => by kernel_rfl, fun wS hw => hw.elim fun qs hw => run_loadV rfl rfl (run_loadS rfl rfl (hw.cell 0 rfl 0 rfl)), fun wS hw => by kernel_rfl, trivial⟩) (fun _ _ _ _ _ h => h) ⟨_, hS71⟩ (l' := [(25, nP z17 0), (24, nP z18 0), (3, nI x53), (1, nP z17 0)]) (by kernel_rfl) ?_
 intro a73 hF72; clear hF67
 refine any_call 5 #[true, true, true, true, true, true, false, false, false, false, false, false, false, false] 63 #[nP z17 0, nI 0] hF72 rfl (by kernel_rfl) rfl rfl (by kernel_rfl) rfl (by kernel_rfl) (fun w => by kernel_rfl) (by kernel_rfl) ?_
 obtain ⟨x74, s75, s76, hx77, hm78⟩ := bind3E hm56; clear hm56
 refine (law17_ch.ok hS71 hx77).mono ?_
 rintro _ w79 ⟨rfl, hS81⟩; clear hS71
 refine ⟨⟨_, hS81⟩, ?_⟩
 intro a80 hF82; clear hF72
 refine any_many 2 [(6, some (nI (IntKind.i64.wrap (2 * x74)))), (7, some (nI (IntKind.i64.wrap ((IntKind.i64.wrap (2 * x74)) + 1))))] [1, 3, 5, 20, 24, 28, 29, 30, 31] #[true, true, true, true, true, true, true, true, false, false, false, false, false, false] (by rfl) hF82 (by kernel_rfl) (by kernel_rfl) (by exact ⟨fun wS hw => by kernel_rfl, fun wS hw => by kernel_rfl, trivial⟩) (fun _ _ _ _ _ h => h) ⟨_, hS81⟩ (l' := [(28, nI (IntKind.i64.wrap ((IntKind.i64.wrap (2 * x74)) + 1))), (24, nP z18 0), (3, nI x53), (1, nP z17 0)]) (by kernel_rfl) ?_
 intro a84 hF83; clear hF82
 have hS85 := hS81.pick1
 clear hS81
 refine any_call 8 #[true, true, true, true, true, true, true, true, true, false, false, false, false, false] 23 #[nP z18 0, nI (IntKind.i64.wrap ((IntKind.i64.wrap (2 * x74)) + 1))] hF83 rfl (by kernel_rfl) rfl rfl (by kernel_rfl) rfl (by kernel_rfl) (fun w => by kernel_rfl) (by kernel_rfl) ?_
 obtain ⟨L86, x87, s88, hx89, hm90⟩ := bind3E hm78; clear hm78
 refine (shut_Try.ok hS85 hx89).mono ?_
 rintro _ w91 ⟨z95, rfl, hS93⟩; clear hS85
 obtain ⟨hl100, p97, c98, rfl, hp99⟩ := St.shape hS93 1 rfl
 refine ⟨⟨_, hS93.pick2⟩, ?_⟩
 intro a92 hF94; clear hF83
 refine any_many 5 [(9, some (.tuple #[.slice p97 L86.length c98, nI x87])), (10, some (.slice p97 L86.length c98)), (11, some (nI x87)), (12, some (.slice p97 L86.length c98)), (13, some (nI x87))] [1, 3, 5] #[true, true, true, true, true, true, true, true, true, true, true, true, true, true] (by rfl) hF94 (by kernel_rfl) (by kernel_rfl) (by exact ⟨fun wS hw => by kernel_rfl, fun wS hw => by kernel_rfl, fun wS hw => by kernel_rfl, fun wS hw => by kernel_rfl, fun wS hw => by kernel_rfl, trivial⟩) (fun _ _ _ _ _ h => h) ⟨_, hS93.pick2⟩ (l' := [(5, nI x87), (3, nI x53), (1, nP z17 0)]) (by kernel_rfl) ?_
 intro a102 hF101; clear hF94
 refine any_done (by kernel_rfl) ?_
 have hS103 := hS93.pick1.drop
 clear hS93
 refine thenN (wp_seq ?_)
 -- draws
 have hS104 := hS103.pick1
 clear hS103
 have hS105 := hS104.drew; clear hS104
 refine any_start (fun wS => ∃ qs, St w0 F0 (BlkP z17 46 #[nP z18 0, nP z20 0, .slice p33 L9.length c34, .slice p37 L10.length c38] :: qs) wS) 14 #[false, false, false, false, false, false, false, false, false, false, false, false, false, false] (by kernel_rfl) (by kernel_rfl) (by kernel_rfl) ?_
 refine any_many 5 [(0, some (nP z17 0)), (1, some (nP z17 0)), (2, some (nP z17 0)), (3, some (nP z18 0)), (4, some (nP z17 0))] [3, 5, 7, 32, 36, 37, 38, 39, 40, 41, 42, 43] #[true, true, true, true, true, false, false, false, false, false, false, false, false, false] (by rfl) hF101 (by kernel_rfl) (by kernel_rfl) (by exact ⟨fun wS hw => by kernel_rfl, fun wS hw => by kernel_rfl, fun wS hw => by kernel_rfl, fun wS hw => hw.elim fun qs hw => run_loadV rfl rfl (run_loadS rfl rfl (hw.cell 0 rfl 0 rfl)), fun wS hw => by kernel_rfl, trivial⟩) (fun _ _ _ _ _ h => h) ⟨_, hS105⟩ (l' := [(37, nP z17 0), (36, nP z18 0), (5, nI x87), (3, nI x53)]) (by kernel_rfl) ?_
 intro a107 hF106; clear hF101
 refine any_call 5 #[true, true, true, true, true, true, false, false, false, false, false, false, false, false] 63 #[nP z17 0, nI 0] hF106 rfl (by kernel_rfl) rfl rfl (by kernel_rfl) rfl (by kernel_rfl) (fun w => by kernel_rfl) (by kernel_rfl) ?_
 obtain ⟨x108, s109, s110, hx111, hm112⟩ := bind3E hm90; clear hm90
 refine (law17_ch.ok hS105 hx111).mono ?_
 rintro _ w113 ⟨rfl, hS115⟩; clear hS105
 refine ⟨⟨_, hS115⟩, ?_⟩
 intro a114 hF116; clear hF106
 refine any_many 2 [(6, some (nI (IntKind.i64.wrap (2 * x108)))), (7, some (nI (IntKind.i64.wrap ((IntKind.i64.wrap (2 * x108)) + 1))))] [3, 5, 7, 32, 36, 40, 41, 42, 43] #[true, true, true, true, true, true, true, true, false, false, false, false, false, false] (by rfl) hF116 (by kernel_rfl) (by kernel_rfl) (by exact ⟨fun wS hw => by kernel_rfl, fun wS hw => by kernel_rfl, trivial⟩) (fun _ _ _ _ _ h => h) ⟨_, hS115⟩ (l' := [(40, nI (IntKind.i64.wrap ((IntKind.i64.wrap (2 * x108)) + 1))), (36, nP z18 0), (5, nI x87), (3, nI x53)]) (by kernel_rfl) ?_
 intro a118 hF117; clear hF116
 have hS119 := hS115.pick1
 clear hS115
 refine any_call 8 #[true, true, true, true, true, true, true, true, true, false, false, false, false, false] 23 #[nP z18 0, nI (IntKind.i64.wrap ((IntKind.i64.wrap (2 * x108)) + 1))] hF117 rfl (by kernel_rfl) rfl rfl (by kernel_rfl) rfl (by kernel_rfl) (fun w => by kernel_rfl) (by kernel_rfl) ?_
 obtain ⟨L120, x121, s122, hx123, hm124⟩ := bind3E hm112; clear hm112
 refine (shut_Try.ok hS119 hx123).mono ?_
 rintro _ w125 ⟨z129, rfl, hS127⟩; clear hS119
 obtain ⟨hl134, p131, c132, rfl, hp133⟩ := St.shape hS127 1 rfl
 refine ⟨⟨_, hS127.pick2⟩, ?_⟩
 intro a126 hF128; clear hF117
 refine any_many 5 [(9, some (.tuple #[.slice p131 L120.length c132, nI x121])), (10, some (.slice p131 L120.length c132)), (11, some (nI x121)), (12, some (.slice p131 L120.length c132)), (13, some (nI x121))] [3, 5, 7] #[true, true, true, true, true, true, true, true, true, true, true, true, true, true] (by rfl) hF128 (by kernel_rfl) (by kernel_rfl) (by exact ⟨fun wS hw => by kernel_rfl, fun wS hw => by kernel_rfl, fun wS hw => by kernel_rfl, fun wS hw => by kernel_rfl, fun wS hw => by kernel_rfl, trivial⟩) (fun _ _ _ _ _ h => h) ⟨_, hS127.pick2⟩ (l' := [(7, nI x121), (5, nI x87), (3, nI x53)]) (by kernel_rfl) ?_
 intro a136 hF135; clear hF128
 refine any_done (by kernel_rfl) ?_
 have hS137 := hS127.drop.drop.drop.drop.drop.drop
 clear hS127
 refine thenN (wp_seq ?_)
 refine joinQ (fun aI wI => ∃ (y138 : Bool), Fr 54 aI [(0, .bool (y138))] ∧ St w0 F0 (ps) wI ∧ law17_awake.j1 y138 = some r0) ?_ ?_
 rotate_left
 · rintro a140 w141 ⟨y138, hF142, hS143, hm144⟩
   clear hF135 hS137 hm124
   unfold law17_awake.j1 at hm144
   refine thenN ?_
   refine wp_ret ?_
   obtain rfl := Option.some.inj hm144
   refine ev_ret hF142 [0] (.bool (y138)) rfl rfl rfl ?_
   exact ⟨rfl, hS143⟩
 · skip
   refine wp_region_lit ?_
   refine ev_runs 3 hF135 (l' := [(46, .bool (x53 == 5)), (45, .bool (x53 == 5)), (44, nI x53), (7, nI x121), (5, nI x87), (3, nI x53)]) (w' := w125) (by kernel_rfl) ?_
   intro a148 hF147; clear hF135
   cases hc149 : (x53 == 5)
   case true =>
    rw [hc149] at hF147
    have hm150 := ifYes hc149 hm124; clear hm124
    refine ev_runs 4 hF147 (l' := [(50, .bool (x87 == 1)), (49, .bool (x87 == 1)), (48, .bool (x87 == 1)), (47, nI x87), (46, .bool true), (45, .bool true), (44, nI x53), (7, nI x121), (5, nI x87), (3, nI x53)]) (w' := w125) (by kernel_rfl) ?_
    intro a152 hF151; clear hF147
    cases hc153 : (x87 == 1)
    case true =>
     rw [hc153] at hF151
     have hm154 := ifYes hc153 hm150; clear hm150
     refine ev_runK 4 hF151 [0] (l' := [(0, .bool (x121 == 4))]) (w' := w125) (by kernel_rfl) ?_
     intro a156 hF155; clear hF151
     refine wpList_nil ?_
     exact thenN ⟨x121 == 4, hF155, hS137, hm154⟩
    rw [hc153] at hF151
    have hm157 := ifNot hc153 hm150; clear hm150
    refine ev_runK 4 hF151 [0] (l' := [(0, .bool false)]) (w' := w125) (by kernel_rfl) ?_
    intro a159 hF158; clear hF151
    refine wpList_nil ?_
    exact thenN ⟨false, hF158, hS137, hm157⟩
   rw [hc149] at hF147
   have hm160 := ifNot hc149 hm124; clear hm124
   refine ev_runK 8 hF147 [0] (l' := [(0, .bool false)]) (w' := w125) (by kernel_rfl) ?_
   intro a162 hF161; clear hF147
   refine wpList_nil ?_
   exact thenN ⟨false, hF161, hS137, hm160⟩

end Go.Proofs.YtgejcjcpchofiaaGreat
