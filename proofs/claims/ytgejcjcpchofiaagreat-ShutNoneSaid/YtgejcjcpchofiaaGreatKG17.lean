/- G17 GShutNone ShutNoneW ShutNone -/
import Derived.Test.YtgejcjcpchofiaaGreatKG17w
import Derived.Test.YtgejcjcpchofiaaGreatKGShut
import Derived.Deep.LoopGhost
import Derived.KernelRfl
import Derived.Test.YtgejcjcpchofiaaGreatRows
import Derived.WalkKit
import Derived.WalkSpells
import Derived.WalkLawsBesides
import Derived.ProofKit
import Derived.OpenShut
/- The walks of G17, printed by gen/walk.py. -/
namespace Go.Proofs.YtgejcjcpchofiaaGreat
open Go.RowKit
set_option linter.unusedVariables false

def law17_awake.j1 (y138 : Bool) : Option (Bool) := some (y138)
def law17_awake.m (k : Nat) : Option (Bool) := bind4 (law17_made.m k [1] 1) fun s7 s8 L9 L10 => bind3 (shut_Try.m k s7 0) fun L52 x53 s54 => bind3 (law17_ch.m k s54 s8 L9 L10 0) fun x74 s75 s76 => bind3 (shut_Try.m k s75 (IntKind.i64.wrap ((IntKind.i64.wrap (2 * x74)) + 1))) fun L86 x87 s88 => bind3 (law17_ch.m k s88 s76 L9 L10 0) fun x108 s109 s110 => bind3 (shut_Try.m k s109 (IntKind.i64.wrap ((IntKind.i64.wrap (2 * x108)) + 1))) fun L120 x121 s122 => (if (x53 == 5) then (if (x87 == 1) then law17_awake.j1 (x121 == 4) else law17_awake.j1 false) else law17_awake.j1 false)
set_option maxRecDepth 100000 in
set_option maxHeartbeats 1500000 in
theorem law17_awake.ok {w0 w : World} {F0 : List Nat} {ps : List Piece} {k : Nat}  {r0 : Bool} (hS : St w0 F0 (ps) w) (hm : law17_awake.m k = some r0) :
    Calls Tryz.prog 22 #[] w fun e w' => e = .returned (.bool r0) ∧ St w0 F0 (ps) w' := by
 refine ev_enterL 54 [] Tryz.func22 rfl rfl (by simp) ?_
 intro a hF
 have hF0 : Fr 54 a [] := hF; clear hF
 unfold law17_awake.m at hm
 refine wp_seq (wp_region_lit ?_)
 refine ev_runK 1 hF0 [] (l' := []) (w' := w) (by kernel_rfl) ?_
 intro a2 hF1; clear hF0
 refine wpList_nil (thenN (wp_seq (wp_region_lit ?_)))
 refine ev_runs 1 hF1 (l' := [(8, .slice (some ⟨w.heap.size, 0, none⟩) 1 1)]) (w' := w.alloc (.cells #[nI 1] 3)) (by kernel_rfl) ?_
 intro a4 hF3; clear hF1
 have hS6 : St w0 F0 (RowP (.slice (some ⟨w.heap.size, 0, none⟩) 1 1) [1] :: ps) (w.alloc (.cells #[nI 1] 3)) := St.lit hS [1] (by unfold maxLen; simp)
 refine ev_call 21 #[.slice (some ⟨w.heap.size, 0, none⟩) 1 1, nI 1] hF3 rfl rfl (by kernel_rfl) rfl (by kernel_rfl) (fun w => by kernel_rfl) ?_
 obtain ⟨s7, s8, L9, L10, hx11, hm12⟩ := bind4E hm; clear hm
 refine (law17_made.ok hS6 hx11).mono ?_
 rintro _ w13 ⟨z17, z18, z19, z20, z21, z22, z23, z24, z25, z26, rfl, hS15⟩ a14 hF16; clear hF3 hS6
 have hS32 : St w0 F0 (RowP (.slice (some ⟨w.heap.size, 0, none⟩) 1 1) [1] :: BlkP z17 46 #[nP z18 0, nP z20 0, z25, z26] :: HeapP z18 z19 s7 :: RHeapP z20 z21 z22 z23 z24 s8 :: RowP (z25) L9 :: RowP (z26) L10 :: ps) w13 := hS15
 clear hS15
 obtain ⟨hl36, p33, c34, rfl, hp35⟩ := St.shape hS32 4 rfl
 obtain ⟨hl40, p37, c38, rfl, hp39⟩ := St.shape hS32 5 rfl
 refine ev_runK 1 hF16 [1] (l' := [(1, nP z17 0)]) (w' := w13) (by kernel_rfl) ?_
 intro a42 hF41; clear hF16
 refine wpList_nil ?_
 have hS43 := hS32.drop
 clear hS32
 refine thenN (wp_seq (wp_seq (wp_region_lit ?_)))
 refine ev_runK 2 hF41 [1, 11] (l' := [(11, .bool false), (1, nP z17 0)]) (w' := w13) (by kernel_rfl) ?_
 intro a45 hF44; clear hF41
 refine wpList_nil (thenN ?_)
 refine ev_condF hF44 rfl rfl ?_
 refine wp_skip ?_
 have hF46 := hF44.keep [1]
 clear hF44
 refine thenN (wp_seq (wp_region_lit ?_))
 refine ev_runs 3 hF46 (l' := [(15, nP z17 0), (14, nP z17 0), (13, nP z17 0), (1, nP z17 0)]) (w' := w13) (by kernel_rfl) ?_
 intro a48 hF47; clear hF46
 refine ev_one (nP z18 0) w13 hF47 (by kernel_rfl) rfl (by kernel_rfl) (run_loadV rfl rfl (run_loadS rfl rfl (hS43.cell 0 rfl 0 rfl))) (l' := [(16, nP z18 0), (15, nP z17 0), (14, nP z17 0), (13, nP z17 0), (1, nP z17 0)]) (by kernel_rfl) ?_
 intro a50 hF49; clear hF47
 have hS51 := hS43.pick1
 clear hS43
 refine ev_call 23 #[nP z18 0, nI 0] hF49 rfl rfl (by kernel_rfl) rfl (by kernel_rfl) (fun w => by kernel_rfl) ?_
 obtain ⟨L52, x53, s54, hx55, hm56⟩ := bind3E hm12; clear hm12
 refine (shut_Try.ok hS51 hx55).mono ?_
 rintro _ w57 ⟨z61, rfl, hS59⟩ a58 hF60; clear hF49 hS51
 obtain ⟨hl66, p63, c64, rfl, hp65⟩ := St.shape hS59 1 rfl
 refine ev_runK 5 hF60 [1, 3] (l' := [(3, nI x53), (1, nP z17 0)]) (w' := w57) (by kernel_rfl) ?_
 intro a68 hF67; clear hF60
 refine wpList_nil ?_
 have hS69 := hS59.pick1.drop
 clear hS59
 refine thenN (wp_seq ?_)
 -- draws
 have hS70 := hS69.pick1
 clear hS69
 have hS71 := hS70.drew; clear hS70
 refine any_start (fun wS => ∃ qs, St w0 F0 (BlkP z17 46 #[nP z18 0, nP z20 0, .slice p33 L9.length c34, .slice p37 L10.length c38] :: qs) wS) 14 #[false, false, false, false, false, false, false, false, false, false, false, false, false, false] (by kernel_rfl) (by kernel_rfl) (by kernel_rfl) ?_
 refine any_many 5 [(0, some (nP z17 0)), (1, some (nP z17 0)), (2, some (nP z17 0)), (3, some (nP z18 0)), (4, some (nP z17 0))] [1, 3, 5, 20, 24, 25, 26, 27, 28, 29, 30, 31] #[true, true, true, true, true, false, false, false, false, false, false, false, false, false] (by rfl) hF67 (by kernel_rfl) (by kernel_rfl) (by exact (And.intro (fun wS hw => by kernel_rfl) (And.intro (fun wS hw => by kernel_rfl) (And.intro (fun wS hw => by kernel_rfl) (And.intro (fun wS hw => hw.elim fun qs hw => run_loadV rfl rfl (run_loadS rfl rfl (hw.cell 0 rfl 0 rfl))) (And.intro (fun wS hw => by kernel_rfl) trivial)))))) (fun _ _ _ _ _ h => h) ⟨_, hS71⟩ (l' := [(25, nP z17 0), (24, nP z18 0), (3, nI x53), (1, nP z17 0)]) (by kernel_rfl) ?_
 intro a73 hF72; clear hF67
 refine any_call 5 #[true, true, true, true, true, true, false, false, false, false, false, false, false, false] 63 #[nP z17 0, nI 0] hF72 rfl (by kernel_rfl) rfl rfl (by kernel_rfl) rfl (by kernel_rfl) (fun w => by kernel_rfl) (by kernel_rfl) ?_
 obtain ⟨x74, s75, s76, hx77, hm78⟩ := bind3E hm56; clear hm56
 refine (law17_ch.ok hS71 hx77).mono ?_
 rintro _ w79 ⟨rfl, hS81⟩; clear hS71
 refine ⟨⟨_, hS81⟩, ?_⟩
 intro a80 hF82; clear hF72
 refine any_many 2 [(6, some (nI (IntKind.i64.wrap (2 * x74)))), (7, some (nI (IntKind.i64.wrap ((IntKind.i64.wrap (2 * x74)) + 1))))] [1, 3, 5, 20, 24, 28, 29, 30, 31] #[true, true, true, true, true, true, true, true, false, false, false, false, false, false] (by rfl) hF82 (by kernel_rfl) (by kernel_rfl) (by exact (And.intro (fun wS hw => by kernel_rfl) (And.intro (fun wS hw => by kernel_rfl) trivial))) (fun _ _ _ _ _ h => h) ⟨_, hS81⟩ (l' := [(28, nI (IntKind.i64.wrap ((IntKind.i64.wrap (2 * x74)) + 1))), (24, nP z18 0), (3, nI x53), (1, nP z17 0)]) (by kernel_rfl) ?_
 intro a84 hF83; clear hF82
 have hS85 := hS81.pick1
 clear hS81
 refine any_call 8 #[true, true, true, true, true, true, true, true, true, false, false, false, false, false] 23 #[nP z18 0, nI (IntKind.i64.wrap ((IntKind.i64.wrap (2 * x74)) + 1))] hF83 rfl (by kernel_rfl) rfl rfl (by kernel_rfl) rfl (by kernel_rfl) (fun w => by kernel_rfl) (by kernel_rfl) ?_
 obtain ⟨L86, x87, s88, hx89, hm90⟩ := bind3E hm78; clear hm78
 refine (shut_Try.ok hS85 hx89).mono ?_
 rintro _ w91 ⟨z95, rfl, hS93⟩; clear hS85
 obtain ⟨hl100, p97, c98, rfl, hp99⟩ := St.shape hS93 1 rfl
 refine ⟨⟨_, hS93.pick2⟩, ?_⟩
 intro a92 hF94; clear hF83
 refine any_many 5 [(9, some (.tuple #[.slice p97 L86.length c98, nI x87])), (10, some (.slice p97 L86.length c98)), (11, some (nI x87)), (12, some (.slice p97 L86.length c98)), (13, some (nI x87))] [1, 3, 5] #[true, true, true, true, true, true, true, true, true, true, true, true, true, true] (by rfl) hF94 (by kernel_rfl) (by kernel_rfl) (by exact (And.intro (fun wS hw => by kernel_rfl) (And.intro (fun wS hw => by kernel_rfl) (And.intro (fun wS hw => by kernel_rfl) (And.intro (fun wS hw => by kernel_rfl) (And.intro (fun wS hw => by kernel_rfl) trivial)))))) (fun _ _ _ _ _ h => h) ⟨_, hS93.pick2⟩ (l' := [(5, nI x87), (3, nI x53), (1, nP z17 0)]) (by kernel_rfl) ?_
 intro a102 hF101; clear hF94
 refine any_done (by kernel_rfl) ?_
 have hS103 := hS93.pick1.drop
 clear hS93
 refine thenN (wp_seq ?_)
 -- draws
 have hS104 := hS103.pick1
 clear hS103
 have hS105 := hS104.drew; clear hS104
 refine any_start (fun wS => ∃ qs, St w0 F0 (BlkP z17 46 #[nP z18 0, nP z20 0, .slice p33 L9.length c34, .slice p37 L10.length c38] :: qs) wS) 14 #[false, false, false, false, false, false, false, false, false, false, false, false, false, false] (by kernel_rfl) (by kernel_rfl) (by kernel_rfl) ?_
 refine any_many 5 [(0, some (nP z17 0)), (1, some (nP z17 0)), (2, some (nP z17 0)), (3, some (nP z18 0)), (4, some (nP z17 0))] [3, 5, 7, 32, 36, 37, 38, 39, 40, 41, 42, 43] #[true, true, true, true, true, false, false, false, false, false, false, false, false, false] (by rfl) hF101 (by kernel_rfl) (by kernel_rfl) (by exact (And.intro (fun wS hw => by kernel_rfl) (And.intro (fun wS hw => by kernel_rfl) (And.intro (fun wS hw => by kernel_rfl) (And.intro (fun wS hw => hw.elim fun qs hw => run_loadV rfl rfl (run_loadS rfl rfl (hw.cell 0 rfl 0 rfl))) (And.intro (fun wS hw => by kernel_rfl) trivial)))))) (fun _ _ _ _ _ h => h) ⟨_, hS105⟩ (l' := [(37, nP z17 0), (36, nP z18 0), (5, nI x87), (3, nI x53)]) (by kernel_rfl) ?_
 intro a107 hF106; clear hF101
 refine any_call 5 #[true, true, true, true, true, true, false, false, false, false, false, false, false, false] 63 #[nP z17 0, nI 0] hF106 rfl (by kernel_rfl) rfl rfl (by kernel_rfl) rfl (by kernel_rfl) (fun w => by kernel_rfl) (by kernel_rfl) ?_
 obtain ⟨x108, s109, s110, hx111, hm112⟩ := bind3E hm90; clear hm90
 refine (law17_ch.ok hS105 hx111).mono ?_
 rintro _ w113 ⟨rfl, hS115⟩; clear hS105
 refine ⟨⟨_, hS115⟩, ?_⟩
 intro a114 hF116; clear hF106
 refine any_many 2 [(6, some (nI (IntKind.i64.wrap (2 * x108)))), (7, some (nI (IntKind.i64.wrap ((IntKind.i64.wrap (2 * x108)) + 1))))] [3, 5, 7, 32, 36, 40, 41, 42, 43] #[true, true, true, true, true, true, true, true, false, false, false, false, false, false] (by rfl) hF116 (by kernel_rfl) (by kernel_rfl) (by exact (And.intro (fun wS hw => by kernel_rfl) (And.intro (fun wS hw => by kernel_rfl) trivial))) (fun _ _ _ _ _ h => h) ⟨_, hS115⟩ (l' := [(40, nI (IntKind.i64.wrap ((IntKind.i64.wrap (2 * x108)) + 1))), (36, nP z18 0), (5, nI x87), (3, nI x53)]) (by kernel_rfl) ?_
 intro a118 hF117; clear hF116
 have hS119 := hS115.pick1
 clear hS115
 refine any_call 8 #[true, true, true, true, true, true, true, true, true, false, false, false, false, false] 23 #[nP z18 0, nI (IntKind.i64.wrap ((IntKind.i64.wrap (2 * x108)) + 1))] hF117 rfl (by kernel_rfl) rfl rfl (by kernel_rfl) rfl (by kernel_rfl) (fun w => by kernel_rfl) (by kernel_rfl) ?_
 obtain ⟨L120, x121, s122, hx123, hm124⟩ := bind3E hm112; clear hm112
 refine (shut_Try.ok hS119 hx123).mono ?_
 rintro _ w125 ⟨z129, rfl, hS127⟩; clear hS119
 obtain ⟨hl134, p131, c132, rfl, hp133⟩ := St.shape hS127 1 rfl
 refine ⟨⟨_, hS127.pick2⟩, ?_⟩
 intro a126 hF128; clear hF117
 refine any_many 5 [(9, some (.tuple #[.slice p131 L120.length c132, nI x121])), (10, some (.slice p131 L120.length c132)), (11, some (nI x121)), (12, some (.slice p131 L120.length c132)), (13, some (nI x121))] [3, 5, 7] #[true, true, true, true, true, true, true, true, true, true, true, true, true, true] (by rfl) hF128 (by kernel_rfl) (by kernel_rfl) (by exact (And.intro (fun wS hw => by kernel_rfl) (And.intro (fun wS hw => by kernel_rfl) (And.intro (fun wS hw => by kernel_rfl) (And.intro (fun wS hw => by kernel_rfl) (And.intro (fun wS hw => by kernel_rfl) trivial)))))) (fun _ _ _ _ _ h => h) ⟨_, hS127.pick2⟩ (l' := [(7, nI x121), (5, nI x87), (3, nI x53)]) (by kernel_rfl) ?_
 intro a136 hF135; clear hF128
 refine any_done (by kernel_rfl) ?_
 have hS137 := hS127.drop.drop.drop.drop.drop.drop
 clear hS127
 refine thenN (wp_seq ?_)
 refine joinQ (fun aI wI => ∃ (y138 : Bool), Fr 54 aI [(0, .bool (y138))] ∧ St w0 F0 (ps) wI ∧ law17_awake.j1 y138 = some r0) ?_ ?_
 rotate_left
 · rintro a140 w141 ⟨y138, hF142, hS143, hm144⟩
   clear hF135 hS137 hm124
   unfold law17_awake.j1 at hm144
   refine thenN ?_
   refine wp_ret ?_
   obtain rfl := Option.some.inj hm144
   refine ev_ret hF142 [0] (.bool (y138)) rfl rfl rfl ?_
   exact ⟨rfl, hS143⟩
 · skip
   refine wp_region_lit ?_
   refine ev_runs 3 hF135 (l' := [(46, .bool (x53 == 5)), (45, .bool (x53 == 5)), (44, nI x53), (7, nI x121), (5, nI x87), (3, nI x53)]) (w' := w125) (by kernel_rfl) ?_
   intro a148 hF147; clear hF135
   cases hc149 : (x53 == 5) with
   | true =>
    rw [hc149] at hF147
    have hm150 := ifYes hc149 hm124; clear hm124
    refine ev_runs 4 hF147 (l' := [(50, .bool (x87 == 1)), (49, .bool (x87 == 1)), (48, .bool (x87 == 1)), (47, nI x87), (46, .bool true), (45, .bool true), (44, nI x53), (7, nI x121), (5, nI x87), (3, nI x53)]) (w' := w125) (by kernel_rfl) ?_
    intro a152 hF151; clear hF147
    cases hc153 : (x87 == 1) with
    | true =>
     rw [hc153] at hF151
     have hm154 := ifYes hc153 hm150; clear hm150
     refine ev_runK 4 hF151 [0] (l' := [(0, .bool (x121 == 4))]) (w' := w125) (by kernel_rfl) ?_
     intro a156 hF155; clear hF151
     refine wpList_nil ?_
     exact thenN ⟨x121 == 4, hF155, hS137, hm154⟩
    | false =>
     rw [hc153] at hF151
     have hm157 := ifNot hc153 hm150; clear hm150
     refine ev_runK 4 hF151 [0] (l' := [(0, .bool false)]) (w' := w125) (by kernel_rfl) ?_
     intro a159 hF158; clear hF151
     refine wpList_nil ?_
     exact thenN ⟨false, hF158, hS137, hm157⟩
   | false =>
    rw [hc149] at hF147
    have hm160 := ifNot hc149 hm124; clear hm124
    refine ev_runK 8 hF147 [0] (l' := [(0, .bool false)]) (w' := w125) (by kernel_rfl) ?_
    intro a162 hF161; clear hF147
    refine wpList_nil ?_
    exact thenN ⟨false, hF161, hS137, hm160⟩

end Go.Proofs.YtgejcjcpchofiaaGreat
/- The walks of GShutNone, printed by gen/walk.py. -/
namespace Go.Proofs.YtgejcjcpchofiaaGreat
open Go.RowKit
set_option linter.unusedVariables false

def ShutNone.j2 (y132 : Bool) : Option (Bool) := some (y132)
def ShutNone.j1 (i0 : Int) (k : Nat) (s7 : HSt) (s8 : HSt) (L9 : List Int) (L10 : List Int) (y43 : Bool) : Option (Bool) := (if (y43) then some (false) else bind3 (law17_gor.m k s7 s8 L9 L10 0) fun x62 s63 s64 => bind3 (shut_Try.m k s63 (IntKind.i64.wrap ((IntKind.i64.wrap (2 * x62)) + 1))) fun L74 x75 s76 => bind3 (shut_Try.m k s76 2) fun L96 x97 s98 => bind2 (shut_TryN.m k i0) fun L116 x117 => (if (x75 == 6) then (if (x97 == 6) then (if (x117 == 6) then (if ((L116.length : Int) == 0) then bind3 (law17_gor.m k s98 s64 L9 L10 0) fun x162 s163 s164 => bind2 (wake_Park.m k s163 x162 []) fun x174 s175 => ShutNone.j2 (x174 == 0) else ShutNone.j2 false) else ShutNone.j2 false) else ShutNone.j2 false) else ShutNone.j2 false))
def ShutNone.m (k : Nat) (i0 : Int) : Option (Bool) := bind4 (law17_made.m k [0] 1) fun s7 s8 L9 L10 => bind1 (law17_awake.m k ) fun y201 => (if (!(y201)) then ShutNone.j1 i0 k s7 s8 L9 L10 true else ShutNone.j1 i0 k s7 s8 L9 L10 false)
set_option maxRecDepth 100000 in
set_option maxHeartbeats 1500000 in
theorem ShutNone.ok {w0 w : World} {F0 : List Nat} {ps : List Piece} {k : Nat} {i0 : Int} {r0 : Bool} (hS : St w0 F0 (ps) w) (hm : ShutNone.m k i0 = some r0) :
    Calls Tryz.prog 4 #[nI i0] w fun e w' => e = .returned (.bool r0) ∧ St w0 F0 (ps) w' := by
 refine ev_enterL 68 [nI i0] Tryz.func4 rfl rfl (by simp) ?_
 intro a hF
 have hF0 : Fr 68 a [(0, nI i0)] := hF; clear hF
 unfold ShutNone.m at hm
 refine wp_seq (wp_region_lit ?_)
 refine ev_runK 1 hF0 [0] (l' := [(0, nI i0)]) (w' := w) (by kernel_rfl) ?_
 intro a2 hF1; clear hF0
 refine wpList_nil (thenN (wp_seq (wp_region_lit ?_)))
 refine ev_runs 1 hF1 (l' := [(10, .slice (some ⟨w.heap.size, 0, none⟩) 1 1), (0, nI i0)]) (w' := w.alloc (.cells #[nI 0] 3)) (by kernel_rfl) ?_
 intro a4 hF3; clear hF1
 have hS6 : St w0 F0 (RowP (.slice (some ⟨w.heap.size, 0, none⟩) 1 1) [0] :: ps) (w.alloc (.cells #[nI 0] 3)) := St.lit hS [0] (by unfold maxLen; simp)
 refine ev_call 21 #[.slice (some ⟨w.heap.size, 0, none⟩) 1 1, nI 1] hF3 rfl rfl (by kernel_rfl) rfl (by kernel_rfl) (fun w => by kernel_rfl) ?_
 obtain ⟨s7, s8, L9, L10, hx11, hm12⟩ := bind4E hm; clear hm
 refine (law17_made.ok hS6 hx11).mono ?_
 rintro _ w13 ⟨z17, z18, z19, z20, z21, z22, z23, z24, z25, z26, rfl, hS15⟩ a14 hF16; clear hF3 hS6
 obtain ⟨hl35, p32, c33, rfl, hp34⟩ := St.shape hS15 4 rfl
 obtain ⟨hl39, p36, c37, rfl, hp38⟩ := St.shape hS15 5 rfl
 refine ev_runK 1 hF16 [0, 3] (l' := [(3, nP z17 0), (0, nI i0)]) (w' := w13) (by kernel_rfl) ?_
 intro a41 hF40; clear hF16
 refine wpList_nil ?_
 have hS42 := hS15.drop
 clear hS15
 refine thenN (wp_seq (wp_seq ?_))
 refine joinQ (fun aI wI => ∃ (y43 : Bool), Fr 68 aI [(17, .bool (y43)), (3, nP z17 0), (0, nI i0)] ∧ St w0 F0 (BlkP z17 46 #[nP z18 0, nP z20 0, .slice p32 L9.length c33, .slice p36 L10.length c37] :: HeapP z18 z19 s7 :: RHeapP z20 z21 z22 z23 z24 s8 :: RowP (.slice p32 L9.length c33) L9 :: RowP (.slice p36 L10.length c37) L10 :: ps) wI ∧ ShutNone.j1 i0 k s7 s8 L9 L10 y43 = some r0) ?_ ?_
 rotate_left
 · rintro a45 w46 ⟨y43, hF47, hS48, hm49⟩
   clear hF40 hS42 hm12
   unfold ShutNone.j1 at hm49
   refine thenN ?_
   cases hc51 : (y43) with
   | true =>
    rw [hc51] at hF47
    have hm52 := ifYes hc51 hm49; clear hm49
    refine ev_condT hF47 rfl rfl ?_
    refine wp_seq (wp_region_lit ?_)
    refine ev_runK 1 hF47 [2] (l' := [(2, .bool false)]) (w' := w46) (by kernel_rfl) ?_
    intro a54 hF53; clear hF47
    refine wpList_nil ?_
    have hS55 := hS48.drop.drop.drop.drop.drop
    clear hS48
    refine thenN ?_
    refine wp_ret ?_
    refine thenR ?_
    obtain rfl := Option.some.inj hm52
    refine ev_ret hF53 [2] (.bool false) rfl rfl rfl ?_
    exact ⟨rfl, hS55⟩
   | false =>
    rw [hc51] at hF47
    have hm57 := ifNot hc51 hm49; clear hm49
    refine ev_condF hF47 rfl rfl ?_
    refine wp_skip ?_
    have hF58 := hF47.keep [0, 3]
    clear hF47
    refine thenN (wp_seq ?_)
    -- draws
    have hS59 := hS48.drew; clear hS48
    refine any_start (fun wS => ∃ qs, St w0 F0 (BlkP z17 46 #[nP z18 0, nP z20 0, .slice p32 L9.length c33, .slice p36 L10.length c37] :: qs) wS) 14 #[false, false, false, false, false, false, false, false, false, false, false, false, false, false] (by kernel_rfl) (by kernel_rfl) (by kernel_rfl) ?_
    refine any_many 5 [(0, some (nP z17 0)), (1, some (nP z17 0)), (2, some (nP z17 0)), (3, some (nP z18 0)), (4, some (nP z17 0))] [0, 3, 5, 18, 22, 23, 24, 25, 26, 27, 28, 29] #[true, true, true, true, true, false, false, false, false, false, false, false, false, false] (by rfl) hF58 (by kernel_rfl) (by kernel_rfl) (by exact (And.intro (fun wS hw => by kernel_rfl) (And.intro (fun wS hw => by kernel_rfl) (And.intro (fun wS hw => by kernel_rfl) (And.intro (fun wS hw => hw.elim fun qs hw => run_loadV rfl rfl (run_loadS rfl rfl (hw.cell 0 rfl 0 rfl))) (And.intro (fun wS hw => by kernel_rfl) trivial)))))) (fun _ _ _ _ _ h => h) ⟨_, hS59⟩ (l' := [(23, nP z17 0), (22, nP z18 0), (3, nP z17 0), (0, nI i0)]) (by kernel_rfl) ?_
    intro a61 hF60; clear hF58
    refine any_call 5 #[true, true, true, true, true, true, false, false, false, false, false, false, false, false] 24 #[nP z17 0, nI 0] hF60 rfl (by kernel_rfl) rfl rfl (by kernel_rfl) rfl (by kernel_rfl) (fun w => by kernel_rfl) (by kernel_rfl) ?_
    obtain ⟨x62, s63, s64, hx65, hm66⟩ := bind3E hm57; clear hm57
    refine (law17_gor.ok hS59 hx65).mono ?_
    rintro _ w67 ⟨rfl, hS69⟩; clear hS59
    refine ⟨⟨_, hS69⟩, ?_⟩
    intro a68 hF70; clear hF60
    refine any_many 2 [(6, some (nI (IntKind.i64.wrap (2 * x62)))), (7, some (nI (IntKind.i64.wrap ((IntKind.i64.wrap (2 * x62)) + 1))))] [0, 3, 5, 18, 22, 26, 27, 28, 29] #[true, true, true, true, true, true, true, true, false, false, false, false, false, false] (by rfl) hF70 (by kernel_rfl) (by kernel_rfl) (by exact (And.intro (fun wS hw => by kernel_rfl) (And.intro (fun wS hw => by kernel_rfl) trivial))) (fun _ _ _ _ _ h => h) ⟨_, hS69⟩ (l' := [(26, nI (IntKind.i64.wrap ((IntKind.i64.wrap (2 * x62)) + 1))), (22, nP z18 0), (3, nP z17 0), (0, nI i0)]) (by kernel_rfl) ?_
    intro a72 hF71; clear hF70
    have hS73 := hS69.pick1
    clear hS69
    refine any_call 8 #[true, true, true, true, true, true, true, true, true, false, false, false, false, false] 23 #[nP z18 0, nI (IntKind.i64.wrap ((IntKind.i64.wrap (2 * x62)) + 1))] hF71 rfl (by kernel_rfl) rfl rfl (by kernel_rfl) rfl (by kernel_rfl) (fun w => by kernel_rfl) (by kernel_rfl) ?_
    obtain ⟨L74, x75, s76, hx77, hm78⟩ := bind3E hm66; clear hm66
    refine (shut_Try.ok hS73 hx77).mono ?_
    rintro _ w79 ⟨z83, rfl, hS81⟩; clear hS73
    obtain ⟨hl88, p85, c86, rfl, hp87⟩ := St.shape hS81 1 rfl
    refine ⟨⟨_, hS81.pick2⟩, ?_⟩
    intro a80 hF82; clear hF71
    refine any_many 5 [(9, some (.tuple #[.slice p85 L74.length c86, nI x75])), (10, some (.slice p85 L74.length c86)), (11, some (nI x75)), (12, some (.slice p85 L74.length c86)), (13, some (nI x75))] [0, 3, 5] #[true, true, true, true, true, true, true, true, true, true, true, true, true, true] (by rfl) hF82 (by kernel_rfl) (by kernel_rfl) (by exact (And.intro (fun wS hw => by kernel_rfl) (And.intro (fun wS hw => by kernel_rfl) (And.intro (fun wS hw => by kernel_rfl) (And.intro (fun wS hw => by kernel_rfl) (And.intro (fun wS hw => by kernel_rfl) trivial)))))) (fun _ _ _ _ _ h => h) ⟨_, hS81.pick2⟩ (l' := [(5, nI x75), (3, nP z17 0), (0, nI i0)]) (by kernel_rfl) ?_
    intro a90 hF89; clear hF82
    refine any_done (by kernel_rfl) ?_
    have hS91 := hS81.pick1.drop
    clear hS81
    refine thenN (wp_seq (wp_region_lit ?_))
    refine ev_runs 3 hF89 (l' := [(33, nP z17 0), (32, nP z17 0), (31, nP z17 0), (5, nI x75), (3, nP z17 0), (0, nI i0)]) (w' := w79) (by kernel_rfl) ?_
    intro a93 hF92; clear hF89
    refine ev_one (nP z18 0) w79 hF92 (by kernel_rfl) rfl (by kernel_rfl) (run_loadV rfl rfl (run_loadS rfl rfl (hS91.cell 1 rfl 0 rfl))) (l' := [(34, nP z18 0), (33, nP z17 0), (32, nP z17 0), (31, nP z17 0), (5, nI x75), (3, nP z17 0), (0, nI i0)]) (by kernel_rfl) ?_
    intro a95 hF94; clear hF92
    refine ev_call 23 #[nP z18 0, nI 2] hF94 rfl rfl (by kernel_rfl) rfl (by kernel_rfl) (fun w => by kernel_rfl) ?_
    obtain ⟨L96, x97, s98, hx99, hm100⟩ := bind3E hm78; clear hm78
    refine (shut_Try.ok hS91 hx99).mono ?_
    rintro _ w101 ⟨z105, rfl, hS103⟩ a102 hF104; clear hF94 hS91
    obtain ⟨hl110, p107, c108, rfl, hp109⟩ := St.shape hS103 1 rfl
    refine ev_runK 5 hF104 [0, 3, 5, 7] (l' := [(7, nI x97), (5, nI x75), (3, nP z17 0), (0, nI i0)]) (w' := w101) (by kernel_rfl) ?_
    intro a112 hF111; clear hF104
    refine wpList_nil ?_
    have hS113 := hS103.pick1.drop
    clear hS103
    refine thenN (wp_seq (wp_region_lit ?_))
    refine ev_runs 1 hF111 (l' := [(39, nI i0), (7, nI x97), (5, nI x75), (3, nP z17 0), (0, nI i0)]) (w' := w101) (by kernel_rfl) ?_
    intro a115 hF114; clear hF111
    refine ev_call 23 #[.pointer none, nI i0] hF114 rfl rfl (by kernel_rfl) rfl (by kernel_rfl) (fun w => by kernel_rfl) ?_
    obtain ⟨L116, x117, hx118, hm119⟩ := bind2E hm100; clear hm100
    refine (shut_TryN.ok hS113 hx118).mono ?_
    rintro _ w120 ⟨z124, rfl, hS122⟩ a121 hF123; clear hF114 hS113
    obtain ⟨hl129, p126, c127, rfl, hp128⟩ := St.shape hS122 0 rfl
    refine ev_runK 5 hF123 [3, 5, 7, 8, 9] (l' := [(9, nI x117), (8, .slice p126 L116.length c127), (7, nI x97), (5, nI x75), (3, nP z17 0)]) (w' := w120) (by kernel_rfl) ?_
    intro a131 hF130; clear hF123
    refine wpList_nil (thenN (wp_seq ?_))
    refine joinQ (fun aI wI => ∃ (y132 : Bool), Fr 68 aI [(2, .bool (y132))] ∧ St w0 F0 (ps) wI ∧ ShutNone.j2 y132 = some r0) ?_ ?_
    rotate_left
    · rintro a134 w135 ⟨y132, hF136, hS137, hm138⟩
      clear hF130 hS122 hm119
      unfold ShutNone.j2 at hm138
      refine thenN ?_
      refine wp_ret ?_
      obtain rfl := Option.some.inj hm138
      refine ev_ret hF136 [2] (.bool (y132)) rfl rfl rfl ?_
      exact ⟨rfl, hS137⟩
    · skip
      -- draws
      have hS141 := hS122.pick2
      clear hS122
      have hS142 := hS141.drew; clear hS141
      refine any_start (fun wS => ∃ qs, St w0 F0 (BlkP z17 46 #[nP z18 0, nP z20 0, .slice p32 L9.length c33, .slice p36 L10.length c37] :: qs) wS) 26 #[false, false, false, false, false, false, false, false, false, false, false, false, false, false, false, false, false, false, false, false, false, false, false, false, false, false] (by kernel_rfl) (by kernel_rfl) (by kernel_rfl) ?_
      refine any_many 3 [(0, some (nI x75)), (1, some (.bool (x75 == 6))), (2, some (.bool (x75 == 6)))] [2, 3, 7, 8, 9, 45, 46, 47, 48, 49, 50, 51, 52, 53, 54, 55, 56, 57, 58, 59, 60, 61, 62, 63, 64, 65, 66, 67] #[true, true, true, false, false, false, false, false, false, false, false, false, false, false, false, false, false, false, false, false, false, false, false, false, false, false] (by rfl) hF130 (by kernel_rfl) (by kernel_rfl) (by exact (And.intro (fun wS hw => by kernel_rfl) (And.intro (fun wS hw => by kernel_rfl) (And.intro (fun wS hw => by kernel_rfl) trivial)))) (fun _ _ _ _ _ h => h) ⟨_, hS142⟩ (l' := [(45, .bool (x75 == 6)), (9, nI x117), (8, .slice p126 L116.length c127), (7, nI x97), (3, nP z17 0)]) (by kernel_rfl) ?_
      intro a144 hF143; clear hF130
      cases hc145 : (x75 == 6) with
      | true =>
       rw [hc145] at hF143
       have hm146 := ifYes hc145 hm119; clear hm119
       refine any_many 4 [(3, some (nI x97)), (4, some (.bool (x97 == 6))), (5, some (.bool (x97 == 6))), (6, some (.bool (x97 == 6)))] [2, 3, 8, 9, 49, 50, 51, 52, 53, 54, 55, 56, 57, 58, 59, 60, 61, 62, 63, 64, 65, 66, 67] #[true, true, true, true, true, true, true, false, false, false, false, false, false, false, false, false, false, false, false, false, false, false, false, false, false, false] (by rfl) hF143 (by kernel_rfl) (by kernel_rfl) (by exact (And.intro (fun wS hw => by kernel_rfl) (And.intro (fun wS hw => by kernel_rfl) (And.intro (fun wS hw => by kernel_rfl) (And.intro (fun wS hw => by kernel_rfl) trivial))))) (fun _ _ _ _ _ h => h) ⟨_, hS142⟩ (l' := [(49, .bool (x97 == 6)), (9, nI x117), (8, .slice p126 L116.length c127), (3, nP z17 0)]) (by kernel_rfl) ?_
       intro a148 hF147; clear hF143
       cases hc149 : (x97 == 6) with
       | true =>
        rw [hc149] at hF147
        have hm150 := ifYes hc149 hm146; clear hm146
        refine any_many 4 [(7, some (nI x117)), (8, some (.bool (x117 == 6))), (9, some (.bool (x117 == 6))), (10, some (.bool (x117 == 6)))] [2, 3, 8, 53, 54, 55, 56, 57, 58, 59, 60, 61, 62, 63, 64, 65, 66, 67] #[true, true, true, true, true, true, true, true, true, true, true, false, false, false, false, false, false, false, false, false, false, false, false, false, false, false] (by rfl) hF147 (by kernel_rfl) (by kernel_rfl) (by exact (And.intro (fun wS hw => by kernel_rfl) (And.intro (fun wS hw => by kernel_rfl) (And.intro (fun wS hw => by kernel_rfl) (And.intro (fun wS hw => by kernel_rfl) trivial))))) (fun _ _ _ _ _ h => h) ⟨_, hS142⟩ (l' := [(53, .bool (x117 == 6)), (8, .slice p126 L116.length c127), (3, nP z17 0)]) (by kernel_rfl) ?_
        intro a152 hF151; clear hF147
        cases hc153 : (x117 == 6) with
        | true =>
         rw [hc153] at hF151
         have hm154 := ifYes hc153 hm150; clear hm150
         refine any_many 5 [(11, some (.slice p126 L116.length c127)), (12, some (nI ((L116.length : Int)))), (13, some (.bool ((L116.length : Int) == 0))), (14, some (.bool ((L116.length : Int) == 0))), (15, some (.bool ((L116.length : Int) == 0)))] [2, 3, 58, 59, 60, 61, 62, 63, 64, 65, 66, 67] #[true, true, true, true, true, true, true, true, true, true, true, true, true, true, true, true, false, false, false, false, false, false, false, false, false, false] (by rfl) hF151 (by kernel_rfl) (by kernel_rfl) (by exact (And.intro (fun wS hw => by kernel_rfl) (And.intro (fun wS hw => by kernel_rfl) (And.intro (fun wS hw => by kernel_rfl) (And.intro (fun wS hw => by kernel_rfl) (And.intro (fun wS hw => by kernel_rfl) trivial)))))) (fun _ _ _ _ _ h => h) ⟨_, hS142⟩ (l' := [(58, .bool ((L116.length : Int) == 0)), (3, nP z17 0)]) (by kernel_rfl) ?_
         intro a156 hF155; clear hF151
         cases hc157 : ((L116.length : Int) == 0) with
         | true =>
          rw [hc157] at hF155
          have hm158 := ifYes hc157 hm154; clear hm154
          refine any_many 5 [(16, some (nP z17 0)), (17, some (nP z17 0)), (18, some (nP z17 0)), (19, some (nP z18 0)), (20, some (nP z17 0))] [2, 58, 62, 63, 64, 65, 66, 67] #[true, true, true, true, true, true, true, true, true, true, true, true, true, true, true, true, true, true, true, true, true, false, false, false, false, false] (by rfl) hF155 (by kernel_rfl) (by kernel_rfl) (by exact (And.intro (fun wS hw => by kernel_rfl) (And.intro (fun wS hw => by kernel_rfl) (And.intro (fun wS hw => by kernel_rfl) (And.intro (fun wS hw => hw.elim fun qs hw => run_loadV rfl rfl (run_loadS rfl rfl (hw.cell 0 rfl 0 rfl))) (And.intro (fun wS hw => by kernel_rfl) trivial)))))) (fun _ _ _ _ _ h => h) ⟨_, hS142⟩ (l' := [(63, nP z17 0), (62, nP z18 0), (58, .bool true)]) (by kernel_rfl) ?_
          intro a160 hF159; clear hF155
          have hS161 := hS142.pick5.pick5.pick5.pick5.pick4
          clear hS142
          refine any_call 21 #[true, true, true, true, true, true, true, true, true, true, true, true, true, true, true, true, true, true, true, true, true, true, false, false, false, false] 24 #[nP z17 0, nI 0] hF159 rfl (by kernel_rfl) rfl rfl (by kernel_rfl) rfl (by kernel_rfl) (fun w => by kernel_rfl) (by kernel_rfl) ?_
          obtain ⟨x162, s163, s164, hx165, hm166⟩ := bind3E hm158; clear hm158
          refine (law17_gor.ok hS161 hx165).mono ?_
          rintro _ w167 ⟨rfl, hS169⟩; clear hS161
          refine ⟨⟨_, hS169⟩, ?_⟩
          intro a168 hF170; clear hF159
          have hS172 : St w0 F0 (RowP (.slice none 0 0) [] :: BlkP z17 46 #[nP z18 0, nP z20 0, .slice p32 L9.length c33, .slice p36 L10.length c37] :: HeapP z18 z19 s163 :: RHeapP z20 z21 z22 z23 z24 s164 :: RowP (.slice p32 L9.length c33) L9 :: RowP (.slice p36 L10.length c37) L10 :: RowP (.slice p126 L116.length c127) L116 :: ps) w167 := St.nil hS169
          clear hS169
          have hS173 := hS172.pick2
          clear hS172
          refine any_call 22 #[true, true, true, true, true, true, true, true, true, true, true, true, true, true, true, true, true, true, true, true, true, true, true, false, false, false] 25 #[nP z18 0, nI x162, .slice none 0 0] hF170 rfl (by kernel_rfl) rfl rfl (by kernel_rfl) rfl (by kernel_rfl) (fun w => by kernel_rfl) (by kernel_rfl) ?_
          obtain ⟨x174, s175, hx176, hm177⟩ := bind2E hm166; clear hm166
          refine (wake_Park.ok hS173 hx176).mono ?_
          rintro _ w178 ⟨rfl, hS180⟩; clear hS173
          refine ⟨⟨_, hS180.pick2⟩, ?_⟩
          intro a179 hF181; clear hF170
          refine any_many 3 [(23, some (.bool (x174 == 0))), (24, some (.bool (x174 == 0))), (25, some (.bool (x174 == 0)))] [2] #[true, true, true, true, true, true, true, true, true, true, true, true, true, true, true, true, true, true, true, true, true, true, true, true, true, true] (by rfl) hF181 (by kernel_rfl) (by kernel_rfl) (by exact (And.intro (fun wS hw => by kernel_rfl) (And.intro (fun wS hw => by kernel_rfl) (And.intro (fun wS hw => by kernel_rfl) trivial)))) (fun _ _ _ _ _ h => h) ⟨_, hS180.pick2⟩ (l' := [(2, .bool (x174 == 0))]) (by kernel_rfl) ?_
          intro a183 hF182; clear hF181
          refine any_done (by kernel_rfl) ?_
          have hS184 := hS180.drop.drop.drop.drop.drop.drop.drop
          clear hS180
          exact thenN ⟨x174 == 0, hF182, hS184, hm177⟩
         | false =>
          rw [hc157] at hF155
          have hm185 := ifNot hc157 hm154; clear hm154
          refine any_many 10 [(16, none), (17, none), (18, none), (19, none), (20, none), (21, none), (22, none), (23, none), (24, some (.bool false)), (25, some (.bool false))] [2] #[true, true, true, true, true, true, true, true, true, true, true, true, true, true, true, true, true, true, true, true, true, true, true, true, true, true] (by rfl) hF155 (by kernel_rfl) (by kernel_rfl) (by exact (And.intro trivial (And.intro trivial (And.intro trivial (And.intro trivial (And.intro trivial (And.intro trivial (And.intro trivial (And.intro trivial (And.intro (fun wS hw => by kernel_rfl) (And.intro (fun wS hw => by kernel_rfl) trivial))))))))))) (fun _ _ _ _ _ h => h) ⟨_, hS142⟩ (l' := [(2, .bool false)]) (by kernel_rfl) ?_
          intro a187 hF186; clear hF155
          refine any_done (by kernel_rfl) ?_
          have hS188 := hS142.drop.drop.drop.drop.drop.drop
          clear hS142
          exact thenN ⟨false, hF186, hS188, hm185⟩
        | false =>
         rw [hc153] at hF151
         have hm189 := ifNot hc153 hm150; clear hm150
         refine any_many 15 [(11, none), (12, none), (13, none), (14, some (.bool false)), (15, some (.bool false)), (16, none), (17, none), (18, none), (19, none), (20, none), (21, none), (22, none), (23, none), (24, some (.bool false)), (25, some (.bool false))] [2] #[true, true, true, true, true, true, true, true, true, true, true, true, true, true, true, true, true, true, true, true, true, true, true, true, true, true] (by rfl) hF151 (by kernel_rfl) (by kernel_rfl) (by exact (And.intro trivial (And.intro trivial (And.intro trivial (And.intro (fun wS hw => by kernel_rfl) (And.intro (fun wS hw => by kernel_rfl) (And.intro trivial (And.intro trivial (And.intro trivial (And.intro trivial (And.intro trivial (And.intro trivial (And.intro trivial (And.intro trivial (And.intro (fun wS hw => by kernel_rfl) (And.intro (fun wS hw => by kernel_rfl) trivial)))))))))))))))) (fun _ _ _ _ _ h => h) ⟨_, hS142⟩ (l' := [(2, .bool false)]) (by kernel_rfl) ?_
         intro a191 hF190; clear hF151
         refine any_done (by kernel_rfl) ?_
         have hS192 := hS142.drop.drop.drop.drop.drop.drop
         clear hS142
         exact thenN ⟨false, hF190, hS192, hm189⟩
       | false =>
        rw [hc149] at hF147
        have hm193 := ifNot hc149 hm146; clear hm146
        refine any_many 19 [(7, none), (8, none), (9, some (.bool false)), (10, some (.bool false)), (11, none), (12, none), (13, none), (14, some (.bool false)), (15, some (.bool false)), (16, none), (17, none), (18, none), (19, none), (20, none), (21, none), (22, none), (23, none), (24, some (.bool false)), (25, some (.bool false))] [2] #[true, true, true, true, true, true, true, true, true, true, true, true, true, true, true, true, true, true, true, true, true, true, true, true, true, true] (by rfl) hF147 (by kernel_rfl) (by kernel_rfl) (by exact (And.intro trivial (And.intro trivial (And.intro (fun wS hw => by kernel_rfl) (And.intro (fun wS hw => by kernel_rfl) (And.intro trivial (And.intro trivial (And.intro trivial (And.intro (fun wS hw => by kernel_rfl) (And.intro (fun wS hw => by kernel_rfl) (And.intro trivial (And.intro trivial (And.intro trivial (And.intro trivial (And.intro trivial (And.intro trivial (And.intro trivial (And.intro trivial (And.intro (fun wS hw => by kernel_rfl) (And.intro (fun wS hw => by kernel_rfl) trivial)))))))))))))))))))) (fun _ _ _ _ _ h => h) ⟨_, hS142⟩ (l' := [(2, .bool false)]) (by kernel_rfl) ?_
        intro a195 hF194; clear hF147
        refine any_done (by kernel_rfl) ?_
        have hS196 := hS142.drop.drop.drop.drop.drop.drop
        clear hS142
        exact thenN ⟨false, hF194, hS196, hm193⟩
      | false =>
       rw [hc145] at hF143
       have hm197 := ifNot hc145 hm119; clear hm119
       refine any_many 23 [(3, none), (4, none), (5, some (.bool false)), (6, some (.bool false)), (7, none), (8, none), (9, some (.bool false)), (10, some (.bool false)), (11, none), (12, none), (13, none), (14, some (.bool false)), (15, some (.bool false)), (16, none), (17, none), (18, none), (19, none), (20, none), (21, none), (22, none), (23, none), (24, some (.bool false)), (25, some (.bool false))] [2] #[true, true, true, true, true, true, true, true, true, true, true, true, true, true, true, true, true, true, true, true, true, true, true, true, true, true] (by rfl) hF143 (by kernel_rfl) (by kernel_rfl) (by exact (And.intro trivial (And.intro trivial (And.intro (fun wS hw => by kernel_rfl) (And.intro (fun wS hw => by kernel_rfl) (And.intro trivial (And.intro trivial (And.intro (fun wS hw => by kernel_rfl) (And.intro (fun wS hw => by kernel_rfl) (And.intro trivial (And.intro trivial (And.intro trivial (And.intro (fun wS hw => by kernel_rfl) (And.intro (fun wS hw => by kernel_rfl) (And.intro trivial (And.intro trivial (And.intro trivial (And.intro trivial (And.intro trivial (And.intro trivial (And.intro trivial (And.intro trivial (And.intro (fun wS hw => by kernel_rfl) (And.intro (fun wS hw => by kernel_rfl) trivial)))))))))))))))))))))))) (fun _ _ _ _ _ h => h) ⟨_, hS142⟩ (l' := [(2, .bool false)]) (by kernel_rfl) ?_
       intro a199 hF198; clear hF143
       refine any_done (by kernel_rfl) ?_
       have hS200 := hS142.drop.drop.drop.drop.drop.drop
       clear hS142
       exact thenN ⟨false, hF198, hS200, hm197⟩
 · skip
   refine wp_region_lit ?_
   refine ev_call 22 #[] hF40 rfl rfl (by kernel_rfl) rfl (by kernel_rfl) (fun w => by kernel_rfl) ?_
   obtain ⟨y201, hx202, hm203⟩ := bind1E hm12; clear hm12
   refine (law17_awake.ok hS42 hx202).mono ?_
   rintro _ w204 ⟨rfl, hS206⟩ a205 hF207; clear hF40 hS42
   refine ev_runs 2 hF207 (l' := [(14, .bool (!(y201))), (13, .bool (!(y201))), (12, .bool (y201)), (3, nP z17 0), (0, nI i0)]) (w' := w204) (by kernel_rfl) ?_
   intro a209 hF208; clear hF207
   cases hc210 : (!(y201)) with
   | true =>
    rw [hc210] at hF208
    have hm211 := ifYes hc210 hm203; clear hm203
    refine ev_runK 3 hF208 [0, 3, 17] (l' := [(17, .bool true), (3, nP z17 0), (0, nI i0)]) (w' := w204) (by kernel_rfl) ?_
    intro a213 hF212; clear hF208
    refine wpList_nil ?_
    exact thenN ⟨true, hF212, hS206, hm211⟩
   | false =>
    rw [hc210] at hF208
    have hm214 := ifNot hc210 hm203; clear hm203
    refine ev_runK 3 hF208 [0, 3, 17] (l' := [(17, .bool false), (3, nP z17 0), (0, nI i0)]) (w' := w204) (by kernel_rfl) ?_
    intro a216 hF215; clear hF208
    refine wpList_nil ?_
    exact thenN ⟨false, hF215, hS206, hm214⟩

end Go.Proofs.YtgejcjcpchofiaaGreat
/-
  The walk of 'dormouselaw17.ShutNone': the call returns true, in a world with at most new blocks.
-/
namespace Go.Proofs.YtgejcjcpchofiaaGreat.shutNone
open Go.RowKit
set_option linter.unusedVariables false

theorem pure (i0 : Int) : ShutNone.m 100 i0 = some true := by kernel_rfl
theorem walk (a0 : Int) (w0 : (Lit.int .i64 a0).wf = true) (w : World) :
    Calls Tryz.prog 4 #[.int .i64 a0] w fun e w' => e = .returned (.bool true) ∧ Below w.heap.size w w' := by
  exact (ShutNone.ok (St.empty w) (pure _)).mono fun e w' ⟨he, h⟩ => ⟨he, h.old⟩

end Go.Proofs.YtgejcjcpchofiaaGreat.shutNone
/-
  'ShutNoneSaid' ('dormouselaw17.ShutNone'): for every input the law returns true, and each argument reads behind the call as it did before.
  Conditions: none beyond the given row's own.
-/
namespace Go.Proofs.YtgejcjcpchofiaaGreat.shutNone
open Go.ChangeShapes Go.WideShapes Go.ChangeAt Go.RowKit
set_option linter.unusedVariables false      -- a walk need not use every 'w<i>' (that an integer argument fits its kind)

theorem own : ownKnob Tryz.prog.godebug = none := by kernel_rfl

/-! ### THE ROW's STEP: WRITTEN OUT: LEAVE IT -/
set_option maxRecDepth 100000 in
theorem lifted (os : Os) (started : os.Started) (H : Type) (enc : TypeId × Value → H) :
    ReturnsInHanded {} Tryz.checked os 4 .any (Rows.shutNoneSpec.pre6 enc Tryz.prog Tryz.f4 Rows.shutNoneRow.domain false) (Rows.shutNoneSpec.post enc Tryz.prog Tryz.f4 false true false false) := by
  refine returnsInHanded_of_change (C := Tryz.checked) own started (by kernel_rfl) Tryz.func4
    (ChangeSpec.witness6 (enc := enc) (C := Tryz.checked) false ⟨#[], #[.int .i64 0], []⟩ 8 (by kernel_rfl) (by kernel_rfl) (by kernel_rfl) (by kernel_rfl)) ?_
  intro W base args ds gs before hval0 hW hcnd _
  have hval : ∀ (j : Nat) t v, Tryz.f4.params[j]? = some t → args[j]? = some v → Value.okWide Tryz.prog W .any base t v := hval0
  have hW' := hW
  obtain ⟨p, q, hA0, hV, rfl, hfz, hnd⟩ := hW
  have hA : DataW.TrodAll enc Tryz.prog W 0 (fun _ => true) true Tryz.f4.params.toList args.toList ds p := hA0
  rw [Tryz.params4] at hA hval
  obtain ⟨v0, vs0, d0, ds0, p0, q0, hargs, rfl, rfl, h0, r0⟩ := trodAll_cons hA
  obtain ⟨rfl, rfl, rfl⟩ := trodAll_nil r0
  obtain rfl : args = #[v0] := by cases args; simp_all
  obtain ⟨rfl, rfl⟩ := trodVars_none hV
  obtain ⟨a0, rfl, rfl, rfl, w0⟩ := open_int Tryz.underlying3 (hval 0 3 v0 rfl rfl) h0
  clear hA0 hval0
  simp only [List.append_nil] at hW'
  refine (walk a0 w0 W).mono fun e W' ⟨he, hg⟩ => ?_
  subst he
  exact ⟨_, rfl, _, _, _, [], [], [], hW', (trodAll_cons_mk (shut_bool Tryz.underlying4 _) trodAll_mk0), (trodAll_cons_mk (shut_int Tryz.underlying3 w0) trodAll_mk0), rfl, hg.frame _, fun h => by cases h⟩

theorem over : Rows.shutNoneRow.holds Tryz.pinned (OpenSpec.ofChange Rows.shutNoneSpec) :=
  OpenClaim.holds_of_wide 4 Tryz.f4 rfl rfl rfl rfl rfl rfl rfl ⟨rfl, rfl, rfl, rfl, rfl⟩ rfl rfl rfl rfl rfl (by kernel_rfl) Tryz.func4 (by kernel_rfl)
    (of_decide_eq_true (by kernel_rfl)) (by unfold Func.isWrapper; first | (rw [if_pos (by decide +kernel)]; kernel_rfl) | (rw [if_neg (by decide +kernel)]; exact ⟨rfl, rfl⟩))
    (fun os started H enc _ => lifted os started H enc)

/-- ████ THE STATEMENT ████ -/
theorem proved : Rows.ShutNoneSaid :=
  over
#print axioms proved
end Go.Proofs.YtgejcjcpchofiaaGreat.shutNone
