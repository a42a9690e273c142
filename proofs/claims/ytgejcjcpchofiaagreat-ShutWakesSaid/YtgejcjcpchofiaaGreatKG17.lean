/- G17 GShutWakes -/
import Derived.Test.YtgejcjcpchofiaaGreatKG17w
import Derived.Test.YtgejcjcpchofiaaGreatKGShut
import Derived.Deep.LoopGhost
import Derived.KernelRfl
/- The walks of G17, printed by gen/walk.py. -/
namespace Go.Proofs.YtgejcjcpchofiaaGreat
open Go.RowKit
set_option linter.unusedVariables false

def law17_awake.j1 (y138 : Bool) : Option (Bool) := some (y138)
def law17_awake.m (k : Nat) : Option (Bool) := bind4 (law17_made.m k [1] 1) fun s7 s8 L9 L10 => bind3 (shut_Try.m k s7 0) fun L52 x53 s54 => bind3 (law17_ch.m k s54 s8 L9 L10 0) fun x74 s75 s76 => bind3 (shut_Try.m k s75 (IntKind.i64.wrap ((IntKind.i64.wrap (2 * x74)) + 1))) fun L86 x87 s88 => bind3 (law17_ch.m k s88 s76 L9 L10 0) fun x108 s109 s110 => bind3 (shut_Try.m k s109 (IntKind.i64.wrap ((IntKind.i64.wrap (2 * x108)) + 1))) fun L120 x121 s122 => (if (x53 == 5) then (if (x87 == 1) then law17_awake.j1 (x121 == 4) else law17_awake.j1 false) else law17_awake.j1 false)
set_option maxRecDepth 100000 in
set_option maxHeartbeats 1500000 in
theorem law17_awake.ok {w0 w : World} {F0 : List Nat} {ps : List Piece} {k : Nat}  {r0 : Bool} (hS : St w0 F0 (ps) w) (hm : law17_awake.m k = some r0) :
    Calls Tryz.prog 22 #[] w fun e w' => e = .returned (.bool r0) ∧ St w0 F0 (ps) w' := by
 refine ev_enterL 54 [] Tryz.func22 rfl rfl (by simp) ?_
 intro a hF
 have hF0 : Fr 54 a [] := hF; clear hF
 unfold law17_awake.m at hm
 refine wp_seq (wp_region_lit ?_)
 refine ev_runK 1 hF0 [] (l' := []) (w' := w) (by kernel_rfl) ?_
 intro a2 hF1; clear hF0
 refine wpList_nil (thenN (wp_seq (wp_region_lit ?_)))
 refine ev_runs 1 hF1 (l' := [(8, .slice (some ⟨w.heap.size, 0, none⟩) 1 1)]) (w' := w.alloc (.cells #[nI 1] 3)) (by kernel_rfl) ?_
 intro a4 hF3; clear hF1
 have hS6 : St w0 F0 (RowP (.slice (some ⟨w.heap.size, 0, none⟩) 1 1) [1] :: ps) (w.alloc (.cells #[nI 1] 3)) := St.lit hS [1] (by unfold maxLen; simp)
 refine ev_call 21 #[.slice (some ⟨w.heap.size, 0, none⟩) 1 1, nI 1] hF3 rfl rfl (by kernel_rfl) rfl (by kernel_rfl) (fun w => by kernel_rfl) ?_
 obtain ⟨s7, s8, L9, L10, hx11, hm12⟩ := bind4E hm; clear hm
 refine (law17_made.ok hS6 hx11).mono ?_
 rintro _ w13 ⟨z17, z18, z19, z20, z21, z22, z23, z24, z25, z26, rfl, hS15⟩ a14 hF16; clear hF3 hS6
 have hS32 : St w0 F0 (RowP (.slice (some ⟨w.heap.size, 0, none⟩) 1 1) [1] :: BlkP z17 46 #[nP z18 0, nP z20 0, z25, z26] :: HeapP z18 z19 s7 :: RHeapP z20 z21 z22 z23 z24 s8 :: RowP (z25) L9 :: RowP (z26) L10 :: ps) w13 := hS15
 clear hS15
 obtain ⟨hl36, p33, c34, rfl, hp35⟩ := St.shape hS32 4 rfl
 obtain ⟨hl40, p37, c38, rfl, hp39⟩ := St.shape hS32 5 rfl
 refine ev_runK 1 hF16 [1] (l' := [(1, nP z17 0)]) (w' := w13) (by kernel_rfl) ?_
 intro a42 hF41; clear hF16
 refine wpList_nil ?_
 have hS43 := hS32.drop
 clear hS32
 refine thenN (wp_seq (wp_seq (wp_region_lit ?_)))
 refine ev_runK 2 hF41 [1, 11] (l' := [(11, .bool false), (1, nP z17 0)]) (w' := w13) (by kernel_rfl) ?_
 intro a45 hF44; clear hF41
 refine wpList_nil (thenN ?_)
 refine ev_condF hF44 rfl rfl ?_
 refine wp_skip ?_
 have hF46 := hF44.keep [1]
 clear hF44
 refine thenN (wp_seq (wp_region_lit ?_))
 refine ev_runs 3 hF46 (l' := [(15, nP z17 0), (14, nP z17 0), (13, nP z17 0), (1, nP z17 0)]) (w' := w13) (by kernel_rfl) ?_
 intro a48 hF47; clear hF46
 refine ev_one (nP z18 0) w13 hF47 (by kernel_rfl) rfl (by kernel_rfl) (run_loadV rfl rfl (run_loadS rfl rfl (hS43.cell 0 rfl 0 rfl))) (l' := [(16, nP z18 0), (15, nP z17 0), (14, nP z17 0), (13, nP z17 0), (1, nP z17 0)]) (by kernel_rfl) ?_
 intro a50 hF49; clear hF47
 have hS51 := hS43.pick1
 clear hS43
 refine ev_call 23 #[nP z18 0, nI 0] hF49 rfl rfl (by kernel_rfl) rfl (by kernel_rfl) (fun w => by kernel_rfl) ?_
 obtain ⟨L52, x53, s54, hx55, hm56⟩ := bind3E hm12; clear hm12
 refine (shut_Try.ok hS51 hx55).mono ?_
 rintro _ w57 ⟨z61, rfl, hS59⟩ a58 hF60; clear hF49 hS51
 obtain ⟨hl66, p63, c64, rfl, hp65⟩ := St.shape hS59 1 rfl
 refine ev_runK 5 hF60 [1, 3] (l' := [(3, nI x53), (1, nP z17 0)]) (w' := w57) (by kernel_rfl) ?_
 intro a68 hF67; clear hF60
 refine wpList_nil ?_
 have hS69 := hS59.pick1.drop
 clear hS59
 refine thenN (wp_seq ?_)
 -- draws
 have hS70 := hS69.pick1
 clear hS69
 have hS71 := hS70.drew; clear hS70
 refine any_start (fun wS => ∃ qs, St w0 F0 (BlkP z17 46 #[nP z18 0, nP z20 0, .slice p33 L9.length c34, .slice p37 L10.length c38] :: qs) wS) 14 #[false, false, false, false, false, false, false, false, false, false, false, false, false, false] (by kernel_rfl) (by kernel_rfl) (by kernel_rfl) ?_
 refine any_many 5 [(0, some (nP z17 0)), (1, some (nP z17 0)), (2, some (nP z17 0)), (3, some (nP z18 0)), (4, some (nP z17 0))] [1, 3, 5, 20, 24, 25, 26, 27, 28, 29, 30, 31] #[true, true, true, true, true, false, false, false, false, false, false, false, false, false] (by rfl) hF67 (by kernel_rfl) (by kernel_rfl) (by exact ⟨fun wS hw => by kernel_rfl, fun wS hw => by kernel_rfl, fun wS hw => by kernel_rfl, fun wS hw => hw.elim fun qs hw => run_loadV rfl rfl (run_loadS rfl rfl (hw.cell 0 rfl 0 rfl)), fun wS hw => by kernel_rfl, trivial⟩) (fun _ _ _ _ _ h => h) ⟨_, hS71⟩ (l' := [(25, nP z17 0), (24, nP z18 0), (3, nI x53), (1, nP z17 0)]) (by kernel_rfl) ?_
 intro a73 hF72; clear hF67
 refine any_call 5 #[true, true, true, true, true, true, false, false, false, false, false, false, false, false] 63 #[nP z17 0, nI 0] hF72 rfl (by kernel_rfl) rfl rfl (by kernel_rfl) rfl (by kernel_rfl) (fun w => by kernel_rfl) (by kernel_rfl) ?_
 obtain ⟨x74, s75, s76, hx77, hm78⟩ := bind3E hm56; clear hm56
 refine (law17_ch.ok hS71 hx77).mono ?_
 rintro _ w79 ⟨rfl, hS81⟩; clear hS71
 refine ⟨⟨_, hS81⟩, ?_⟩
 intro a80 hF82; clear hF72
 refine any_many 2 [(6, some (nI (IntKind.i64.wrap (2 * x74)))), (7, some (nI (IntKind.i64.wrap ((IntKind.i64.wrap (2 * x74)) + 1))))] [1, 3, 5, 20, 24, 28, 29, 30, 31] #[true, true, true, true, true, true, true, true, false, false, false, false, false, false] (by rfl) hF82 (by kernel_rfl) (by kernel_rfl) (by exact ⟨fun wS hw => by kernel_rfl, fun wS hw => by kernel_rfl, trivial⟩) (fun _ _ _ _ _ h => h) ⟨_, hS81⟩ (l' := [(28, nI (IntKind.i64.wrap ((IntKind.i64.wrap (2 * x74)) + 1))), (24, nP z18 0), (3, nI x53), (1, nP z17 0)]) (by kernel_rfl) ?_
 intro a84 hF83; clear hF82
 have hS85 := hS81.pick1
 clear hS81
 refine any_call 8 #[true, true, true, true, true, true, true, true, true, false, false, false, false, false] 23 #[nP z18 0, nI (IntKind.i64.wrap ((IntKind.i64.wrap (2 * x74)) + 1))] hF83 rfl (by kernel_rfl) rfl rfl (by kernel_rfl) rfl (by kernel_rfl) (fun w => by kernel_rfl) (by kernel_rfl) ?_
 obtain ⟨L86, x87, s88, hx89, hm90⟩ := bind3E hm78; clear hm78
 refine (shut_Try.ok hS85 hx89).mono ?_
 rintro _ w91 ⟨z95, rfl, hS93⟩; clear hS85
 obtain ⟨hl100, p97, c98, rfl, hp99⟩ := St.shape hS93 1 rfl
 refine ⟨⟨_, hS93.pick2⟩, ?_⟩
 intro a92 hF94; clear hF83
 refine any_many 5 [(9, some (.tuple #[.slice p97 L86.length c98, nI x87])), (10, some (.slice p97 L86.length c98)), (11, some (nI x87)), (12, some (.slice p97 L86.length c98)), (13, some (nI x87))] [1, 3, 5] #[true, true, true, true, true, true, true, true, true, true, true, true, true, true] (by rfl) hF94 (by kernel_rfl) (by kernel_rfl) (by exact ⟨fun wS hw => by kernel_rfl, fun wS hw => by kernel_rfl, fun wS hw => by kernel_rfl, fun wS hw => by kernel_rfl, fun wS hw => by kernel_rfl, trivial⟩) (fun _ _ _ _ _ h => h) ⟨_, hS93.pick2⟩ (l' := [(5, nI x87), (3, nI x53), (1, nP z17 0)]) (by kernel_rfl) ?_
 intro a102 hF101; clear hF94
 refine any_done (by kernel_rfl) ?_
 have hS103 := hS93.pick1.drop
 clear hS93
 refine thenN (wp_seq ?_)
 -- draws
 have hS104 := hS103.pick1
 clear hS103
 have hS105 := hS104.drew; clear hS104
 refine any_start (fun wS => ∃ qs, St w0 F0 (BlkP z17 46 #[nP z18 0, nP z20 0, .slice p33 L9.length c34, .slice p37 L10.length c38] :: qs) wS) 14 #[false, false, false, false, false, false, false, false, false, false, false, false, false, false] (by kernel_rfl) (by kernel_rfl) (by kernel_rfl) ?_
 refine any_many 5 [(0, some (nP z17 0)), (1, some (nP z17 0)), (2, some (nP z17 0)), (3, some (nP z18 0)), (4, some (nP z17 0))] [3, 5, 7, 32, 36, 37, 38, 39, 40, 41, 42, 43] #[true, true, true, true, true, false, false, false, false, false, false, false, false, false] (by rfl) hF101 (by kernel_rfl) (by kernel_rfl) (by exact ⟨fun wS hw => by kernel_rfl, fun wS hw => by kernel_rfl, fun wS hw => by kernel_rfl, fun wS hw => hw.elim fun qs hw => run_loadV rfl rfl (run_loadS rfl rfl (hw.cell 0 rfl 0 rfl)), fun wS hw => by kernel_rfl, trivial⟩) (fun _ _ _ _ _ h => h) ⟨_, hS105⟩ (l' := [(37, nP z17 0), (36, nP z18 0), (5, nI x87), (3, nI x53)]) (by kernel_rfl) ?_
 intro a107 hF106; clear hF101
 refine any_call 5 #[true, true, true, true, true, true, false, false, false, false, false, false, false, false] 63 #[nP z17 0, nI 0] hF106 rfl (by kernel_rfl) rfl rfl (by kernel_rfl) rfl (by kernel_rfl) (fun w => by kernel_rfl) (by kernel_rfl) ?_
 obtain ⟨x108, s109, s110, hx111, hm112⟩ := bind3E hm90; clear hm90
 refine (law17_ch.ok hS105 hx111).mono ?_
 rintro _ w113 ⟨rfl, hS115⟩; clear hS105
 refine ⟨⟨_, hS115⟩, ?_⟩
 intro a114 hF116; clear hF106
 refine any_many 2 [(6, some (nI (IntKind.i64.wrap (2 * x108)))), (7, some (nI (IntKind.i64.wrap ((IntKind.i64.wrap (2 * x108)) + 1))))] [3, 5, 7, 32, 36, 40, 41, 42, 43] #[true, true, true, true, true, true, true, true, false, false, false, false, false, false] (by rfl) hF116 (by kernel_rfl) (by kernel_rfl) (by exact ⟨fun wS hw => by kernel_rfl, fun wS hw => by kernel_rfl, trivial⟩) (fun _ _ _ _ _ h => h) ⟨_, hS115⟩ (l' := [(40, nI (IntKind.i64.wrap ((IntKind.i64.wrap (2 * x108)) + 1))), (36, nP z18 0), (5, nI x87), (3, nI x53)]) (by kernel_rfl) ?_
 intro a118 hF117; clear hF116
 have hS119 := hS115.pick1
 clear hS115
 refine any_call 8 #[true, true, true, true, true, true, true, true, true, false, false, false, false, false] 23 #[nP z18 0, nI (IntKind.i64.wrap ((IntKind.i64.wrap (2 * x108)) + 1))] hF117 rfl (by kernel_rfl) rfl rfl (by kernel_rfl) rfl (by kernel_rfl) (fun w => by kernel_rfl) (by kernel_rfl) ?_
 obtain ⟨L120, x121, s122, hx123, hm124⟩ := bind3E hm112; clear hm112
 refine (shut_Try.ok hS119 hx123).mono ?_
 rintro _ w125 ⟨z129, rfl, hS127⟩; clear hS119
 obtain ⟨hl134, p131, c132, rfl, hp133⟩ := St.shape hS127 1 rfl
 refine ⟨⟨_, hS127.pick2⟩, ?_⟩
 intro a126 hF128; clear hF117
 refine any_many 5 [(9, some (.tuple #[.slice p131 L120.length c132, nI x121])), (10, some (.slice p131 L120.length c132)), (11, some (nI x121)), (12, some (.slice p131 L120.length c132)), (13, some (nI x121))] [3, 5, 7] #[true, true, true, true, true, true, true, true, true, true, true, true, true, true] (by rfl) hF128 (by kernel_rfl) (by kernel_rfl) (by exact ⟨fun wS hw => by kernel_rfl, fun wS hw => by kernel_rfl, fun wS hw => by kernel_rfl, fun wS hw => by kernel_rfl, fun wS hw => by kernel_rfl, trivial⟩) (fun _ _ _ _ _ h => h) ⟨_, hS127.pick2⟩ (l' := [(7, nI x121), (5, nI x87), (3, nI x53)]) (by kernel_rfl) ?_
 intro a136 hF135; clear hF128
 refine any_done (by kernel_rfl) ?_
 have hS137 := hS127.drop.drop.drop.drop.drop.drop
 clear hS127
 refine thenN (wp_seq ?_)
 refine joinQ (fun aI wI => ∃ (y138 : Bool), Fr 54 aI [(0, .bool (y138))] ∧ St w0 F0 (ps) wI ∧ law17_awake.j1 y138 = some r0) ?_ ?_
 rotate_left
 · rintro a140 w141 ⟨y138, hF142, hS143, hm144⟩
   clear hF135 hS137 hm124
   unfold law17_awake.j1 at hm144
   refine thenN ?_
   refine wp_ret ?_
   obtain rfl := Option.some.inj hm144
   refine ev_ret hF142 [0] (.bool (y138)) rfl rfl rfl ?_
   exact ⟨rfl, hS143⟩
 · skip
   refine wp_region_lit ?_
   refine ev_runs 3 hF135 (l' := [(46, .bool (x53 == 5)), (45, .bool (x53 == 5)), (44, nI x53), (7, nI x121), (5, nI x87), (3, nI x53)]) (w' := w125) (by kernel_rfl) ?_
   intro a148 hF147; clear hF135
   cases hc149 : (x53 == 5)
   case true =>
    rw [hc149] at hF147
    have hm150 := ifYes hc149 hm124; clear hm124
    refine ev_runs 4 hF147 (l' := [(50, .bool (x87 == 1)), (49, .bool (x87 == 1)), (48, .bool (x87 == 1)), (47, nI x87), (46, .bool true), (45, .bool true), (44, nI x53), (7, nI x121), (5, nI x87), (3, nI x53)]) (w' := w125) (by kernel_rfl) ?_
    intro a152 hF151; clear hF147
    cases hc153 : (x87 == 1)
    case true =>
     rw [hc153] at hF151
     have hm154 := ifYes hc153 hm150; clear hm150
     refine ev_runK 4 hF151 [0] (l' := [(0, .bool (x121 == 4))]) (w' := w125) (by kernel_rfl) ?_
     intro a156 hF155; clear hF151
     refine wpList_nil ?_
     exact thenN ⟨x121 == 4, hF155, hS137, hm154⟩
    rw [hc153] at hF151
    have hm157 := ifNot hc153 hm150; clear hm150
    refine ev_runK 4 hF151 [0] (l' := [(0, .bool false)]) (w' := w125) (by kernel_rfl) ?_
    intro a159 hF158; clear hF151
    refine wpList_nil ?_
    exact thenN ⟨false, hF158, hS137, hm157⟩
   rw [hc149] at hF147
   have hm160 := ifNot hc149 hm124; clear hm124
   refine ev_runK 8 hF147 [0] (l' := [(0, .bool false)]) (w' := w125) (by kernel_rfl) ?_
   intro a162 hF161; clear hF147
   refine wpList_nil ?_
   exact thenN ⟨false, hF161, hS137, hm160⟩

end Go.Proofs.YtgejcjcpchofiaaGreat
/- The walks of GShutWakes, printed by gen/walk.py. -/
namespace Go.Proofs.YtgejcjcpchofiaaGreat
open Go.RowKit
set_option linter.unusedVariables false

def ShutWakes.j5 (x72 : Int) (rec75 : HSt → HSt → Int → Option (Bool)) (s85 : HSt) (s86 : HSt) (y87 : Bool) : Option (Bool) := (if (y87) then some (false) else rec75 s85 s86 (IntKind.i64.wrap (x72 + 1)))
def ShutWakes.j8 (y222 : Bool) : Option (Bool) := some (y222)
def ShutWakes.j7 (k : Nat) (L11 : List Int) (L12 : List Int) (L183 : List Int) (x184 : Int) (s185 : HSt) (x205 : Int) (x206 : Int) (x207 : Int) (x208 : Int) (x209 : Int) (x210 : Int) (x211 : Int) (x212 : Int) (x213 : Int) (x214 : Int) : Option (Bool) := (if (x184 == 3) then (if ((L183.length : Int) == 0) then (if (x214 == 0) then (if (x206 == 0) then bind2 (list_All.m k s185 (atI L11 (0 : Int)) (false)) fun L252 s253 => ShutWakes.j8 ((L252.length : Int) == (IntKind.i64.wrap ((L12.length : Int) - 1))) else ShutWakes.j8 false) else ShutWakes.j8 false) else ShutWakes.j8 false) else ShutWakes.j8 false)
def ShutWakes.j15 (x335 : Int) (rec338 : HSt → Int → Option (Bool)) (s349 : HSt) (y368 : Bool) : Option (Bool) := (if (y368) then some (false) else rec338 s349 (IntKind.i64.wrap (x335 + 1)))
def ShutWakes.j14 (x335 : Int) (rec338 : HSt → Int → Option (Bool)) (s349 : HSt) (x350 : Int) (x351 : Int) (x352 : Int) (x353 : Int) (x354 : Int) (x355 : Int) (x356 : Int) (x357 : Int) (x358 : Int) (x359 : Int) (x360 : Int) : Option (Bool) := (if (x360 != 0) then ShutWakes.j15 x335 rec338 s349 true else (if (x351 != 0) then ShutWakes.j15 x335 rec338 s349 true else (if (x352 != x335) then ShutWakes.j15 x335 rec338 s349 true else (if (x353 != 0) then ShutWakes.j15 x335 rec338 s349 true else ShutWakes.j15 x335 rec338 s349 (x359 != (-1))))))
def ShutWakes.j17 (y509 : Bool) : Option (Bool) := some (y509)
def ShutWakes.j16 (k : Nat) (L11 : List Int) (L12 : List Int) (L183 : List Int) (x184 : Int) (s334 : HSt) (x492 : Int) (x493 : Int) (x494 : Int) (x495 : Int) (x496 : Int) (x497 : Int) (x498 : Int) (x499 : Int) (x500 : Int) (x501 : Int) : Option (Bool) := (if (x184 == 1) then (if (leR (IntKind.i64.wrap ((L12.length : Int) - 1)) L12.length) then (if (inR 0 L12.length) then bind1 (help_Plain.m k L183 (L12.take ((IntKind.i64.wrap ((L12.length : Int) - 1)).toNat))) fun y537 => (if (y537) then (if (x501 == 0) then (if (x493 == 1) then (if (inR (0 : Int) L11.length) then bind2 (list_All.m k s334 (atI L11 (0 : Int)) (false)) fun L563 s564 => (if ((L563.length : Int) == 0) then (if (inR (1 : Int) L11.length) then bind2 (list_All.m k s564 (atI L11 (1 : Int)) (true)) fun L587 s588 => ShutWakes.j17 ((L587.length : Int) == 0) else none) else ShutWakes.j17 false) else none) else ShutWakes.j17 false) else ShutWakes.j17 false) else ShutWakes.j17 false) else none) else none) else ShutWakes.j17 false)
def ShutWakes.l13b (k : Nat) (L11 : List Int) (L12 : List Int) (L183 : List Int) (x184 : Int) (rec338 : HSt → Int → Option (Bool)) (s334 : HSt) (x335 : Int) : Option (Bool) := (if (decide (x335 < (IntKind.i64.wrap ((L12.length : Int) - 1)))) then (if (inR x335 L12.length) then bind3 (view_Gor.m k s334 (atI L12 x335)) fun q448 x449 s450 => ShutWakes.j14 x335 rec338 s450 q448.id q448.status q448.pc q448.a q448.b q448.c q448.d q448.e q448.f q448.sudogs x449 else none) else (if (inR (0 : Int) L11.length) then bind2 (pChan (atI L11 (0 : Int)) s334) fun q631 x632 => ShutWakes.j16 k L11 L12 L183 x184 s334 q631.cap q631.closed q631.count q631.start q631.buf q631.th q631.tt q631.sh q631.st x632 else none))
def ShutWakes.l13 (k : Nat) (L11 : List Int) (L12 : List Int) (L183 : List Int) (x184 : Int) : Nat → HSt → Int → Option (Bool)
  | 0 => fun _ _ => none
  | kI + 1 => ShutWakes.l13b k L11 L12 L183 x184 (ShutWakes.l13 k L11 L12 L183 x184 kI)
def ShutWakes.j6 (k : Nat) (L11 : List Int) (L12 : List Int) (s156 : HSt) (s157 : HSt) (y158 : Bool) (y159 : Bool) : Option (Bool) := (if (y158) then some (false) else (if (inR (0 : Int) L11.length) then bind3 (shut_Try.m k s156 (IntKind.i64.wrap ((IntKind.i64.wrap (2 * (atI L11 (0 : Int)))) + 1))) fun L183 x184 s185 => (if (y159) then bind2 (pChan (atI L11 (0 : Int)) s185) fun q290 x291 => ShutWakes.j7 k L11 L12 L183 x184 s185 q290.cap q290.closed q290.count q290.start q290.buf q290.th q290.tt q290.sh q290.st x291 else ShutWakes.l13 k L11 L12 L183 x184 k s185 0) else none))
def ShutWakes.l4b (i1 : Bool) (k : Nat) (L11 : List Int) (L12 : List Int) (rec75 : HSt → HSt → Int → Option (Bool)) (s70 : HSt) (s71 : HSt) (x72 : Int) : Option (Bool) := (if (decide (x72 < (IntKind.i64.wrap ((L12.length : Int) - 1)))) then (if (inR x72 L12.length) then (if (inR (0 : Int) L11.length) then (if (inR (1 : Int) L11.length) then bind3 (law17_wait.m k s70 s71 L11 L12 (atI L12 x72) [atI L11 (0 : Int), atI L11 (1 : Int)] [false, true] 8 x72) fun y124 s125 s126 => ShutWakes.j5 x72 rec75 s125 s126 (!(y124)) else none) else none) else none) else (if (i1) then (if (inR (IntKind.i64.wrap ((L12.length : Int) - 1)) L12.length) then (if (inR (0 : Int) L11.length) then bind3 (law17_wait.m k s70 s71 L11 L12 (atI L12 (IntKind.i64.wrap ((L12.length : Int) - 1))) [atI L11 (0 : Int)] [true] 8 0) fun y696 s697 s698 => ShutWakes.j6 k L11 L12 s697 s698 (!(y696)) true else none) else none) else ShutWakes.j6 k L11 L12 s70 s71 false false))
def ShutWakes.l4 (i1 : Bool) (k : Nat) (L11 : List Int) (L12 : List Int) : Nat → HSt → HSt → Int → Option (Bool)
  | 0 => fun _ _ _ => none
  | kI + 1 => ShutWakes.l4b i1 k L11 L12 (ShutWakes.l4 i1 k L11 L12 kI)
def ShutWakes.j1 (i1 : Bool) (k : Nat) (s9 : HSt) (s10 : HSt) (L11 : List Int) (L12 : List Int) (y46 : Bool) : Option (Bool) := (if (y46) then some (false) else ShutWakes.l4 i1 k L11 L12 k s9 s10 0)
def ShutWakes.m (k : Nat) (i0 : Int) (i1 : Bool) : Option (Bool) := bind4 (law17_made.m k [0, 0] i0) fun s9 s10 L11 L12 => bind1 (law17_awake.m k ) fun y732 => (if (!(y732)) then ShutWakes.j1 i1 k s9 s10 L11 L12 true else ShutWakes.j1 i1 k s9 s10 L11 L12 false)
set_option maxRecDepth 100000 in
set_option maxHeartbeats 40000000 in
theorem ShutWakes.ok {w0 w : World} {F0 : List Nat} {ps : List Piece} {k : Nat} {i0 : Int} {i1 : Bool} {r0 : Bool} (hS : St w0 F0 (ps) w) (hm : ShutWakes.m k i0 i1 = some r0) :
    Calls Tryz.prog 6 #[nI i0, .bool (i1)] w fun e w' => e = .returned (.bool r0) ∧ St w0 F0 (ps) w' := by
 refine ev_enterL 255 [nI i0, .bool (i1)] Tryz.func6 rfl rfl (by simp) ?_
 intro a hF
 have hF0 : Fr 255 a [(0, nI i0), (1, .bool (i1))] := hF; clear hF
 unfold ShutWakes.m at hm
 refine wp_seq (wp_region_lit ?_)
 refine ev_runK 1 hF0 [0, 1] (l' := [(0, nI i0), (1, .bool (i1))]) (w' := w) (by kernel_rfl) ?_
 intro a2 hF1; clear hF0
 refine wpList_nil (thenN (wp_seq (wp_region_lit ?_)))
 refine ev_runs 1 hF1 (l' := [(17, .slice (some ⟨w.heap.size, 0, none⟩) 2 2), (0, nI i0), (1, .bool (i1))]) (w' := w.alloc (.cells #[nI 0, nI 0] 3)) (by kernel_rfl) ?_
 intro a4 hF3; clear hF1
 have hS6 : St w0 F0 (RowP (.slice (some ⟨w.heap.size, 0, none⟩) 2 2) [0, 0] :: ps) (w.alloc (.cells #[nI 0, nI 0] 3)) := St.lit hS [0, 0] (by unfold maxLen; simp)
 refine ev_runs 1 hF3 (l' := [(18, nI i0), (17, .slice (some ⟨w.heap.size, 0, none⟩) 2 2), (0, nI i0), (1, .bool (i1))]) (w' := w.alloc (.cells #[nI 0, nI 0] 3)) (by kernel_rfl) ?_
 intro a8 hF7; clear hF3
 refine ev_call 21 #[.slice (some ⟨w.heap.size, 0, none⟩) 2 2, nI i0] hF7 rfl rfl (by kernel_rfl) rfl (by kernel_rfl) (fun w => by kernel_rfl) ?_
 obtain ⟨s9, s10, L11, L12, hx13, hm14⟩ := bind4E hm; clear hm
 refine (law17_made.ok hS6 hx13).mono ?_
 rintro _ w15 ⟨z19, z20, z21, z22, z23, z24, z25, z26, z27, z28, rfl, hS17⟩ a16 hF18; clear hF7 hS6
 have hS34 : St w0 F0 (RowP (.slice (some ⟨w.heap.size, 0, none⟩) 2 2) [0, 0] :: BlkP z19 46 #[nP z20 0, nP z22 0, z27, z28] :: HeapP z20 z21 s9 :: RHeapP z22 z23 z24 z25 z26 s10 :: RowP (z27) L11 :: RowP (z28) L12 :: ps) w15 := hS17
 clear hS17
 obtain ⟨hl38, p35, c36, rfl, hp37⟩ := St.shape hS34 4 rfl
 obtain ⟨hl42, p39, c40, rfl, hp41⟩ := St.shape hS34 5 rfl
 refine ev_runK 1 hF18 [1, 5] (l' := [(5, nP z19 0), (1, .bool (i1))]) (w' := w15) (by kernel_rfl) ?_
 intro a44 hF43; clear hF18
 refine wpList_nil ?_
 have hS45 := hS34.drop
 clear hS34
 refine thenN (wp_seq (wp_seq ?_))
 refine joinQ (fun aI wI => ∃ (y46 : Bool), Fr 255 aI [(25, .bool (y46)), (5, nP z19 0), (1, .bool (i1))] ∧ St w0 F0 (BlkP z19 46 #[nP z20 0, nP z22 0, .slice p35 L11.length c36, .slice p39 L12.length c40] :: HeapP z20 z21 s9 :: RHeapP z22 z23 z24 z25 z26 s10 :: RowP (.slice p35 L11.length c36) L11 :: RowP (.slice p39 L12.length c40) L12 :: ps) wI ∧ ShutWakes.j1 i1 k s9 s10 L11 L12 y46 = some r0) ?_ ?_
 rotate_left
 · rintro a48 w49 ⟨y46, hF50, hS51, hm52⟩
   clear hF43 hS45 hm14
   unfold ShutWakes.j1 at hm52
   refine thenN ?_
   cases hc54 : (y46)
   case true =>
    rw [hc54] at hF50
    have hm55 := ifYes hc54 hm52; clear hm52
    refine ev_condT hF50 rfl rfl ?_
    refine wp_seq (wp_region_lit ?_)
    refine ev_runK 1 hF50 [4] (l' := [(4, .bool false)]) (w' := w49) (by kernel_rfl) ?_
    intro a57 hF56; clear hF50
    refine wpList_nil ?_
    have hS58 := hS51.drop.drop.drop.drop.drop
    clear hS51
    refine thenN ?_
    refine wp_ret ?_
    refine thenR ?_
    obtain rfl := Option.some.inj hm55
    refine ev_ret hF56 [4] (.bool false) rfl rfl rfl ?_
    exact ⟨rfl, hS58⟩
   rw [hc54] at hF50
   have hm60 := ifNot hc54 hm52; clear hm52
   refine ev_condF hF50 rfl rfl ?_
   refine wp_skip ?_
   have hF61 := hF50.keep [1, 5]
   clear hF50
   refine thenN (wp_seq (wp_region_lit ?_))
   refine ev_runs 3 hF61 (l' := [(28, nP z19 3), (27, nP z19 0), (26, nP z19 0), (5, nP z19 0), (1, .bool (i1))]) (w' := w49) (by kernel_rfl) ?_
   intro a63 hF62; clear hF61
   refine ev_one (.slice p39 L12.length c40) w49 hF62 (by kernel_rfl) rfl (by kernel_rfl) (run_loadV rfl rfl (run_loadS rfl rfl (hS51.cell 0 rfl 3 rfl))) (l' := [(29, .slice p39 L12.length c40), (28, nP z19 3), (27, nP z19 0), (26, nP z19 0), (5, nP z19 0), (1, .bool (i1))]) (by kernel_rfl) ?_
   intro a65 hF64; clear hF62
   refine ev_runK 3 hF64 [1, 5, 6] (l' := [(6, nI (IntKind.i64.wrap ((L12.length : Int) - 1))), (5, nP z19 0), (1, .bool (i1))]) (w' := w49) (by kernel_rfl) ?_
   intro a67 hF66; clear hF64
   refine wpList_nil (thenN (wp_seq (wp_seq (wp_region_lit ?_))))
   refine ev_runs 1 hF66 (l' := [(7, nI 0), (6, nI (IntKind.i64.wrap ((L12.length : Int) - 1))), (5, nP z19 0), (1, .bool (i1))]) (w' := w49) (by kernel_rfl) ?_
   intro a69 hF68; clear hF66
   refine wpList_nil (thenN ?_)
   refine wp_block ?_
   refine wp_loop_ghost (fun kI aI wI => ∃ (s70 : HSt) (s71 : HSt) (x72 : Int), Fr 255 aI [(7, nI x72), (6, nI (IntKind.i64.wrap ((L12.length : Int) - 1))), (5, nP z19 0), (1, .bool (i1))] ∧ St w0 F0 (BlkP z19 46 #[nP z20 0, nP z22 0, .slice p35 L11.length c36, .slice p39 L12.length c40] :: HeapP z20 z21 s70 :: RHeapP z22 z23 z24 z25 z26 s71 :: RowP (.slice p35 L11.length c36) L11 :: RowP (.slice p39 L12.length c40) L12 :: ps) wI ∧ ShutWakes.l4 i1 k L11 L12 kI s70 s71 x72 = some r0) k ⟨s9, s10, 0, hF68, hS51, hm60⟩ ?_
   rintro k73 a74 w75 ⟨s70, s71, x72, hF76, hS77, hm78⟩
   clear hF68 hS51 hm60
   rcases k73 with _ | k73
   · cases hm78
   have hm79 : ShutWakes.l4b i1 k L11 L12 (ShutWakes.l4 i1 k L11 L12 k73) s70 s71 x72 = some r0 := hm78
   clear hm78
   unfold ShutWakes.l4b at hm79
   refine wp_seq (wp_seq (wp_region_lit ?_))
   refine ev_runK 3 hF76 [1, 5, 6, 7, 34] (l' := [(34, .bool (decide (x72 < (IntKind.i64.wrap ((L12.length : Int) - 1))))), (7, nI x72), (6, nI (IntKind.i64.wrap ((L12.length : Int) - 1))), (5, nP z19 0), (1, .bool (i1))]) (w' := w75) (by kernel_rfl) ?_
   intro a81 hF80; clear hF76
   refine wpList_nil (thenN ?_)
   cases hc82 : (decide (x72 < (IntKind.i64.wrap ((L12.length : Int) - 1))))
   case true =>
    rw [hc82] at hF80
    have hm83 := ifYes hc82 hm79; clear hm79
    refine ev_condT hF80 rfl rfl ?_
    refine wp_skip ?_
    have hF84 := hF80.keep [1, 5, 6, 7]
    clear hF80
    refine thenN (wp_seq ?_)
    refine wp_block ?_
    refine wp_seq ?_
    refine joinQ (fun aI wI => ∃ (s85 : HSt) (s86 : HSt) (y87 : Bool), Fr 255 aI [(61, .bool (y87)), (7, nI x72), (6, nI (IntKind.i64.wrap ((L12.length : Int) - 1))), (5, nP z19 0), (1, .bool (i1))] ∧ St w0 F0 (BlkP z19 46 #[nP z20 0, nP z22 0, .slice p35 L11.length c36, .slice p39 L12.length c40] :: HeapP z20 z21 s85 :: RHeapP z22 z23 z24 z25 z26 s86 :: RowP (.slice p35 L11.length c36) L11 :: RowP (.slice p39 L12.length c40) L12 :: ps) wI ∧ ShutWakes.j5 x72 (ShutWakes.l4 i1 k L11 L12 k73) s85 s86 y87 = some r0) ?_ ?_
    rotate_left
    · rintro a89 w90 ⟨s85, s86, y87, hF91, hS92, hm93⟩
      clear hF84 hS77 hm83
      unfold ShutWakes.j5 at hm93
      refine thenN ?_
      cases hc95 : (y87)
      case true =>
       rw [hc95] at hF91
       have hm96 := ifYes hc95 hm93; clear hm93
       refine ev_condT hF91 rfl rfl ?_
       refine wp_seq (wp_region_lit ?_)
       refine ev_runK 1 hF91 [4] (l' := [(4, .bool false)]) (w' := w90) (by kernel_rfl) ?_
       intro a98 hF97; clear hF91
       refine wpList_nil ?_
       have hS99 := hS92.drop.drop.drop.drop.drop
       clear hS92
       refine thenN ?_
       refine wp_ret ?_
       refine blockR ?_
       refine thenR (thenR ?_)
       refine blockR ?_
       refine thenR ?_
       obtain rfl := Option.some.inj hm96
       refine ev_ret hF97 [4] (.bool false) rfl rfl rfl ?_
       exact ⟨rfl, hS99⟩
      rw [hc95] at hF91
      have hm101 := ifNot hc95 hm93; clear hm93
      refine ev_condF hF91 rfl rfl ?_
      refine wp_skip ?_
      have hF102 := hF91.keep [1, 5, 6, 7]
      clear hF91
      refine blockN ?_
      refine thenN (wp_region_lit ?_)
      refine ev_runK 3 hF102 [1, 5, 6, 7] (l' := [(7, nI (IntKind.i64.wrap (x72 + 1))), (6, nI (IntKind.i64.wrap ((L12.length : Int) - 1))), (5, nP z19 0), (1, .bool (i1))]) (w' := w90) (by kernel_rfl) ?_
      intro a104 hF103; clear hF102
      refine wpList_nil ?_
      exact thenN ⟨k73, Nat.lt_succ_self _, s85, s86, IntKind.i64.wrap (x72 + 1), hF103, hS92, hm101⟩
    · skip
      -- draws
      obtain ⟨hc105, hm106⟩ := ifTE hm83; clear hm83
      obtain ⟨g107, rfl⟩ := hp41.resolve_left (by have := inR_spec hc105; omega)
      obtain ⟨hc108, hm109⟩ := ifTE hm106; clear hm106
      obtain ⟨g110, rfl⟩ := hp37.resolve_left (by have := inR_spec hc108; omega)
      obtain ⟨hc111, hm112⟩ := ifTE hm109; clear hm109
      have hS113 := hS77.pick3.pick4.pick2
      clear hS77
      have hS114 := hS113.drew; clear hS113
      refine any_start (fun wS => ∃ qs, St w0 F0 (BlkP z19 46 #[nP z20 0, nP z22 0, nS g110 L11 c36, nS g107 L12 c40] :: RowP (nS g107 L12 c40) L12 :: RowP (nS g110 L11 c36) L11 :: qs) wS) 25 #[false, false, false, false, false, false, false, false, false, false, false, false, false, false, false, false, false, false, false, false, false, false, false, false, false] (by kernel_rfl) (by kernel_rfl) (by kernel_rfl) ?_
      refine any_many 21 [(0, some (nP z19 0)), (1, some (nP z19 0)), (2, some (nP z19 0)), (3, some (nP z19 3)), (4, some (nS g107 L12 c40)), (5, some (nI x72)), (6, some (nP g107 (x72.toNat))), (7, some (nI (atI L12 x72))), (8, some (nP z19 0)), (9, some (nP z19 0)), (10, some (nP z19 2)), (11, some (nS g110 L11 c36)), (12, some (nP g110 ((0 : Int).toNat))), (13, some (nI (atI L11 (0 : Int)))), (14, some (nP z19 0)), (15, some (nP z19 0)), (16, some (nP z19 2)), (17, some (nS g110 L11 c36)), (18, some (nP g110 ((1 : Int).toNat))), (19, some (nI (atI L11 (1 : Int)))), (22, some (nI x72))] [1, 5, 6, 7, 37, 44, 50, 56, 57, 58, 59, 60, 61] #[true, true, true, true, true, true, true, true, true, true, true, true, true, true, true, true, true, true, true, true, false, false, true, false, false] (by rfl) hF84 (by kernel_rfl) (by kernel_rfl) (by exact ⟨fun wS hw => by kernel_rfl, fun wS hw => by kernel_rfl, fun wS hw => by kernel_rfl, fun wS hw => by kernel_rfl, fun wS hw => hw.elim fun qs hw => run_loadV rfl rfl (run_loadS rfl rfl (hw.cell 0 rfl 3 rfl)), fun wS hw => by kernel_rfl, fun wS hw => run_idx rfl rfl rfl rfl rfl (inR_spec hc105).1 (inR_spec hc105).2 _, fun wS hw => run_load1 rfl rfl rfl (hw.elim fun qs hw => hw.atI 1 rfl hc105), fun wS hw => by kernel_rfl, fun wS hw => by kernel_rfl, fun wS hw => by kernel_rfl, fun wS hw => hw.elim fun qs hw => run_loadV rfl rfl (run_loadS rfl rfl (hw.cell 0 rfl 2 rfl)), fun wS hw => run_idx rfl rfl rfl rfl rfl (inR_spec hc108).1 (inR_spec hc108).2 _, fun wS hw => run_load1 rfl rfl rfl (hw.elim fun qs hw => hw.atI 2 rfl hc108), fun wS hw => by kernel_rfl, fun wS hw => by kernel_rfl, fun wS hw => by kernel_rfl, fun wS hw => hw.elim fun qs hw => run_loadV rfl rfl (run_loadS rfl rfl (hw.cell 0 rfl 2 rfl)), fun wS hw => run_idx rfl rfl rfl rfl rfl (inR_spec hc111).1 (inR_spec hc111).2 _, fun wS hw => run_load1 rfl rfl rfl (hw.elim fun qs hw => hw.atI 2 rfl hc111), fun wS hw => by kernel_rfl, trivial⟩) (fun _ _ _ _ _ h => h) ⟨_, hS114⟩ (l' := [(59, nI x72), (56, nI (atI L11 (1 : Int))), (50, nI (atI L11 (0 : Int))), (44, nI (atI L12 x72)), (37, nP z19 0), (7, nI x72), (6, nI (IntKind.i64.wrap ((L12.length : Int) - 1))), (5, nP z19 0), (1, .bool (i1))]) (by kernel_rfl) ?_
      intro a116 hF115; clear hF84
      refine any_two 20 21 (by kernel_rfl) ?_ ?_
      · skip
        have hS117 : St w0 F0 (RowP (.slice (some ⟨(w75.drew).heap.size, 0, none⟩) 2 2) [atI L11 (0 : Int), atI L11 (1 : Int)] :: BlkP z19 46 #[nP z20 0, nP z22 0, nS g110 L11 c36, nS g107 L12 c40] :: RowP (nS g107 L12 c40) L12 :: RowP (nS g110 L11 c36) L11 :: HeapP z20 z21 s70 :: RHeapP z22 z23 z24 z25 z26 s71 :: ps) ((w75.drew).alloc (.cells #[nI (atI L11 (0 : Int)), nI (atI L11 (1 : Int))] 3)) := St.lit hS114 [atI L11 (0 : Int), atI L11 (1 : Int)] (by unfold maxLen; simp)
        clear hS114
        refine op_step 20 #[true, true, true, true, true, true, true, true, true, true, true, true, true, true, true, true, true, true, true, true, true, false, true, false, false] (.slice (some ⟨(w75.drew).heap.size, 0, none⟩) 2 2) ((w75.drew).alloc (.cells #[nI (atI L11 (0 : Int)), nI (atI L11 (1 : Int))] 3)) hF115 rfl (by kernel_rfl) rfl (by kernel_rfl) (by kernel_rfl) (l' := [(57, .slice (some ⟨(w75.drew).heap.size, 0, none⟩) 2 2), (59, nI x72), (56, nI (atI L11 (1 : Int))), (50, nI (atI L11 (0 : Int))), (44, nI (atI L12 x72)), (37, nP z19 0), (7, nI x72), (6, nI (IntKind.i64.wrap ((L12.length : Int) - 1))), (5, nP z19 0), (1, .bool (i1))]) (by kernel_rfl) ⟨_, hS117.pick3.pick3.pick3⟩ (by kernel_rfl) ?_
        intro a119 hF118; clear hF115
        refine any_one 21 (by kernel_rfl) ?_
        have hS120 : St w0 F0 (BoolsP (.slice (some ⟨((w75.drew).alloc (.cells #[nI (atI L11 (0 : Int)), nI (atI L11 (1 : Int))] 3)).heap.size, 0, none⟩) 2 2) [false, true] :: RowP (.slice (some ⟨(w75.drew).heap.size, 0, none⟩) 2 2) [atI L11 (0 : Int), atI L11 (1 : Int)] :: BlkP z19 46 #[nP z20 0, nP z22 0, nS g110 L11 c36, nS g107 L12 c40] :: RowP (nS g107 L12 c40) L12 :: RowP (nS g110 L11 c36) L11 :: HeapP z20 z21 s70 :: RHeapP z22 z23 z24 z25 z26 s71 :: ps) (((w75.drew).alloc (.cells #[nI (atI L11 (0 : Int)), nI (atI L11 (1 : Int))] 3)).alloc (.cells #[.bool false, .bool true] 4)) := St.litB hS117 [false, true] (by unfold maxLen; simp)
        clear hS117
        refine op_step 21 #[true, true, true, true, true, true, true, true, true, true, true, true, true, true, true, true, true, true, true, true, true, true, true, false, false] (.slice (some ⟨((w75.drew).alloc (.cells #[nI (atI L11 (0 : Int)), nI (atI L11 (1 : Int))] 3)).heap.size, 0, none⟩) 2 2) (((w75.drew).alloc (.cells #[nI (atI L11 (0 : Int)), nI (atI L11 (1 : Int))] 3)).alloc (.cells #[.bool false, .bool true] 4)) hF118 rfl (by kernel_rfl) rfl (by kernel_rfl) (by kernel_rfl) (l' := [(58, .slice (some ⟨((w75.drew).alloc (.cells #[nI (atI L11 (0 : Int)), nI (atI L11 (1 : Int))] 3)).heap.size, 0, none⟩) 2 2), (57, .slice (some ⟨(w75.drew).heap.size, 0, none⟩) 2 2), (59, nI x72), (56, nI (atI L11 (1 : Int))), (50, nI (atI L11 (0 : Int))), (44, nI (atI L12 x72)), (37, nP z19 0), (7, nI x72), (6, nI (IntKind.i64.wrap ((L12.length : Int) - 1))), (5, nP z19 0), (1, .bool (i1))]) (by kernel_rfl) ⟨_, hS120.pick4.pick4.pick4⟩ (by kernel_rfl) ?_
        intro a122 hF121; clear hF118
        have hS123 := hS120.pick1.pick3.pick4.pick6.pick6.pick6
        clear hS120
        refine any_call 23 #[true, true, true, true, true, true, true, true, true, true, true, true, true, true, true, true, true, true, true, true, true, true, true, true, false] 34 #[nP z19 0, nI (atI L12 x72), .slice (some ⟨(w75.drew).heap.size, 0, none⟩) 2 2, .slice (some ⟨((w75.drew).alloc (.cells #[nI (atI L11 (0 : Int)), nI (atI L11 (1 : Int))] 3)).heap.size, 0, none⟩) 2 2, nI 8, nI x72] hF121 rfl (by kernel_rfl) rfl rfl (by kernel_rfl) rfl (by kernel_rfl) (fun w => by kernel_rfl) (by kernel_rfl) ?_
        obtain ⟨y124, s125, s126, hx127, hm128⟩ := bind3E hm112; clear hm112
        refine (law17_wait.ok hS123 hx127).mono ?_
        rintro _ w129 ⟨rfl, hS131⟩; clear hS123
        refine ⟨⟨_, hS131.pick3.pick4.pick2⟩, ?_⟩
        intro a130 hF132; clear hF121
        refine any_many 1 [(24, some (.bool (!(y124))))] [1, 5, 6, 7, 61] #[true, true, true, true, true, true, true, true, true, true, true, true, true, true, true, true, true, true, true, true, true, true, true, true, true] (by rfl) hF132 (by kernel_rfl) (by kernel_rfl) (by exact ⟨fun wS hw => by kernel_rfl, trivial⟩) (fun _ _ _ _ _ h => h) ⟨_, hS131.pick3.pick4.pick2⟩ (l' := [(61, .bool (!(y124))), (7, nI x72), (6, nI (IntKind.i64.wrap ((L12.length : Int) - 1))), (5, nP z19 0), (1, .bool (i1))]) (by kernel_rfl) ?_
        intro a134 hF133; clear hF132
        refine any_done (by kernel_rfl) ?_
        have hS135 := hS131.pick5.drop.pick5.drop
        clear hS131
        exact thenN ⟨s125, s126, !(y124), hF133, hS135, hm128⟩
      · skip
        have hS136 : St w0 F0 (BoolsP (.slice (some ⟨(w75.drew).heap.size, 0, none⟩) 2 2) [false, true] :: BlkP z19 46 #[nP z20 0, nP z22 0, nS g110 L11 c36, nS g107 L12 c40] :: RowP (nS g107 L12 c40) L12 :: RowP (nS g110 L11 c36) L11 :: HeapP z20 z21 s70 :: RHeapP z22 z23 z24 z25 z26 s71 :: ps) ((w75.drew).alloc (.cells #[.bool false, .bool true] 4)) := St.litB hS114 [false, true] (by unfold maxLen; simp)
        clear hS114
        refine op_step 21 #[true, true, true, true, true, true, true, true, true, true, true, true, true, true, true, true, true, true, true, true, false, true, true, false, false] (.slice (some ⟨(w75.drew).heap.size, 0, none⟩) 2 2) ((w75.drew).alloc (.cells #[.bool false, .bool true] 4)) hF115 rfl (by kernel_rfl) rfl (by kernel_rfl) (by kernel_rfl) (l' := [(58, .slice (some ⟨(w75.drew).heap.size, 0, none⟩) 2 2), (59, nI x72), (56, nI (atI L11 (1 : Int))), (50, nI (atI L11 (0 : Int))), (44, nI (atI L12 x72)), (37, nP z19 0), (7, nI x72), (6, nI (IntKind.i64.wrap ((L12.length : Int) - 1))), (5, nP z19 0), (1, .bool (i1))]) (by kernel_rfl) ⟨_, hS136.pick3.pick3.pick3⟩ (by kernel_rfl) ?_
        intro a138 hF137; clear hF115
        refine any_one 20 (by kernel_rfl) ?_
        have hS139 : St w0 F0 (RowP (.slice (some ⟨((w75.drew).alloc (.cells #[.bool false, .bool true] 4)).heap.size, 0, none⟩) 2 2) [atI L11 (0 : Int), atI L11 (1 : Int)] :: BoolsP (.slice (some ⟨(w75.drew).heap.size, 0, none⟩) 2 2) [false, true] :: BlkP z19 46 #[nP z20 0, nP z22 0, nS g110 L11 c36, nS g107 L12 c40] :: RowP (nS g107 L12 c40) L12 :: RowP (nS g110 L11 c36) L11 :: HeapP z20 z21 s70 :: RHeapP z22 z23 z24 z25 z26 s71 :: ps) (((w75.drew).alloc (.cells #[.bool false, .bool true] 4)).alloc (.cells #[nI (atI L11 (0 : Int)), nI (atI L11 (1 : Int))] 3)) := St.lit hS136 [atI L11 (0 : Int), atI L11 (1 : Int)] (by unfold maxLen; simp)
        clear hS136
        refine op_step 20 #[true, true, true, true, true, true, true, true, true, true, true, true, true, true, true, true, true, true, true, true, true, true, true, false, false] (.slice (some ⟨((w75.drew).alloc (.cells #[.bool false, .bool true] 4)).heap.size, 0, none⟩) 2 2) (((w75.drew).alloc (.cells #[.bool false, .bool true] 4)).alloc (.cells #[nI (atI L11 (0 : Int)), nI (atI L11 (1 : Int))] 3)) hF137 rfl (by kernel_rfl) rfl (by kernel_rfl) (by kernel_rfl) (l' := [(57, .slice (some ⟨((w75.drew).alloc (.cells #[.bool false, .bool true] 4)).heap.size, 0, none⟩) 2 2), (58, .slice (some ⟨(w75.drew).heap.size, 0, none⟩) 2 2), (59, nI x72), (56, nI (atI L11 (1 : Int))), (50, nI (atI L11 (0 : Int))), (44, nI (atI L12 x72)), (37, nP z19 0), (7, nI x72), (6, nI (IntKind.i64.wrap ((L12.length : Int) - 1))), (5, nP z19 0), (1, .bool (i1))]) (by kernel_rfl) ⟨_, hS139.pick4.pick4.pick4⟩ (by kernel_rfl) ?_
        intro a141 hF140; clear hF137
        have hS142 := hS139.pick1.pick1.pick3.pick4.pick6.pick6.pick6
        clear hS139
        refine any_call 23 #[true, true, true, true, true, true, true, true, true, true, true, true, true, true, true, true, true, true, true, true, true, true, true, true, false] 34 #[nP z19 0, nI (atI L12 x72), .slice (some ⟨((w75.drew).alloc (.cells #[.bool false, .bool true] 4)).heap.size, 0, none⟩) 2 2, .slice (some ⟨(w75.drew).heap.size, 0, none⟩) 2 2, nI 8, nI x72] hF140 rfl (by kernel_rfl) rfl rfl (by kernel_rfl) rfl (by kernel_rfl) (fun w => by kernel_rfl) (by kernel_rfl) ?_
        obtain ⟨y143, s144, s145, hx146, hm147⟩ := bind3E hm112; clear hm112
        refine (law17_wait.ok hS142 hx146).mono ?_
        rintro _ w148 ⟨rfl, hS150⟩; clear hS142
        refine ⟨⟨_, hS150.pick3.pick4.pick2⟩, ?_⟩
        intro a149 hF151; clear hF140
        refine any_many 1 [(24, some (.bool (!(y143))))] [1, 5, 6, 7, 61] #[true, true, true, true, true, true, true, true, true, true, true, true, true, true, true, true, true, true, true, true, true, true, true, true, true] (by rfl) hF151 (by kernel_rfl) (by kernel_rfl) (by exact ⟨fun wS hw => by kernel_rfl, trivial⟩) (fun _ _ _ _ _ h => h) ⟨_, hS150.pick3.pick4.pick2⟩ (l' := [(61, .bool (!(y143))), (7, nI x72), (6, nI (IntKind.i64.wrap ((L12.length : Int) - 1))), (5, nP z19 0), (1, .bool (i1))]) (by kernel_rfl) ?_
        intro a153 hF152; clear hF151
        refine any_done (by kernel_rfl) ?_
        have hS154 := hS150.pick5.drop.pick5.drop
        clear hS150
        exact thenN ⟨s144, s145, !(y143), hF152, hS154, hm147⟩
   rw [hc82] at hF80
   have hm155 := ifNot hc82 hm79; clear hm79
   refine ev_condF hF80 rfl rfl ?_
   refine wp_exit ?_
   refine thenE ?_
   refine thenE ?_
   refine blockE ?_
   refine thenN (wp_seq (wp_seq ?_))
   refine joinQ (fun aI wI => ∃ (s156 : HSt) (s157 : HSt) (y158 : Bool) (y159 : Bool), Fr 255 aI [(82, .bool (y158)), (6, nI (IntKind.i64.wrap ((L12.length : Int) - 1))), (5, nP z19 0), (1, .bool (y159))] ∧ St w0 F0 (BlkP z19 46 #[nP z20 0, nP z22 0, .slice p35 L11.length c36, .slice p39 L12.length c40] :: RowP (.slice p39 L12.length c40) L12 :: RowP (.slice p35 L11.length c36) L11 :: HeapP z20 z21 s156 :: RHeapP z22 z23 z24 z25 z26 s157 :: ps) wI ∧ ShutWakes.j6 k L11 L12 s156 s157 y158 y159 = some r0) ?_ ?_
   rotate_left
   · rintro a161 w162 ⟨s156, s157, y158, y159, hF163, hS164, hm165⟩
     clear hF80 hS77 hm155
     unfold ShutWakes.j6 at hm165
     refine thenN ?_
     cases hc167 : (y158)
     case true =>
      rw [hc167] at hF163
      have hm168 := ifYes hc167 hm165; clear hm165
      refine ev_condT hF163 rfl rfl ?_
      refine wp_seq (wp_region_lit ?_)
      refine ev_runK 1 hF163 [4] (l' := [(4, .bool false)]) (w' := w162) (by kernel_rfl) ?_
      intro a170 hF169; clear hF163
      refine wpList_nil ?_
      have hS171 := hS164.drop.drop.drop.drop.drop
      clear hS164
      refine thenN ?_
      refine wp_ret ?_
      refine thenR ?_
      obtain rfl := Option.some.inj hm168
      refine ev_ret hF169 [4] (.bool false) rfl rfl rfl ?_
      exact ⟨rfl, hS171⟩
     rw [hc167] at hF163
     have hm173 := ifNot hc167 hm165; clear hm165
     refine ev_condF hF163 rfl rfl ?_
     refine wp_skip ?_
     have hF174 := hF163.keep [1, 5, 6]
     clear hF163
     refine thenN (wp_seq ?_)
     -- draws
     obtain ⟨hc175, hm176⟩ := ifTE hm173; clear hm173
     obtain ⟨g177, rfl⟩ := hp37.resolve_left (by have := inR_spec hc175; omega)
     have hS178 := hS164.pick2.pick1
     clear hS164
     have hS179 := hS178.drew; clear hS178
     refine any_start (fun wS => ∃ qs, St w0 F0 (BlkP z19 46 #[nP z20 0, nP z22 0, nS g177 L11 c36, .slice p39 L12.length c40] :: RowP (nS g177 L11 c36) L11 :: qs) wS) 18 #[false, false, false, false, false, false, false, false, false, false, false, false, false, false, false, false, false, false] (by kernel_rfl) (by kernel_rfl) (by kernel_rfl) ?_
     refine any_many 12 [(0, some (nP z19 0)), (1, some (nP z19 0)), (2, some (nP z19 0)), (3, some (nP z20 0)), (4, some (nP z19 0)), (5, some (nP z19 0)), (6, some (nP z19 2)), (7, some (nS g177 L11 c36)), (8, some (nP g177 ((0 : Int).toNat))), (9, some (nI (atI L11 (0 : Int)))), (10, some (nI (IntKind.i64.wrap (2 * (atI L11 (0 : Int)))))), (11, some (nI (IntKind.i64.wrap ((IntKind.i64.wrap (2 * (atI L11 (0 : Int)))) + 1))))] [1, 5, 6, 8, 9, 83, 87, 95, 96, 97, 98] #[true, true, true, true, true, true, true, true, true, true, true, true, false, false, false, false, false, false] (by rfl) hF174 (by kernel_rfl) (by kernel_rfl) (by exact ⟨fun wS hw => by kernel_rfl, fun wS hw => by kernel_rfl, fun wS hw => by kernel_rfl, fun wS hw => hw.elim fun qs hw => run_loadV rfl rfl (run_loadS rfl rfl (hw.cell 0 rfl 0 rfl)), fun wS hw => by kernel_rfl, fun wS hw => by kernel_rfl, fun wS hw => by kernel_rfl, fun wS hw => hw.elim fun qs hw => run_loadV rfl rfl (run_loadS rfl rfl (hw.cell 0 rfl 2 rfl)), fun wS hw => run_idx rfl rfl rfl rfl rfl (inR_spec hc175).1 (inR_spec hc175).2 _, fun wS hw => run_load1 rfl rfl rfl (hw.elim fun qs hw => hw.atI 1 rfl hc175), fun wS hw => by kernel_rfl, fun wS hw => by kernel_rfl, trivial⟩) (fun _ _ _ _ _ h => h) ⟨_, hS179⟩ (l' := [(95, nI (IntKind.i64.wrap ((IntKind.i64.wrap (2 * (atI L11 (0 : Int)))) + 1))), (87, nP z20 0), (6, nI (IntKind.i64.wrap ((L12.length : Int) - 1))), (5, nP z19 0), (1, .bool (y159))]) (by kernel_rfl) ?_
     intro a181 hF180; clear hF174
     have hS182 := hS179.pick3
     clear hS179
     refine any_call 12 #[true, true, true, true, true, true, true, true, true, true, true, true, true, false, false, false, false, false] 23 #[nP z20 0, nI (IntKind.i64.wrap ((IntKind.i64.wrap (2 * (atI L11 (0 : Int)))) + 1))] hF180 rfl (by kernel_rfl) rfl rfl (by kernel_rfl) rfl (by kernel_rfl) (fun w => by kernel_rfl) (by kernel_rfl) ?_
     obtain ⟨L183, x184, s185, hx186, hm187⟩ := bind3E hm176; clear hm176
     refine (shut_Try.ok hS182 hx186).mono ?_
     rintro _ w188 ⟨z192, rfl, hS190⟩; clear hS182
     obtain ⟨hl197, p194, c195, rfl, hp196⟩ := St.shape hS190 1 rfl
     refine ⟨⟨_, hS190.pick3.pick3⟩, ?_⟩
     intro a189 hF191; clear hF180
     refine any_many 5 [(13, some (.tuple #[.slice p194 L183.length c195, nI x184])), (14, some (.slice p194 L183.length c195)), (15, some (nI x184)), (16, some (.slice p194 L183.length c195)), (17, some (nI x184))] [1, 5, 6, 8, 9] #[true, true, true, true, true, true, true, true, true, true, true, true, true, true, true, true, true, true] (by rfl) hF191 (by kernel_rfl) (by kernel_rfl) (by exact ⟨fun wS hw => by kernel_rfl, fun wS hw => by kernel_rfl, fun wS hw => by kernel_rfl, fun wS hw => by kernel_rfl, fun wS hw => by kernel_rfl, trivial⟩) (fun _ _ _ _ _ h => h) ⟨_, hS190.pick3.pick3⟩ (l' := [(9, nI x184), (8, .slice p194 L183.length c195), (6, nI (IntKind.i64.wrap ((L12.length : Int) - 1))), (5, nP z19 0), (1, .bool (y159))]) (by kernel_rfl) ?_
     intro a199 hF198; clear hF191
     refine any_done (by kernel_rfl) ?_
     refine thenN (wp_seq (wp_seq (wp_region_lit ?_)))
     refine ev_runK 1 hF198 [5, 6, 8, 9, 99] (l' := [(99, .bool (y159)), (9, nI x184), (8, .slice p194 L183.length c195), (6, nI (IntKind.i64.wrap ((L12.length : Int) - 1))), (5, nP z19 0)]) (w' := w188) (by kernel_rfl) ?_
     intro a201 hF200; clear hF198
     refine wpList_nil (thenN ?_)
     cases hc202 : (y159)
     case true =>
      rw [hc202] at hF200
      have hm203 := ifYes hc202 hm187; clear hm187
      refine ev_condT hF200 rfl rfl ?_
      refine wp_seq ?_
      refine joinQ (fun aI wI => ∃ (g204 : Nat) (x205 : Int) (x206 : Int) (x207 : Int) (x208 : Int) (x209 : Int) (x210 : Int) (x211 : Int) (x212 : Int) (x213 : Int) (x214 : Int), Fr 255 aI [(11, nI x214), (10, nP g204 0), (9, nI x184), (8, .slice p194 L183.length c195), (6, nI (IntKind.i64.wrap ((L12.length : Int) - 1))), (5, nP z19 0)] ∧ St w0 F0 (BlkP g204 57 #[nI x205, nI x206, nI x207, nI x208, nI x209, nI x210, nI x211, nI x212, nI x213] :: HeapP z20 z21 s185 :: BlkP z19 46 #[nP z20 0, nP z22 0, nS g177 L11 c36, .slice p39 L12.length c40] :: RowP (nS g177 L11 c36) L11 :: RowP (.slice p194 L183.length c195) L183 :: RowP (.slice p39 L12.length c40) L12 :: RHeapP z22 z23 z24 z25 z26 s157 :: ps) wI ∧ ShutWakes.j7 k L11 L12 L183 x184 s185 x205 x206 x207 x208 x209 x210 x211 x212 x213 x214 = some r0) ?_ ?_
      rotate_left
      · rintro a216 w217 ⟨g204, x205, x206, x207, x208, x209, x210, x211, x212, x213, x214, hF218, hS219, hm220⟩
        clear hF200 hS190 hm203
        unfold ShutWakes.j7 at hm220
        refine thenN (wp_seq ?_)
        refine joinQ (fun aI wI => ∃ (y222 : Bool), Fr 255 aI [(4, .bool (y222))] ∧ St w0 F0 (ps) wI ∧ ShutWakes.j8 y222 = some r0) ?_ ?_
        rotate_left
        · rintro a224 w225 ⟨y222, hF226, hS227, hm228⟩
          clear hF218 hS219 hm220
          unfold ShutWakes.j8 at hm228
          refine thenN ?_
          refine wp_ret ?_
          refine thenR ?_
          obtain rfl := Option.some.inj hm228
          refine ev_ret hF226 [4] (.bool (y222)) rfl rfl rfl ?_
          exact ⟨rfl, hS227⟩
        · skip
          -- draws
          have hS231 := hS219.pick3.pick3.pick2
          clear hS219
          have hS232 := hS231.drew; clear hS231
          refine any_start (fun wS => ∃ qs, St w0 F0 (BlkP g204 57 #[nI x205, nI x206, nI x207, nI x208, nI x209, nI x210, nI x211, nI x212, nI x213] :: BlkP z19 46 #[nP z20 0, nP z22 0, nS g177 L11 c36, .slice p39 L12.length c40] :: RowP (nS g177 L11 c36) L11 :: qs) wS) 33 #[false, false, false, false, false, false, false, false, false, false, false, false, false, false, false, false, false, false, false, false, false, false, false, false, false, false, false, false, false, false, false, false, false] (by kernel_rfl) (by kernel_rfl) (by kernel_rfl) ?_
          refine any_many 3 [(0, some (nI x184)), (1, some (.bool (x184 == 3))), (2, some (.bool (x184 == 3)))] [4, 5, 6, 8, 10, 11, 116, 117, 118, 119, 120, 121, 122, 123, 124, 125, 126, 127, 128, 129, 130, 131, 132, 133, 134, 135, 136, 137, 138, 139, 140, 141, 142, 143, 144, 145] #[true, true, true, false, false, false, false, false, false, false, false, false, false, false, false, false, false, false, false, false, false, false, false, false, false, false, false, false, false, false, false, false, false] (by rfl) hF218 (by kernel_rfl) (by kernel_rfl) (by exact ⟨fun wS hw => by kernel_rfl, fun wS hw => by kernel_rfl, fun wS hw => by kernel_rfl, trivial⟩) (fun _ _ _ _ _ h => h) ⟨_, hS232⟩ (l' := [(116, .bool (x184 == 3)), (11, nI x214), (10, nP g204 0), (8, .slice p194 L183.length c195), (6, nI (IntKind.i64.wrap ((L12.length : Int) - 1))), (5, nP z19 0)]) (by kernel_rfl) ?_
          intro a234 hF233; clear hF218
          cases hc235 : (x184 == 3)
          case true =>
           rw [hc235] at hF233
           have hm236 := ifYes hc235 hm220; clear hm220
           refine any_many 5 [(3, some (.slice p194 L183.length c195)), (4, some (nI ((L183.length : Int)))), (5, some (.bool ((L183.length : Int) == 0))), (6, some (.bool ((L183.length : Int) == 0))), (7, some (.bool ((L183.length : Int) == 0)))] [4, 5, 6, 10, 11, 121, 122, 123, 124, 125, 126, 127, 128, 129, 130, 131, 132, 133, 134, 135, 136, 137, 138, 139, 140, 141, 142, 143, 144, 145] #[true, true, true, true, true, true, true, true, false, false, false, false, false, false, false, false, false, false, false, false, false, false, false, false, false, false, false, false, false, false, false, false, false] (by rfl) hF233 (by kernel_rfl) (by kernel_rfl) (by exact ⟨fun wS hw => by kernel_rfl, fun wS hw => by kernel_rfl, fun wS hw => by kernel_rfl, fun wS hw => by kernel_rfl, fun wS hw => by kernel_rfl, trivial⟩) (fun _ _ _ _ _ h => h) ⟨_, hS232⟩ (l' := [(121, .bool ((L183.length : Int) == 0)), (11, nI x214), (10, nP g204 0), (6, nI (IntKind.i64.wrap ((L12.length : Int) - 1))), (5, nP z19 0)]) (by kernel_rfl) ?_
           intro a238 hF237; clear hF233
           cases hc239 : ((L183.length : Int) == 0)
           case true =>
            rw [hc239] at hF237
            have hm240 := ifYes hc239 hm236; clear hm236
            refine any_many 4 [(8, some (nI x214)), (9, some (.bool (x214 == 0))), (10, some (.bool (x214 == 0))), (11, some (.bool (x214 == 0)))] [4, 5, 6, 10, 125, 126, 127, 128, 129, 130, 131, 132, 133, 134, 135, 136, 137, 138, 139, 140, 141, 142, 143, 144, 145] #[true, true, true, true, true, true, true, true, true, true, true, true, false, false, false, false, false, false, false, false, false, false, false, false, false, false, false, false, false, false, false, false, false] (by rfl) hF237 (by kernel_rfl) (by kernel_rfl) (by exact ⟨fun wS hw => by kernel_rfl, fun wS hw => by kernel_rfl, fun wS hw => by kernel_rfl, fun wS hw => by kernel_rfl, trivial⟩) (fun _ _ _ _ _ h => h) ⟨_, hS232⟩ (l' := [(125, .bool (x214 == 0)), (10, nP g204 0), (6, nI (IntKind.i64.wrap ((L12.length : Int) - 1))), (5, nP z19 0)]) (by kernel_rfl) ?_
            intro a242 hF241; clear hF237
            cases hc243 : (x214 == 0)
            case true =>
             rw [hc243] at hF241
             have hm244 := ifYes hc243 hm240; clear hm240
             refine any_many 5 [(12, some (nP g204 1)), (13, some (nI x206)), (14, some (.bool (x206 == 0))), (15, some (.bool (x206 == 0))), (16, some (.bool (x206 == 0)))] [4, 5, 6, 130, 131, 132, 133, 134, 135, 136, 137, 138, 139, 140, 141, 142, 143, 144, 145] #[true, true, true, true, true, true, true, true, true, true, true, true, true, true, true, true, true, false, false, false, false, false, false, false, false, false, false, false, false, false, false, false, false] (by rfl) hF241 (by kernel_rfl) (by kernel_rfl) (by exact ⟨fun wS hw => by kernel_rfl, fun wS hw => hw.elim fun qs hw => run_loadV rfl rfl (run_loadS rfl rfl (hw.cell 0 rfl 1 rfl)), fun wS hw => by kernel_rfl, fun wS hw => by kernel_rfl, fun wS hw => by kernel_rfl, trivial⟩) (fun _ _ _ _ _ h => h) ⟨_, hS232⟩ (l' := [(130, .bool (x206 == 0)), (6, nI (IntKind.i64.wrap ((L12.length : Int) - 1))), (5, nP z19 0)]) (by kernel_rfl) ?_
             intro a246 hF245; clear hF241
             cases hc247 : (x206 == 0)
             case true =>
              rw [hc247] at hF245
              have hm248 := ifYes hc247 hm244; clear hm244
              refine any_many 11 [(17, some (nP z19 0)), (18, some (nP z19 0)), (19, some (nP z19 0)), (20, some (nP z20 0)), (21, some (nP z19 0)), (22, some (nP z19 0)), (23, some (nP z19 2)), (24, some (nS g177 L11 c36)), (25, some (nP g177 ((0 : Int).toNat))), (26, some (nI (atI L11 (0 : Int)))), (29, some (nI (IntKind.i64.wrap ((L12.length : Int) - 1))))] [4, 130, 134, 140, 141, 142, 143, 144, 145] #[true, true, true, true, true, true, true, true, true, true, true, true, true, true, true, true, true, true, true, true, true, true, true, true, true, true, true, false, false, true, false, false, false] (by rfl) hF245 (by kernel_rfl) (by kernel_rfl) (by exact ⟨fun wS hw => by kernel_rfl, fun wS hw => by kernel_rfl, fun wS hw => by kernel_rfl, fun wS hw => hw.elim fun qs hw => run_loadV rfl rfl (run_loadS rfl rfl (hw.cell 1 rfl 0 rfl)), fun wS hw => by kernel_rfl, fun wS hw => by kernel_rfl, fun wS hw => by kernel_rfl, fun wS hw => hw.elim fun qs hw => run_loadV rfl rfl (run_loadS rfl rfl (hw.cell 1 rfl 2 rfl)), fun wS hw => run_idx rfl rfl rfl rfl rfl (inR_spec hc175).1 (inR_spec hc175).2 _, fun wS hw => run_load1 rfl rfl rfl (hw.elim fun qs hw => hw.atI 2 rfl hc175), fun wS hw => by kernel_rfl, trivial⟩) (fun _ _ _ _ _ h => h) ⟨_, hS232⟩ (l' := [(143, nI (IntKind.i64.wrap ((L12.length : Int) - 1))), (140, nI (atI L11 (0 : Int))), (134, nP z20 0), (130, .bool true)]) (by kernel_rfl) ?_
              intro a250 hF249; clear hF245
              have hS251 := hS232.pick3
              clear hS232
              refine any_call 27 #[true, true, true, true, true, true, true, true, true, true, true, true, true, true, true, true, true, true, true, true, true, true, true, true, true, true, true, true, false, true, false, false, false] 35 #[nP z20 0, nI (atI L11 (0 : Int)), .bool false] hF249 rfl (by kernel_rfl) rfl rfl (by kernel_rfl) rfl (by kernel_rfl) (fun w => by kernel_rfl) (by kernel_rfl) ?_
              obtain ⟨L252, s253, hx254, hm255⟩ := bind2E hm248; clear hm248
              refine (list_All.ok hS251 hx254).mono ?_
              rintro _ w256 ⟨z260, rfl, hS258⟩; clear hS251
              obtain ⟨hl265, p262, c263, rfl, hp264⟩ := St.shape hS258 1 rfl
              refine ⟨⟨_, hS258.pick4.pick4.pick4⟩, ?_⟩
              intro a257 hF259; clear hF249
              refine any_many 4 [(28, some (nI ((L252.length : Int)))), (30, some (.bool ((L252.length : Int) == (IntKind.i64.wrap ((L12.length : Int) - 1))))), (31, some (.bool ((L252.length : Int) == (IntKind.i64.wrap ((L12.length : Int) - 1))))), (32, some (.bool ((L252.length : Int) == (IntKind.i64.wrap ((L12.length : Int) - 1)))))] [4] #[true, true, true, true, true, true, true, true, true, true, true, true, true, true, true, true, true, true, true, true, true, true, true, true, true, true, true, true, true, true, true, true, true] (by rfl) hF259 (by kernel_rfl) (by kernel_rfl) (by exact ⟨fun wS hw => by kernel_rfl, fun wS hw => by kernel_rfl, fun wS hw => by kernel_rfl, fun wS hw => by kernel_rfl, trivial⟩) (fun _ _ _ _ _ h => h) ⟨_, hS258.pick4.pick4.pick4⟩ (l' := [(4, .bool ((L252.length : Int) == (IntKind.i64.wrap ((L12.length : Int) - 1))))]) (by kernel_rfl) ?_
              intro a267 hF266; clear hF259
              refine any_done (by kernel_rfl) ?_
              have hS268 := hS258.drop.drop.drop.drop.drop.drop.drop.drop
              clear hS258
              exact thenN ⟨(L252.length : Int) == (IntKind.i64.wrap ((L12.length : Int) - 1)), hF266, hS268, hm255⟩
             rw [hc247] at hF245
             have hm269 := ifNot hc247 hm244; clear hm244
             refine any_many 16 [(17, none), (18, none), (19, none), (20, none), (21, none), (22, none), (23, none), (24, none), (25, none), (26, none), (27, none), (28, none), (29, none), (30, none), (31, some (.bool false)), (32, some (.bool false))] [4] #[true, true, true, true, true, true, true, true, true, true, true, true, true, true, true, true, true, true, true, true, true, true, true, true, true, true, true, true, true, true, true, true, true] (by rfl) hF245 (by kernel_rfl) (by kernel_rfl) (by exact (And.intro trivial (And.intro trivial (And.intro trivial (And.intro trivial (And.intro trivial (And.intro trivial (And.intro trivial (And.intro trivial (And.intro trivial (And.intro trivial (And.intro trivial (And.intro trivial (And.intro trivial (And.intro trivial (And.intro (fun wS hw => by kernel_rfl) (And.intro (fun wS hw => by kernel_rfl) trivial))))))))))))))))) (fun _ _ _ _ _ h => h) ⟨_, hS232⟩ (l' := [(4, .bool false)]) (by kernel_rfl) ?_
             intro a271 hF270; clear hF245
             refine any_done (by kernel_rfl) ?_
             have hS272 := hS232.drop.drop.drop.drop.drop.drop.drop
             clear hS232
             exact thenN ⟨false, hF270, hS272, hm269⟩
            rw [hc243] at hF241
            have hm273 := ifNot hc243 hm240; clear hm240
            refine any_many 21 [(12, none), (13, none), (14, none), (15, some (.bool false)), (16, some (.bool false)), (17, none), (18, none), (19, none), (20, none), (21, none), (22, none), (23, none), (24, none), (25, none), (26, none), (27, none), (28, none), (29, none), (30, none), (31, some (.bool false)), (32, some (.bool false))] [4] #[true, true, true, true, true, true, true, true, true, true, true, true, true, true, true, true, true, true, true, true, true, true, true, true, true, true, true, true, true, true, true, true, true] (by rfl) hF241 (by kernel_rfl) (by kernel_rfl) (by exact (And.intro trivial (And.intro trivial (And.intro trivial (And.intro (fun wS hw => by kernel_rfl) (And.intro (fun wS hw => by kernel_rfl) (And.intro trivial (And.intro trivial (And.intro trivial (And.intro trivial (And.intro trivial (And.intro trivial (And.intro trivial (And.intro trivial (And.intro trivial (And.intro trivial (And.intro trivial (And.intro trivial (And.intro trivial (And.intro trivial (And.intro (fun wS hw => by kernel_rfl) (And.intro (fun wS hw => by kernel_rfl) trivial)))))))))))))))))))))) (fun _ _ _ _ _ h => h) ⟨_, hS232⟩ (l' := [(4, .bool false)]) (by kernel_rfl) ?_
            intro a275 hF274; clear hF241
            refine any_done (by kernel_rfl) ?_
            have hS276 := hS232.drop.drop.drop.drop.drop.drop.drop
            clear hS232
            exact thenN ⟨false, hF274, hS276, hm273⟩
           rw [hc239] at hF237
           have hm277 := ifNot hc239 hm236; clear hm236
           refine any_many 25 [(8, none), (9, none), (10, some (.bool false)), (11, some (.bool false)), (12, none), (13, none), (14, none), (15, some (.bool false)), (16, some (.bool false)), (17, none), (18, none), (19, none), (20, none), (21, none), (22, none), (23, none), (24, none), (25, none), (26, none), (27, none), (28, none), (29, none), (30, none), (31, some (.bool false)), (32, some (.bool false))] [4] #[true, true, true, true, true, true, true, true, true, true, true, true, true, true, true, true, true, true, true, true, true, true, true, true, true, true, true, true, true, true, true, true, true] (by rfl) hF237 (by kernel_rfl) (by kernel_rfl) (by exact (And.intro trivial (And.intro trivial (And.intro (fun wS hw => by kernel_rfl) (And.intro (fun wS hw => by kernel_rfl) (And.intro trivial (And.intro trivial (And.intro trivial (And.intro (fun wS hw => by kernel_rfl) (And.intro (fun wS hw => by kernel_rfl) (And.intro trivial (And.intro trivial (And.intro trivial (And.intro trivial (And.intro trivial (And.intro trivial (And.intro trivial (And.intro trivial (And.intro trivial (And.intro trivial (And.intro trivial (And.intro trivial (And.intro trivial (And.intro trivial (And.intro (fun wS hw => by kernel_rfl) (And.intro (fun wS hw => by kernel_rfl) trivial)))))))))))))))))))))))))) (fun _ _ _ _ _ h => h) ⟨_, hS232⟩ (l' := [(4, .bool false)]) (by kernel_rfl) ?_
           intro a279 hF278; clear hF237
           refine any_done (by kernel_rfl) ?_
           have hS280 := hS232.drop.drop.drop.drop.drop.drop.drop
           clear hS232
           exact thenN ⟨false, hF278, hS280, hm277⟩
          rw [hc235] at hF233
          have hm281 := ifNot hc235 hm220; clear hm220
          refine any_many 30 [(3, none), (4, none), (5, none), (6, some (.bool false)), (7, some (.bool false)), (8, none), (9, none), (10, some (.bool false)), (11, some (.bool false)), (12, none), (13, none), (14, none), (15, some (.bool false)), (16, some (.bool false)), (17, none), (18, none), (19, none), (20, none), (21, none), (22, none), (23, none), (24, none), (25, none), (26, none), (27, none), (28, none), (29, none), (30, none), (31, some (.bool false)), (32, some (.bool false))] [4] #[true, true, true, true, true, true, true, true, true, true, true, true, true, true, true, true, true, true, true, true, true, true, true, true, true, true, true, true, true, true, true, true, true] (by rfl) hF233 (by kernel_rfl) (by kernel_rfl) (by exact (And.intro trivial (And.intro trivial (And.intro trivial (And.intro (fun wS hw => by kernel_rfl) (And.intro (fun wS hw => by kernel_rfl) (And.intro trivial (And.intro trivial (And.intro (fun wS hw => by kernel_rfl) (And.intro (fun wS hw => by kernel_rfl) (And.intro trivial (And.intro trivial (And.intro trivial (And.intro (fun wS hw => by kernel_rfl) (And.intro (fun wS hw => by kernel_rfl) (And.intro trivial (And.intro trivial (And.intro trivial (And.intro trivial (And.intro trivial (And.intro trivial (And.intro trivial (And.intro trivial (And.intro trivial (And.intro trivial (And.intro trivial (And.intro trivial (And.intro trivial (And.intro trivial (And.intro (fun wS hw => by kernel_rfl) (And.intro (fun wS hw => by kernel_rfl) trivial))))))))))))))))))))))))))))))) (fun _ _ _ _ _ h => h) ⟨_, hS232⟩ (l' := [(4, .bool false)]) (by kernel_rfl) ?_
          intro a283 hF282; clear hF233
          refine any_done (by kernel_rfl) ?_
          have hS284 := hS232.drop.drop.drop.drop.drop.drop.drop
          clear hS232
          exact thenN ⟨false, hF282, hS284, hm281⟩
      · skip
        -- draws
        have hS285 := hS190.pick3.pick3
        clear hS190
        have hS286 := hS285.drew; clear hS285
        refine any_start (fun wS => ∃ qs, St w0 F0 (BlkP z19 46 #[nP z20 0, nP z22 0, nS g177 L11 c36, .slice p39 L12.length c40] :: RowP (nS g177 L11 c36) L11 :: qs) wS) 17 #[false, false, false, false, false, false, false, false, false, false, false, false, false, false, false, false, false] (by kernel_rfl) (by kernel_rfl) (by kernel_rfl) ?_
        refine any_many 10 [(0, some (nP z19 0)), (1, some (nP z19 0)), (2, some (nP z19 0)), (3, some (nP z20 0)), (4, some (nP z19 0)), (5, some (nP z19 0)), (6, some (nP z19 2)), (7, some (nS g177 L11 c36)), (8, some (nP g177 ((0 : Int).toNat))), (9, some (nI (atI L11 (0 : Int))))] [5, 6, 8, 9, 10, 11, 100, 104, 110, 111, 112, 113] #[true, true, true, true, true, true, true, true, true, true, false, false, false, false, false, false, false] (by rfl) hF200 (by kernel_rfl) (by kernel_rfl) (by exact ⟨fun wS hw => by kernel_rfl, fun wS hw => by kernel_rfl, fun wS hw => by kernel_rfl, fun wS hw => hw.elim fun qs hw => run_loadV rfl rfl (run_loadS rfl rfl (hw.cell 0 rfl 0 rfl)), fun wS hw => by kernel_rfl, fun wS hw => by kernel_rfl, fun wS hw => by kernel_rfl, fun wS hw => hw.elim fun qs hw => run_loadV rfl rfl (run_loadS rfl rfl (hw.cell 0 rfl 2 rfl)), fun wS hw => run_idx rfl rfl rfl rfl rfl (inR_spec hc175).1 (inR_spec hc175).2 _, fun wS hw => run_load1 rfl rfl rfl (hw.elim fun qs hw => hw.atI 1 rfl hc175), trivial⟩) (fun _ _ _ _ _ h => h) ⟨_, hS286⟩ (l' := [(110, nI (atI L11 (0 : Int))), (104, nP z20 0), (9, nI x184), (8, .slice p194 L183.length c195), (6, nI (IntKind.i64.wrap ((L12.length : Int) - 1))), (5, nP z19 0)]) (by kernel_rfl) ?_
        intro a288 hF287; clear hF200
        refine any_two 10 14 (by kernel_rfl) ?_ ?_
        · skip
          have hS289 := hS286.pick2
          clear hS286
          refine op_call 10 #[true, true, true, true, true, true, true, true, true, true, true, false, false, false, false, false, false] 30 #[nP z20 0, nI (atI L11 (0 : Int))] hF287 rfl rfl rfl (by kernel_rfl) rfl (by kernel_rfl) (fun w => by kernel_rfl) (by kernel_rfl) ?_
          obtain ⟨q290, x291, hx292, hm293⟩ := bind2E hm203; clear hm203
          refine (p_Chan hS289 hx292).mono ?_
          rintro _ w294 ⟨rfl, hS296⟩; clear hS289
          refine ⟨⟨_, hS296.pick2.pick2⟩, ?_⟩
          intro a295 hF297; clear hF287
          refine any_many 3 [(11, some (.tuple #[.agg #[nI (q290.cap), nI (q290.closed), nI (q290.count), nI (q290.start), nI (q290.buf), nI (q290.th), nI (q290.tt), nI (q290.sh), nI (q290.st)], nI x291])), (12, some (.agg #[nI (q290.cap), nI (q290.closed), nI (q290.count), nI (q290.start), nI (q290.buf), nI (q290.th), nI (q290.tt), nI (q290.sh), nI (q290.st)])), (13, some (nI x291))] [5, 6, 8, 9, 10, 11, 112, 113] #[true, true, true, true, true, true, true, true, true, true, true, true, true, true, false, false, false] (by rfl) hF297 (by kernel_rfl) (by kernel_rfl) (by exact ⟨fun wS hw => by kernel_rfl, fun wS hw => by kernel_rfl, fun wS hw => by kernel_rfl, trivial⟩) (fun _ _ _ _ _ h => h) ⟨_, hS296.pick2.pick2⟩ (l' := [(113, nI x291), (112, .agg #[nI (q290.cap), nI (q290.closed), nI (q290.count), nI (q290.start), nI (q290.buf), nI (q290.th), nI (q290.tt), nI (q290.sh), nI (q290.st)]), (9, nI x184), (8, .slice p194 L183.length c195), (6, nI (IntKind.i64.wrap ((L12.length : Int) - 1))), (5, nP z19 0)]) (by kernel_rfl) ?_
          intro a299 hF298; clear hF297
          refine any_one 14 (by kernel_rfl) ?_
          have hS300 : St w0 F0 (BlkP (w294.heap.size) 57 #[nI 0, nI 0, nI 0, nI 0, nI 0, nI 0, nI 0, nI 0, nI 0] :: HeapP z20 z21 s185 :: BlkP z19 46 #[nP z20 0, nP z22 0, nS g177 L11 c36, .slice p39 L12.length c40] :: RowP (nS g177 L11 c36) L11 :: RowP (.slice p194 L183.length c195) L183 :: RowP (.slice p39 L12.length c40) L12 :: RHeapP z22 z23 z24 z25 z26 s157 :: ps) (w294.alloc (.cells #[nI 0, nI 0, nI 0, nI 0, nI 0, nI 0, nI 0, nI 0, nI 0] 57)) := St.new hS296 #[nI 0, nI 0, nI 0, nI 0, nI 0, nI 0, nI 0, nI 0, nI 0] 57
          clear hS296
          refine op_step 14 #[true, true, true, true, true, true, true, true, true, true, true, true, true, true, true, false, false] (nB w294) (w294.alloc (.cells #[nI 0, nI 0, nI 0, nI 0, nI 0, nI 0, nI 0, nI 0, nI 0] 57)) hF298 rfl (by kernel_rfl) rfl (by kernel_rfl) (by kernel_rfl) (l' := [(10, nB w294), (113, nI x291), (112, .agg #[nI (q290.cap), nI (q290.closed), nI (q290.count), nI (q290.start), nI (q290.buf), nI (q290.th), nI (q290.tt), nI (q290.sh), nI (q290.st)]), (9, nI x184), (8, .slice p194 L183.length c195), (6, nI (IntKind.i64.wrap ((L12.length : Int) - 1))), (5, nP z19 0)]) (by kernel_rfl) ⟨_, hS300.pick3.pick3⟩ (by kernel_rfl) ?_
          intro a302 hF301; clear hF298
          refine any_one 15 (by kernel_rfl) ?_
          refine op_store 15 #[true, true, true, true, true, true, true, true, true, true, true, true, true, true, true, true, false] (.agg #[nI (q290.cap), nI (q290.closed), nI (q290.count), nI (q290.start), nI (q290.buf), nI (q290.th), nI (q290.tt), nI (q290.sh), nI (q290.st)]) #[nI (q290.cap), nI (q290.closed), nI (q290.count), nI (q290.start), nI (q290.buf), nI (q290.th), nI (q290.tt), nI (q290.sh), nI (q290.st)] hF301 rfl (by kernel_rfl) rfl rfl rfl rfl (by kernel_rfl) hS300 (by kernel_rfl) (by kernel_rfl) (by kernel_rfl) (l' := [(10, nB w294), (113, nI x291), (112, .agg #[nI (q290.cap), nI (q290.closed), nI (q290.count), nI (q290.start), nI (q290.buf), nI (q290.th), nI (q290.tt), nI (q290.sh), nI (q290.st)]), (9, nI x184), (8, .slice p194 L183.length c195), (6, nI (IntKind.i64.wrap ((L12.length : Int) - 1))), (5, nP z19 0)]) (by kernel_rfl) (by kernel_rfl) ?_
          intro w303 a304 hS305 hF306; clear hF301 hS300
          refine ⟨⟨_, hS305.pick3.pick3⟩, ?_⟩
          refine any_many 1 [(16, some (nI x291))] [5, 6, 8, 9, 10, 11] #[true, true, true, true, true, true, true, true, true, true, true, true, true, true, true, true, true] (by rfl) hF306 (by kernel_rfl) (by kernel_rfl) (by exact ⟨fun wS hw => by kernel_rfl, trivial⟩) (fun _ _ _ _ _ h => h) ⟨_, hS305.pick3.pick3⟩ (l' := [(11, nI x291), (10, nB w294), (9, nI x184), (8, .slice p194 L183.length c195), (6, nI (IntKind.i64.wrap ((L12.length : Int) - 1))), (5, nP z19 0)]) (by kernel_rfl) ?_
          intro a308 hF307; clear hF306
          refine any_done (by kernel_rfl) ?_
          exact thenN ⟨(w294.heap.size), q290.cap, q290.closed, q290.count, q290.start, q290.buf, q290.th, q290.tt, q290.sh, q290.st, x291, hF307, hS305, hm293⟩
        · skip
          have hS309 : St w0 F0 (BlkP ((w188.drew).heap.size) 57 #[nI 0, nI 0, nI 0, nI 0, nI 0, nI 0, nI 0, nI 0, nI 0] :: BlkP z19 46 #[nP z20 0, nP z22 0, nS g177 L11 c36, .slice p39 L12.length c40] :: RowP (nS g177 L11 c36) L11 :: HeapP z20 z21 s185 :: RowP (.slice p194 L183.length c195) L183 :: RowP (.slice p39 L12.length c40) L12 :: RHeapP z22 z23 z24 z25 z26 s157 :: ps) ((w188.drew).alloc (.cells #[nI 0, nI 0, nI 0, nI 0, nI 0, nI 0, nI 0, nI 0, nI 0] 57)) := St.new hS286 #[nI 0, nI 0, nI 0, nI 0, nI 0, nI 0, nI 0, nI 0, nI 0] 57
          clear hS286
          refine op_step 14 #[true, true, true, true, true, true, true, true, true, true, false, false, false, false, true, false, false] (nB (w188.drew)) ((w188.drew).alloc (.cells #[nI 0, nI 0, nI 0, nI 0, nI 0, nI 0, nI 0, nI 0, nI 0] 57)) hF287 rfl (by kernel_rfl) rfl (by kernel_rfl) (by kernel_rfl) (l' := [(10, nB (w188.drew)), (110, nI (atI L11 (0 : Int))), (104, nP z20 0), (9, nI x184), (8, .slice p194 L183.length c195), (6, nI (IntKind.i64.wrap ((L12.length : Int) - 1))), (5, nP z19 0)]) (by kernel_rfl) ⟨_, hS309.pick2.pick2⟩ (by kernel_rfl) ?_
          intro a311 hF310; clear hF287
          have hS312 := hS309.pick3
          clear hS309
          refine any_call 10 #[true, true, true, true, true, true, true, true, true, true, true, false, false, false, true, false, false] 30 #[nP z20 0, nI (atI L11 (0 : Int))] hF310 rfl (by kernel_rfl) rfl rfl (by kernel_rfl) rfl (by kernel_rfl) (fun w => by kernel_rfl) (by kernel_rfl) ?_
          obtain ⟨q313, x314, hx315, hm316⟩ := bind2E hm203; clear hm203
          refine (p_Chan hS312 hx315).mono ?_
          rintro _ w317 ⟨rfl, hS319⟩; clear hS312
          refine ⟨⟨_, hS319.pick3.pick3⟩, ?_⟩
          intro a318 hF320; clear hF310
          refine any_many 3 [(11, some (.tuple #[.agg #[nI (q313.cap), nI (q313.closed), nI (q313.count), nI (q313.start), nI (q313.buf), nI (q313.th), nI (q313.tt), nI (q313.sh), nI (q313.st)], nI x314])), (12, some (.agg #[nI (q313.cap), nI (q313.closed), nI (q313.count), nI (q313.start), nI (q313.buf), nI (q313.th), nI (q313.tt), nI (q313.sh), nI (q313.st)])), (13, some (nI x314))] [5, 6, 8, 9, 10, 11, 112, 113] #[true, true, true, true, true, true, true, true, true, true, true, true, true, true, true, false, false] (by rfl) hF320 (by kernel_rfl) (by kernel_rfl) (by exact ⟨fun wS hw => by kernel_rfl, fun wS hw => by kernel_rfl, fun wS hw => by kernel_rfl, trivial⟩) (fun _ _ _ _ _ h => h) ⟨_, hS319.pick3.pick3⟩ (l' := [(113, nI x314), (112, .agg #[nI (q313.cap), nI (q313.closed), nI (q313.count), nI (q313.start), nI (q313.buf), nI (q313.th), nI (q313.tt), nI (q313.sh), nI (q313.st)]), (10, nB (w188.drew)), (9, nI x184), (8, .slice p194 L183.length c195), (6, nI (IntKind.i64.wrap ((L12.length : Int) - 1))), (5, nP z19 0)]) (by kernel_rfl) ?_
          intro a322 hF321; clear hF320
          refine any_one 15 (by kernel_rfl) ?_
          have hS323 := hS319.pick1
          clear hS319
          refine op_store 15 #[true, true, true, true, true, true, true, true, true, true, true, true, true, true, true, true, false] (.agg #[nI (q313.cap), nI (q313.closed), nI (q313.count), nI (q313.start), nI (q313.buf), nI (q313.th), nI (q313.tt), nI (q313.sh), nI (q313.st)]) #[nI (q313.cap), nI (q313.closed), nI (q313.count), nI (q313.start), nI (q313.buf), nI (q313.th), nI (q313.tt), nI (q313.sh), nI (q313.st)] hF321 rfl (by kernel_rfl) rfl rfl rfl rfl (by kernel_rfl) hS323 (by kernel_rfl) (by kernel_rfl) (by kernel_rfl) (l' := [(113, nI x314), (112, .agg #[nI (q313.cap), nI (q313.closed), nI (q313.count), nI (q313.start), nI (q313.buf), nI (q313.th), nI (q313.tt), nI (q313.sh), nI (q313.st)]), (10, nB (w188.drew)), (9, nI x184), (8, .slice p194 L183.length c195), (6, nI (IntKind.i64.wrap ((L12.length : Int) - 1))), (5, nP z19 0)]) (by kernel_rfl) (by kernel_rfl) ?_
          intro w324 a325 hS326 hF327; clear hF321 hS323
          refine ⟨⟨_, hS326.pick3.pick3⟩, ?_⟩
          refine any_many 1 [(16, some (nI x314))] [5, 6, 8, 9, 10, 11] #[true, true, true, true, true, true, true, true, true, true, true, true, true, true, true, true, true] (by rfl) hF327 (by kernel_rfl) (by kernel_rfl) (by exact ⟨fun wS hw => by kernel_rfl, trivial⟩) (fun _ _ _ _ _ h => h) ⟨_, hS326.pick3.pick3⟩ (l' := [(11, nI x314), (10, nB (w188.drew)), (9, nI x184), (8, .slice p194 L183.length c195), (6, nI (IntKind.i64.wrap ((L12.length : Int) - 1))), (5, nP z19 0)]) (by kernel_rfl) ?_
          intro a329 hF328; clear hF327
          refine any_done (by kernel_rfl) ?_
          exact thenN ⟨((w188.drew).heap.size), q313.cap, q313.closed, q313.count, q313.start, q313.buf, q313.th, q313.tt, q313.sh, q313.st, x314, hF328, hS326, hm316⟩
     rw [hc202] at hF200
     have hm330 := ifNot hc202 hm187; clear hm187
     refine ev_condF hF200 rfl rfl ?_
     refine wp_skip ?_
     have hF331 := hF200.keep [5, 6, 8, 9]
     clear hF200
     refine thenN (wp_seq (wp_seq (wp_region_lit ?_)))
     refine ev_runs 1 hF331 (l' := [(12, nI 0), (9, nI x184), (8, .slice p194 L183.length c195), (6, nI (IntKind.i64.wrap ((L12.length : Int) - 1))), (5, nP z19 0)]) (w' := w188) (by kernel_rfl) ?_
     intro a333 hF332; clear hF331
     refine wpList_nil (thenN ?_)
     refine wp_block ?_
     refine wp_loop_ghost (fun kI aI wI => ∃ (s334 : HSt) (x335 : Int), Fr 255 aI [(12, nI x335), (9, nI x184), (8, .slice p194 L183.length c195), (6, nI (IntKind.i64.wrap ((L12.length : Int) - 1))), (5, nP z19 0)] ∧ St w0 F0 (HeapP z20 z21 s334 :: RowP (.slice p194 L183.length c195) L183 :: BlkP z19 46 #[nP z20 0, nP z22 0, nS g177 L11 c36, .slice p39 L12.length c40] :: RowP (nS g177 L11 c36) L11 :: RowP (.slice p39 L12.length c40) L12 :: RHeapP z22 z23 z24 z25 z26 s157 :: ps) wI ∧ ShutWakes.l13 k L11 L12 L183 x184 kI s334 x335 = some r0) k ⟨s185, 0, hF332, hS190, hm330⟩ ?_
     rintro k336 a337 w338 ⟨s334, x335, hF339, hS340, hm341⟩
     clear hF332 hS190 hm330
     rcases k336 with _ | k336
     · cases hm341
     have hm342 : ShutWakes.l13b k L11 L12 L183 x184 (ShutWakes.l13 k L11 L12 L183 x184 k336) s334 x335 = some r0 := hm341
     clear hm341
     unfold ShutWakes.l13b at hm342
     refine wp_seq (wp_seq (wp_region_lit ?_))
     refine ev_runK 3 hF339 [5, 6, 8, 9, 12, 148] (l' := [(148, .bool (decide (x335 < (IntKind.i64.wrap ((L12.length : Int) - 1))))), (12, nI x335), (9, nI x184), (8, .slice p194 L183.length c195), (6, nI (IntKind.i64.wrap ((L12.length : Int) - 1))), (5, nP z19 0)]) (w' := w338) (by kernel_rfl) ?_
     intro a344 hF343; clear hF339
     refine wpList_nil (thenN ?_)
     cases hc345 : (decide (x335 < (IntKind.i64.wrap ((L12.length : Int) - 1))))
     case true =>
      rw [hc345] at hF343
      have hm346 := ifYes hc345 hm342; clear hm342
      refine ev_condT hF343 rfl rfl ?_
      refine wp_skip ?_
      have hF347 := hF343.keep [5, 6, 8, 9, 12]
      clear hF343
      refine thenN (wp_seq ?_)
      refine wp_block ?_
      refine wp_seq ?_
      refine joinQ (fun aI wI => ∃ (g348 : Nat) (s349 : HSt) (x350 : Int) (x351 : Int) (x352 : Int) (x353 : Int) (x354 : Int) (x355 : Int) (x356 : Int) (x357 : Int) (x358 : Int) (x359 : Int) (x360 : Int), Fr 255 aI [(14, nI x360), (13, nP g348 0), (12, nI x335), (9, nI x184), (8, .slice p194 L183.length c195), (6, nI (IntKind.i64.wrap ((L12.length : Int) - 1))), (5, nP z19 0)] ∧ St w0 F0 (BlkP g348 29 #[nI x350, nI x351, nI x352, nI x353, nI x354, nI x355, nI x356, nI x357, nI x358, nI x359] :: HeapP z20 z21 s349 :: BlkP z19 46 #[nP z20 0, nP z22 0, nS g177 L11 c36, .slice p39 L12.length c40] :: RowP (.slice p39 L12.length c40) L12 :: RowP (.slice p194 L183.length c195) L183 :: RowP (nS g177 L11 c36) L11 :: RHeapP z22 z23 z24 z25 z26 s157 :: ps) wI ∧ ShutWakes.j14 x335 (ShutWakes.l13 k L11 L12 L183 x184 k336) s349 x350 x351 x352 x353 x354 x355 x356 x357 x358 x359 x360 = some r0) ?_ ?_
      rotate_left
      · rintro a362 w363 ⟨g348, s349, x350, x351, x352, x353, x354, x355, x356, x357, x358, x359, x360, hF364, hS365, hm366⟩
        clear hF347 hS340 hm346
        unfold ShutWakes.j14 at hm366
        refine thenN (wp_seq ?_)
        refine joinQ (fun aI wI => ∃ (y368 : Bool), Fr 255 aI [(189, .bool (y368)), (12, nI x335), (9, nI x184), (8, .slice p194 L183.length c195), (6, nI (IntKind.i64.wrap ((L12.length : Int) - 1))), (5, nP z19 0)] ∧ St w0 F0 (HeapP z20 z21 s349 :: BlkP z19 46 #[nP z20 0, nP z22 0, nS g177 L11 c36, .slice p39 L12.length c40] :: RowP (.slice p39 L12.length c40) L12 :: RowP (.slice p194 L183.length c195) L183 :: RowP (nS g177 L11 c36) L11 :: RHeapP z22 z23 z24 z25 z26 s157 :: ps) wI ∧ ShutWakes.j15 x335 (ShutWakes.l13 k L11 L12 L183 x184 k336) s349 y368 = some r0) ?_ ?_
        rotate_left
        · rintro a370 w371 ⟨y368, hF372, hS373, hm374⟩
          clear hF364 hS365 hm366
          unfold ShutWakes.j15 at hm374
          refine thenN ?_
          cases hc376 : (y368)
          case true =>
           rw [hc376] at hF372
           have hm377 := ifYes hc376 hm374; clear hm374
           refine ev_condT hF372 rfl rfl ?_
           refine wp_seq (wp_region_lit ?_)
           refine ev_runK 1 hF372 [4] (l' := [(4, .bool false)]) (w' := w371) (by kernel_rfl) ?_
           intro a379 hF378; clear hF372
           refine wpList_nil ?_
           have hS380 := hS373.drop.drop.drop.drop.drop.drop
           clear hS373
           refine thenN ?_
           refine wp_ret ?_
           refine blockR ?_
           refine thenR (thenR ?_)
           refine blockR ?_
           refine thenR ?_
           obtain rfl := Option.some.inj hm377
           refine ev_ret hF378 [4] (.bool false) rfl rfl rfl ?_
           exact ⟨rfl, hS380⟩
          rw [hc376] at hF372
          have hm382 := ifNot hc376 hm374; clear hm374
          refine ev_condF hF372 rfl rfl ?_
          refine wp_skip ?_
          have hF383 := hF372.keep [5, 6, 8, 9, 12]
          clear hF372
          refine blockN ?_
          refine thenN (wp_region_lit ?_)
          refine ev_runK 3 hF383 [5, 6, 8, 9, 12] (l' := [(12, nI (IntKind.i64.wrap (x335 + 1))), (9, nI x184), (8, .slice p194 L183.length c195), (6, nI (IntKind.i64.wrap ((L12.length : Int) - 1))), (5, nP z19 0)]) (w' := w371) (by kernel_rfl) ?_
          intro a385 hF384; clear hF383
          refine wpList_nil ?_
          have hS386 := hS373.pick5.pick3.pick5.pick4.pick5.pick5
          clear hS373
          exact thenN ⟨k336, Nat.lt_succ_self _, s349, IntKind.i64.wrap (x335 + 1), hF384, hS386, hm382⟩
        · skip
          refine wp_region_lit ?_
          refine ev_runs 3 hF364 (l' := [(168, .bool (x360 != 0)), (167, .bool (x360 != 0)), (166, nI x360), (14, nI x360), (13, nP g348 0), (12, nI x335), (9, nI x184), (8, .slice p194 L183.length c195), (6, nI (IntKind.i64.wrap ((L12.length : Int) - 1))), (5, nP z19 0)]) (w' := w363) (by kernel_rfl) ?_
          intro a388 hF387; clear hF364
          cases hc389 : (x360 != 0)
          case true =>
           rw [hc389] at hF387
           have hm390 := ifYes hc389 hm366; clear hm366
           refine ev_runK 21 hF387 [5, 6, 8, 9, 12, 189] (l' := [(189, .bool true), (12, nI x335), (9, nI x184), (8, .slice p194 L183.length c195), (6, nI (IntKind.i64.wrap ((L12.length : Int) - 1))), (5, nP z19 0)]) (w' := w363) (by kernel_rfl) ?_
           intro a392 hF391; clear hF387
           refine wpList_nil ?_
           have hS393 := hS365.drop
           clear hS365
           exact thenN ⟨true, hF391, hS393, hm390⟩
          rw [hc389] at hF387
          have hm394 := ifNot hc389 hm366; clear hm366
          refine ev_runs 1 hF387 (l' := [(169, nP g348 1), (168, .bool false), (167, .bool false), (166, nI x360), (14, nI x360), (13, nP g348 0), (12, nI x335), (9, nI x184), (8, .slice p194 L183.length c195), (6, nI (IntKind.i64.wrap ((L12.length : Int) - 1))), (5, nP z19 0)]) (w' := w363) (by kernel_rfl) ?_
          intro a396 hF395; clear hF387
          refine ev_one (nI x351) w363 hF395 (by kernel_rfl) rfl (by kernel_rfl) (run_loadV rfl rfl (run_loadS rfl rfl (hS365.cell 0 rfl 1 rfl))) (l' := [(170, nI x351), (169, nP g348 1), (168, .bool false), (167, .bool false), (166, nI x360), (14, nI x360), (13, nP g348 0), (12, nI x335), (9, nI x184), (8, .slice p194 L183.length c195), (6, nI (IntKind.i64.wrap ((L12.length : Int) - 1))), (5, nP z19 0)]) (by kernel_rfl) ?_
          intro a398 hF397; clear hF395
          refine ev_runs 3 hF397 (l' := [(173, .bool (x351 != 0)), (172, .bool (x351 != 0)), (171, .bool (x351 != 0)), (170, nI x351), (169, nP g348 1), (168, .bool false), (167, .bool false), (166, nI x360), (14, nI x360), (13, nP g348 0), (12, nI x335), (9, nI x184), (8, .slice p194 L183.length c195), (6, nI (IntKind.i64.wrap ((L12.length : Int) - 1))), (5, nP z19 0)]) (w' := w363) (by kernel_rfl) ?_
          intro a400 hF399; clear hF397
          cases hc401 : (x351 != 0)
          case true =>
           rw [hc401] at hF399
           have hm402 := ifYes hc401 hm394; clear hm394
           refine ev_runK 16 hF399 [5, 6, 8, 9, 12, 189] (l' := [(189, .bool true), (12, nI x335), (9, nI x184), (8, .slice p194 L183.length c195), (6, nI (IntKind.i64.wrap ((L12.length : Int) - 1))), (5, nP z19 0)]) (w' := w363) (by kernel_rfl) ?_
           intro a404 hF403; clear hF399
           refine wpList_nil ?_
           have hS405 := hS365.drop
           clear hS365
           exact thenN ⟨true, hF403, hS405, hm402⟩
          rw [hc401] at hF399
          have hm406 := ifNot hc401 hm394; clear hm394
          refine ev_runs 1 hF399 (l' := [(174, nP g348 2), (173, .bool false), (172, .bool false), (171, .bool false), (170, nI x351), (169, nP g348 1), (168, .bool false), (167, .bool false), (166, nI x360), (14, nI x360), (13, nP g348 0), (12, nI x335), (9, nI x184), (8, .slice p194 L183.length c195), (6, nI (IntKind.i64.wrap ((L12.length : Int) - 1))), (5, nP z19 0)]) (w' := w363) (by kernel_rfl) ?_
          intro a408 hF407; clear hF399
          refine ev_one (nI x352) w363 hF407 (by kernel_rfl) rfl (by kernel_rfl) (run_loadV rfl rfl (run_loadS rfl rfl (hS365.cell 0 rfl 2 rfl))) (l' := [(175, nI x352), (174, nP g348 2), (173, .bool false), (172, .bool false), (171, .bool false), (170, nI x351), (169, nP g348 1), (168, .bool false), (167, .bool false), (166, nI x360), (14, nI x360), (13, nP g348 0), (12, nI x335), (9, nI x184), (8, .slice p194 L183.length c195), (6, nI (IntKind.i64.wrap ((L12.length : Int) - 1))), (5, nP z19 0)]) (by kernel_rfl) ?_
          intro a410 hF409; clear hF407
          refine ev_runs 4 hF409 (l' := [(179, .bool (x352 != x335)), (178, .bool (x352 != x335)), (177, .bool (x352 != x335)), (176, nI x335), (175, nI x352), (174, nP g348 2), (173, .bool false), (172, .bool false), (171, .bool false), (170, nI x351), (169, nP g348 1), (168, .bool false), (167, .bool false), (166, nI x360), (14, nI x360), (13, nP g348 0), (12, nI x335), (9, nI x184), (8, .slice p194 L183.length c195), (6, nI (IntKind.i64.wrap ((L12.length : Int) - 1))), (5, nP z19 0)]) (w' := w363) (by kernel_rfl) ?_
          intro a412 hF411; clear hF409
          cases hc413 : (x352 != x335)
          case true =>
           rw [hc413] at hF411
           have hm414 := ifYes hc413 hm406; clear hm406
           refine ev_runK 10 hF411 [5, 6, 8, 9, 12, 189] (l' := [(189, .bool true), (12, nI x335), (9, nI x184), (8, .slice p194 L183.length c195), (6, nI (IntKind.i64.wrap ((L12.length : Int) - 1))), (5, nP z19 0)]) (w' := w363) (by kernel_rfl) ?_
           intro a416 hF415; clear hF411
           refine wpList_nil ?_
           have hS417 := hS365.drop
           clear hS365
           exact thenN ⟨true, hF415, hS417, hm414⟩
          rw [hc413] at hF411
          have hm418 := ifNot hc413 hm406; clear hm406
          refine ev_runs 1 hF411 (l' := [(180, nP g348 3), (179, .bool false), (178, .bool false), (177, .bool false), (176, nI x335), (175, nI x352), (174, nP g348 2), (173, .bool false), (172, .bool false), (171, .bool false), (170, nI x351), (169, nP g348 1), (168, .bool false), (167, .bool false), (166, nI x360), (14, nI x360), (13, nP g348 0), (12, nI x335), (9, nI x184), (8, .slice p194 L183.length c195), (6, nI (IntKind.i64.wrap ((L12.length : Int) - 1))), (5, nP z19 0)]) (w' := w363) (by kernel_rfl) ?_
          intro a420 hF419; clear hF411
          refine ev_one (nP g348 3) w363 hF419 (by kernel_rfl) rfl (by kernel_rfl) (run_idxA (q := 0) rfl rfl rfl rfl rfl (by decide) (by decide) (by kernel_rfl) _) (l' := [(181, nP g348 3), (180, nP g348 3), (179, .bool false), (178, .bool false), (177, .bool false), (176, nI x335), (175, nI x352), (174, nP g348 2), (173, .bool false), (172, .bool false), (171, .bool false), (170, nI x351), (169, nP g348 1), (168, .bool false), (167, .bool false), (166, nI x360), (14, nI x360), (13, nP g348 0), (12, nI x335), (9, nI x184), (8, .slice p194 L183.length c195), (6, nI (IntKind.i64.wrap ((L12.length : Int) - 1))), (5, nP z19 0)]) (by kernel_rfl) ?_
          intro a422 hF421; clear hF419
          refine ev_one (nI x353) w363 hF421 (by kernel_rfl) rfl (by kernel_rfl) (run_loadV rfl rfl (run_loadS rfl rfl (hS365.cell 0 rfl 3 rfl))) (l' := [(182, nI x353), (181, nP g348 3), (180, nP g348 3), (179, .bool false), (178, .bool false), (177, .bool false), (176, nI x335), (175, nI x352), (174, nP g348 2), (173, .bool false), (172, .bool false), (171, .bool false), (170, nI x351), (169, nP g348 1), (168, .bool false), (167, .bool false), (166, nI x360), (14, nI x360), (13, nP g348 0), (12, nI x335), (9, nI x184), (8, .slice p194 L183.length c195), (6, nI (IntKind.i64.wrap ((L12.length : Int) - 1))), (5, nP z19 0)]) (by kernel_rfl) ?_
          intro a424 hF423; clear hF421
          refine ev_runs 3 hF423 (l' := [(185, .bool (x353 != 0)), (184, .bool (x353 != 0)), (183, .bool (x353 != 0)), (182, nI x353), (181, nP g348 3), (180, nP g348 3), (179, .bool false), (178, .bool false), (177, .bool false), (176, nI x335), (175, nI x352), (174, nP g348 2), (173, .bool false), (172, .bool false), (171, .bool false), (170, nI x351), (169, nP g348 1), (168, .bool false), (167, .bool false), (166, nI x360), (14, nI x360), (13, nP g348 0), (12, nI x335), (9, nI x184), (8, .slice p194 L183.length c195), (6, nI (IntKind.i64.wrap ((L12.length : Int) - 1))), (5, nP z19 0)]) (w' := w363) (by kernel_rfl) ?_
          intro a426 hF425; clear hF423
          cases hc427 : (x353 != 0)
          case true =>
           rw [hc427] at hF425
           have hm428 := ifYes hc427 hm418; clear hm418
           refine ev_runK 4 hF425 [5, 6, 8, 9, 12, 189] (l' := [(189, .bool true), (12, nI x335), (9, nI x184), (8, .slice p194 L183.length c195), (6, nI (IntKind.i64.wrap ((L12.length : Int) - 1))), (5, nP z19 0)]) (w' := w363) (by kernel_rfl) ?_
           intro a430 hF429; clear hF425
           refine wpList_nil ?_
           have hS431 := hS365.drop
           clear hS365
           exact thenN ⟨true, hF429, hS431, hm428⟩
          rw [hc427] at hF425
          have hm432 := ifNot hc427 hm418; clear hm418
          refine ev_runs 1 hF425 (l' := [(186, nP g348 9), (185, .bool false), (184, .bool false), (183, .bool false), (182, nI x353), (181, nP g348 3), (180, nP g348 3), (179, .bool false), (178, .bool false), (177, .bool false), (176, nI x335), (175, nI x352), (174, nP g348 2), (173, .bool false), (172, .bool false), (171, .bool false), (170, nI x351), (169, nP g348 1), (168, .bool false), (167, .bool false), (166, nI x360), (14, nI x360), (13, nP g348 0), (12, nI x335), (9, nI x184), (8, .slice p194 L183.length c195), (6, nI (IntKind.i64.wrap ((L12.length : Int) - 1))), (5, nP z19 0)]) (w' := w363) (by kernel_rfl) ?_
          intro a434 hF433; clear hF425
          refine ev_one (nI x359) w363 hF433 (by kernel_rfl) rfl (by kernel_rfl) (run_loadV rfl rfl (run_loadS rfl rfl (hS365.cell 0 rfl 9 rfl))) (l' := [(187, nI x359), (186, nP g348 9), (185, .bool false), (184, .bool false), (183, .bool false), (182, nI x353), (181, nP g348 3), (180, nP g348 3), (179, .bool false), (178, .bool false), (177, .bool false), (176, nI x335), (175, nI x352), (174, nP g348 2), (173, .bool false), (172, .bool false), (171, .bool false), (170, nI x351), (169, nP g348 1), (168, .bool false), (167, .bool false), (166, nI x360), (14, nI x360), (13, nP g348 0), (12, nI x335), (9, nI x184), (8, .slice p194 L183.length c195), (6, nI (IntKind.i64.wrap ((L12.length : Int) - 1))), (5, nP z19 0)]) (by kernel_rfl) ?_
          intro a436 hF435; clear hF433
          refine ev_runK 2 hF435 [5, 6, 8, 9, 12, 189] (l' := [(189, .bool (x359 != (-1))), (12, nI x335), (9, nI x184), (8, .slice p194 L183.length c195), (6, nI (IntKind.i64.wrap ((L12.length : Int) - 1))), (5, nP z19 0)]) (w' := w363) (by kernel_rfl) ?_
          intro a438 hF437; clear hF435
          refine wpList_nil ?_
          have hS439 := hS365.drop
          clear hS365
          exact thenN ⟨x359 != (-1), hF437, hS439, hm432⟩
      · skip
        -- draws
        obtain ⟨hc440, hm441⟩ := ifTE hm346; clear hm346
        obtain ⟨g442, rfl⟩ := hp41.resolve_left (by have := inR_spec hc440; omega)
        have hS443 := hS340.pick4.pick3
        clear hS340
        have hS444 := hS443.drew; clear hS443
        refine any_start (fun wS => ∃ qs, St w0 F0 (BlkP z19 46 #[nP z20 0, nP z22 0, nS g177 L11 c36, nS g442 L12 c40] :: RowP (nS g442 L12 c40) L12 :: qs) wS) 18 #[false, false, false, false, false, false, false, false, false, false, false, false, false, false, false, false, false, false] (by kernel_rfl) (by kernel_rfl) (by kernel_rfl) ?_
        refine any_many 11 [(0, some (nP z19 0)), (1, some (nP z19 0)), (2, some (nP z19 0)), (3, some (nP z20 0)), (4, some (nP z19 0)), (5, some (nP z19 0)), (6, some (nP z19 3)), (7, some (nS g442 L12 c40)), (8, some (nI x335)), (9, some (nP g442 (x335.toNat))), (10, some (nI (atI L12 x335)))] [5, 6, 8, 9, 12, 13, 14, 151, 155, 162, 163, 164, 165] #[true, true, true, true, true, true, true, true, true, true, true, false, false, false, false, false, false, false] (by rfl) hF347 (by kernel_rfl) (by kernel_rfl) (by exact ⟨fun wS hw => by kernel_rfl, fun wS hw => by kernel_rfl, fun wS hw => by kernel_rfl, fun wS hw => hw.elim fun qs hw => run_loadV rfl rfl (run_loadS rfl rfl (hw.cell 0 rfl 0 rfl)), fun wS hw => by kernel_rfl, fun wS hw => by kernel_rfl, fun wS hw => by kernel_rfl, fun wS hw => hw.elim fun qs hw => run_loadV rfl rfl (run_loadS rfl rfl (hw.cell 0 rfl 3 rfl)), fun wS hw => by kernel_rfl, fun wS hw => run_idx rfl rfl rfl rfl rfl (inR_spec hc440).1 (inR_spec hc440).2 _, fun wS hw => run_load1 rfl rfl rfl (hw.elim fun qs hw => hw.atI 1 rfl hc440), trivial⟩) (fun _ _ _ _ _ h => h) ⟨_, hS444⟩ (l' := [(162, nI (atI L12 x335)), (155, nP z20 0), (12, nI x335), (9, nI x184), (8, .slice p194 L183.length c195), (6, nI (IntKind.i64.wrap ((L12.length : Int) - 1))), (5, nP z19 0)]) (by kernel_rfl) ?_
        intro a446 hF445; clear hF347
        refine any_two 11 15 (by kernel_rfl) ?_ ?_
        · skip
          have hS447 := hS444.pick2
          clear hS444
          refine op_call 11 #[true, true, true, true, true, true, true, true, true, true, true, true, false, false, false, false, false, false] 36 #[nP z20 0, nI (atI L12 x335)] hF445 rfl rfl rfl (by kernel_rfl) rfl (by kernel_rfl) (fun w => by kernel_rfl) (by kernel_rfl) ?_
          obtain ⟨q448, x449, s450, hx451, hm452⟩ := bind3E hm441; clear hm441
          refine (view_Gor.ok hS447 hx451).mono ?_
          rintro _ w453 ⟨rfl, hS455⟩; clear hS447
          refine ⟨⟨_, hS455.pick2.pick2⟩, ?_⟩
          intro a454 hF456; clear hF445
          refine any_many 3 [(12, some (.tuple #[.agg #[nI (q448.id), nI (q448.status), nI (q448.pc), nI (q448.a), nI (q448.b), nI (q448.c), nI (q448.d), nI (q448.e), nI (q448.f), nI (q448.sudogs)], nI x449])), (13, some (.agg #[nI (q448.id), nI (q448.status), nI (q448.pc), nI (q448.a), nI (q448.b), nI (q448.c), nI (q448.d), nI (q448.e), nI (q448.f), nI (q448.sudogs)])), (14, some (nI x449))] [5, 6, 8, 9, 12, 13, 14, 164, 165] #[true, true, true, true, true, true, true, true, true, true, true, true, true, true, true, false, false, false] (by rfl) hF456 (by kernel_rfl) (by kernel_rfl) (by exact ⟨fun wS hw => by kernel_rfl, fun wS hw => by kernel_rfl, fun wS hw => by kernel_rfl, trivial⟩) (fun _ _ _ _ _ h => h) ⟨_, hS455.pick2.pick2⟩ (l' := [(165, nI x449), (164, .agg #[nI (q448.id), nI (q448.status), nI (q448.pc), nI (q448.a), nI (q448.b), nI (q448.c), nI (q448.d), nI (q448.e), nI (q448.f), nI (q448.sudogs)]), (12, nI x335), (9, nI x184), (8, .slice p194 L183.length c195), (6, nI (IntKind.i64.wrap ((L12.length : Int) - 1))), (5, nP z19 0)]) (by kernel_rfl) ?_
          intro a458 hF457; clear hF456
          refine any_one 15 (by kernel_rfl) ?_
          have hS459 : St w0 F0 (BlkP (w453.heap.size) 29 #[nI 0, nI 0, nI 0, nI 0, nI 0, nI 0, nI 0, nI 0, nI 0, nI 0] :: HeapP z20 z21 s450 :: BlkP z19 46 #[nP z20 0, nP z22 0, nS g177 L11 c36, nS g442 L12 c40] :: RowP (nS g442 L12 c40) L12 :: RowP (.slice p194 L183.length c195) L183 :: RowP (nS g177 L11 c36) L11 :: RHeapP z22 z23 z24 z25 z26 s157 :: ps) (w453.alloc (.cells #[nI 0, nI 0, nI 0, nI 0, nI 0, nI 0, nI 0, nI 0, nI 0, nI 0] 29)) := St.new hS455 #[nI 0, nI 0, nI 0, nI 0, nI 0, nI 0, nI 0, nI 0, nI 0, nI 0] 29
          clear hS455
          refine op_step 15 #[true, true, true, true, true, true, true, true, true, true, true, true, true, true, true, true, false, false] (nB w453) (w453.alloc (.cells #[nI 0, nI 0, nI 0, nI 0, nI 0, nI 0, nI 0, nI 0, nI 0, nI 0] 29)) hF457 rfl (by kernel_rfl) rfl (by kernel_rfl) (by kernel_rfl) (l' := [(13, nB w453), (165, nI x449), (164, .agg #[nI (q448.id), nI (q448.status), nI (q448.pc), nI (q448.a), nI (q448.b), nI (q448.c), nI (q448.d), nI (q448.e), nI (q448.f), nI (q448.sudogs)]), (12, nI x335), (9, nI x184), (8, .slice p194 L183.length c195), (6, nI (IntKind.i64.wrap ((L12.length : Int) - 1))), (5, nP z19 0)]) (by kernel_rfl) ⟨_, hS459.pick3.pick3⟩ (by kernel_rfl) ?_
          intro a461 hF460; clear hF457
          refine any_one 16 (by kernel_rfl) ?_
          refine op_store 16 #[true, true, true, true, true, true, true, true, true, true, true, true, true, true, true, true, true, false] (.agg #[nI (q448.id), nI (q448.status), nI (q448.pc), nI (q448.a), nI (q448.b), nI (q448.c), nI (q448.d), nI (q448.e), nI (q448.f), nI (q448.sudogs)]) #[nI (q448.id), nI (q448.status), nI (q448.pc), nI (q448.a), nI (q448.b), nI (q448.c), nI (q448.d), nI (q448.e), nI (q448.f), nI (q448.sudogs)] hF460 rfl (by kernel_rfl) rfl rfl rfl rfl (by kernel_rfl) hS459 (by kernel_rfl) (by kernel_rfl) (by kernel_rfl) (l' := [(13, nB w453), (165, nI x449), (164, .agg #[nI (q448.id), nI (q448.status), nI (q448.pc), nI (q448.a), nI (q448.b), nI (q448.c), nI (q448.d), nI (q448.e), nI (q448.f), nI (q448.sudogs)]), (12, nI x335), (9, nI x184), (8, .slice p194 L183.length c195), (6, nI (IntKind.i64.wrap ((L12.length : Int) - 1))), (5, nP z19 0)]) (by kernel_rfl) (by kernel_rfl) ?_
          intro w462 a463 hS464 hF465; clear hF460 hS459
          refine ⟨⟨_, hS464.pick3.pick3⟩, ?_⟩
          refine any_many 1 [(17, some (nI x449))] [5, 6, 8, 9, 12, 13, 14] #[true, true, true, true, true, true, true, true, true, true, true, true, true, true, true, true, true, true] (by rfl) hF465 (by kernel_rfl) (by kernel_rfl) (by exact ⟨fun wS hw => by kernel_rfl, trivial⟩) (fun _ _ _ _ _ h => h) ⟨_, hS464.pick3.pick3⟩ (l' := [(14, nI x449), (13, nB w453), (12, nI x335), (9, nI x184), (8, .slice p194 L183.length c195), (6, nI (IntKind.i64.wrap ((L12.length : Int) - 1))), (5, nP z19 0)]) (by kernel_rfl) ?_
          intro a467 hF466; clear hF465
          refine any_done (by kernel_rfl) ?_
          exact thenN ⟨(w453.heap.size), s450, q448.id, q448.status, q448.pc, q448.a, q448.b, q448.c, q448.d, q448.e, q448.f, q448.sudogs, x449, hF466, hS464, hm452⟩
        · skip
          have hS468 : St w0 F0 (BlkP ((w338.drew).heap.size) 29 #[nI 0, nI 0, nI 0, nI 0, nI 0, nI 0, nI 0, nI 0, nI 0, nI 0] :: BlkP z19 46 #[nP z20 0, nP z22 0, nS g177 L11 c36, nS g442 L12 c40] :: RowP (nS g442 L12 c40) L12 :: HeapP z20 z21 s334 :: RowP (.slice p194 L183.length c195) L183 :: RowP (nS g177 L11 c36) L11 :: RHeapP z22 z23 z24 z25 z26 s157 :: ps) ((w338.drew).alloc (.cells #[nI 0, nI 0, nI 0, nI 0, nI 0, nI 0, nI 0, nI 0, nI 0, nI 0] 29)) := St.new hS444 #[nI 0, nI 0, nI 0, nI 0, nI 0, nI 0, nI 0, nI 0, nI 0, nI 0] 29
          clear hS444
          refine op_step 15 #[true, true, true, true, true, true, true, true, true, true, true, false, false, false, false, true, false, false] (nB (w338.drew)) ((w338.drew).alloc (.cells #[nI 0, nI 0, nI 0, nI 0, nI 0, nI 0, nI 0, nI 0, nI 0, nI 0] 29)) hF445 rfl (by kernel_rfl) rfl (by kernel_rfl) (by kernel_rfl) (l' := [(13, nB (w338.drew)), (162, nI (atI L12 x335)), (155, nP z20 0), (12, nI x335), (9, nI x184), (8, .slice p194 L183.length c195), (6, nI (IntKind.i64.wrap ((L12.length : Int) - 1))), (5, nP z19 0)]) (by kernel_rfl) ⟨_, hS468.pick2.pick2⟩ (by kernel_rfl) ?_
          intro a470 hF469; clear hF445
          have hS471 := hS468.pick3
          clear hS468
          refine any_call 11 #[true, true, true, true, true, true, true, true, true, true, true, true, false, false, false, true, false, false] 36 #[nP z20 0, nI (atI L12 x335)] hF469 rfl (by kernel_rfl) rfl rfl (by kernel_rfl) rfl (by kernel_rfl) (fun w => by kernel_rfl) (by kernel_rfl) ?_
          obtain ⟨q472, x473, s474, hx475, hm476⟩ := bind3E hm441; clear hm441
          refine (view_Gor.ok hS471 hx475).mono ?_
          rintro _ w477 ⟨rfl, hS479⟩; clear hS471
          refine ⟨⟨_, hS479.pick3.pick3⟩, ?_⟩
          intro a478 hF480; clear hF469
          refine any_many 3 [(12, some (.tuple #[.agg #[nI (q472.id), nI (q472.status), nI (q472.pc), nI (q472.a), nI (q472.b), nI (q472.c), nI (q472.d), nI (q472.e), nI (q472.f), nI (q472.sudogs)], nI x473])), (13, some (.agg #[nI (q472.id), nI (q472.status), nI (q472.pc), nI (q472.a), nI (q472.b), nI (q472.c), nI (q472.d), nI (q472.e), nI (q472.f), nI (q472.sudogs)])), (14, some (nI x473))] [5, 6, 8, 9, 12, 13, 14, 164, 165] #[true, true, true, true, true, true, true, true, true, true, true, true, true, true, true, true, false, false] (by rfl) hF480 (by kernel_rfl) (by kernel_rfl) (by exact ⟨fun wS hw => by kernel_rfl, fun wS hw => by kernel_rfl, fun wS hw => by kernel_rfl, trivial⟩) (fun _ _ _ _ _ h => h) ⟨_, hS479.pick3.pick3⟩ (l' := [(165, nI x473), (164, .agg #[nI (q472.id), nI (q472.status), nI (q472.pc), nI (q472.a), nI (q472.b), nI (q472.c), nI (q472.d), nI (q472.e), nI (q472.f), nI (q472.sudogs)]), (13, nB (w338.drew)), (12, nI x335), (9, nI x184), (8, .slice p194 L183.length c195), (6, nI (IntKind.i64.wrap ((L12.length : Int) - 1))), (5, nP z19 0)]) (by kernel_rfl) ?_
          intro a482 hF481; clear hF480
          refine any_one 16 (by kernel_rfl) ?_
          have hS483 := hS479.pick1
          clear hS479
          refine op_store 16 #[true, true, true, true, true, true, true, true, true, true, true, true, true, true, true, true, true, false] (.agg #[nI (q472.id), nI (q472.status), nI (q472.pc), nI (q472.a), nI (q472.b), nI (q472.c), nI (q472.d), nI (q472.e), nI (q472.f), nI (q472.sudogs)]) #[nI (q472.id), nI (q472.status), nI (q472.pc), nI (q472.a), nI (q472.b), nI (q472.c), nI (q472.d), nI (q472.e), nI (q472.f), nI (q472.sudogs)] hF481 rfl (by kernel_rfl) rfl rfl rfl rfl (by kernel_rfl) hS483 (by kernel_rfl) (by kernel_rfl) (by kernel_rfl) (l' := [(165, nI x473), (164, .agg #[nI (q472.id), nI (q472.status), nI (q472.pc), nI (q472.a), nI (q472.b), nI (q472.c), nI (q472.d), nI (q472.e), nI (q472.f), nI (q472.sudogs)]), (13, nB (w338.drew)), (12, nI x335), (9, nI x184), (8, .slice p194 L183.length c195), (6, nI (IntKind.i64.wrap ((L12.length : Int) - 1))), (5, nP z19 0)]) (by kernel_rfl) (by kernel_rfl) ?_
          intro w484 a485 hS486 hF487; clear hF481 hS483
          refine ⟨⟨_, hS486.pick3.pick3⟩, ?_⟩
          refine any_many 1 [(17, some (nI x473))] [5, 6, 8, 9, 12, 13, 14] #[true, true, true, true, true, true, true, true, true, true, true, true, true, true, true, true, true, true] (by rfl) hF487 (by kernel_rfl) (by kernel_rfl) (by exact ⟨fun wS hw => by kernel_rfl, trivial⟩) (fun _ _ _ _ _ h => h) ⟨_, hS486.pick3.pick3⟩ (l' := [(14, nI x473), (13, nB (w338.drew)), (12, nI x335), (9, nI x184), (8, .slice p194 L183.length c195), (6, nI (IntKind.i64.wrap ((L12.length : Int) - 1))), (5, nP z19 0)]) (by kernel_rfl) ?_
          intro a489 hF488; clear hF487
          refine any_done (by kernel_rfl) ?_
          exact thenN ⟨((w338.drew).heap.size), s474, q472.id, q472.status, q472.pc, q472.a, q472.b, q472.c, q472.d, q472.e, q472.f, q472.sudogs, x473, hF488, hS486, hm476⟩
     rw [hc345] at hF343
     have hm490 := ifNot hc345 hm342; clear hm342
     refine ev_condF hF343 rfl rfl ?_
     refine wp_exit ?_
     refine thenE ?_
     refine thenE ?_
     refine blockE ?_
     refine thenN (wp_seq ?_)
     refine joinQ (fun aI wI => ∃ (g491 : Nat) (x492 : Int) (x493 : Int) (x494 : Int) (x495 : Int) (x496 : Int) (x497 : Int) (x498 : Int) (x499 : Int) (x500 : Int) (x501 : Int), Fr 255 aI [(16, nI x501), (15, nP g491 0), (9, nI x184), (8, .slice p194 L183.length c195), (6, nI (IntKind.i64.wrap ((L12.length : Int) - 1))), (5, nP z19 0)] ∧ St w0 F0 (BlkP g491 57 #[nI x492, nI x493, nI x494, nI x495, nI x496, nI x497, nI x498, nI x499, nI x500] :: HeapP z20 z21 s334 :: BlkP z19 46 #[nP z20 0, nP z22 0, nS g177 L11 c36, .slice p39 L12.length c40] :: RowP (nS g177 L11 c36) L11 :: RowP (.slice p194 L183.length c195) L183 :: RowP (.slice p39 L12.length c40) L12 :: RHeapP z22 z23 z24 z25 z26 s157 :: ps) wI ∧ ShutWakes.j16 k L11 L12 L183 x184 s334 x492 x493 x494 x495 x496 x497 x498 x499 x500 x501 = some r0) ?_ ?_
     rotate_left
     · rintro a503 w504 ⟨g491, x492, x493, x494, x495, x496, x497, x498, x499, x500, x501, hF505, hS506, hm507⟩
       clear hF343 hS340 hm490
       unfold ShutWakes.j16 at hm507
       refine thenN (wp_seq ?_)
       refine joinQ (fun aI wI => ∃ (y509 : Bool), Fr 255 aI [(4, .bool (y509))] ∧ St w0 F0 (ps) wI ∧ ShutWakes.j17 y509 = some r0) ?_ ?_
       rotate_left
       · rintro a511 w512 ⟨y509, hF513, hS514, hm515⟩
         clear hF505 hS506 hm507
         unfold ShutWakes.j17 at hm515
         refine thenN ?_
         refine wp_ret ?_
         obtain rfl := Option.some.inj hm515
         refine ev_ret hF513 [4] (.bool (y509)) rfl rfl rfl ?_
         exact ⟨rfl, hS514⟩
       · skip
         -- draws
         have hS518 := hS506.pick3.pick1.pick3
         clear hS506
         have hS519 := hS518.drew; clear hS518
         refine any_start (fun wS => ∃ qs, St w0 F0 (BlkP z19 46 #[nP z20 0, nP z22 0, nS g177 L11 c36, .slice p39 L12.length c40] :: BlkP g491 57 #[nI x492, nI x493, nI x494, nI x495, nI x496, nI x497, nI x498, nI x499, nI x500] :: RowP (nS g177 L11 c36) L11 :: qs) wS) 52 #[false, false, false, false, false, false, false, false, false, false, false, false, false, false, false, false, false, false, false, false, false, false, false, false, false, false, false, false, false, false, false, false, false, false, false, false, false, false, false, false, false, false, false, false, false, false, false, false, false, false, false, false] (by kernel_rfl) (by kernel_rfl) (by kernel_rfl) ?_
         refine any_many 3 [(0, some (nI x184)), (1, some (.bool (x184 == 1))), (2, some (.bool (x184 == 1)))] [4, 5, 6, 8, 15, 16, 206, 207, 208, 209, 210, 211, 212, 213, 214, 215, 216, 217, 218, 219, 220, 221, 222, 223, 224, 225, 226, 227, 228, 229, 230, 231, 232, 233, 234, 235, 236, 237, 238, 239, 240, 241, 242, 243, 244, 245, 246, 247, 248, 249, 250, 251, 252, 253, 254] #[true, true, true, false, false, false, false, false, false, false, false, false, false, false, false, false, false, false, false, false, false, false, false, false, false, false, false, false, false, false, false, false, false, false, false, false, false, false, false, false, false, false, false, false, false, false, false, false, false, false, false, false] (by rfl) hF505 (by kernel_rfl) (by kernel_rfl) (by exact ⟨fun wS hw => by kernel_rfl, fun wS hw => by kernel_rfl, fun wS hw => by kernel_rfl, trivial⟩) (fun _ _ _ _ _ h => h) ⟨_, hS519⟩ (l' := [(206, .bool (x184 == 1)), (16, nI x501), (15, nP g491 0), (8, .slice p194 L183.length c195), (6, nI (IntKind.i64.wrap ((L12.length : Int) - 1))), (5, nP z19 0)]) (by kernel_rfl) ?_
         intro a521 hF520; clear hF505
         cases hc522 : (x184 == 1)
         case true =>
          rw [hc522] at hF520
          have hm523 := ifYes hc522 hm507; clear hm507
          refine any_many 6 [(3, some (.slice p194 L183.length c195)), (4, some (nP z19 0)), (5, some (nP z19 0)), (6, some (nP z19 3)), (7, some (.slice p39 L12.length c40)), (8, some (nI (IntKind.i64.wrap ((L12.length : Int) - 1))))] [4, 5, 15, 16, 206, 207, 211, 212, 213, 214, 215, 216, 217, 218, 219, 220, 221, 222, 223, 224, 225, 226, 227, 228, 229, 230, 231, 232, 233, 234, 235, 236, 237, 238, 239, 240, 241, 242, 243, 244, 245, 246, 247, 248, 249, 250, 251, 252, 253, 254] #[true, true, true, true, true, true, true, true, true, false, false, false, false, false, false, false, false, false, false, false, false, false, false, false, false, false, false, false, false, false, false, false, false, false, false, false, false, false, false, false, false, false, false, false, false, false, false, false, false, false, false, false] (by rfl) hF520 (by kernel_rfl) (by kernel_rfl) (by exact ⟨fun wS hw => by kernel_rfl, fun wS hw => by kernel_rfl, fun wS hw => by kernel_rfl, fun wS hw => by kernel_rfl, fun wS hw => hw.elim fun qs hw => run_loadV rfl rfl (run_loadS rfl rfl (hw.cell 0 rfl 3 rfl)), fun wS hw => by kernel_rfl, trivial⟩) (fun _ _ _ _ _ h => h) ⟨_, hS519⟩ (l' := [(212, nI (IntKind.i64.wrap ((L12.length : Int) - 1))), (211, .slice p39 L12.length c40), (207, .slice p194 L183.length c195), (206, .bool true), (16, nI x501), (15, nP g491 0), (5, nP z19 0)]) (by kernel_rfl) ?_
          intro a525 hF524; clear hF520
          obtain ⟨hc526, hm527⟩ := ifTE hm523; clear hm523
          obtain ⟨hc528, hm529⟩ := ifTE hm527; clear hm527
          obtain ⟨g530, rfl⟩ := hp41.resolve_left (by have := inR_spec hc528; omega)
          have hc531 := St.cap hS519 5 rfl
          refine any_many 1 [(9, some (.slice (some ⟨g530, 0, none⟩) ((IntKind.i64.wrap ((L12.length : Int) - 1)).toNat) c40))] [4, 5, 15, 16, 206, 207, 213, 214, 215, 216, 217, 218, 219, 220, 221, 222, 223, 224, 225, 226, 227, 228, 229, 230, 231, 232, 233, 234, 235, 236, 237, 238, 239, 240, 241, 242, 243, 244, 245, 246, 247, 248, 249, 250, 251, 252, 253, 254] #[true, true, true, true, true, true, true, true, true, true, false, false, false, false, false, false, false, false, false, false, false, false, false, false, false, false, false, false, false, false, false, false, false, false, false, false, false, false, false, false, false, false, false, false, false, false, false, false, false, false, false, false] (by rfl) hF524 (by kernel_rfl) (by kernel_rfl) (by exact ⟨fun wS hw => run_sliceHi rfl rfl rfl rfl rfl (leR_spec hc526).1 (by have := leR_spec hc526; have := hc531; omega) _, trivial⟩) (fun _ _ _ _ _ h => h) ⟨_, hS519⟩ (l' := [(213, .slice (some ⟨g530, 0, none⟩) ((IntKind.i64.wrap ((L12.length : Int) - 1)).toNat) c40), (207, .slice p194 L183.length c195), (206, .bool true), (16, nI x501), (15, nP g491 0), (5, nP z19 0)]) (by kernel_rfl) ?_
          intro a533 hF532; clear hF524
          have hS534 := hS519.pick5
          clear hS519
          have hS535 := St.takeR hS534 (leR_nat hc526)
          clear hS534
          have hS536 := hS535.pick5
          clear hS535
          refine any_call 10 #[true, true, true, true, true, true, true, true, true, true, true, false, false, false, false, false, false, false, false, false, false, false, false, false, false, false, false, false, false, false, false, false, false, false, false, false, false, false, false, false, false, false, false, false, false, false, false, false, false, false, false, false] 37 #[.slice p194 L183.length c195, .slice (some ⟨g530, 0, none⟩) ((IntKind.i64.wrap ((L12.length : Int) - 1)).toNat) c40] hF532 rfl (by kernel_rfl) rfl rfl (by kernel_rfl) rfl (by kernel_rfl) (fun w => by kernel_rfl) (by kernel_rfl) ?_
          obtain ⟨y537, hx538, hm539⟩ := bind1E hm529; clear hm529
          refine (help_Plain.ok hS536 hx538).mono ?_
          rintro _ w540 ⟨rfl, hS542⟩; clear hS536
          refine ⟨⟨_, hS542.pick4.pick4.pick4⟩, ?_⟩
          intro a541 hF543; clear hF532
          refine any_many 2 [(11, some (.bool (y537))), (12, some (.bool (y537)))] [4, 5, 15, 16, 216, 217, 218, 219, 220, 221, 222, 223, 224, 225, 226, 227, 228, 229, 230, 231, 232, 233, 234, 235, 236, 237, 238, 239, 240, 241, 242, 243, 244, 245, 246, 247, 248, 249, 250, 251, 252, 253, 254] #[true, true, true, true, true, true, true, true, true, true, true, true, true, false, false, false, false, false, false, false, false, false, false, false, false, false, false, false, false, false, false, false, false, false, false, false, false, false, false, false, false, false, false, false, false, false, false, false, false, false, false, false] (by rfl) hF543 (by kernel_rfl) (by kernel_rfl) (by exact ⟨fun wS hw => by kernel_rfl, fun wS hw => by kernel_rfl, trivial⟩) (fun _ _ _ _ _ h => h) ⟨_, hS542.pick4.pick4.pick4⟩ (l' := [(216, .bool (y537)), (16, nI x501), (15, nP g491 0), (5, nP z19 0)]) (by kernel_rfl) ?_
          intro a545 hF544; clear hF543
          cases hc546 : (y537)
          case true =>
           rw [hc546] at hF544
           have hm547 := ifYes hc546 hm539; clear hm539
           refine any_many 4 [(13, some (nI x501)), (14, some (.bool (x501 == 0))), (15, some (.bool (x501 == 0))), (16, some (.bool (x501 == 0)))] [4, 5, 15, 220, 221, 222, 223, 224, 225, 226, 227, 228, 229, 230, 231, 232, 233, 234, 235, 236, 237, 238, 239, 240, 241, 242, 243, 244, 245, 246, 247, 248, 249, 250, 251, 252, 253, 254] #[true, true, true, true, true, true, true, true, true, true, true, true, true, true, true, true, true, false, false, false, false, false, false, false, false, false, false, false, false, false, false, false, false, false, false, false, false, false, false, false, false, false, false, false, false, false, false, false, false, false, false, false] (by rfl) hF544 (by kernel_rfl) (by kernel_rfl) (by exact ⟨fun wS hw => by kernel_rfl, fun wS hw => by kernel_rfl, fun wS hw => by kernel_rfl, fun wS hw => by kernel_rfl, trivial⟩) (fun _ _ _ _ _ h => h) ⟨_, hS542.pick4.pick4.pick4⟩ (l' := [(220, .bool (x501 == 0)), (15, nP g491 0), (5, nP z19 0)]) (by kernel_rfl) ?_
           intro a549 hF548; clear hF544
           cases hc550 : (x501 == 0)
           case true =>
            rw [hc550] at hF548
            have hm551 := ifYes hc550 hm547; clear hm547
            refine any_many 5 [(17, some (nP g491 1)), (18, some (nI x493)), (19, some (.bool (x493 == 1))), (20, some (.bool (x493 == 1))), (21, some (.bool (x493 == 1)))] [4, 5, 225, 226, 227, 228, 229, 230, 231, 232, 233, 234, 235, 236, 237, 238, 239, 240, 241, 242, 243, 244, 245, 246, 247, 248, 249, 250, 251, 252, 253, 254] #[true, true, true, true, true, true, true, true, true, true, true, true, true, true, true, true, true, true, true, true, true, true, false, false, false, false, false, false, false, false, false, false, false, false, false, false, false, false, false, false, false, false, false, false, false, false, false, false, false, false, false, false] (by rfl) hF548 (by kernel_rfl) (by kernel_rfl) (by exact ⟨fun wS hw => by kernel_rfl, fun wS hw => hw.elim fun qs hw => run_loadV rfl rfl (run_loadS rfl rfl (hw.cell 1 rfl 1 rfl)), fun wS hw => by kernel_rfl, fun wS hw => by kernel_rfl, fun wS hw => by kernel_rfl, trivial⟩) (fun _ _ _ _ _ h => h) ⟨_, hS542.pick4.pick4.pick4⟩ (l' := [(225, .bool (x493 == 1)), (5, nP z19 0)]) (by kernel_rfl) ?_
            intro a553 hF552; clear hF548
            cases hc554 : (x493 == 1)
            case true =>
             rw [hc554] at hF552
             have hm555 := ifYes hc554 hm551; clear hm551
             refine any_many 8 [(22, some (nP z19 0)), (23, some (nP z19 0)), (24, some (nP z19 0)), (25, some (nP z20 0)), (26, some (nP z19 0)), (27, some (nP z19 0)), (28, some (nP z19 2)), (29, some (nS g177 L11 c36))] [4, 5, 225, 229, 233, 234, 235, 236, 237, 238, 239, 240, 241, 242, 243, 244, 245, 246, 247, 248, 249, 250, 251, 252, 253, 254] #[true, true, true, true, true, true, true, true, true, true, true, true, true, true, true, true, true, true, true, true, true, true, true, true, true, true, true, true, true, true, false, false, false, false, false, false, false, false, false, false, false, false, false, false, false, false, false, false, false, false, false, false] (by rfl) hF552 (by kernel_rfl) (by kernel_rfl) (by exact ⟨fun wS hw => by kernel_rfl, fun wS hw => by kernel_rfl, fun wS hw => by kernel_rfl, fun wS hw => hw.elim fun qs hw => run_loadV rfl rfl (run_loadS rfl rfl (hw.cell 0 rfl 0 rfl)), fun wS hw => by kernel_rfl, fun wS hw => by kernel_rfl, fun wS hw => by kernel_rfl, fun wS hw => hw.elim fun qs hw => run_loadV rfl rfl (run_loadS rfl rfl (hw.cell 0 rfl 2 rfl)), trivial⟩) (fun _ _ _ _ _ h => h) ⟨_, hS542.pick4.pick4.pick4⟩ (l' := [(233, nS g177 L11 c36), (229, nP z20 0), (225, .bool true), (5, nP z19 0)]) (by kernel_rfl) ?_
             intro a557 hF556; clear hF552
             obtain ⟨hc558, hm559⟩ := ifTE hm555; clear hm555
             refine any_many 2 [(30, some (nP g177 ((0 : Int).toNat))), (31, some (nI (atI L11 (0 : Int))))] [4, 5, 225, 229, 235, 236, 237, 238, 239, 240, 241, 242, 243, 244, 245, 246, 247, 248, 249, 250, 251, 252, 253, 254] #[true, true, true, true, true, true, true, true, true, true, true, true, true, true, true, true, true, true, true, true, true, true, true, true, true, true, true, true, true, true, true, true, false, false, false, false, false, false, false, false, false, false, false, false, false, false, false, false, false, false, false, false] (by rfl) hF556 (by kernel_rfl) (by kernel_rfl) (by exact ⟨fun wS hw => run_idx rfl rfl rfl rfl rfl (inR_spec hc558).1 (inR_spec hc558).2 _, fun wS hw => run_load1 rfl rfl rfl (hw.elim fun qs hw => hw.atI 2 rfl hc558), trivial⟩) (fun _ _ _ _ _ h => h) ⟨_, hS542.pick4.pick4.pick4⟩ (l' := [(235, nI (atI L11 (0 : Int))), (229, nP z20 0), (225, .bool true), (5, nP z19 0)]) (by kernel_rfl) ?_
             intro a561 hF560; clear hF556
             have hS562 := hS542.pick5
             clear hS542
             refine any_call 32 #[true, true, true, true, true, true, true, true, true, true, true, true, true, true, true, true, true, true, true, true, true, true, true, true, true, true, true, true, true, true, true, true, true, false, false, false, false, false, false, false, false, false, false, false, false, false, false, false, false, false, false, false] 35 #[nP z20 0, nI (atI L11 (0 : Int)), .bool false] hF560 rfl (by kernel_rfl) rfl rfl (by kernel_rfl) rfl (by kernel_rfl) (fun w => by kernel_rfl) (by kernel_rfl) ?_
             obtain ⟨L563, s564, hx565, hm566⟩ := bind2E hm559; clear hm559
             refine (list_All.ok hS562 hx565).mono ?_
             rintro _ w567 ⟨z571, rfl, hS569⟩; clear hS562
             obtain ⟨hl576, p573, c574, rfl, hp575⟩ := St.shape hS569 1 rfl
             refine ⟨⟨_, hS569.pick6.pick6.pick6⟩, ?_⟩
             intro a568 hF570; clear hF560
             refine any_many 4 [(33, some (nI ((L563.length : Int)))), (34, some (.bool ((L563.length : Int) == 0))), (35, some (.bool ((L563.length : Int) == 0))), (36, some (.bool ((L563.length : Int) == 0)))] [4, 5, 240, 241, 242, 243, 244, 245, 246, 247, 248, 249, 250, 251, 252, 253, 254] #[true, true, true, true, true, true, true, true, true, true, true, true, true, true, true, true, true, true, true, true, true, true, true, true, true, true, true, true, true, true, true, true, true, true, true, true, true, false, false, false, false, false, false, false, false, false, false, false, false, false, false, false] (by rfl) hF570 (by kernel_rfl) (by kernel_rfl) (by exact ⟨fun wS hw => by kernel_rfl, fun wS hw => by kernel_rfl, fun wS hw => by kernel_rfl, fun wS hw => by kernel_rfl, trivial⟩) (fun _ _ _ _ _ h => h) ⟨_, hS569.pick6.pick6.pick6⟩ (l' := [(240, .bool ((L563.length : Int) == 0)), (5, nP z19 0)]) (by kernel_rfl) ?_
             intro a578 hF577; clear hF570
             cases hc579 : ((L563.length : Int) == 0)
             case true =>
              rw [hc579] at hF577
              have hm580 := ifYes hc579 hm566; clear hm566
              refine any_many 8 [(37, some (nP z19 0)), (38, some (nP z19 0)), (39, some (nP z19 0)), (40, some (nP z20 0)), (41, some (nP z19 0)), (42, some (nP z19 0)), (43, some (nP z19 2)), (44, some (nS g177 L11 c36))] [4, 240, 244, 248, 249, 250, 251, 252, 253, 254] #[true, true, true, true, true, true, true, true, true, true, true, true, true, true, true, true, true, true, true, true, true, true, true, true, true, true, true, true, true, true, true, true, true, true, true, true, true, true, true, true, true, true, true, true, true, false, false, false, false, false, false, false] (by rfl) hF577 (by kernel_rfl) (by kernel_rfl) (by exact ⟨fun wS hw => by kernel_rfl, fun wS hw => by kernel_rfl, fun wS hw => by kernel_rfl, fun wS hw => hw.elim fun qs hw => run_loadV rfl rfl (run_loadS rfl rfl (hw.cell 0 rfl 0 rfl)), fun wS hw => by kernel_rfl, fun wS hw => by kernel_rfl, fun wS hw => by kernel_rfl, fun wS hw => hw.elim fun qs hw => run_loadV rfl rfl (run_loadS rfl rfl (hw.cell 0 rfl 2 rfl)), trivial⟩) (fun _ _ _ _ _ h => h) ⟨_, hS569.pick6.pick6.pick6⟩ (l' := [(248, nS g177 L11 c36), (244, nP z20 0), (240, .bool true)]) (by kernel_rfl) ?_
              intro a582 hF581; clear hF577
              obtain ⟨hc583, hm584⟩ := ifTE hm580; clear hm580
              refine any_many 2 [(45, some (nP g177 ((1 : Int).toNat))), (46, some (nI (atI L11 (1 : Int))))] [4, 240, 244, 250, 251, 252, 253, 254] #[true, true, true, true, true, true, true, true, true, true, true, true, true, true, true, true, true, true, true, true, true, true, true, true, true, true, true, true, true, true, true, true, true, true, true, true, true, true, true, true, true, true, true, true, true, true, true, false, false, false, false, false] (by rfl) hF581 (by kernel_rfl) (by kernel_rfl) (by exact ⟨fun wS hw => run_idx rfl rfl rfl rfl rfl (inR_spec hc583).1 (inR_spec hc583).2 _, fun wS hw => run_load1 rfl rfl rfl (hw.elim fun qs hw => hw.atI 2 rfl hc583), trivial⟩) (fun _ _ _ _ _ h => h) ⟨_, hS569.pick6.pick6.pick6⟩ (l' := [(250, nI (atI L11 (1 : Int))), (244, nP z20 0), (240, .bool true)]) (by kernel_rfl) ?_
              intro a586 hF585; clear hF581
              refine any_call 47 #[true, true, true, true, true, true, true, true, true, true, true, true, true, true, true, true, true, true, true, true, true, true, true, true, true, true, true, true, true, true, true, true, true, true, true, true, true, true, true, true, true, true, true, true, true, true, true, true, false, false, false, false] 35 #[nP z20 0, nI (atI L11 (1 : Int)), .bool true] hF585 rfl (by kernel_rfl) rfl rfl (by kernel_rfl) rfl (by kernel_rfl) (fun w => by kernel_rfl) (by kernel_rfl) ?_
              obtain ⟨L587, s588, hx589, hm590⟩ := bind2E hm584; clear hm584
              refine (list_All.ok hS569 hx589).mono ?_
              rintro _ w591 ⟨z595, rfl, hS593⟩; clear hS569
              obtain ⟨hl600, p597, c598, rfl, hp599⟩ := St.shape hS593 1 rfl
              refine ⟨⟨_, hS593.pick7.pick7.pick7⟩, ?_⟩
              intro a592 hF594; clear hF585
              refine any_many 4 [(48, some (nI ((L587.length : Int)))), (49, some (.bool ((L587.length : Int) == 0))), (50, some (.bool ((L587.length : Int) == 0))), (51, some (.bool ((L587.length : Int) == 0)))] [4] #[true, true, true, true, true, true, true, true, true, true, true, true, true, true, true, true, true, true, true, true, true, true, true, true, true, true, true, true, true, true, true, true, true, true, true, true, true, true, true, true, true, true, true, true, true, true, true, true, true, true, true, true] (by rfl) hF594 (by kernel_rfl) (by kernel_rfl) (by exact ⟨fun wS hw => by kernel_rfl, fun wS hw => by kernel_rfl, fun wS hw => by kernel_rfl, fun wS hw => by kernel_rfl, trivial⟩) (fun _ _ _ _ _ h => h) ⟨_, hS593.pick7.pick7.pick7⟩ (l' := [(4, .bool ((L587.length : Int) == 0))]) (by kernel_rfl) ?_
              intro a602 hF601; clear hF594
              refine any_done (by kernel_rfl) ?_
              have hS603 := hS593.drop.drop.drop.drop.drop.drop.drop.drop.drop
              clear hS593
              exact thenN ⟨(L587.length : Int) == 0, hF601, hS603, hm590⟩
             rw [hc579] at hF577
             have hm604 := ifNot hc579 hm566; clear hm566
             refine any_many 15 [(37, none), (38, none), (39, none), (40, none), (41, none), (42, none), (43, none), (44, none), (45, none), (46, none), (47, none), (48, none), (49, none), (50, some (.bool false)), (51, some (.bool false))] [4] #[true, true, true, true, true, true, true, true, true, true, true, true, true, true, true, true, true, true, true, true, true, true, true, true, true, true, true, true, true, true, true, true, true, true, true, true, true, true, true, true, true, true, true, true, true, true, true, true, true, true, true, true] (by rfl) hF577 (by kernel_rfl) (by kernel_rfl) (by exact (And.intro trivial (And.intro trivial (And.intro trivial (And.intro trivial (And.intro trivial (And.intro trivial (And.intro trivial (And.intro trivial (And.intro trivial (And.intro trivial (And.intro trivial (And.intro trivial (And.intro trivial (And.intro (fun wS hw => by kernel_rfl) (And.intro (fun wS hw => by kernel_rfl) trivial)))))))))))))))) (fun _ _ _ _ _ h => h) ⟨_, hS569.pick6.pick6.pick6⟩ (l' := [(4, .bool false)]) (by kernel_rfl) ?_
             intro a606 hF605; clear hF577
             refine any_done (by kernel_rfl) ?_
             have hS607 := hS569.drop.drop.drop.drop.drop.drop.drop.drop
             clear hS569
             exact thenN ⟨false, hF605, hS607, hm604⟩
            rw [hc554] at hF552
            have hm608 := ifNot hc554 hm551; clear hm551
            refine any_many 30 [(22, none), (23, none), (24, none), (25, none), (26, none), (27, none), (28, none), (29, none), (30, none), (31, none), (32, none), (33, none), (34, none), (35, some (.bool false)), (36, some (.bool false)), (37, none), (38, none), (39, none), (40, none), (41, none), (42, none), (43, none), (44, none), (45, none), (46, none), (47, none), (48, none), (49, none), (50, some (.bool false)), (51, some (.bool false))] [4] #[true, true, true, true, true, true, true, true, true, true, true, true, true, true, true, true, true, true, true, true, true, true, true, true, true, true, true, true, true, true, true, true, true, true, true, true, true, true, true, true, true, true, true, true, true, true, true, true, true, true, true, true] (by rfl) hF552 (by kernel_rfl) (by kernel_rfl) (by exact (And.intro trivial (And.intro trivial (And.intro trivial (And.intro trivial (And.intro trivial (And.intro trivial (And.intro trivial (And.intro trivial (And.intro trivial (And.intro trivial (And.intro trivial (And.intro trivial (And.intro trivial (And.intro (fun wS hw => by kernel_rfl) (And.intro (fun wS hw => by kernel_rfl) (And.intro trivial (And.intro trivial (And.intro trivial (And.intro trivial (And.intro trivial (And.intro trivial (And.intro trivial (And.intro trivial (And.intro trivial (And.intro trivial (And.intro trivial (And.intro trivial (And.intro trivial (And.intro (fun wS hw => by kernel_rfl) (And.intro (fun wS hw => by kernel_rfl) trivial))))))))))))))))))))))))))))))) (fun _ _ _ _ _ h => h) ⟨_, hS542.pick4.pick4.pick4⟩ (l' := [(4, .bool false)]) (by kernel_rfl) ?_
            intro a610 hF609; clear hF552
            refine any_done (by kernel_rfl) ?_
            have hS611 := hS542.drop.drop.drop.drop.drop.drop.drop
            clear hS542
            exact thenN ⟨false, hF609, hS611, hm608⟩
           rw [hc550] at hF548
           have hm612 := ifNot hc550 hm547; clear hm547
           refine any_many 35 [(17, none), (18, none), (19, none), (20, some (.bool false)), (21, some (.bool false)), (22, none), (23, none), (24, none), (25, none), (26, none), (27, none), (28, none), (29, none), (30, none), (31, none), (32, none), (33, none), (34, none), (35, some (.bool false)), (36, some (.bool false)), (37, none), (38, none), (39, none), (40, none), (41, none), (42, none), (43, none), (44, none), (45, none), (46, none), (47, none), (48, none), (49, none), (50, some (.bool false)), (51, some (.bool false))] [4] #[true, true, true, true, true, true, true, true, true, true, true, true, true, true, true, true, true, true, true, true, true, true, true, true, true, true, true, true, true, true, true, true, true, true, true, true, true, true, true, true, true, true, true, true, true, true, true, true, true, true, true, true] (by rfl) hF548 (by kernel_rfl) (by kernel_rfl) (by exact (And.intro trivial (And.intro trivial (And.intro trivial (And.intro (fun wS hw => by kernel_rfl) (And.intro (fun wS hw => by kernel_rfl) (And.intro trivial (And.intro trivial (And.intro trivial (And.intro trivial (And.intro trivial (And.intro trivial (And.intro trivial (And.intro trivial (And.intro trivial (And.intro trivial (And.intro trivial (And.intro trivial (And.intro trivial (And.intro (fun wS hw => by kernel_rfl) (And.intro (fun wS hw => by kernel_rfl) (And.intro trivial (And.intro trivial (And.intro trivial (And.intro trivial (And.intro trivial (And.intro trivial (And.intro trivial (And.intro trivial (And.intro trivial (And.intro trivial (And.intro trivial (And.intro trivial (And.intro trivial (And.intro (fun wS hw => by kernel_rfl) (And.intro (fun wS hw => by kernel_rfl) trivial)))))))))))))))))))))))))))))))))))) (fun _ _ _ _ _ h => h) ⟨_, hS542.pick4.pick4.pick4⟩ (l' := [(4, .bool false)]) (by kernel_rfl) ?_
           intro a614 hF613; clear hF548
           refine any_done (by kernel_rfl) ?_
           have hS615 := hS542.drop.drop.drop.drop.drop.drop.drop
           clear hS542
           exact thenN ⟨false, hF613, hS615, hm612⟩
          rw [hc546] at hF544
          have hm616 := ifNot hc546 hm539; clear hm539
          refine any_many 39 [(13, none), (14, none), (15, some (.bool false)), (16, some (.bool false)), (17, none), (18, none), (19, none), (20, some (.bool false)), (21, some (.bool false)), (22, none), (23, none), (24, none), (25, none), (26, none), (27, none), (28, none), (29, none), (30, none), (31, none), (32, none), (33, none), (34, none), (35, some (.bool false)), (36, some (.bool false)), (37, none), (38, none), (39, none), (40, none), (41, none), (42, none), (43, none), (44, none), (45, none), (46, none), (47, none), (48, none), (49, none), (50, some (.bool false)), (51, some (.bool false))] [4] #[true, true, true, true, true, true, true, true, true, true, true, true, true, true, true, true, true, true, true, true, true, true, true, true, true, true, true, true, true, true, true, true, true, true, true, true, true, true, true, true, true, true, true, true, true, true, true, true, true, true, true, true] (by rfl) hF544 (by kernel_rfl) (by kernel_rfl) (by exact (And.intro trivial (And.intro trivial (And.intro (fun wS hw => by kernel_rfl) (And.intro (fun wS hw => by kernel_rfl) (And.intro trivial (And.intro trivial (And.intro trivial (And.intro (fun wS hw => by kernel_rfl) (And.intro (fun wS hw => by kernel_rfl) (And.intro trivial (And.intro trivial (And.intro trivial (And.intro trivial (And.intro trivial (And.intro trivial (And.intro trivial (And.intro trivial (And.intro trivial (And.intro trivial (And.intro trivial (And.intro trivial (And.intro trivial (And.intro (fun wS hw => by kernel_rfl) (And.intro (fun wS hw => by kernel_rfl) (And.intro trivial (And.intro trivial (And.intro trivial (And.intro trivial (And.intro trivial (And.intro trivial (And.intro trivial (And.intro trivial (And.intro trivial (And.intro trivial (And.intro trivial (And.intro trivial (And.intro trivial (And.intro (fun wS hw => by kernel_rfl) (And.intro (fun wS hw => by kernel_rfl) trivial)))))))))))))))))))))))))))))))))))))))) (fun _ _ _ _ _ h => h) ⟨_, hS542.pick4.pick4.pick4⟩ (l' := [(4, .bool false)]) (by kernel_rfl) ?_
          intro a618 hF617; clear hF544
          refine any_done (by kernel_rfl) ?_
          have hS619 := hS542.drop.drop.drop.drop.drop.drop.drop
          clear hS542
          exact thenN ⟨false, hF617, hS619, hm616⟩
         rw [hc522] at hF520
         have hm620 := ifNot hc522 hm507; clear hm507
         refine any_many 49 [(3, none), (4, none), (5, none), (6, none), (7, none), (8, none), (9, none), (10, none), (11, some (.bool false)), (12, some (.bool false)), (13, none), (14, none), (15, some (.bool false)), (16, some (.bool false)), (17, none), (18, none), (19, none), (20, some (.bool false)), (21, some (.bool false)), (22, none), (23, none), (24, none), (25, none), (26, none), (27, none), (28, none), (29, none), (30, none), (31, none), (32, none), (33, none), (34, none), (35, some (.bool false)), (36, some (.bool false)), (37, none), (38, none), (39, none), (40, none), (41, none), (42, none), (43, none), (44, none), (45, none), (46, none), (47, none), (48, none), (49, none), (50, some (.bool false)), (51, some (.bool false))] [4] #[true, true, true, true, true, true, true, true, true, true, true, true, true, true, true, true, true, true, true, true, true, true, true, true, true, true, true, true, true, true, true, true, true, true, true, true, true, true, true, true, true, true, true, true, true, true, true, true, true, true, true, true] (by rfl) hF520 (by kernel_rfl) (by kernel_rfl) (by exact (And.intro trivial (And.intro trivial (And.intro trivial (And.intro trivial (And.intro trivial (And.intro trivial (And.intro trivial (And.intro trivial (And.intro (fun wS hw => by kernel_rfl) (And.intro (fun wS hw => by kernel_rfl) (And.intro trivial (And.intro trivial (And.intro (fun wS hw => by kernel_rfl) (And.intro (fun wS hw => by kernel_rfl) (And.intro trivial (And.intro trivial (And.intro trivial (And.intro (fun wS hw => by kernel_rfl) (And.intro (fun wS hw => by kernel_rfl) (And.intro trivial (And.intro trivial (And.intro trivial (And.intro trivial (And.intro trivial (And.intro trivial (And.intro trivial (And.intro trivial (And.intro trivial (And.intro trivial (And.intro trivial (And.intro trivial (And.intro trivial (And.intro (fun wS hw => by kernel_rfl) (And.intro (fun wS hw => by kernel_rfl) (And.intro trivial (And.intro trivial (And.intro trivial (And.intro trivial (And.intro trivial (And.intro trivial (And.intro trivial (And.intro trivial (And.intro trivial (And.intro trivial (And.intro trivial (And.intro trivial (And.intro trivial (And.intro (fun wS hw => by kernel_rfl) (And.intro (fun wS hw => by kernel_rfl) trivial)))))))))))))))))))))))))))))))))))))))))))))))))) (fun _ _ _ _ _ h => h) ⟨_, hS519⟩ (l' := [(4, .bool false)]) (by kernel_rfl) ?_
         intro a622 hF621; clear hF520
         refine any_done (by kernel_rfl) ?_
         have hS623 := hS519.drop.drop.drop.drop.drop.drop.drop
         clear hS519
         exact thenN ⟨false, hF621, hS623, hm620⟩
     · skip
       -- draws
       obtain ⟨hc624, hm625⟩ := ifTE hm490; clear hm490
       have hS626 := hS340.pick3.pick3
       clear hS340
       have hS627 := hS626.drew; clear hS626
       refine any_start (fun wS => ∃ qs, St w0 F0 (BlkP z19 46 #[nP z20 0, nP z22 0, nS g177 L11 c36, .slice p39 L12.length c40] :: RowP (nS g177 L11 c36) L11 :: qs) wS) 17 #[false, false, false, false, false, false, false, false, false, false, false, false, false, false, false, false, false] (by kernel_rfl) (by kernel_rfl) (by kernel_rfl) ?_
       refine any_many 10 [(0, some (nP z19 0)), (1, some (nP z19 0)), (2, some (nP z19 0)), (3, some (nP z20 0)), (4, some (nP z19 0)), (5, some (nP z19 0)), (6, some (nP z19 2)), (7, some (nS g177 L11 c36)), (8, some (nP g177 ((0 : Int).toNat))), (9, some (nI (atI L11 (0 : Int))))] [5, 6, 8, 9, 15, 16, 190, 194, 200, 201, 202, 203] #[true, true, true, true, true, true, true, true, true, true, false, false, false, false, false, false, false] (by rfl) hF343 (by kernel_rfl) (by kernel_rfl) (by exact ⟨fun wS hw => by kernel_rfl, fun wS hw => by kernel_rfl, fun wS hw => by kernel_rfl, fun wS hw => hw.elim fun qs hw => run_loadV rfl rfl (run_loadS rfl rfl (hw.cell 0 rfl 0 rfl)), fun wS hw => by kernel_rfl, fun wS hw => by kernel_rfl, fun wS hw => by kernel_rfl, fun wS hw => hw.elim fun qs hw => run_loadV rfl rfl (run_loadS rfl rfl (hw.cell 0 rfl 2 rfl)), fun wS hw => run_idx rfl rfl rfl rfl rfl (inR_spec hc624).1 (inR_spec hc624).2 _, fun wS hw => run_load1 rfl rfl rfl (hw.elim fun qs hw => hw.atI 1 rfl hc624), trivial⟩) (fun _ _ _ _ _ h => h) ⟨_, hS627⟩ (l' := [(200, nI (atI L11 (0 : Int))), (194, nP z20 0), (9, nI x184), (8, .slice p194 L183.length c195), (6, nI (IntKind.i64.wrap ((L12.length : Int) - 1))), (5, nP z19 0)]) (by kernel_rfl) ?_
       intro a629 hF628; clear hF343
       refine any_two 10 14 (by kernel_rfl) ?_ ?_
       · skip
         have hS630 := hS627.pick2
         clear hS627
         refine op_call 10 #[true, true, true, true, true, true, true, true, true, true, true, false, false, false, false, false, false] 30 #[nP z20 0, nI (atI L11 (0 : Int))] hF628 rfl rfl rfl (by kernel_rfl) rfl (by kernel_rfl) (fun w => by kernel_rfl) (by kernel_rfl) ?_
         obtain ⟨q631, x632, hx633, hm634⟩ := bind2E hm625; clear hm625
         refine (p_Chan hS630 hx633).mono ?_
         rintro _ w635 ⟨rfl, hS637⟩; clear hS630
         refine ⟨⟨_, hS637.pick2.pick2⟩, ?_⟩
         intro a636 hF638; clear hF628
         refine any_many 3 [(11, some (.tuple #[.agg #[nI (q631.cap), nI (q631.closed), nI (q631.count), nI (q631.start), nI (q631.buf), nI (q631.th), nI (q631.tt), nI (q631.sh), nI (q631.st)], nI x632])), (12, some (.agg #[nI (q631.cap), nI (q631.closed), nI (q631.count), nI (q631.start), nI (q631.buf), nI (q631.th), nI (q631.tt), nI (q631.sh), nI (q631.st)])), (13, some (nI x632))] [5, 6, 8, 9, 15, 16, 202, 203] #[true, true, true, true, true, true, true, true, true, true, true, true, true, true, false, false, false] (by rfl) hF638 (by kernel_rfl) (by kernel_rfl) (by exact ⟨fun wS hw => by kernel_rfl, fun wS hw => by kernel_rfl, fun wS hw => by kernel_rfl, trivial⟩) (fun _ _ _ _ _ h => h) ⟨_, hS637.pick2.pick2⟩ (l' := [(203, nI x632), (202, .agg #[nI (q631.cap), nI (q631.closed), nI (q631.count), nI (q631.start), nI (q631.buf), nI (q631.th), nI (q631.tt), nI (q631.sh), nI (q631.st)]), (9, nI x184), (8, .slice p194 L183.length c195), (6, nI (IntKind.i64.wrap ((L12.length : Int) - 1))), (5, nP z19 0)]) (by kernel_rfl) ?_
         intro a640 hF639; clear hF638
         refine any_one 14 (by kernel_rfl) ?_
         have hS641 : St w0 F0 (BlkP (w635.heap.size) 57 #[nI 0, nI 0, nI 0, nI 0, nI 0, nI 0, nI 0, nI 0, nI 0] :: HeapP z20 z21 s334 :: BlkP z19 46 #[nP z20 0, nP z22 0, nS g177 L11 c36, .slice p39 L12.length c40] :: RowP (nS g177 L11 c36) L11 :: RowP (.slice p194 L183.length c195) L183 :: RowP (.slice p39 L12.length c40) L12 :: RHeapP z22 z23 z24 z25 z26 s157 :: ps) (w635.alloc (.cells #[nI 0, nI 0, nI 0, nI 0, nI 0, nI 0, nI 0, nI 0, nI 0] 57)) := St.new hS637 #[nI 0, nI 0, nI 0, nI 0, nI 0, nI 0, nI 0, nI 0, nI 0] 57
         clear hS637
         refine op_step 14 #[true, true, true, true, true, true, true, true, true, true, true, true, true, true, true, false, false] (nB w635) (w635.alloc (.cells #[nI 0, nI 0, nI 0, nI 0, nI 0, nI 0, nI 0, nI 0, nI 0] 57)) hF639 rfl (by kernel_rfl) rfl (by kernel_rfl) (by kernel_rfl) (l' := [(15, nB w635), (203, nI x632), (202, .agg #[nI (q631.cap), nI (q631.closed), nI (q631.count), nI (q631.start), nI (q631.buf), nI (q631.th), nI (q631.tt), nI (q631.sh), nI (q631.st)]), (9, nI x184), (8, .slice p194 L183.length c195), (6, nI (IntKind.i64.wrap ((L12.length : Int) - 1))), (5, nP z19 0)]) (by kernel_rfl) ⟨_, hS641.pick3.pick3⟩ (by kernel_rfl) ?_
         intro a643 hF642; clear hF639
         refine any_one 15 (by kernel_rfl) ?_
         refine op_store 15 #[true, true, true, true, true, true, true, true, true, true, true, true, true, true, true, true, false] (.agg #[nI (q631.cap), nI (q631.closed), nI (q631.count), nI (q631.start), nI (q631.buf), nI (q631.th), nI (q631.tt), nI (q631.sh), nI (q631.st)]) #[nI (q631.cap), nI (q631.closed), nI (q631.count), nI (q631.start), nI (q631.buf), nI (q631.th), nI (q631.tt), nI (q631.sh), nI (q631.st)] hF642 rfl (by kernel_rfl) rfl rfl rfl rfl (by kernel_rfl) hS641 (by kernel_rfl) (by kernel_rfl) (by kernel_rfl) (l' := [(15, nB w635), (203, nI x632), (202, .agg #[nI (q631.cap), nI (q631.closed), nI (q631.count), nI (q631.start), nI (q631.buf), nI (q631.th), nI (q631.tt), nI (q631.sh), nI (q631.st)]), (9, nI x184), (8, .slice p194 L183.length c195), (6, nI (IntKind.i64.wrap ((L12.length : Int) - 1))), (5, nP z19 0)]) (by kernel_rfl) (by kernel_rfl) ?_
         intro w644 a645 hS646 hF647; clear hF642 hS641
         refine ⟨⟨_, hS646.pick3.pick3⟩, ?_⟩
         refine any_many 1 [(16, some (nI x632))] [5, 6, 8, 9, 15, 16] #[true, true, true, true, true, true, true, true, true, true, true, true, true, true, true, true, true] (by rfl) hF647 (by kernel_rfl) (by kernel_rfl) (by exact ⟨fun wS hw => by kernel_rfl, trivial⟩) (fun _ _ _ _ _ h => h) ⟨_, hS646.pick3.pick3⟩ (l' := [(16, nI x632), (15, nB w635), (9, nI x184), (8, .slice p194 L183.length c195), (6, nI (IntKind.i64.wrap ((L12.length : Int) - 1))), (5, nP z19 0)]) (by kernel_rfl) ?_
         intro a649 hF648; clear hF647
         refine any_done (by kernel_rfl) ?_
         exact thenN ⟨(w635.heap.size), q631.cap, q631.closed, q631.count, q631.start, q631.buf, q631.th, q631.tt, q631.sh, q631.st, x632, hF648, hS646, hm634⟩
       · skip
         have hS650 : St w0 F0 (BlkP ((w338.drew).heap.size) 57 #[nI 0, nI 0, nI 0, nI 0, nI 0, nI 0, nI 0, nI 0, nI 0] :: BlkP z19 46 #[nP z20 0, nP z22 0, nS g177 L11 c36, .slice p39 L12.length c40] :: RowP (nS g177 L11 c36) L11 :: HeapP z20 z21 s334 :: RowP (.slice p194 L183.length c195) L183 :: RowP (.slice p39 L12.length c40) L12 :: RHeapP z22 z23 z24 z25 z26 s157 :: ps) ((w338.drew).alloc (.cells #[nI 0, nI 0, nI 0, nI 0, nI 0, nI 0, nI 0, nI 0, nI 0] 57)) := St.new hS627 #[nI 0, nI 0, nI 0, nI 0, nI 0, nI 0, nI 0, nI 0, nI 0] 57
         clear hS627
         refine op_step 14 #[true, true, true, true, true, true, true, true, true, true, false, false, false, false, true, false, false] (nB (w338.drew)) ((w338.drew).alloc (.cells #[nI 0, nI 0, nI 0, nI 0, nI 0, nI 0, nI 0, nI 0, nI 0] 57)) hF628 rfl (by kernel_rfl) rfl (by kernel_rfl) (by kernel_rfl) (l' := [(15, nB (w338.drew)), (200, nI (atI L11 (0 : Int))), (194, nP z20 0), (9, nI x184), (8, .slice p194 L183.length c195), (6, nI (IntKind.i64.wrap ((L12.length : Int) - 1))), (5, nP z19 0)]) (by kernel_rfl) ⟨_, hS650.pick2.pick2⟩ (by kernel_rfl) ?_
         intro a652 hF651; clear hF628
         have hS653 := hS650.pick3
         clear hS650
         refine any_call 10 #[true, true, true, true, true, true, true, true, true, true, true, false, false, false, true, false, false] 30 #[nP z20 0, nI (atI L11 (0 : Int))] hF651 rfl (by kernel_rfl) rfl rfl (by kernel_rfl) rfl (by kernel_rfl) (fun w => by kernel_rfl) (by kernel_rfl) ?_
         obtain ⟨q654, x655, hx656, hm657⟩ := bind2E hm625; clear hm625
         refine (p_Chan hS653 hx656).mono ?_
         rintro _ w658 ⟨rfl, hS660⟩; clear hS653
         refine ⟨⟨_, hS660.pick3.pick3⟩, ?_⟩
         intro a659 hF661; clear hF651
         refine any_many 3 [(11, some (.tuple #[.agg #[nI (q654.cap), nI (q654.closed), nI (q654.count), nI (q654.start), nI (q654.buf), nI (q654.th), nI (q654.tt), nI (q654.sh), nI (q654.st)], nI x655])), (12, some (.agg #[nI (q654.cap), nI (q654.closed), nI (q654.count), nI (q654.start), nI (q654.buf), nI (q654.th), nI (q654.tt), nI (q654.sh), nI (q654.st)])), (13, some (nI x655))] [5, 6, 8, 9, 15, 16, 202, 203] #[true, true, true, true, true, true, true, true, true, true, true, true, true, true, true, false, false] (by rfl) hF661 (by kernel_rfl) (by kernel_rfl) (by exact ⟨fun wS hw => by kernel_rfl, fun wS hw => by kernel_rfl, fun wS hw => by kernel_rfl, trivial⟩) (fun _ _ _ _ _ h => h) ⟨_, hS660.pick3.pick3⟩ (l' := [(203, nI x655), (202, .agg #[nI (q654.cap), nI (q654.closed), nI (q654.count), nI (q654.start), nI (q654.buf), nI (q654.th), nI (q654.tt), nI (q654.sh), nI (q654.st)]), (15, nB (w338.drew)), (9, nI x184), (8, .slice p194 L183.length c195), (6, nI (IntKind.i64.wrap ((L12.length : Int) - 1))), (5, nP z19 0)]) (by kernel_rfl) ?_
         intro a663 hF662; clear hF661
         refine any_one 15 (by kernel_rfl) ?_
         have hS664 := hS660.pick1
         clear hS660
         refine op_store 15 #[true, true, true, true, true, true, true, true, true, true, true, true, true, true, true, true, false] (.agg #[nI (q654.cap), nI (q654.closed), nI (q654.count), nI (q654.start), nI (q654.buf), nI (q654.th), nI (q654.tt), nI (q654.sh), nI (q654.st)]) #[nI (q654.cap), nI (q654.closed), nI (q654.count), nI (q654.start), nI (q654.buf), nI (q654.th), nI (q654.tt), nI (q654.sh), nI (q654.st)] hF662 rfl (by kernel_rfl) rfl rfl rfl rfl (by kernel_rfl) hS664 (by kernel_rfl) (by kernel_rfl) (by kernel_rfl) (l' := [(203, nI x655), (202, .agg #[nI (q654.cap), nI (q654.closed), nI (q654.count), nI (q654.start), nI (q654.buf), nI (q654.th), nI (q654.tt), nI (q654.sh), nI (q654.st)]), (15, nB (w338.drew)), (9, nI x184), (8, .slice p194 L183.length c195), (6, nI (IntKind.i64.wrap ((L12.length : Int) - 1))), (5, nP z19 0)]) (by kernel_rfl) (by kernel_rfl) ?_
         intro w665 a666 hS667 hF668; clear hF662 hS664
         refine ⟨⟨_, hS667.pick3.pick3⟩, ?_⟩
         refine any_many 1 [(16, some (nI x655))] [5, 6, 8, 9, 15, 16] #[true, true, true, true, true, true, true, true, true, true, true, true, true, true, true, true, true] (by rfl) hF668 (by kernel_rfl) (by kernel_rfl) (by exact ⟨fun wS hw => by kernel_rfl, trivial⟩) (fun _ _ _ _ _ h => h) ⟨_, hS667.pick3.pick3⟩ (l' := [(16, nI x655), (15, nB (w338.drew)), (9, nI x184), (8, .slice p194 L183.length c195), (6, nI (IntKind.i64.wrap ((L12.length : Int) - 1))), (5, nP z19 0)]) (by kernel_rfl) ?_
         intro a670 hF669; clear hF668
         refine any_done (by kernel_rfl) ?_
         exact thenN ⟨((w338.drew).heap.size), q654.cap, q654.closed, q654.count, q654.start, q654.buf, q654.th, q654.tt, q654.sh, q654.st, x655, hF669, hS667, hm657⟩
   · skip
     -- draws
     have hS671 := hS77.pick3.pick4.pick2
     clear hS77
     have hS672 := hS671.drew; clear hS671
     refine any_start (fun wS => ∃ qs, St w0 F0 (BlkP z19 46 #[nP z20 0, nP z22 0, .slice p35 L11.length c36, .slice p39 L12.length c40] :: RowP (.slice p39 L12.length c40) L12 :: RowP (.slice p35 L11.length c36) L11 :: qs) wS) 21 #[false, false, false, false, false, false, false, false, false, false, false, false, false, false, false, false, false, false, false, false, false] (by kernel_rfl) (by kernel_rfl) (by kernel_rfl) ?_
     refine any_many 2 [(0, some (.bool (i1))), (1, some (.bool (i1)))] [1, 5, 6, 63, 64, 65, 66, 67, 68, 69, 70, 71, 72, 73, 74, 75, 76, 77, 78, 79, 80, 81, 82] #[true, true, false, false, false, false, false, false, false, false, false, false, false, false, false, false, false, false, false, false, false] (by rfl) hF80 (by kernel_rfl) (by kernel_rfl) (by exact ⟨fun wS hw => by kernel_rfl, fun wS hw => by kernel_rfl, trivial⟩) (fun _ _ _ _ _ h => h) ⟨_, hS672⟩ (l' := [(63, .bool (i1)), (6, nI (IntKind.i64.wrap ((L12.length : Int) - 1))), (5, nP z19 0), (1, .bool (i1))]) (by kernel_rfl) ?_
     intro a674 hF673; clear hF80
     cases hc675 : (i1)
     case true =>
      rw [hc675] at hF673
      have hm676 := ifYes hc675 hm155; clear hm155
      refine any_many 6 [(2, some (nP z19 0)), (3, some (nP z19 0)), (4, some (nP z19 0)), (5, some (nP z19 3)), (6, some (.slice p39 L12.length c40)), (7, some (nI (IntKind.i64.wrap ((L12.length : Int) - 1))))] [1, 5, 6, 63, 64, 68, 69, 70, 71, 72, 73, 74, 75, 76, 77, 78, 79, 80, 81, 82] #[true, true, true, true, true, true, true, true, false, false, false, false, false, false, false, false, false, false, false, false, false] (by rfl) hF673 (by kernel_rfl) (by kernel_rfl) (by exact ⟨fun wS hw => by kernel_rfl, fun wS hw => by kernel_rfl, fun wS hw => by kernel_rfl, fun wS hw => by kernel_rfl, fun wS hw => hw.elim fun qs hw => run_loadV rfl rfl (run_loadS rfl rfl (hw.cell 0 rfl 3 rfl)), fun wS hw => by kernel_rfl, trivial⟩) (fun _ _ _ _ _ h => h) ⟨_, hS672⟩ (l' := [(69, nI (IntKind.i64.wrap ((L12.length : Int) - 1))), (68, .slice p39 L12.length c40), (64, nP z19 0), (63, .bool true), (6, nI (IntKind.i64.wrap ((L12.length : Int) - 1))), (5, nP z19 0), (1, .bool true)]) (by kernel_rfl) ?_
      intro a678 hF677; clear hF673
      obtain ⟨hc679, hm680⟩ := ifTE hm676; clear hm676
      obtain ⟨g681, rfl⟩ := hp41.resolve_left (by have := inR_spec hc679; omega)
      refine any_many 6 [(8, some (nP g681 ((IntKind.i64.wrap ((L12.length : Int) - 1)).toNat))), (9, some (nI (atI L12 (IntKind.i64.wrap ((L12.length : Int) - 1))))), (10, some (nP z19 0)), (11, some (nP z19 0)), (12, some (nP z19 2)), (13, some (.slice p35 L11.length c36))] [1, 5, 6, 63, 64, 71, 75, 76, 77, 78, 79, 80, 81, 82] #[true, true, true, true, true, true, true, true, true, true, true, true, true, true, false, false, false, false, false, false, false] (by rfl) hF677 (by kernel_rfl) (by kernel_rfl) (by exact ⟨fun wS hw => run_idx rfl rfl rfl rfl rfl (inR_spec hc679).1 (inR_spec hc679).2 _, fun wS hw => run_load1 rfl rfl rfl (hw.elim fun qs hw => hw.atI 1 rfl hc679), fun wS hw => by kernel_rfl, fun wS hw => by kernel_rfl, fun wS hw => by kernel_rfl, fun wS hw => hw.elim fun qs hw => run_loadV rfl rfl (run_loadS rfl rfl (hw.cell 0 rfl 2 rfl)), trivial⟩) (fun _ _ _ _ _ h => h) ⟨_, hS672⟩ (l' := [(75, .slice p35 L11.length c36), (71, nI (atI L12 (IntKind.i64.wrap ((L12.length : Int) - 1)))), (64, nP z19 0), (63, .bool true), (6, nI (IntKind.i64.wrap ((L12.length : Int) - 1))), (5, nP z19 0), (1, .bool true)]) (by kernel_rfl) ?_
      intro a683 hF682; clear hF677
      obtain ⟨hc684, hm685⟩ := ifTE hm680; clear hm680
      obtain ⟨g686, rfl⟩ := hp37.resolve_left (by have := inR_spec hc684; omega)
      refine any_many 2 [(14, some (nP g686 ((0 : Int).toNat))), (15, some (nI (atI L11 (0 : Int))))] [1, 5, 6, 63, 64, 71, 77, 78, 79, 80, 81, 82] #[true, true, true, true, true, true, true, true, true, true, true, true, true, true, true, true, false, false, false, false, false] (by rfl) hF682 (by kernel_rfl) (by kernel_rfl) (by exact ⟨fun wS hw => run_idx rfl rfl rfl rfl rfl (inR_spec hc684).1 (inR_spec hc684).2 _, fun wS hw => run_load1 rfl rfl rfl (hw.elim fun qs hw => hw.atI 2 rfl hc684), trivial⟩) (fun _ _ _ _ _ h => h) ⟨_, hS672⟩ (l' := [(77, nI (atI L11 (0 : Int))), (71, nI (atI L12 (IntKind.i64.wrap ((L12.length : Int) - 1)))), (64, nP z19 0), (63, .bool true), (6, nI (IntKind.i64.wrap ((L12.length : Int) - 1))), (5, nP z19 0), (1, .bool true)]) (by kernel_rfl) ?_
      intro a688 hF687; clear hF682
      refine any_two 16 17 (by kernel_rfl) ?_ ?_
      · skip
        have hS689 : St w0 F0 (RowP (.slice (some ⟨(w75.drew).heap.size, 0, none⟩) 1 1) [atI L11 (0 : Int)] :: BlkP z19 46 #[nP z20 0, nP z22 0, nS g686 L11 c36, nS g681 L12 c40] :: RowP (nS g681 L12 c40) L12 :: RowP (nS g686 L11 c36) L11 :: HeapP z20 z21 s70 :: RHeapP z22 z23 z24 z25 z26 s71 :: ps) ((w75.drew).alloc (.cells #[nI (atI L11 (0 : Int))] 3)) := St.lit hS672 [atI L11 (0 : Int)] (by unfold maxLen; simp)
        clear hS672
        refine op_step 16 #[true, true, true, true, true, true, true, true, true, true, true, true, true, true, true, true, true, false, false, false, false] (.slice (some ⟨(w75.drew).heap.size, 0, none⟩) 1 1) ((w75.drew).alloc (.cells #[nI (atI L11 (0 : Int))] 3)) hF687 rfl (by kernel_rfl) rfl (by kernel_rfl) (by kernel_rfl) (l' := [(78, .slice (some ⟨(w75.drew).heap.size, 0, none⟩) 1 1), (77, nI (atI L11 (0 : Int))), (71, nI (atI L12 (IntKind.i64.wrap ((L12.length : Int) - 1)))), (64, nP z19 0), (63, .bool true), (6, nI (IntKind.i64.wrap ((L12.length : Int) - 1))), (5, nP z19 0), (1, .bool true)]) (by kernel_rfl) ⟨_, hS689.pick3.pick3.pick3⟩ (by kernel_rfl) ?_
        intro a691 hF690; clear hF687
        refine any_one 17 (by kernel_rfl) ?_
        have hS692 : St w0 F0 (BoolsP (.slice (some ⟨((w75.drew).alloc (.cells #[nI (atI L11 (0 : Int))] 3)).heap.size, 0, none⟩) 1 1) [true] :: RowP (.slice (some ⟨(w75.drew).heap.size, 0, none⟩) 1 1) [atI L11 (0 : Int)] :: BlkP z19 46 #[nP z20 0, nP z22 0, nS g686 L11 c36, nS g681 L12 c40] :: RowP (nS g681 L12 c40) L12 :: RowP (nS g686 L11 c36) L11 :: HeapP z20 z21 s70 :: RHeapP z22 z23 z24 z25 z26 s71 :: ps) (((w75.drew).alloc (.cells #[nI (atI L11 (0 : Int))] 3)).alloc (.cells #[.bool true] 4)) := St.litB hS689 [true] (by unfold maxLen; simp)
        clear hS689
        refine op_step 17 #[true, true, true, true, true, true, true, true, true, true, true, true, true, true, true, true, true, true, false, false, false] (.slice (some ⟨((w75.drew).alloc (.cells #[nI (atI L11 (0 : Int))] 3)).heap.size, 0, none⟩) 1 1) (((w75.drew).alloc (.cells #[nI (atI L11 (0 : Int))] 3)).alloc (.cells #[.bool true] 4)) hF690 rfl (by kernel_rfl) rfl (by kernel_rfl) (by kernel_rfl) (l' := [(79, .slice (some ⟨((w75.drew).alloc (.cells #[nI (atI L11 (0 : Int))] 3)).heap.size, 0, none⟩) 1 1), (78, .slice (some ⟨(w75.drew).heap.size, 0, none⟩) 1 1), (77, nI (atI L11 (0 : Int))), (71, nI (atI L12 (IntKind.i64.wrap ((L12.length : Int) - 1)))), (64, nP z19 0), (63, .bool true), (6, nI (IntKind.i64.wrap ((L12.length : Int) - 1))), (5, nP z19 0), (1, .bool true)]) (by kernel_rfl) ⟨_, hS692.pick4.pick4.pick4⟩ (by kernel_rfl) ?_
        intro a694 hF693; clear hF690
        have hS695 := hS692.pick1.pick3.pick4.pick6.pick6.pick6
        clear hS692
        refine any_call 18 #[true, true, true, true, true, true, true, true, true, true, true, true, true, true, true, true, true, true, true, false, false] 34 #[nP z19 0, nI (atI L12 (IntKind.i64.wrap ((L12.length : Int) - 1))), .slice (some ⟨(w75.drew).heap.size, 0, none⟩) 1 1, .slice (some ⟨((w75.drew).alloc (.cells #[nI (atI L11 (0 : Int))] 3)).heap.size, 0, none⟩) 1 1, nI 8, nI 0] hF693 rfl (by kernel_rfl) rfl rfl (by kernel_rfl) rfl (by kernel_rfl) (fun w => by kernel_rfl) (by kernel_rfl) ?_
        obtain ⟨y696, s697, s698, hx699, hm700⟩ := bind3E hm685; clear hm685
        refine (law17_wait.ok hS695 hx699).mono ?_
        rintro _ w701 ⟨rfl, hS703⟩; clear hS695
        refine ⟨⟨_, hS703.pick3.pick4.pick2⟩, ?_⟩
        intro a702 hF704; clear hF693
        refine any_many 2 [(19, some (.bool (!(y696)))), (20, some (.bool (!(y696))))] [1, 5, 6, 82] #[true, true, true, true, true, true, true, true, true, true, true, true, true, true, true, true, true, true, true, true, true] (by rfl) hF704 (by kernel_rfl) (by kernel_rfl) (by exact ⟨fun wS hw => by kernel_rfl, fun wS hw => by kernel_rfl, trivial⟩) (fun _ _ _ _ _ h => h) ⟨_, hS703.pick3.pick4.pick2⟩ (l' := [(82, .bool (!(y696))), (6, nI (IntKind.i64.wrap ((L12.length : Int) - 1))), (5, nP z19 0), (1, .bool true)]) (by kernel_rfl) ?_
        intro a706 hF705; clear hF704
        refine any_done (by kernel_rfl) ?_
        have hS707 := hS703.pick5.drop.pick5.drop
        clear hS703
        have hS708 := hS707.pick2.pick2.pick3.pick4.pick4
        clear hS707
        exact thenN ⟨s697, s698, !(y696), true, hF705, hS708, hm700⟩
      · skip
        have hS709 : St w0 F0 (BoolsP (.slice (some ⟨(w75.drew).heap.size, 0, none⟩) 1 1) [true] :: BlkP z19 46 #[nP z20 0, nP z22 0, nS g686 L11 c36, nS g681 L12 c40] :: RowP (nS g681 L12 c40) L12 :: RowP (nS g686 L11 c36) L11 :: HeapP z20 z21 s70 :: RHeapP z22 z23 z24 z25 z26 s71 :: ps) ((w75.drew).alloc (.cells #[.bool true] 4)) := St.litB hS672 [true] (by unfold maxLen; simp)
        clear hS672
        refine op_step 17 #[true, true, true, true, true, true, true, true, true, true, true, true, true, true, true, true, false, true, false, false, false] (.slice (some ⟨(w75.drew).heap.size, 0, none⟩) 1 1) ((w75.drew).alloc (.cells #[.bool true] 4)) hF687 rfl (by kernel_rfl) rfl (by kernel_rfl) (by kernel_rfl) (l' := [(79, .slice (some ⟨(w75.drew).heap.size, 0, none⟩) 1 1), (77, nI (atI L11 (0 : Int))), (71, nI (atI L12 (IntKind.i64.wrap ((L12.length : Int) - 1)))), (64, nP z19 0), (63, .bool true), (6, nI (IntKind.i64.wrap ((L12.length : Int) - 1))), (5, nP z19 0), (1, .bool true)]) (by kernel_rfl) ⟨_, hS709.pick3.pick3.pick3⟩ (by kernel_rfl) ?_
        intro a711 hF710; clear hF687
        refine any_one 16 (by kernel_rfl) ?_
        have hS712 : St w0 F0 (RowP (.slice (some ⟨((w75.drew).alloc (.cells #[.bool true] 4)).heap.size, 0, none⟩) 1 1) [atI L11 (0 : Int)] :: BoolsP (.slice (some ⟨(w75.drew).heap.size, 0, none⟩) 1 1) [true] :: BlkP z19 46 #[nP z20 0, nP z22 0, nS g686 L11 c36, nS g681 L12 c40] :: RowP (nS g681 L12 c40) L12 :: RowP (nS g686 L11 c36) L11 :: HeapP z20 z21 s70 :: RHeapP z22 z23 z24 z25 z26 s71 :: ps) (((w75.drew).alloc (.cells #[.bool true] 4)).alloc (.cells #[nI (atI L11 (0 : Int))] 3)) := St.lit hS709 [atI L11 (0 : Int)] (by unfold maxLen; simp)
        clear hS709
        refine op_step 16 #[true, true, true, true, true, true, true, true, true, true, true, true, true, true, true, true, true, true, false, false, false] (.slice (some ⟨((w75.drew).alloc (.cells #[.bool true] 4)).heap.size, 0, none⟩) 1 1) (((w75.drew).alloc (.cells #[.bool true] 4)).alloc (.cells #[nI (atI L11 (0 : Int))] 3)) hF710 rfl (by kernel_rfl) rfl (by kernel_rfl) (by kernel_rfl) (l' := [(78, .slice (some ⟨((w75.drew).alloc (.cells #[.bool true] 4)).heap.size, 0, none⟩) 1 1), (79, .slice (some ⟨(w75.drew).heap.size, 0, none⟩) 1 1), (77, nI (atI L11 (0 : Int))), (71, nI (atI L12 (IntKind.i64.wrap ((L12.length : Int) - 1)))), (64, nP z19 0), (63, .bool true), (6, nI (IntKind.i64.wrap ((L12.length : Int) - 1))), (5, nP z19 0), (1, .bool true)]) (by kernel_rfl) ⟨_, hS712.pick4.pick4.pick4⟩ (by kernel_rfl) ?_
        intro a714 hF713; clear hF710
        have hS715 := hS712.pick1.pick1.pick3.pick4.pick6.pick6.pick6
        clear hS712
        refine any_call 18 #[true, true, true, true, true, true, true, true, true, true, true, true, true, true, true, true, true, true, true, false, false] 34 #[nP z19 0, nI (atI L12 (IntKind.i64.wrap ((L12.length : Int) - 1))), .slice (some ⟨((w75.drew).alloc (.cells #[.bool true] 4)).heap.size, 0, none⟩) 1 1, .slice (some ⟨(w75.drew).heap.size, 0, none⟩) 1 1, nI 8, nI 0] hF713 rfl (by kernel_rfl) rfl rfl (by kernel_rfl) rfl (by kernel_rfl) (fun w => by kernel_rfl) (by kernel_rfl) ?_
        obtain ⟨y716, s717, s718, hx719, hm720⟩ := bind3E hm685; clear hm685
        refine (law17_wait.ok hS715 hx719).mono ?_
        rintro _ w721 ⟨rfl, hS723⟩; clear hS715
        refine ⟨⟨_, hS723.pick3.pick4.pick2⟩, ?_⟩
        intro a722 hF724; clear hF713
        refine any_many 2 [(19, some (.bool (!(y716)))), (20, some (.bool (!(y716))))] [1, 5, 6, 82] #[true, true, true, true, true, true, true, true, true, true, true, true, true, true, true, true, true, true, true, true, true] (by rfl) hF724 (by kernel_rfl) (by kernel_rfl) (by exact ⟨fun wS hw => by kernel_rfl, fun wS hw => by kernel_rfl, trivial⟩) (fun _ _ _ _ _ h => h) ⟨_, hS723.pick3.pick4.pick2⟩ (l' := [(82, .bool (!(y716))), (6, nI (IntKind.i64.wrap ((L12.length : Int) - 1))), (5, nP z19 0), (1, .bool true)]) (by kernel_rfl) ?_
        intro a726 hF725; clear hF724
        refine any_done (by kernel_rfl) ?_
        have hS727 := hS723.pick5.drop.pick5.drop
        clear hS723
        have hS728 := hS727.pick2.pick2.pick3.pick4.pick4
        clear hS727
        exact thenN ⟨s717, s718, !(y716), true, hF725, hS728, hm720⟩
     rw [hc675] at hF673
     have hm729 := ifNot hc675 hm155; clear hm155
     refine any_many 19 [(2, none), (3, none), (4, none), (5, none), (6, none), (7, none), (8, none), (9, none), (10, none), (11, none), (12, none), (13, none), (14, none), (15, none), (16, none), (17, none), (18, none), (19, none), (20, some (.bool false))] [1, 5, 6, 82] #[true, true, true, true, true, true, true, true, true, true, true, true, true, true, true, true, true, true, true, true, true] (by rfl) hF673 (by kernel_rfl) (by kernel_rfl) (by exact (And.intro trivial (And.intro trivial (And.intro trivial (And.intro trivial (And.intro trivial (And.intro trivial (And.intro trivial (And.intro trivial (And.intro trivial (And.intro trivial (And.intro trivial (And.intro trivial (And.intro trivial (And.intro trivial (And.intro trivial (And.intro trivial (And.intro trivial (And.intro trivial (And.intro (fun wS hw => by kernel_rfl) trivial)))))))))))))))))))) (fun _ _ _ _ _ h => h) ⟨_, hS672⟩ (l' := [(82, .bool false), (6, nI (IntKind.i64.wrap ((L12.length : Int) - 1))), (5, nP z19 0), (1, .bool false)]) (by kernel_rfl) ?_
     intro a731 hF730; clear hF673
     refine any_done (by kernel_rfl) ?_
     exact thenN ⟨s70, s71, false, false, hF730, hS672, hm729⟩
 · skip
   refine wp_region_lit ?_
   refine ev_call 22 #[] hF43 rfl rfl (by kernel_rfl) rfl (by kernel_rfl) (fun w => by kernel_rfl) ?_
   obtain ⟨y732, hx733, hm734⟩ := bind1E hm14; clear hm14
   refine (law17_awake.ok hS45 hx733).mono ?_
   rintro _ w735 ⟨rfl, hS737⟩ a736 hF738; clear hF43 hS45
   refine ev_runs 2 hF738 (l' := [(22, .bool (!(y732))), (21, .bool (!(y732))), (20, .bool (y732)), (5, nP z19 0), (1, .bool (i1))]) (w' := w735) (by kernel_rfl) ?_
   intro a740 hF739; clear hF738
   cases hc741 : (!(y732))
   case true =>
    rw [hc741] at hF739
    have hm742 := ifYes hc741 hm734; clear hm734
    refine ev_runK 3 hF739 [1, 5, 25] (l' := [(25, .bool true), (5, nP z19 0), (1, .bool (i1))]) (w' := w735) (by kernel_rfl) ?_
    intro a744 hF743; clear hF739
    refine wpList_nil ?_
    exact thenN ⟨true, hF743, hS737, hm742⟩
   rw [hc741] at hF739
   have hm745 := ifNot hc741 hm734; clear hm734
   refine ev_runK 3 hF739 [1, 5, 25] (l' := [(25, .bool false), (5, nP z19 0), (1, .bool (i1))]) (w' := w735) (by kernel_rfl) ?_
   intro a747 hF746; clear hF739
   refine wpList_nil ?_
   exact thenN ⟨false, hF746, hS737, hm745⟩

end Go.Proofs.YtgejcjcpchofiaaGreat
