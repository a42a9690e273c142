/- G13 -/
import Derived.Test.YtaihdiccmaincaaGreatKG13b
import Derived.Test.YtaihdiccmaincaaGreatKGList
import Derived.Deep.LoopGhost
import Derived.KernelRfl
/- The walks of G13, printed by gen/walk.py. -/
namespace Go.Proofs.YtaihdiccmaincaaGreat
open Go.RowKit
set_option linter.unusedVariables false

def law13_sudog.m (k : Nat) (s0 : HSt) (u0 : HSt) (Lc0 : List Int) (Lg0 : List Int) (i1 : Int) : Option (Int × HSt × HSt) := bind3 (law13_alloc.m k s0 u0 Lc0 Lg0 3 7) fun x13 s14 s15 => bind3 (law13_gor.m k s14 s15 Lc0 Lg0 0) fun x26 s27 s28 => bind2 (pPutSudog x13 (⟨x26, i1, 0, -1, 0, 0, -1⟩ : Su) s27) fun x49 s50 => bind2 (ref11_PutSudog.m k s28 x13 (⟨x26, i1, 0, -1, 0, 0, -1⟩ : Su)) fun x63 s64 => some (x13, s50, s64)
set_option maxRecDepth 100000 in
set_option maxHeartbeats 1500000 in
theorem law13_sudog.ok {w0 w : World} {F0 : List Nat} {ps : List Piece} {k : Nat} {bb0 b0 ab0 bw0 abw0 sb0 g0 cb0 : Nat} {vc0 vg0 : Value} {s0 u0 : HSt} {Lc0 Lg0 : List Int} {i1 : Int} {r0 : Int} {t0 : HSt} {t1 : HSt} (hS : St w0 F0 (BlkP bb0 52 #[nP b0 0, nP bw0 0, vc0, vg0] :: HeapP b0 ab0 s0 :: RHeapP bw0 abw0 sb0 g0 cb0 u0 :: RowP (vc0) Lc0 :: RowP (vg0) Lg0 :: ps) w) (hm : law13_sudog.m k s0 u0 Lc0 Lg0 i1 = some (r0, t0, t1)) :
    Calls Tryz.prog 26 #[nP bb0 0, nI i1] w fun e w' => e = .returned (.int .i64 r0) ∧ St w0 F0 (BlkP bb0 52 #[nP b0 0, nP bw0 0, vc0, vg0] :: HeapP b0 ab0 t0 :: RHeapP bw0 abw0 sb0 g0 cb0 t1 :: RowP (vc0) Lc0 :: RowP (vg0) Lg0 :: ps) w' := by
 refine ev_enterL 28 [nP bb0 0, nI i1] Tryz.func26 rfl rfl (by simp) ?_
 intro a hF
 have hF0 : Fr 28 a [(0, nP bb0 0), (1, nI i1)] := hF; clear hF
 unfold law13_sudog.m at hm
 obtain ⟨hl4, p1, c2, rfl, hp3⟩ := St.shape hS 3 rfl
 obtain ⟨hl8, p5, c6, rfl, hp7⟩ := St.shape hS 4 rfl
 refine wp_seq (wp_region_lit ?_)
 refine ev_runK 1 hF0 [0, 1] (l' := [(0, nP bb0 0), (1, nI i1)]) (w' := w) (by kernel_rfl) ?_
 intro a10 hF9; clear hF0
 refine wpList_nil (thenN (wp_seq (wp_region_lit ?_)))
 refine ev_runs 1 hF9 (l' := [(7, nP bb0 0), (0, nP bb0 0), (1, nI i1)]) (w' := w) (by kernel_rfl) ?_
 intro a12 hF11; clear hF9
 refine ev_call 71 #[nP bb0 0, nI 3, nI 7] hF11 rfl rfl (by kernel_rfl) rfl (by kernel_rfl) (fun w => by kernel_rfl) ?_
 obtain ⟨x13, s14, s15, hx16, hm17⟩ := bind3E hm; clear hm
 refine (law13_alloc.ok hS hx16).mono ?_
 rintro _ w18 ⟨rfl, hS20⟩ a19 hF21; clear hF11 hS
 refine ev_runK 1 hF21 [0, 1, 5] (l' := [(5, nI x13), (0, nP bb0 0), (1, nI i1)]) (w' := w18) (by kernel_rfl) ?_
 intro a23 hF22; clear hF21
 refine wpList_nil (thenN (wp_seq (wp_region_lit ?_)))
 refine ev_runs 1 hF22 (l' := [(9, nP bb0 0), (5, nI x13), (0, nP bb0 0), (1, nI i1)]) (w' := w18) (by kernel_rfl) ?_
 intro a25 hF24; clear hF22
 refine ev_call 30 #[nP bb0 0, nI 0] hF24 rfl rfl (by kernel_rfl) rfl (by kernel_rfl) (fun w => by kernel_rfl) ?_
 obtain ⟨x26, s27, s28, hx29, hm30⟩ := bind3E hm17; clear hm17
 refine (law13_gor.ok hS20 hx29).mono ?_
 rintro _ w31 ⟨rfl, hS33⟩ a32 hF34; clear hF24 hS20
 refine ev_runs 3 hF34 (l' := [(6, nP (w31.heap.size) 0), (12, .agg #[nI x26, nI i1, nI 0, nI (-1), nI 0, nI 0, nI (-1)]), (11, nI i1), (10, nI x26), (9, nP bb0 0), (5, nI x13), (0, nP bb0 0), (1, nI i1)]) (w' := w31.alloc (.cells #[nI 0, nI 0, nI 0, nI 0, nI 0, nI 0, nI 0] 54)) (by kernel_rfl) ?_
 intro a36 hF35; clear hF34
 have hS38 : St w0 F0 (BlkP (w31.heap.size) 54 #[nI 0, nI 0, nI 0, nI 0, nI 0, nI 0, nI 0] :: BlkP bb0 52 #[nP b0 0, nP bw0 0, .slice p1 Lc0.length c2, .slice p5 Lg0.length c6] :: HeapP b0 ab0 s27 :: RHeapP bw0 abw0 sb0 g0 cb0 s28 :: RowP (.slice p1 Lc0.length c2) Lc0 :: RowP (.slice p5 Lg0.length c6) Lg0 :: ps) (w31.alloc (.cells #[nI 0, nI 0, nI 0, nI 0, nI 0, nI 0, nI 0] 54)) := St.new hS33 #[nI 0, nI 0, nI 0, nI 0, nI 0, nI 0, nI 0] 54
 clear hS33
 refine ev_store (.agg #[nI x26, nI i1, nI 0, nI (-1), nI 0, nI 0, nI (-1)]) #[nI x26, nI i1, nI 0, nI (-1), nI 0, nI 0, nI (-1)] hF35 (by kernel_rfl) rfl rfl rfl rfl (by kernel_rfl) hS38 (by kernel_rfl) (by kernel_rfl) (by kernel_rfl) (l' := [(6, nP (w31.heap.size) 0), (12, .agg #[nI x26, nI i1, nI 0, nI (-1), nI 0, nI 0, nI (-1)]), (11, nI i1), (10, nI x26), (9, nP bb0 0), (5, nI x13), (0, nP bb0 0), (1, nI i1)]) (by kernel_rfl) ?_
 intro w39 a40 hS41 hF42; clear hF35 hS38
 refine wpList_nil ?_
 have hF43 := hF42.keep [0, 5, 6]
 clear hF42
 refine thenN (wp_seq ?_)
 -- draws
 have hS44 := hS41.pick1
 clear hS41
 have hS45 := hS44.drew; clear hS44
 refine any_start (fun wS => ∃ qs, St w0 F0 (BlkP bb0 52 #[nP b0 0, nP bw0 0, .slice p1 Lc0.length c2, .slice p5 Lg0.length c6] :: BlkP (w31.heap.size) 54 #[nI x26, nI i1, nI 0, nI (-1), nI 0, nI 0, nI (-1)] :: qs) wS) 7 #[false, false, false, false, false, false, false] (by kernel_rfl) (by kernel_rfl) (by kernel_rfl) ?_
 refine any_many 6 [(0, some (nP bb0 0)), (1, some (nP bb0 0)), (2, some (nP bb0 0)), (3, some (nP b0 0)), (4, some (nI x13)), (5, some (.agg #[nI x26, nI i1, nI 0, nI (-1), nI 0, nI 0, nI (-1)]))] [0, 5, 6, 16, 17, 18] #[true, true, true, true, true, true, false] (by rfl) hF43 (by kernel_rfl) (by kernel_rfl) (by exact (And.intro (fun wS hw => by kernel_rfl) (And.intro (fun wS hw => by kernel_rfl) (And.intro (fun wS hw => by kernel_rfl) (And.intro (fun wS hw => hw.elim fun qs hw => run_loadV rfl rfl (run_loadS rfl rfl (hw.cell 0 rfl 0 rfl))) (And.intro (fun wS hw => by kernel_rfl) (And.intro (fun wS hw => hw.elim fun qs hw => run_loadV rfl rfl (run_loadA (cs := [nI x26, nI i1, nI 0, nI (-1), nI 0, nI 0, nI (-1)]) rfl rfl (by kernel_rfl) (blk_cells hw 1 rfl rfl))) trivial))))))) (fun _ _ _ _ _ h => h) ⟨_, hS45⟩ (l' := [(18, .agg #[nI x26, nI i1, nI 0, nI (-1), nI 0, nI 0, nI (-1)]), (17, nI x13), (16, nP b0 0), (6, nP (w31.heap.size) 0), (5, nI x13), (0, nP bb0 0)]) (by kernel_rfl) ?_
 intro a47 hF46; clear hF43
 have hS48 := hS45.pick2
 clear hS45
 refine any_call 6 #[true, true, true, true, true, true, true] 40 #[nP b0 0, nI x13, .agg #[nI x26, nI i1, nI 0, nI (-1), nI 0, nI 0, nI (-1)]] hF46 rfl (by kernel_rfl) rfl rfl (by kernel_rfl) rfl (by kernel_rfl) (fun w => by kernel_rfl) (by kernel_rfl) ?_
 obtain ⟨x49, s50, hx51, hm52⟩ := bind2E hm30; clear hm30
 refine (p_PutSudog hS48 hx51).mono ?_
 rintro _ w53 ⟨rfl, hS55⟩; clear hS48
 refine ⟨⟨_, hS55.pick2.pick2⟩, ?_⟩
 intro a54 hF56; clear hF46
 refine any_done (by kernel_rfl) ?_
 have hF57 := hF56.keep [0, 5, 6]
 clear hF56
 refine thenN (wp_seq ?_)
 -- draws
 have hS58 := hS55.pick2.pick2
 clear hS55
 have hS59 := hS58.drew; clear hS58
 refine any_start (fun wS => ∃ qs, St w0 F0 (BlkP bb0 52 #[nP b0 0, nP bw0 0, .slice p1 Lc0.length c2, .slice p5 Lg0.length c6] :: BlkP (w31.heap.size) 54 #[nI x26, nI i1, nI 0, nI (-1), nI 0, nI 0, nI (-1)] :: qs) wS) 7 #[false, false, false, false, false, false, false] (by kernel_rfl) (by kernel_rfl) (by kernel_rfl) ?_
 refine any_many 6 [(0, some (nP bb0 0)), (1, some (nP bb0 0)), (2, some (nP bb0 1)), (3, some (nP bw0 0)), (4, some (nI x13)), (5, some (.agg #[nI x26, nI i1, nI 0, nI (-1), nI 0, nI 0, nI (-1)]))] [5, 23, 24, 25] #[true, true, true, true, true, true, false] (by rfl) hF57 (by kernel_rfl) (by kernel_rfl) (by exact (And.intro (fun wS hw => by kernel_rfl) (And.intro (fun wS hw => by kernel_rfl) (And.intro (fun wS hw => by kernel_rfl) (And.intro (fun wS hw => hw.elim fun qs hw => run_loadV rfl rfl (run_loadS rfl rfl (hw.cell 0 rfl 1 rfl))) (And.intro (fun wS hw => by kernel_rfl) (And.intro (fun wS hw => hw.elim fun qs hw => run_loadV rfl rfl (run_loadA (cs := [nI x26, nI i1, nI 0, nI (-1), nI 0, nI 0, nI (-1)]) rfl rfl (by kernel_rfl) (blk_cells hw 1 rfl rfl))) trivial))))))) (fun _ _ _ _ _ h => h) ⟨_, hS59⟩ (l' := [(25, .agg #[nI x26, nI i1, nI 0, nI (-1), nI 0, nI 0, nI (-1)]), (24, nI x13), (23, nP bw0 0), (5, nI x13)]) (by kernel_rfl) ?_
 intro a61 hF60; clear hF57
 have hS62 := hS59.pick3
 clear hS59
 refine any_call 6 #[true, true, true, true, true, true, true] 72 #[nP bw0 0, nI x13, .agg #[nI x26, nI i1, nI 0, nI (-1), nI 0, nI 0, nI (-1)]] hF60 rfl (by kernel_rfl) rfl rfl (by kernel_rfl) rfl (by kernel_rfl) (fun w => by kernel_rfl) (by kernel_rfl) ?_
 obtain ⟨x63, s64, hx65, hm66⟩ := bind2E hm52; clear hm52
 refine (ref11_PutSudog.ok hS62 hx65).mono ?_
 rintro _ w67 ⟨rfl, hS69⟩; clear hS62
 refine ⟨⟨_, hS69.pick2.pick2⟩, ?_⟩
 intro a68 hF70; clear hF60
 refine any_done (by kernel_rfl) ?_
 have hF71 := hF70.keep [5]
 clear hF70
 have hS72 := hS69.pick2.drop
 clear hS69
 refine thenN (wp_seq (wp_region_lit ?_))
 refine ev_runK 2 hF71 [4] (l' := [(4, nI x13)]) (w' := w67) (by kernel_rfl) ?_
 intro a74 hF73; clear hF71
 refine wpList_nil (thenN ?_)
 refine wp_ret ?_
 have hS75 := hS72.pick4.pick4.pick2.pick4.pick4
 clear hS72
 simp only [Option.some.injEq, Prod.mk.injEq] at hm66
 obtain ⟨rfl, rfl, rfl⟩ := hm66
 refine ev_ret hF73 [4] (nI x13) rfl rfl rfl ?_
 exact ⟨rfl, hS75⟩

def law13_awake.m (k : Nat) : Option (Bool) := bind4 (law13_made.m k [0] 1) fun s7 s8 L9 L10 => bind3 (law13_ch.m k s7 s8 L9 L10 0) fun x48 s49 s50 => bind3 (law13_sudog.m k s49 s50 L9 L10 x48) fun x57 s58 s59 => bind3 (law13_ch.m k s58 s59 L9 L10 0) fun x71 s72 s73 => bind2 (list_Push.m k s72 x71 (true) x57) fun x81 s82 => bind3 (law13_ch.m k s82 s73 L9 L10 0) fun x95 s96 s97 => bind2 (list_All.m k s96 x95 (true)) fun L105 s106 => bind3 (law13_ch.m k s106 s97 L9 L10 0) fun x126 s127 s128 => bind3 (list_Pop.m k s127 x126 (true)) fun x136 y137 s138 => (if (x81 == 0) then bind1 (help_Plain.m k L105 [x57]) fun y157 => (if (y157) then (if (y137) then some (x136 == x57) else some (false)) else some (false)) else some (false))
set_option maxRecDepth 100000 in
set_option maxHeartbeats 1500000 in
theorem law13_awake.ok {w0 w : World} {F0 : List Nat} {ps : List Piece} {k : Nat}  {r0 : Bool} (hS : St w0 F0 (ps) w) (hm : law13_awake.m k = some r0) :
    Calls Tryz.prog 25 #[] w fun e w' => e = .returned (.bool r0) ∧ St w0 F0 (ps) w' := by
 refine ev_enterL 56 [] Tryz.func25 rfl rfl (by simp) ?_
 intro a hF
 have hF0 : Fr 56 a [] := hF; clear hF
 unfold law13_awake.m at hm
 refine wp_seq (wp_region_lit ?_)
 refine ev_runK 1 hF0 [] (l' := []) (w' := w) (by kernel_rfl) ?_
 intro a2 hF1; clear hF0
 refine wpList_nil (thenN (wp_seq (wp_region_lit ?_)))
 refine ev_runs 1 hF1 (l' := [(7, .slice (some ⟨w.heap.size, 0, none⟩) 1 1)]) (w' := w.alloc (.cells #[nI 0] 3)) (by kernel_rfl) ?_
 intro a4 hF3; clear hF1
 have hS6 : St w0 F0 (RowP (.slice (some ⟨w.heap.size, 0, none⟩) 1 1) [0] :: ps) (w.alloc (.cells #[nI 0] 3)) := St.lit hS [0] (by unfold maxLen; simp)
 refine ev_call 24 #[.slice (some ⟨w.heap.size, 0, none⟩) 1 1, nI 1] hF3 rfl rfl (by kernel_rfl) rfl (by kernel_rfl) (fun w => by kernel_rfl) ?_
 obtain ⟨s7, s8, L9, L10, hx11, hm12⟩ := bind4E hm; clear hm
 refine (law13_made.ok hS6 hx11).mono ?_
 rintro _ w13 ⟨z17, z18, z19, z20, z21, z22, z23, z24, z25, z26, rfl, hS15⟩ a14 hF16; clear hF3 hS6
 obtain ⟨hl35, p32, c33, rfl, hp34⟩ := St.shape hS15 4 rfl
 obtain ⟨hl39, p36, c37, rfl, hp38⟩ := St.shape hS15 5 rfl
 refine ev_runK 1 hF16 [1] (l' := [(1, nP z17 0)]) (w' := w13) (by kernel_rfl) ?_
 intro a41 hF40; clear hF16
 refine wpList_nil ?_
 have hS42 := hS15.drop
 clear hS15
 refine thenN (wp_seq (wp_seq (wp_region_lit ?_)))
 refine ev_runK 2 hF40 [1, 10] (l' := [(10, .bool false), (1, nP z17 0)]) (w' := w13) (by kernel_rfl) ?_
 intro a44 hF43; clear hF40
 refine wpList_nil (thenN ?_)
 refine ev_condF hF43 rfl rfl ?_
 refine wp_skip ?_
 have hF45 := hF43.keep [1]
 clear hF43
 refine thenN (wp_seq (wp_region_lit ?_))
 refine ev_runs 2 hF45 (l' := [(12, nP z17 0), (11, nP z17 0), (1, nP z17 0)]) (w' := w13) (by kernel_rfl) ?_
 intro a47 hF46; clear hF45
 refine ev_call 27 #[nP z17 0, nI 0] hF46 rfl rfl (by kernel_rfl) rfl (by kernel_rfl) (fun w => by kernel_rfl) ?_
 obtain ⟨x48, s49, s50, hx51, hm52⟩ := bind3E hm12; clear hm12
 refine (law13_ch.ok hS42 hx51).mono ?_
 rintro _ w53 ⟨rfl, hS55⟩ a54 hF56; clear hF46 hS42
 refine ev_call 26 #[nP z17 0, nI x48] hF56 rfl rfl (by kernel_rfl) rfl (by kernel_rfl) (fun w => by kernel_rfl) ?_
 obtain ⟨x57, s58, s59, hx60, hm61⟩ := bind3E hm52; clear hm52
 refine (law13_sudog.ok hS55 hx60).mono ?_
 rintro _ w62 ⟨rfl, hS64⟩ a63 hF65; clear hF56 hS55
 refine ev_runK 1 hF65 [1, 2] (l' := [(2, nI x57), (1, nP z17 0)]) (w' := w62) (by kernel_rfl) ?_
 intro a67 hF66; clear hF65
 refine wpList_nil (thenN (wp_seq ?_))
 -- draws
 have hS68 := hS64.drew; clear hS64
 refine any_start (fun wS => ∃ qs, St w0 F0 (BlkP z17 52 #[nP z18 0, nP z20 0, .slice p32 L9.length c33, .slice p36 L10.length c37] :: qs) wS) 9 #[false, false, false, false, false, false, false, false, false] (by kernel_rfl) (by kernel_rfl) (by kernel_rfl) ?_
 refine any_many 6 [(0, some (nP z17 0)), (1, some (nP z17 0)), (2, some (nP z17 0)), (3, some (nP z18 0)), (4, some (nP z17 0)), (6, some (nI x57))] [1, 2, 3, 18, 19, 20, 21, 22, 43, 44, 45, 46, 49, 52, 53, 54] #[true, true, true, true, true, false, true, false, false] (by rfl) hF66 (by kernel_rfl) (by kernel_rfl) (by exact (And.intro (fun wS hw => by kernel_rfl) (And.intro (fun wS hw => by kernel_rfl) (And.intro (fun wS hw => by kernel_rfl) (And.intro (fun wS hw => hw.elim fun qs hw => run_loadV rfl rfl (run_loadS rfl rfl (hw.cell 0 rfl 0 rfl))) (And.intro (fun wS hw => by kernel_rfl) (And.intro (fun wS hw => by kernel_rfl) trivial))))))) (fun _ _ _ _ _ h => h) ⟨_, hS68⟩ (l' := [(21, nI x57), (19, nP z17 0), (18, nP z18 0), (2, nI x57), (1, nP z17 0)]) (by kernel_rfl) ?_
 intro a70 hF69; clear hF66
 refine any_call 5 #[true, true, true, true, true, true, true, false, false] 27 #[nP z17 0, nI 0] hF69 rfl (by kernel_rfl) rfl rfl (by kernel_rfl) rfl (by kernel_rfl) (fun w => by kernel_rfl) (by kernel_rfl) ?_
 obtain ⟨x71, s72, s73, hx74, hm75⟩ := bind3E hm61; clear hm61
 refine (law13_ch.ok hS68 hx74).mono ?_
 rintro _ w76 ⟨rfl, hS78⟩; clear hS68
 refine ⟨⟨_, hS78⟩, ?_⟩
 intro a77 hF79; clear hF69
 have hS80 := hS78.pick1
 clear hS78
 refine any_call 7 #[true, true, true, true, true, true, true, true, false] 28 #[nP z18 0, nI x71, .bool true, nI x57] hF79 rfl (by kernel_rfl) rfl rfl (by kernel_rfl) rfl (by kernel_rfl) (fun w => by kernel_rfl) (by kernel_rfl) ?_
 obtain ⟨x81, s82, hx83, hm84⟩ := bind2E hm75; clear hm75
 refine (list_Push.ok hS80 hx83).mono ?_
 rintro _ w85 ⟨rfl, hS87⟩; clear hS80
 refine ⟨⟨_, hS87.pick1⟩, ?_⟩
 intro a86 hF88; clear hF79
 refine any_many 1 [(8, some (nI x81))] [1, 2, 3, 43, 44, 45, 46, 49, 52, 53, 54] #[true, true, true, true, true, true, true, true, true] (by rfl) hF88 (by kernel_rfl) (by kernel_rfl) (by exact (And.intro (fun wS hw => by kernel_rfl) trivial)) (fun _ _ _ _ _ h => h) ⟨_, hS87.pick1⟩ (l' := [(3, nI x81), (2, nI x57), (1, nP z17 0)]) (by kernel_rfl) ?_
 intro a90 hF89; clear hF88
 refine any_done (by kernel_rfl) ?_
 refine thenN (wp_seq ?_)
 -- draws
 have hS91 := hS87.pick1
 clear hS87
 have hS92 := hS91.drew; clear hS91
 refine any_start (fun wS => ∃ qs, St w0 F0 (BlkP z17 52 #[nP z18 0, nP z20 0, .slice p32 L9.length c33, .slice p36 L10.length c37] :: qs) wS) 8 #[false, false, false, false, false, false, false, false] (by kernel_rfl) (by kernel_rfl) (by kernel_rfl) ?_
 refine any_many 5 [(0, some (nP z17 0)), (1, some (nP z17 0)), (2, some (nP z17 0)), (3, some (nP z18 0)), (4, some (nP z17 0))] [1, 2, 3, 4, 26, 27, 28, 29, 43, 44, 45, 46, 49, 52, 53, 54] #[true, true, true, true, true, false, false, false] (by rfl) hF89 (by kernel_rfl) (by kernel_rfl) (by exact (And.intro (fun wS hw => by kernel_rfl) (And.intro (fun wS hw => by kernel_rfl) (And.intro (fun wS hw => by kernel_rfl) (And.intro (fun wS hw => hw.elim fun qs hw => run_loadV rfl rfl (run_loadS rfl rfl (hw.cell 0 rfl 0 rfl))) (And.intro (fun wS hw => by kernel_rfl) trivial)))))) (fun _ _ _ _ _ h => h) ⟨_, hS92⟩ (l' := [(27, nP z17 0), (26, nP z18 0), (3, nI x81), (2, nI x57), (1, nP z17 0)]) (by kernel_rfl) ?_
 intro a94 hF93; clear hF89
 refine any_call 5 #[true, true, true, true, true, true, false, false] 27 #[nP z17 0, nI 0] hF93 rfl (by kernel_rfl) rfl rfl (by kernel_rfl) rfl (by kernel_rfl) (fun w => by kernel_rfl) (by kernel_rfl) ?_
 obtain ⟨x95, s96, s97, hx98, hm99⟩ := bind3E hm84; clear hm84
 refine (law13_ch.ok hS92 hx98).mono ?_
 rintro _ w100 ⟨rfl, hS102⟩; clear hS92
 refine ⟨⟨_, hS102⟩, ?_⟩
 intro a101 hF103; clear hF93
 have hS104 := hS102.pick1
 clear hS102
 refine any_call 6 #[true, true, true, true, true, true, true, false] 33 #[nP z18 0, nI x95, .bool true] hF103 rfl (by kernel_rfl) rfl rfl (by kernel_rfl) rfl (by kernel_rfl) (fun w => by kernel_rfl) (by kernel_rfl) ?_
 obtain ⟨L105, s106, hx107, hm108⟩ := bind2E hm99; clear hm99
 refine (list_All.ok hS104 hx107).mono ?_
 rintro _ w109 ⟨z113, rfl, hS111⟩; clear hS104
 obtain ⟨hl118, p115, c116, rfl, hp117⟩ := St.shape hS111 1 rfl
 refine ⟨⟨_, hS111.pick2⟩, ?_⟩
 intro a110 hF112; clear hF103
 refine any_many 1 [(7, some (.slice p115 L105.length c116))] [1, 2, 3, 4, 43, 44, 45, 46, 49, 52, 53, 54] #[true, true, true, true, true, true, true, true] (by rfl) hF112 (by kernel_rfl) (by kernel_rfl) (by exact (And.intro (fun wS hw => by kernel_rfl) trivial)) (fun _ _ _ _ _ h => h) ⟨_, hS111.pick2⟩ (l' := [(4, .slice p115 L105.length c116), (3, nI x81), (2, nI x57), (1, nP z17 0)]) (by kernel_rfl) ?_
 intro a120 hF119; clear hF112
 refine any_done (by kernel_rfl) ?_
 refine thenN (wp_seq ?_)
 -- draws
 have hS121 := hS111.pick2
 clear hS111
 have hS122 := hS121.drew; clear hS121
 refine any_start (fun wS => ∃ qs, St w0 F0 (BlkP z17 52 #[nP z18 0, nP z20 0, .slice p32 L9.length c33, .slice p36 L10.length c37] :: qs) wS) 12 #[false, false, false, false, false, false, false, false, false, false, false, false] (by kernel_rfl) (by kernel_rfl) (by kernel_rfl) ?_
 refine any_many 5 [(0, some (nP z17 0)), (1, some (nP z17 0)), (2, some (nP z17 0)), (3, some (nP z18 0)), (4, some (nP z17 0))] [2, 3, 4, 5, 6, 30, 34, 35, 36, 37, 38, 39, 43, 44, 45, 46, 49, 52, 53, 54] #[true, true, true, true, true, false, false, false, false, false, false, false] (by rfl) hF119 (by kernel_rfl) (by kernel_rfl) (by exact (And.intro (fun wS hw => by kernel_rfl) (And.intro (fun wS hw => by kernel_rfl) (And.intro (fun wS hw => by kernel_rfl) (And.intro (fun wS hw => hw.elim fun qs hw => run_loadV rfl rfl (run_loadS rfl rfl (hw.cell 0 rfl 0 rfl))) (And.intro (fun wS hw => by kernel_rfl) trivial)))))) (fun _ _ _ _ _ h => h) ⟨_, hS122⟩ (l' := [(35, nP z17 0), (34, nP z18 0), (4, .slice p115 L105.length c116), (3, nI x81), (2, nI x57)]) (by kernel_rfl) ?_
 intro a124 hF123; clear hF119
 have hS125 := hS122.pick5.pick5.pick5.pick4.pick4
 clear hS122
 refine any_call 5 #[true, true, true, true, true, true, false, false, false, false, false, false] 27 #[nP z17 0, nI 0] hF123 rfl (by kernel_rfl) rfl rfl (by kernel_rfl) rfl (by kernel_rfl) (fun w => by kernel_rfl) (by kernel_rfl) ?_
 obtain ⟨x126, s127, s128, hx129, hm130⟩ := bind3E hm108; clear hm108
 refine (law13_ch.ok hS125 hx129).mono ?_
 rintro _ w131 ⟨rfl, hS133⟩; clear hS125
 refine ⟨⟨_, hS133⟩, ?_⟩
 intro a132 hF134; clear hF123
 have hS135 := hS133.pick1
 clear hS133
 refine any_call 6 #[true, true, true, true, true, true, true, false, false, false, false, false] 31 #[nP z18 0, nI x126, .bool true] hF134 rfl (by kernel_rfl) rfl rfl (by kernel_rfl) rfl (by kernel_rfl) (fun w => by kernel_rfl) (by kernel_rfl) ?_
 obtain ⟨x136, y137, s138, hx139, hm140⟩ := bind3E hm130; clear hm130
 refine (list_Pop.ok hS135 hx139).mono ?_
 rintro _ w141 ⟨rfl, hS143⟩; clear hS135
 refine ⟨⟨_, hS143.pick1⟩, ?_⟩
 intro a142 hF144; clear hF134
 refine any_many 5 [(7, some (.tuple #[nI x136, .bool (y137)])), (8, some (nI x136)), (9, some (.bool (y137))), (10, some (nI x136)), (11, some (.bool (y137)))] [2, 3, 4, 5, 6, 43, 44, 45, 46, 49, 52, 53, 54] #[true, true, true, true, true, true, true, true, true, true, true, true] (by rfl) hF144 (by kernel_rfl) (by kernel_rfl) (by exact (And.intro (fun wS hw => by kernel_rfl) (And.intro (fun wS hw => by kernel_rfl) (And.intro (fun wS hw => by kernel_rfl) (And.intro (fun wS hw => by kernel_rfl) (And.intro (fun wS hw => by kernel_rfl) trivial)))))) (fun _ _ _ _ _ h => h) ⟨_, hS143.pick1⟩ (l' := [(6, .bool (y137)), (5, nI x136), (4, .slice p115 L105.length c116), (3, nI x81), (2, nI x57)]) (by kernel_rfl) ?_
 intro a146 hF145; clear hF144
 refine any_done (by kernel_rfl) ?_
 have hS147 := hS143.drop.drop.drop.drop.drop
 clear hS143
 refine thenN (wp_seq (wp_region_lit ?_))
 refine ev_runs 3 hF145 (l' := [(42, .bool (x81 == 0)), (41, .bool (x81 == 0)), (40, nI x81), (6, .bool (y137)), (5, nI x136), (4, .slice p115 L105.length c116), (3, nI x81), (2, nI x57)]) (w' := w141) (by kernel_rfl) ?_
 intro a149 hF148; clear hF145
 cases hc150 : (x81 == 0) with
 | true =>
  rw [hc150] at hF148
  rw [hc150] at hm140
  have hm151 := ifT hm140; clear hm140
  refine ev_runs 3 hF148 (l' := [(45, .slice (some ⟨w141.heap.size, 0, none⟩) 1 1), (44, nI x57), (43, .slice p115 L105.length c116), (42, .bool true), (41, .bool true), (40, nI x81), (6, .bool (y137)), (5, nI x136), (4, .slice p115 L105.length c116), (3, nI x81), (2, nI x57)]) (w' := w141.alloc (.cells #[nI x57] 3)) (by kernel_rfl) ?_
  intro a153 hF152; clear hF148
  have hS155 : St w0 F0 (RowP (.slice (some ⟨w141.heap.size, 0, none⟩) 1 1) [x57] :: RowP (.slice p115 L105.length c116) L105 :: ps) (w141.alloc (.cells #[nI x57] 3)) := St.lit hS147 [x57] (by unfold maxLen; simp)
  clear hS147
  have hS156 := hS155.pick1
  clear hS155
  refine ev_call 19 #[.slice p115 L105.length c116, .slice (some ⟨w141.heap.size, 0, none⟩) 1 1] hF152 rfl rfl (by kernel_rfl) rfl (by kernel_rfl) (fun w => by kernel_rfl) ?_
  obtain ⟨y157, hx158, hm159⟩ := bind1E hm151; clear hm151
  refine (help_Plain.ok hS156 hx158).mono ?_
  rintro _ w160 ⟨rfl, hS162⟩ a161 hF163; clear hF152 hS156
  refine ev_runs 2 hF163 (l' := [(48, .bool (y157)), (47, .bool (y157)), (46, .bool (y157)), (45, .slice (some ⟨w141.heap.size, 0, none⟩) 1 1), (44, nI x57), (43, .slice p115 L105.length c116), (42, .bool true), (41, .bool true), (40, nI x81), (6, .bool (y137)), (5, nI x136), (4, .slice p115 L105.length c116), (3, nI x81), (2, nI x57)]) (w' := w160) (by kernel_rfl) ?_
  intro a165 hF164; clear hF163
  cases hc166 : (y157) with
  | true =>
   rw [hc166] at hF164
   rw [hc166] at hm159
   have hm167 := ifT hm159; clear hm159
   refine ev_runs 3 hF164 (l' := [(51, .bool (y137)), (50, .bool (y137)), (49, .bool (y137)), (48, .bool true), (47, .bool true), (46, .bool true), (45, .slice (some ⟨w141.heap.size, 0, none⟩) 1 1), (44, nI x57), (43, .slice p115 L105.length c116), (42, .bool true), (41, .bool true), (40, nI x81), (6, .bool (y137)), (5, nI x136), (4, .slice p115 L105.length c116), (3, nI x81), (2, nI x57)]) (w' := w160) (by kernel_rfl) ?_
   intro a169 hF168; clear hF164
   cases hc170 : (y137) with
   | true =>
    rw [hc170] at hF168
    rw [hc170] at hm167
    have hm171 := ifT hm167; clear hm167
    refine ev_runK 5 hF168 [0] (l' := [(0, .bool (x136 == x57))]) (w' := w160) (by kernel_rfl) ?_
    intro a173 hF172; clear hF168
    refine wpList_nil ?_
    have hS174 := hS162.drop.drop
    clear hS162
    refine thenN ?_
    refine wp_ret ?_
    obtain rfl := Option.some.inj hm171
    refine ev_ret hF172 [0] (.bool (x136 == x57)) rfl rfl rfl ?_
    exact ⟨rfl, hS174⟩
   | false =>
    rw [hc170] at hF168
    rw [hc170] at hm167
    have hm176 := ifF hm167; clear hm167
    refine ev_runK 5 hF168 [0] (l' := [(0, .bool false)]) (w' := w160) (by kernel_rfl) ?_
    intro a178 hF177; clear hF168
    refine wpList_nil ?_
    have hS179 := hS162.drop.drop
    clear hS162
    refine thenN ?_
    refine wp_ret ?_
    obtain rfl := Option.some.inj hm176
    refine ev_ret hF177 [0] (.bool false) rfl rfl rfl ?_
    exact ⟨rfl, hS179⟩
  | false =>
   rw [hc166] at hF164
   rw [hc166] at hm159
   have hm181 := ifF hm159; clear hm159
   refine ev_runK 8 hF164 [0] (l' := [(0, .bool false)]) (w' := w160) (by kernel_rfl) ?_
   intro a183 hF182; clear hF164
   refine wpList_nil ?_
   have hS184 := hS162.drop.drop
   clear hS162
   refine thenN ?_
   refine wp_ret ?_
   obtain rfl := Option.some.inj hm181
   refine ev_ret hF182 [0] (.bool false) rfl rfl rfl ?_
   exact ⟨rfl, hS184⟩
 | false =>
  rw [hc150] at hF148
  rw [hc150] at hm140
  have hm186 := ifF hm140; clear hm140
  refine ev_runK 14 hF148 [0] (l' := [(0, .bool false)]) (w' := w141) (by kernel_rfl) ?_
  intro a188 hF187; clear hF148
  refine wpList_nil ?_
  have hS189 := hS147.drop
  clear hS147
  refine thenN ?_
  refine wp_ret ?_
  obtain rfl := Option.some.inj hm186
  refine ev_ret hF187 [0] (.bool false) rfl rfl rfl ?_
  exact ⟨rfl, hS189⟩

end Go.Proofs.YtaihdiccmaincaaGreat
