/- GWakeParks -/
import Derived.Test.YtaihdiccmaincaaGreatKG14w
import Derived.Test.YtaihdiccmaincaaGreatKGWake
import Derived.Deep.LoopGhost
import Derived.KernelRfl
/- The walks of GWakeParks, printed by gen/walk.py. -/
namespace Go.Proofs.YtaihdiccmaincaaGreat
open Go.RowKit
set_option linter.unusedVariables false

def WakeParks.j8 (x222 : Int) (rec225 : Int → Option (Bool)) (q243 : Su) (x266 : Int) : Option (Bool) := (if (q243.more != x266) then some (false) else rec225 (IntKind.i64.wrap (x222 + 1)))
def WakeParks.j9 (y411 : Bool) : Option (Bool) := some (y411)
def WakeParks.l7b (i1 : Int) (k : Nat) (x5 : Int) (L16 : List Int) (L17 : List Int) (L72 : List Int) (s184 : HSt) (s185 : HSt) (rec225 : Int → Option (Bool)) (x222 : Int) : Option (Bool) := (if (decide (x222 < x5)) then (if (inR x222 L72.length) then bind2 (pSudog (atI L72 x222) s184) fun q243 x244 => (if (decide ((IntKind.i64.wrap (x222 + 1)) < x5)) then (if (inR (IntKind.i64.wrap (x222 + 1)) L72.length) then WakeParks.j8 x222 rec225 q243 (atI L72 (IntKind.i64.wrap (x222 + 1))) else none) else WakeParks.j8 x222 rec225 q243 (-1)) else none) else bind3 (law14_ch.m k s184 s185 L16 L17 0) fun x377 s378 s379 => bind3 (wake_Wake.m k s378 x377 0) fun x387 x388 s389 => bind2 (wake_WakeN.m k i1 0) fun x401 x402 => (if (x388 == 10) then (if (x402 == 2) then bind1 (wake_ParkN.m k i1 []) fun x434 => (if (x434 == 2) then bind3 (law14_ch.m k s389 s379 L16 L17 0) fun x448 s449 s450 => bind2 (wake_Park.m k s449 x448 []) fun x460 s461 => (if (x460 == 10) then bind3 (law14_gor.m k s461 s450 L16 L17 0) fun x475 s476 s477 => bind3 (law14_ch.m k s476 s477 L16 L17 0) fun x484 s485 s486 => bind2 (wake_Park.m k s485 x475 [x484]) fun x497 s498 => WakeParks.j9 (x497 == 10) else WakeParks.j9 false) else WakeParks.j9 false) else WakeParks.j9 false) else WakeParks.j9 false))
def WakeParks.l7 (i1 : Int) (k : Nat) (x5 : Int) (L16 : List Int) (L17 : List Int) (L72 : List Int) (s184 : HSt) (s185 : HSt) : Nat → Int → Option (Bool)
  | 0 => fun _ => none
  | kI + 1 => WakeParks.l7b i1 k x5 L16 L17 L72 s184 s185 (WakeParks.l7 i1 k x5 L16 L17 L72 s184 s185 kI)
def WakeParks.j4 (i1 : Int) (k : Nat) (x5 : Int) (L16 : List Int) (L17 : List Int) (L72 : List Int) (s184 : HSt) (s185 : HSt) (y204 : Bool) : Option (Bool) := (if (y204) then some (false) else WakeParks.l7 i1 k x5 L16 L17 L72 s184 s185 k 0)
def WakeParks.j3 (i1 : Int) (k : Nat) (x5 : Int) (L16 : List Int) (L17 : List Int) (L72 : List Int) (x173 : Int) (s184 : HSt) (s185 : HSt) (x186 : Int) (x187 : Int) (x188 : Int) (x189 : Int) (x190 : Int) (x191 : Int) (x192 : Int) (x193 : Int) (x194 : Int) (x195 : Int) (x196 : Int) : Option (Bool) := (if (x173 != 0) then WakeParks.j4 i1 k x5 L16 L17 L72 s184 s185 true else (if (x196 != 0) then WakeParks.j4 i1 k x5 L16 L17 L72 s184 s185 true else (if (x187 != 1) then WakeParks.j4 i1 k x5 L16 L17 L72 s184 s185 true else (if (x5 == 0) then (if (x195 != (-1)) then WakeParks.j4 i1 k x5 L16 L17 L72 s184 s185 true else (if (decide (x5 > 0)) then (if (inR (0 : Int) L72.length) then WakeParks.j4 i1 k x5 L16 L17 L72 s184 s185 (x195 != (atI L72 (0 : Int))) else none) else WakeParks.j4 i1 k x5 L16 L17 L72 s184 s185 false)) else (if (decide (x5 > 0)) then (if (inR (0 : Int) L72.length) then WakeParks.j4 i1 k x5 L16 L17 L72 s184 s185 (x195 != (atI L72 (0 : Int))) else none) else WakeParks.j4 i1 k x5 L16 L17 L72 s184 s185 false)))))
def WakeParks.l2b (i1 : Int) (k : Nat) (x5 : Int) (L16 : List Int) (L17 : List Int) (rec79 : List Int → HSt → HSt → Int → Option (Bool)) (L72 : List Int) (s74 : HSt) (s75 : HSt) (x76 : Int) : Option (Bool) := (if (decide (x76 < x5)) then bind3 (law14_alloc.m k s74 s75 L16 L17 3 7) fun x96 s97 s98 => bind3 (law14_gor.m k s97 s98 L16 L17 0) fun x110 s111 s112 => bind2 (pPutSudog x96 (⟨x110, -1, 0, -1, 0, 0, 5⟩ : Su) s111) fun x122 s123 => (if (x122 != 0) then some (false) else bind1 (pushM L72 x96) fun L143 => rec79 L143 s123 s112 (IntKind.i64.wrap (x76 + 1))) else bind3 (law14_gor.m k s74 s75 L16 L17 0) fun x163 s164 s165 => bind2 (wake_Park.m k s164 x163 L72) fun x173 s174 => bind3 (law14_gor.m k s174 s165 L16 L17 0) fun x600 s601 s602 => bind3 (view_Gor.m k s601 x600) fun q610 x611 s612 => WakeParks.j3 i1 k x5 L16 L17 L72 x173 s612 s602 q610.id q610.status q610.pc q610.a q610.b q610.c q610.d q610.e q610.f q610.sudogs x611)
def WakeParks.l2 (i1 : Int) (k : Nat) (x5 : Int) (L16 : List Int) (L17 : List Int) : Nat → List Int → HSt → HSt → Int → Option (Bool)
  | 0 => fun _ _ _ _ => none
  | kI + 1 => WakeParks.l2b i1 k x5 L16 L17 (WakeParks.l2 i1 k x5 L16 L17 kI)
def WakeParks.j1 (i1 : Int) (k : Nat) (x5 : Int) (s14 : HSt) (s15 : HSt) (L16 : List Int) (L17 : List Int) (y50 : Bool) : Option (Bool) := (if (y50) then some (false) else WakeParks.l2 i1 k x5 L16 L17 k [] s14 s15 0)
def WakeParks.m (k : Nat) (i0 : Int) (i1 : Int) : Option (Bool) := bind1 (some (IntKind.i64.wrap (Int.tmod (IntKind.u64.wrap i0) 4))) fun x5 => bind4 (law14_made.m k [0] 1) fun s14 s15 L16 L17 => bind1 (law14_awake.m k ) fun y684 => (if (!(y684)) then WakeParks.j1 i1 k x5 s14 s15 L16 L17 true else WakeParks.j1 i1 k x5 s14 s15 L16 L17 false)
set_option maxRecDepth 100000 in
set_option maxHeartbeats 40000000 in
theorem WakeParks.ok {w0 w : World} {F0 : List Nat} {ps : List Piece} {k : Nat} {i0 : Int} {i1 : Int} {r0 : Bool} (hS : St w0 F0 (ps) w) (hm : WakeParks.m k i0 i1 = some r0) :
    Calls Tryz.prog 10 #[nI i0, nI i1] w fun e w' => e = .returned (.bool r0) ∧ St w0 F0 (ps) w' := by
 refine ev_enterL 182 [nI i0, nI i1] Tryz.func10 rfl rfl (by simp) ?_
 intro a hF
 have hF0 : Fr 182 a [(0, nI i0), (1, nI i1)] := hF; clear hF
 unfold WakeParks.m at hm
 refine wp_seq (wp_region_lit ?_)
 refine ev_runK 1 hF0 [0, 1] (l' := [(0, nI i0), (1, nI i1)]) (w' := w) (by kernel_rfl) ?_
 intro a2 hF1; clear hF0
 refine wpList_nil (thenN (wp_seq (wp_region_lit ?_)))
 refine ev_runs 5 hF1 (l' := [(0, nI (IntKind.i64.wrap (Int.tmod (IntKind.u64.wrap i0) 4))), (23, nI (IntKind.i64.wrap (Int.tmod (IntKind.u64.wrap i0) 4))), (22, .int .u64 (Int.tmod (IntKind.u64.wrap i0) 4)), (21, .int .u64 (IntKind.u64.wrap i0)), (20, nI i0), (1, nI i1)]) (w' := w) (by kernel_rfl) ?_
 intro a4 hF3; clear hF1
 obtain ⟨x5, hx6, hm7⟩ := bind1E hm; clear hm
 have hF8 := hF3; rw [Option.some.inj hx6] at hF8; clear hF3
 refine wpList_nil ?_
 have hF9 := hF8.keep [0, 1]
 clear hF8
 refine thenN (wp_seq (wp_region_lit ?_))
 refine ev_runs 1 hF9 (l' := [(24, .slice (some ⟨w.heap.size, 0, none⟩) 1 1), (0, nI x5), (1, nI i1)]) (w' := w.alloc (.cells #[nI 0] 3)) (by kernel_rfl) ?_
 intro a11 hF10; clear hF9
 have hS13 : St w0 F0 (RowP (.slice (some ⟨w.heap.size, 0, none⟩) 1 1) [0] :: ps) (w.alloc (.cells #[nI 0] 3)) := St.lit hS [0] (by unfold maxLen; simp)
 refine ev_call 34 #[.slice (some ⟨w.heap.size, 0, none⟩) 1 1, nI 1] hF10 rfl rfl (by kernel_rfl) rfl (by kernel_rfl) (fun w => by kernel_rfl) ?_
 obtain ⟨s14, s15, L16, L17, hx18, hm19⟩ := bind4E hm7; clear hm7
 refine (law14_made.ok hS13 hx18).mono ?_
 rintro _ w20 ⟨z24, z25, z26, z27, z28, z29, z30, z31, z32, z33, rfl, hS22⟩ a21 hF23; clear hF10 hS13
 obtain ⟨hl42, p39, c40, rfl, hp41⟩ := St.shape hS22 4 rfl
 obtain ⟨hl46, p43, c44, rfl, hp45⟩ := St.shape hS22 5 rfl
 refine ev_runK 1 hF23 [0, 1, 5] (l' := [(5, nP z24 0), (0, nI x5), (1, nI i1)]) (w' := w20) (by kernel_rfl) ?_
 intro a48 hF47; clear hF23
 refine wpList_nil ?_
 have hS49 := hS22.drop
 clear hS22
 refine thenN (wp_seq (wp_seq ?_))
 refine joinQ (fun aI wI => ∃ (y50 : Bool), Fr 182 aI [(31, .bool (y50)), (5, nP z24 0), (0, nI x5), (1, nI i1)] ∧ St w0 F0 (BlkP z24 66 #[nP z25 0, nP z27 0, .slice p39 L16.length c40, .slice p43 L17.length c44] :: HeapP z25 z26 s14 :: RHeapP z27 z28 z29 z30 z31 s15 :: RowP (.slice p39 L16.length c40) L16 :: RowP (.slice p43 L17.length c44) L17 :: ps) wI ∧ WakeParks.j1 i1 k x5 s14 s15 L16 L17 y50 = some r0) ?_ ?_
 rotate_left
 · rintro a52 w53 ⟨y50, hF54, hS55, hm56⟩
   clear hF47 hS49 hm19
   unfold WakeParks.j1 at hm56
   refine thenN ?_
   cases hc58 : (y50) with
   | true =>
    rw [hc58] at hF54
    have hm59 := ifYes hc58 hm56; clear hm56
    refine ev_condT hF54 rfl rfl ?_
    refine wp_seq (wp_region_lit ?_)
    refine ev_runK 1 hF54 [4] (l' := [(4, .bool false)]) (w' := w53) (by kernel_rfl) ?_
    intro a61 hF60; clear hF54
    refine wpList_nil ?_
    have hS62 := hS55.drop.drop.drop.drop.drop
    clear hS55
    refine thenN ?_
    refine wp_ret ?_
    refine thenR ?_
    obtain rfl := Option.some.inj hm59
    refine ev_ret hF60 [4] (.bool false) rfl rfl rfl ?_
    exact ⟨rfl, hS62⟩
   | false =>
    rw [hc58] at hF54
    have hm64 := ifNot hc58 hm56; clear hm56
    refine ev_condF hF54 rfl rfl ?_
    refine wp_skip ?_
    have hF65 := hF54.keep [0, 1, 5]
    clear hF54
    refine thenN (wp_seq (wp_region_lit ?_))
    have hS67 : St w0 F0 (RowP (.slice none 0 0) [] :: BlkP z24 66 #[nP z25 0, nP z27 0, .slice p39 L16.length c40, .slice p43 L17.length c44] :: HeapP z25 z26 s14 :: RHeapP z27 z28 z29 z30 z31 s15 :: RowP (.slice p39 L16.length c40) L16 :: RowP (.slice p43 L17.length c44) L17 :: ps) w53 := St.nil hS55
    clear hS55
    refine ev_runs 1 hF65 (l' := [(6, .slice none 0 0), (5, nP z24 0), (0, nI x5), (1, nI i1)]) (w' := w53) (by kernel_rfl) ?_
    intro a69 hF68; clear hF65
    refine wpList_nil (thenN (wp_seq (wp_seq (wp_region_lit ?_))))
    refine ev_runs 1 hF68 (l' := [(7, nI 0), (6, .slice none 0 0), (5, nP z24 0), (0, nI x5), (1, nI i1)]) (w' := w53) (by kernel_rfl) ?_
    intro a71 hF70; clear hF68
    refine wpList_nil (thenN ?_)
    refine wp_block ?_
    refine wp_loop_ghost (fun kI aI wI => ∃ (v73 : Value) (L72 : List Int) (s74 : HSt) (s75 : HSt) (x76 : Int), Fr 182 aI [(7, nI x76), (6, v73), (5, nP z24 0), (0, nI x5), (1, nI i1)] ∧ St w0 F0 (RowP (v73) L72 :: BlkP z24 66 #[nP z25 0, nP z27 0, .slice p39 L16.length c40, .slice p43 L17.length c44] :: HeapP z25 z26 s74 :: RHeapP z27 z28 z29 z30 z31 s75 :: RowP (.slice p39 L16.length c40) L16 :: RowP (.slice p43 L17.length c44) L17 :: ps) wI ∧ WakeParks.l2 i1 k x5 L16 L17 kI L72 s74 s75 x76 = some r0) k ⟨.slice none 0 0, [], s14, s15, 0, hF70, hS67, hm64⟩ ?_
    rintro k77 a78 w79 ⟨v73, L72, s74, s75, x76, hF80, hS81, hm82⟩
    clear hF70 hS67 hm64
    cases k77 with
    | zero => cases hm82
    | succ k77 =>
     have hm83 : WakeParks.l2b i1 k x5 L16 L17 (WakeParks.l2 i1 k x5 L16 L17 k77) L72 s74 s75 x76 = some r0 := hm82
     clear hm82
     unfold WakeParks.l2b at hm83
     obtain ⟨hl87, p84, c85, rfl, hp86⟩ := St.shape hS81 0 rfl
     refine wp_seq (wp_seq (wp_region_lit ?_))
     refine ev_runK 3 hF80 [0, 1, 5, 6, 7, 34] (l' := [(34, .bool (decide (x76 < x5))), (7, nI x76), (6, .slice p84 L72.length c85), (5, nP z24 0), (0, nI x5), (1, nI i1)]) (w' := w79) (by kernel_rfl) ?_
     intro a89 hF88; clear hF80
     refine wpList_nil (thenN ?_)
     cases hc90 : (decide (x76 < x5)) with
     | true =>
      rw [hc90] at hF88
      have hm91 := ifYes hc90 hm83; clear hm83
      refine ev_condT hF88 rfl rfl ?_
      refine wp_skip ?_
      have hF92 := hF88.keep [0, 1, 5, 6, 7]
      clear hF88
      refine thenN (wp_seq ?_)
      refine wp_block ?_
      refine wp_seq (wp_region_lit ?_)
      refine ev_runs 1 hF92 (l' := [(37, nP z24 0), (7, nI x76), (6, .slice p84 L72.length c85), (5, nP z24 0), (0, nI x5), (1, nI i1)]) (w' := w79) (by kernel_rfl) ?_
      intro a94 hF93; clear hF92
      have hS95 := hS81.pick5.pick5.pick5.pick5.pick5
      clear hS81
      refine ev_call 39 #[nP z24 0, nI 3, nI 7] hF93 rfl rfl (by kernel_rfl) rfl (by kernel_rfl) (fun w => by kernel_rfl) ?_
      obtain ⟨x96, s97, s98, hx99, hm100⟩ := bind3E hm91; clear hm91
      refine (law14_alloc.ok hS95 hx99).mono ?_
      rintro _ w101 ⟨rfl, hS103⟩ a102 hF104; clear hF93 hS95
      refine ev_runK 1 hF104 [0, 1, 5, 6, 7, 8] (l' := [(8, nI x96), (7, nI x76), (6, .slice p84 L72.length c85), (5, nP z24 0), (0, nI x5), (1, nI i1)]) (w' := w101) (by kernel_rfl) ?_
      intro a106 hF105; clear hF104
      refine wpList_nil (thenN (wp_seq (wp_seq ?_)))
      -- draws
      have hS107 := hS103.drew; clear hS103
      refine any_start (fun wS => ∃ qs, St w0 F0 (BlkP z24 66 #[nP z25 0, nP z27 0, .slice p39 L16.length c40, .slice p43 L17.length c44] :: qs) wS) 10 #[false, false, false, false, false, false, false, false, false, false] (by kernel_rfl) (by kernel_rfl) (by kernel_rfl) ?_
      refine any_many 6 [(0, some (nP z24 0)), (1, some (nP z24 0)), (2, some (nP z24 0)), (3, some (nP z25 0)), (4, some (nI x96)), (5, some (nP z24 0))] [0, 1, 5, 6, 7, 8, 42, 43, 44, 45, 46, 47, 48] #[true, true, true, true, true, true, false, false, false, false] (by rfl) hF105 (by kernel_rfl) (by kernel_rfl) (by exact (And.intro (fun wS hw => by kernel_rfl) (And.intro (fun wS hw => by kernel_rfl) (And.intro (fun wS hw => by kernel_rfl) (And.intro (fun wS hw => hw.elim fun qs hw => run_loadV rfl rfl (run_loadS rfl rfl (hw.cell 0 rfl 0 rfl))) (And.intro (fun wS hw => by kernel_rfl) (And.intro (fun wS hw => by kernel_rfl) trivial))))))) (fun _ _ _ _ _ h => h) ⟨_, hS107⟩ (l' := [(44, nP z24 0), (43, nI x96), (42, nP z25 0), (8, nI x96), (7, nI x76), (6, .slice p84 L72.length c85), (5, nP z24 0), (0, nI x5), (1, nI i1)]) (by kernel_rfl) ?_
      intro a109 hF108; clear hF105
      refine any_call 6 #[true, true, true, true, true, true, true, false, false, false] 41 #[nP z24 0, nI 0] hF108 rfl (by kernel_rfl) rfl rfl (by kernel_rfl) rfl (by kernel_rfl) (fun w => by kernel_rfl) (by kernel_rfl) ?_
      obtain ⟨x110, s111, s112, hx113, hm114⟩ := bind3E hm100; clear hm100
      refine (law14_gor.ok hS107 hx113).mono ?_
      rintro _ w115 ⟨rfl, hS117⟩; clear hS107
      refine ⟨⟨_, hS117⟩, ?_⟩
      intro a116 hF118; clear hF108
      refine any_many 1 [(7, some (.agg #[nI x110, nI (-1), nI 0, nI (-1), nI 0, nI 0, nI 5]))] [0, 1, 5, 6, 7, 8, 42, 43, 46, 47, 48] #[true, true, true, true, true, true, true, true, false, false] (by rfl) hF118 (by kernel_rfl) (by kernel_rfl) (by exact (And.intro (fun wS hw => by kernel_rfl) trivial)) (fun _ _ _ _ _ h => h) ⟨_, hS117⟩ (l' := [(46, .agg #[nI x110, nI (-1), nI 0, nI (-1), nI 0, nI 0, nI 5]), (43, nI x96), (42, nP z25 0), (8, nI x96), (7, nI x76), (6, .slice p84 L72.length c85), (5, nP z24 0), (0, nI x5), (1, nI i1)]) (by kernel_rfl) ?_
      intro a120 hF119; clear hF118
      have hS121 := hS117.pick1
      clear hS117
      refine any_call 8 #[true, true, true, true, true, true, true, true, true, false] 40 #[nP z25 0, nI x96, .agg #[nI x110, nI (-1), nI 0, nI (-1), nI 0, nI 0, nI 5]] hF119 rfl (by kernel_rfl) rfl rfl (by kernel_rfl) rfl (by kernel_rfl) (fun w => by kernel_rfl) (by kernel_rfl) ?_
      obtain ⟨x122, s123, hx124, hm125⟩ := bind2E hm114; clear hm114
      refine (p_PutSudog hS121 hx124).mono ?_
      rintro _ w126 ⟨rfl, hS128⟩; clear hS121
      refine ⟨⟨_, hS128.pick1⟩, ?_⟩
      intro a127 hF129; clear hF119
      refine any_many 1 [(9, some (.bool (x122 != 0)))] [0, 1, 5, 6, 7, 8, 48] #[true, true, true, true, true, true, true, true, true, true] (by rfl) hF129 (by kernel_rfl) (by kernel_rfl) (by exact (And.intro (fun wS hw => by kernel_rfl) trivial)) (fun _ _ _ _ _ h => h) ⟨_, hS128.pick1⟩ (l' := [(48, .bool (x122 != 0)), (8, nI x96), (7, nI x76), (6, .slice p84 L72.length c85), (5, nP z24 0), (0, nI x5), (1, nI i1)]) (by kernel_rfl) ?_
      intro a131 hF130; clear hF129
      refine any_done (by kernel_rfl) ?_
      refine thenN ?_
      cases hc132 : (x122 != 0) with
      | true =>
       rw [hc132] at hF130
       have hm133 := ifYes hc132 hm125; clear hm125
       refine ev_condT hF130 rfl rfl ?_
       refine wp_seq (wp_region_lit ?_)
       refine ev_runK 1 hF130 [4] (l' := [(4, .bool false)]) (w' := w126) (by kernel_rfl) ?_
       intro a135 hF134; clear hF130
       refine wpList_nil ?_
       have hS136 := hS128.drop.drop.drop.drop.drop.drop
       clear hS128
       refine thenN ?_
       refine wp_ret ?_
       refine thenR ?_
       refine blockR ?_
       refine thenR (thenR ?_)
       refine blockR ?_
       refine thenR ?_
       obtain rfl := Option.some.inj hm133
       refine ev_ret hF134 [4] (.bool false) rfl rfl rfl ?_
       exact ⟨rfl, hS136⟩
      | false =>
       rw [hc132] at hF130
       have hm138 := ifNot hc132 hm125; clear hm125
       refine ev_condF hF130 rfl rfl ?_
       refine wp_skip ?_
       have hF139 := hF130.keep [0, 1, 5, 6, 7, 8]
       clear hF130
       refine thenN (wp_region_lit ?_)
       refine ev_runs 3 hF139 (l' := [(51, .slice (some ⟨w126.heap.size, 0, none⟩) 1 1), (50, nI x96), (49, .slice p84 L72.length c85), (8, nI x96), (7, nI x76), (6, .slice p84 L72.length c85), (5, nP z24 0), (0, nI x5), (1, nI i1)]) (w' := w126.alloc (.cells #[nI x96] 3)) (by kernel_rfl) ?_
       intro a141 hF140; clear hF139
       have hS142 := hS128.pick5
       clear hS128
       obtain ⟨L143, hx144, hm145⟩ := bind1E hm138; clear hm138
       refine ev_push 52 (.tmp 49) (.tmp 51) hF140 rfl rfl rfl rfl rfl rfl rfl rfl hS142 hx144 ?_
       intro g146 c147 w148 a149 hS150 hF151; clear hF140 hS142
       refine ev_runK 1 hF151 [0, 1, 5, 6, 7] (l' := [(6, .slice (some ⟨g146, 0, none⟩) L143.length c147), (7, nI x76), (5, nP z24 0), (0, nI x5), (1, nI i1)]) (w' := w148) (by kernel_rfl) ?_
       intro a153 hF152; clear hF151
       refine wpList_nil ?_
       refine blockN ?_
       refine thenN (wp_region_lit ?_)
       refine ev_runK 3 hF152 [0, 1, 5, 6, 7] (l' := [(7, nI (IntKind.i64.wrap (x76 + 1))), (6, .slice (some ⟨g146, 0, none⟩) L143.length c147), (5, nP z24 0), (0, nI x5), (1, nI i1)]) (w' := w148) (by kernel_rfl) ?_
       intro a155 hF154; clear hF152
       refine wpList_nil ?_
       have hS156 := hS150.pick5.pick5.pick5.pick4.pick5.pick5
       clear hS150
       exact thenN ⟨k77, Nat.lt_succ_self _, .slice (some ⟨g146, 0, none⟩) L143.length c147, L143, s123, s112, IntKind.i64.wrap (x76 + 1), hF154, hS156, hm145⟩
     | false =>
      rw [hc90] at hF88
      have hm157 := ifNot hc90 hm83; clear hm83
      refine ev_condF hF88 rfl rfl ?_
      refine wp_exit ?_
      refine thenE ?_
      refine thenE ?_
      refine blockE ?_
      refine thenN (wp_seq ?_)
      -- draws
      have hS158 := hS81.pick1
      clear hS81
      have hS159 := hS158.drew; clear hS158
      refine any_start (fun wS => ∃ qs, St w0 F0 (BlkP z24 66 #[nP z25 0, nP z27 0, .slice p39 L16.length c40, .slice p43 L17.length c44] :: qs) wS) 9 #[false, false, false, false, false, false, false, false, false] (by kernel_rfl) (by kernel_rfl) (by kernel_rfl) ?_
      refine any_many 6 [(0, some (nP z24 0)), (1, some (nP z24 0)), (2, some (nP z24 0)), (3, some (nP z25 0)), (4, some (nP z24 0)), (6, some (.slice p84 L72.length c85))] [0, 1, 5, 6, 9, 56, 57, 58, 59, 60] #[true, true, true, true, true, false, true, false, false] (by rfl) hF88 (by kernel_rfl) (by kernel_rfl) (by exact (And.intro (fun wS hw => by kernel_rfl) (And.intro (fun wS hw => by kernel_rfl) (And.intro (fun wS hw => by kernel_rfl) (And.intro (fun wS hw => hw.elim fun qs hw => run_loadV rfl rfl (run_loadS rfl rfl (hw.cell 0 rfl 0 rfl))) (And.intro (fun wS hw => by kernel_rfl) (And.intro (fun wS hw => by kernel_rfl) trivial))))))) (fun _ _ _ _ _ h => h) ⟨_, hS159⟩ (l' := [(59, .slice p84 L72.length c85), (57, nP z24 0), (56, nP z25 0), (6, .slice p84 L72.length c85), (5, nP z24 0), (0, nI x5), (1, nI i1)]) (by kernel_rfl) ?_
      intro a161 hF160; clear hF88
      have hS162 := hS159.pick5.pick5.pick5.pick5.pick4
      clear hS159
      refine any_call 5 #[true, true, true, true, true, true, true, false, false] 41 #[nP z24 0, nI 0] hF160 rfl (by kernel_rfl) rfl rfl (by kernel_rfl) rfl (by kernel_rfl) (fun w => by kernel_rfl) (by kernel_rfl) ?_
      obtain ⟨x163, s164, s165, hx166, hm167⟩ := bind3E hm157; clear hm157
      refine (law14_gor.ok hS162 hx166).mono ?_
      rintro _ w168 ⟨rfl, hS170⟩; clear hS162
      refine ⟨⟨_, hS170⟩, ?_⟩
      intro a169 hF171; clear hF160
      have hS172 := hS170.pick5.pick2
      clear hS170
      refine any_call 7 #[true, true, true, true, true, true, true, true, false] 42 #[nP z25 0, nI x163, .slice p84 L72.length c85] hF171 rfl (by kernel_rfl) rfl rfl (by kernel_rfl) rfl (by kernel_rfl) (fun w => by kernel_rfl) (by kernel_rfl) ?_
      obtain ⟨x173, s174, hx175, hm176⟩ := bind2E hm167; clear hm167
      refine (wake_Park.ok hS172 hx175).mono ?_
      rintro _ w177 ⟨rfl, hS179⟩; clear hS172
      refine ⟨⟨_, hS179.pick2⟩, ?_⟩
      intro a178 hF180; clear hF171
      refine any_many 1 [(8, some (nI x173))] [0, 1, 5, 6, 9] #[true, true, true, true, true, true, true, true, true] (by rfl) hF180 (by kernel_rfl) (by kernel_rfl) (by exact (And.intro (fun wS hw => by kernel_rfl) trivial)) (fun _ _ _ _ _ h => h) ⟨_, hS179.pick2⟩ (l' := [(9, nI x173), (6, .slice p84 L72.length c85), (5, nP z24 0), (0, nI x5), (1, nI i1)]) (by kernel_rfl) ?_
      intro a182 hF181; clear hF180
      refine any_done (by kernel_rfl) ?_
      refine thenN (wp_seq ?_)
      refine joinQ (fun aI wI => ∃ (g183 : Nat) (s184 : HSt) (s185 : HSt) (x186 : Int) (x187 : Int) (x188 : Int) (x189 : Int) (x190 : Int) (x191 : Int) (x192 : Int) (x193 : Int) (x194 : Int) (x195 : Int) (x196 : Int), Fr 182 aI [(11, nI x196), (10, nP g183 0), (9, nI x173), (6, .slice p84 L72.length c85), (5, nP z24 0), (0, nI x5), (1, nI i1)] ∧ St w0 F0 (BlkP g183 70 #[nI x186, nI x187, nI x188, nI x189, nI x190, nI x191, nI x192, nI x193, nI x194, nI x195] :: HeapP z25 z26 s184 :: BlkP z24 66 #[nP z25 0, nP z27 0, .slice p39 L16.length c40, .slice p43 L17.length c44] :: RHeapP z27 z28 z29 z30 z31 s185 :: RowP (.slice p39 L16.length c40) L16 :: RowP (.slice p43 L17.length c44) L17 :: RowP (.slice p84 L72.length c85) L72 :: ps) wI ∧ WakeParks.j3 i1 k x5 L16 L17 L72 x173 s184 s185 x186 x187 x188 x189 x190 x191 x192 x193 x194 x195 x196 = some r0) ?_ ?_
      rotate_left
      · rintro a198 w199 ⟨g183, s184, s185, x186, x187, x188, x189, x190, x191, x192, x193, x194, x195, x196, hF200, hS201, hm202⟩
        clear hF181 hS179 hm176
        unfold WakeParks.j3 at hm202
        refine thenN (wp_seq (wp_seq ?_))
        refine joinQ (fun aI wI => ∃ (y204 : Bool), Fr 182 aI [(102, .bool (y204)), (6, .slice p84 L72.length c85), (5, nP z24 0), (0, nI x5), (1, nI i1)] ∧ St w0 F0 (RowP (.slice p84 L72.length c85) L72 :: HeapP z25 z26 s184 :: BlkP z24 66 #[nP z25 0, nP z27 0, .slice p39 L16.length c40, .slice p43 L17.length c44] :: RHeapP z27 z28 z29 z30 z31 s185 :: RowP (.slice p39 L16.length c40) L16 :: RowP (.slice p43 L17.length c44) L17 :: ps) wI ∧ WakeParks.j4 i1 k x5 L16 L17 L72 s184 s185 y204 = some r0) ?_ ?_
        rotate_left
        · rintro a206 w207 ⟨y204, hF208, hS209, hm210⟩
          clear hF200 hS201 hm202
          unfold WakeParks.j4 at hm210
          refine thenN ?_
          cases hc212 : (y204) with
          | true =>
           rw [hc212] at hF208
           have hm213 := ifYes hc212 hm210; clear hm210
           refine ev_condT hF208 rfl rfl ?_
           refine wp_seq (wp_region_lit ?_)
           refine ev_runK 1 hF208 [4] (l' := [(4, .bool false)]) (w' := w207) (by kernel_rfl) ?_
           intro a215 hF214; clear hF208
           refine wpList_nil ?_
           have hS216 := hS209.drop.drop.drop.drop.drop.drop
           clear hS209
           refine thenN ?_
           refine wp_ret ?_
           refine thenR ?_
           obtain rfl := Option.some.inj hm213
           refine ev_ret hF214 [4] (.bool false) rfl rfl rfl ?_
           exact ⟨rfl, hS216⟩
          | false =>
           rw [hc212] at hF208
           have hm218 := ifNot hc212 hm210; clear hm210
           refine ev_condF hF208 rfl rfl ?_
           refine wp_skip ?_
           have hF219 := hF208.keep [0, 1, 5, 6]
           clear hF208
           refine thenN (wp_seq (wp_seq (wp_region_lit ?_)))
           refine ev_runs 1 hF219 (l' := [(12, nI 0), (6, .slice p84 L72.length c85), (5, nP z24 0), (0, nI x5), (1, nI i1)]) (w' := w207) (by kernel_rfl) ?_
           intro a221 hF220; clear hF219
           refine wpList_nil (thenN ?_)
           refine wp_block ?_
           refine wp_loop_ghost (fun kI aI wI => ∃ (x222 : Int), Fr 182 aI [(12, nI x222), (6, .slice p84 L72.length c85), (5, nP z24 0), (0, nI x5), (1, nI i1)] ∧ St w0 F0 (RowP (.slice p84 L72.length c85) L72 :: HeapP z25 z26 s184 :: BlkP z24 66 #[nP z25 0, nP z27 0, .slice p39 L16.length c40, .slice p43 L17.length c44] :: RHeapP z27 z28 z29 z30 z31 s185 :: RowP (.slice p39 L16.length c40) L16 :: RowP (.slice p43 L17.length c44) L17 :: ps) wI ∧ WakeParks.l7 i1 k x5 L16 L17 L72 s184 s185 kI x222 = some r0) k ⟨0, hF220, hS209, hm218⟩ ?_
           rintro k223 a224 w225 ⟨x222, hF226, hS227, hm228⟩
           clear hF220 hS209 hm218
           cases k223 with
           | zero => cases hm228
           | succ k223 =>
            have hm229 : WakeParks.l7b i1 k x5 L16 L17 L72 s184 s185 (WakeParks.l7 i1 k x5 L16 L17 L72 s184 s185 k223) x222 = some r0 := hm228
            clear hm228
            unfold WakeParks.l7b at hm229
            refine wp_seq (wp_seq (wp_region_lit ?_))
            refine ev_runK 3 hF226 [0, 1, 5, 6, 12, 105] (l' := [(105, .bool (decide (x222 < x5))), (12, nI x222), (6, .slice p84 L72.length c85), (5, nP z24 0), (0, nI x5), (1, nI i1)]) (w' := w225) (by kernel_rfl) ?_
            intro a231 hF230; clear hF226
            refine wpList_nil (thenN ?_)
            cases hc232 : (decide (x222 < x5)) with
            | true =>
             rw [hc232] at hF230
             have hm233 := ifYes hc232 hm229; clear hm229
             refine ev_condT hF230 rfl rfl ?_
             refine wp_skip ?_
             have hF234 := hF230.keep [0, 1, 5, 6, 12]
             clear hF230
             refine thenN (wp_seq ?_)
             refine wp_block ?_
             refine wp_seq ?_
             -- draws
             obtain ⟨hc235, hm236⟩ := ifTE hm233; clear hm233
             obtain ⟨g237, rfl⟩ := hp86.resolve_left (by have := inR_spec hc235; omega)
             have hS238 := hS227.pick2
             clear hS227
             have hS239 := hS238.drew; clear hS238
             refine any_start (fun wS => ∃ qs, St w0 F0 (BlkP z24 66 #[nP z25 0, nP z27 0, .slice p39 L16.length c40, .slice p43 L17.length c44] :: RowP (.slice (some ⟨g237, 0, none⟩) L72.length c85) L72 :: qs) wS) 15 #[false, false, false, false, false, false, false, false, false, false, false, false, false, false, false] (by kernel_rfl) (by kernel_rfl) (by kernel_rfl) ?_
             refine any_many 8 [(0, some (nP z24 0)), (1, some (nP z24 0)), (2, some (nP z24 0)), (3, some (nP z25 0)), (4, some (.slice (some ⟨g237, 0, none⟩) L72.length c85)), (5, some (nI x222)), (6, some (nP g237 (x222.toNat))), (7, some (nI (atI L72 x222)))] [0, 1, 5, 6, 12, 13, 108, 112, 116, 117, 118, 119] #[true, true, true, true, true, true, true, true, false, false, false, false, false, false, false] (by rfl) hF234 (by kernel_rfl) (by kernel_rfl) (by exact (And.intro (fun wS hw => by kernel_rfl) (And.intro (fun wS hw => by kernel_rfl) (And.intro (fun wS hw => by kernel_rfl) (And.intro (fun wS hw => hw.elim fun qs hw => run_loadV rfl rfl (run_loadS rfl rfl (hw.cell 0 rfl 0 rfl))) (And.intro (fun wS hw => by kernel_rfl) (And.intro (fun wS hw => by kernel_rfl) (And.intro (fun wS hw => run_idx rfl rfl rfl rfl rfl (inR_spec hc235).1 (inR_spec hc235).2 _) (And.intro (fun wS hw => run_load1 rfl rfl rfl (hw.elim fun qs hw => hw.atI 1 rfl hc235)) trivial))))))))) (fun _ _ _ _ _ h => h) ⟨_, hS239⟩ (l' := [(116, nI (atI L72 x222)), (112, nP z25 0), (12, nI x222), (6, .slice (some ⟨g237, 0, none⟩) L72.length c85), (5, nP z24 0), (0, nI x5), (1, nI i1)]) (by kernel_rfl) ?_
             intro a241 hF240; clear hF234
             refine any_two 8 12 (by kernel_rfl) ?_ ?_
             · skip
               have hS242 := hS239.pick2
               clear hS239
               refine op_call 8 #[true, true, true, true, true, true, true, true, true, false, false, false, false, false, false] 29 #[nP z25 0, nI (atI L72 x222)] hF240 rfl rfl rfl (by kernel_rfl) rfl (by kernel_rfl) (fun w => by kernel_rfl) (by kernel_rfl) ?_
               obtain ⟨q243, x244, hx245, hm246⟩ := bind2E hm236; clear hm236
               refine (p_Sudog hS242 hx245).mono ?_
               rintro _ w247 ⟨rfl, hS249⟩; clear hS242
               refine ⟨⟨_, hS249.pick2.pick2⟩, ?_⟩
               intro a248 hF250; clear hF240
               refine any_many 3 [(9, some (.tuple #[.agg #[nI (q243.gor), nI (q243.chan), nI (q243.value), nI (q243.next), nI (q243.to), nI (q243.reg), nI (q243.more)], nI x244])), (10, some (.agg #[nI (q243.gor), nI (q243.chan), nI (q243.value), nI (q243.next), nI (q243.to), nI (q243.reg), nI (q243.more)])), (11, some (nI x244))] [0, 1, 5, 6, 12, 13, 118, 119] #[true, true, true, true, true, true, true, true, true, true, true, true, false, false, false] (by rfl) hF250 (by kernel_rfl) (by kernel_rfl) (by exact (And.intro (fun wS hw => by kernel_rfl) (And.intro (fun wS hw => by kernel_rfl) (And.intro (fun wS hw => by kernel_rfl) trivial)))) (fun _ _ _ _ _ h => h) ⟨_, hS249.pick2.pick2⟩ (l' := [(119, nI x244), (118, .agg #[nI (q243.gor), nI (q243.chan), nI (q243.value), nI (q243.next), nI (q243.to), nI (q243.reg), nI (q243.more)]), (12, nI x222), (6, .slice (some ⟨g237, 0, none⟩) L72.length c85), (5, nP z24 0), (0, nI x5), (1, nI i1)]) (by kernel_rfl) ?_
               intro a252 hF251; clear hF250
               refine any_one 12 (by kernel_rfl) ?_
               have hS253 : St w0 F0 (BlkP (w247.heap.size) 54 #[nI 0, nI 0, nI 0, nI 0, nI 0, nI 0, nI 0] :: HeapP z25 z26 s184 :: BlkP z24 66 #[nP z25 0, nP z27 0, .slice p39 L16.length c40, .slice p43 L17.length c44] :: RowP (.slice (some ⟨g237, 0, none⟩) L72.length c85) L72 :: RHeapP z27 z28 z29 z30 z31 s185 :: RowP (.slice p39 L16.length c40) L16 :: RowP (.slice p43 L17.length c44) L17 :: ps) (w247.alloc (.cells #[nI 0, nI 0, nI 0, nI 0, nI 0, nI 0, nI 0] 54)) := St.new hS249 #[nI 0, nI 0, nI 0, nI 0, nI 0, nI 0, nI 0] 54
               clear hS249
               refine op_step 12 #[true, true, true, true, true, true, true, true, true, true, true, true, true, false, false] (nP (w247.heap.size) 0) (w247.alloc (.cells #[nI 0, nI 0, nI 0, nI 0, nI 0, nI 0, nI 0] 54)) hF251 rfl (by kernel_rfl) rfl (by kernel_rfl) (by kernel_rfl) (l' := [(13, nP (w247.heap.size) 0), (119, nI x244), (118, .agg #[nI (q243.gor), nI (q243.chan), nI (q243.value), nI (q243.next), nI (q243.to), nI (q243.reg), nI (q243.more)]), (12, nI x222), (6, .slice (some ⟨g237, 0, none⟩) L72.length c85), (5, nP z24 0), (0, nI x5), (1, nI i1)]) (by kernel_rfl) ⟨_, hS253.pick3.pick3⟩ (by kernel_rfl) ?_
               intro a255 hF254; clear hF251
               refine any_one 13 (by kernel_rfl) ?_
               refine op_store 13 #[true, true, true, true, true, true, true, true, true, true, true, true, true, true, false] (.agg #[nI (q243.gor), nI (q243.chan), nI (q243.value), nI (q243.next), nI (q243.to), nI (q243.reg), nI (q243.more)]) #[nI (q243.gor), nI (q243.chan), nI (q243.value), nI (q243.next), nI (q243.to), nI (q243.reg), nI (q243.more)] hF254 rfl (by kernel_rfl) rfl rfl rfl rfl (by kernel_rfl) hS253 (by kernel_rfl) (by kernel_rfl) (by kernel_rfl) (l' := [(13, nP (w247.heap.size) 0), (119, nI x244), (118, .agg #[nI (q243.gor), nI (q243.chan), nI (q243.value), nI (q243.next), nI (q243.to), nI (q243.reg), nI (q243.more)]), (12, nI x222), (6, .slice (some ⟨g237, 0, none⟩) L72.length c85), (5, nP z24 0), (0, nI x5), (1, nI i1)]) (by kernel_rfl) (by kernel_rfl) ?_
               intro w256 a257 hS258 hF259; clear hF254 hS253
               refine ⟨⟨_, hS258.pick3.pick3⟩, ?_⟩
               refine any_many 1 [(14, some (nI x244))] [0, 1, 5, 6, 12, 13] #[true, true, true, true, true, true, true, true, true, true, true, true, true, true, true] (by rfl) hF259 (by kernel_rfl) (by kernel_rfl) (by exact (And.intro (fun wS hw => by kernel_rfl) trivial)) (fun _ _ _ _ _ h => h) ⟨_, hS258.pick3.pick3⟩ (l' := [(13, nP (w247.heap.size) 0), (12, nI x222), (6, .slice (some ⟨g237, 0, none⟩) L72.length c85), (5, nP z24 0), (0, nI x5), (1, nI i1)]) (by kernel_rfl) ?_
               intro a261 hF260; clear hF259
               refine any_done (by kernel_rfl) ?_
               refine thenN (wp_seq (wp_region_lit ?_))
               refine ev_runs 1 hF260 (l' := [(15, nI (-1)), (13, nP (w247.heap.size) 0), (12, nI x222), (6, .slice (some ⟨g237, 0, none⟩) L72.length c85), (5, nP z24 0), (0, nI x5), (1, nI i1)]) (w' := w256) (by kernel_rfl) ?_
               intro a263 hF262; clear hF260
               refine wpList_nil (thenN (wp_seq (wp_seq (wp_region_lit ?_))))
               refine ev_runK 4 hF262 [0, 1, 5, 6, 12, 13, 15, 123] (l' := [(123, .bool (decide ((IntKind.i64.wrap (x222 + 1)) < x5))), (15, nI (-1)), (13, nP (w247.heap.size) 0), (12, nI x222), (6, .slice (some ⟨g237, 0, none⟩) L72.length c85), (5, nP z24 0), (0, nI x5), (1, nI i1)]) (w' := w256) (by kernel_rfl) ?_
               intro a265 hF264; clear hF262
               refine wpList_nil (thenN ?_)
               refine joinQ (fun aI wI => ∃ (x266 : Int), Fr 182 aI [(15, nI x266), (13, nP (w247.heap.size) 0), (12, nI x222), (6, .slice (some ⟨g237, 0, none⟩) L72.length c85), (5, nP z24 0), (0, nI x5), (1, nI i1)] ∧ St w0 F0 (BlkP (w247.heap.size) 54 #[nI (q243.gor), nI (q243.chan), nI (q243.value), nI (q243.next), nI (q243.to), nI (q243.reg), nI (q243.more)] :: HeapP z25 z26 s184 :: BlkP z24 66 #[nP z25 0, nP z27 0, .slice p39 L16.length c40, .slice p43 L17.length c44] :: RowP (.slice (some ⟨g237, 0, none⟩) L72.length c85) L72 :: RHeapP z27 z28 z29 z30 z31 s185 :: RowP (.slice p39 L16.length c40) L16 :: RowP (.slice p43 L17.length c44) L17 :: ps) wI ∧ WakeParks.j8 x222 (WakeParks.l7 i1 k x5 L16 L17 L72 s184 s185 k223) q243 x266 = some r0) ?_ ?_
               rotate_left
               · rintro a268 w269 ⟨x266, hF270, hS271, hm272⟩
                 clear hF264 hS258 hm246
                 unfold WakeParks.j8 at hm272
                 refine thenN (wp_seq (wp_region_lit ?_))
                 refine ev_runs 1 hF270 (l' := [(129, nP (w247.heap.size) 6), (15, nI x266), (13, nP (w247.heap.size) 0), (12, nI x222), (6, .slice (some ⟨g237, 0, none⟩) L72.length c85), (5, nP z24 0), (0, nI x5), (1, nI i1)]) (w' := w269) (by kernel_rfl) ?_
                 intro a275 hF274; clear hF270
                 refine ev_one (nI (q243.more)) w269 hF274 (by kernel_rfl) rfl (by kernel_rfl) (run_loadV rfl rfl (run_loadS rfl rfl (hS271.cell 0 rfl 6 rfl))) (l' := [(130, nI (q243.more)), (129, nP (w247.heap.size) 6), (15, nI x266), (13, nP (w247.heap.size) 0), (12, nI x222), (6, .slice (some ⟨g237, 0, none⟩) L72.length c85), (5, nP z24 0), (0, nI x5), (1, nI i1)]) (by kernel_rfl) ?_
                 intro a277 hF276; clear hF274
                 refine ev_runK 2 hF276 [0, 1, 5, 6, 12, 132] (l' := [(132, .bool (q243.more != x266)), (12, nI x222), (6, .slice (some ⟨g237, 0, none⟩) L72.length c85), (5, nP z24 0), (0, nI x5), (1, nI i1)]) (w' := w269) (by kernel_rfl) ?_
                 intro a279 hF278; clear hF276
                 refine wpList_nil ?_
                 have hS280 := hS271.drop
                 clear hS271
                 refine thenN ?_
                 cases hc281 : (q243.more != x266) with
                 | true =>
                  rw [hc281] at hF278
                  have hm282 := ifYes hc281 hm272; clear hm272
                  refine ev_condT hF278 rfl rfl ?_
                  refine wp_seq (wp_region_lit ?_)
                  refine ev_runK 1 hF278 [4] (l' := [(4, .bool false)]) (w' := w269) (by kernel_rfl) ?_
                  intro a284 hF283; clear hF278
                  refine wpList_nil ?_
                  have hS285 := hS280.drop.drop.drop.drop.drop.drop
                  clear hS280
                  refine thenN ?_
                  refine wp_ret ?_
                  refine blockR ?_
                  refine thenR (thenR ?_)
                  refine blockR ?_
                  refine thenR ?_
                  obtain rfl := Option.some.inj hm282
                  refine ev_ret hF283 [4] (.bool false) rfl rfl rfl ?_
                  exact ⟨rfl, hS285⟩
                 | false =>
                  rw [hc281] at hF278
                  have hm287 := ifNot hc281 hm272; clear hm272
                  refine ev_condF hF278 rfl rfl ?_
                  refine wp_skip ?_
                  have hF288 := hF278.keep [0, 1, 5, 6, 12]
                  clear hF278
                  refine blockN ?_
                  refine thenN (wp_region_lit ?_)
                  refine ev_runK 3 hF288 [0, 1, 5, 6, 12] (l' := [(12, nI (IntKind.i64.wrap (x222 + 1))), (6, .slice (some ⟨g237, 0, none⟩) L72.length c85), (5, nP z24 0), (0, nI x5), (1, nI i1)]) (w' := w269) (by kernel_rfl) ?_
                  intro a290 hF289; clear hF288
                  refine wpList_nil ?_
                  have hS291 := hS280.pick5.pick5.pick5.pick4.pick4.pick5
                  clear hS280
                  exact thenN ⟨k223, Nat.lt_succ_self _, IntKind.i64.wrap (x222 + 1), hF289, hS291, hm287⟩
               · skip
                 cases hc292 : (decide ((IntKind.i64.wrap (x222 + 1)) < x5)) with
                 | true =>
                  rw [hc292] at hF264
                  have hm293 := ifYes hc292 hm246; clear hm246
                  refine ev_condT hF264 rfl rfl ?_
                  refine wp_region_lit ?_
                  refine ev_runs 3 hF264 (l' := [(126, nI (IntKind.i64.wrap (x222 + 1))), (125, nI x222), (124, .slice (some ⟨g237, 0, none⟩) L72.length c85), (123, .bool true), (15, nI (-1)), (13, nP (w247.heap.size) 0), (12, nI x222), (6, .slice (some ⟨g237, 0, none⟩) L72.length c85), (5, nP z24 0), (0, nI x5), (1, nI i1)]) (w' := w256) (by kernel_rfl) ?_
                  intro a295 hF294; clear hF264
                  obtain ⟨hc296, hm297⟩ := ifTE hm293; clear hm293
                  refine ev_one (nP g237 ((IntKind.i64.wrap (x222 + 1)).toNat)) w256 hF294 (by kernel_rfl) rfl (by kernel_rfl) (run_idx rfl rfl rfl rfl rfl (inR_spec hc296).1 (inR_spec hc296).2 _) (l' := [(127, nP g237 ((IntKind.i64.wrap (x222 + 1)).toNat)), (126, nI (IntKind.i64.wrap (x222 + 1))), (125, nI x222), (124, .slice (some ⟨g237, 0, none⟩) L72.length c85), (123, .bool true), (15, nI (-1)), (13, nP (w247.heap.size) 0), (12, nI x222), (6, .slice (some ⟨g237, 0, none⟩) L72.length c85), (5, nP z24 0), (0, nI x5), (1, nI i1)]) (by kernel_rfl) ?_
                  intro a299 hF298; clear hF294
                  refine ev_one (nI (atI L72 (IntKind.i64.wrap (x222 + 1)))) w256 hF298 (by kernel_rfl) rfl (by kernel_rfl) (run_load1 rfl rfl rfl (hS258.atI 3 rfl hc296)) (l' := [(128, nI (atI L72 (IntKind.i64.wrap (x222 + 1)))), (127, nP g237 ((IntKind.i64.wrap (x222 + 1)).toNat)), (126, nI (IntKind.i64.wrap (x222 + 1))), (125, nI x222), (124, .slice (some ⟨g237, 0, none⟩) L72.length c85), (123, .bool true), (15, nI (-1)), (13, nP (w247.heap.size) 0), (12, nI x222), (6, .slice (some ⟨g237, 0, none⟩) L72.length c85), (5, nP z24 0), (0, nI x5), (1, nI i1)]) (by kernel_rfl) ?_
                  intro a301 hF300; clear hF298
                  refine ev_runK 1 hF300 [0, 1, 5, 6, 12, 13, 15] (l' := [(15, nI (atI L72 (IntKind.i64.wrap (x222 + 1)))), (13, nP (w247.heap.size) 0), (12, nI x222), (6, .slice (some ⟨g237, 0, none⟩) L72.length c85), (5, nP z24 0), (0, nI x5), (1, nI i1)]) (w' := w256) (by kernel_rfl) ?_
                  intro a303 hF302; clear hF300
                  refine wpList_nil ?_
                  exact thenN ⟨atI L72 (IntKind.i64.wrap (x222 + 1)), hF302, hS258, hm297⟩
                 | false =>
                  rw [hc292] at hF264
                  have hm304 := ifNot hc292 hm246; clear hm246
                  refine ev_condF hF264 rfl rfl ?_
                  refine wp_skip ?_
                  have hF305 := hF264.keep [0, 1, 5, 6, 12, 13, 15]
                  clear hF264
                  exact thenN ⟨-1, hF305, hS258, hm304⟩
             · skip
               have hS306 : St w0 F0 (BlkP ((w225.drew).heap.size) 54 #[nI 0, nI 0, nI 0, nI 0, nI 0, nI 0, nI 0] :: BlkP z24 66 #[nP z25 0, nP z27 0, .slice p39 L16.length c40, .slice p43 L17.length c44] :: RowP (.slice (some ⟨g237, 0, none⟩) L72.length c85) L72 :: HeapP z25 z26 s184 :: RHeapP z27 z28 z29 z30 z31 s185 :: RowP (.slice p39 L16.length c40) L16 :: RowP (.slice p43 L17.length c44) L17 :: ps) ((w225.drew).alloc (.cells #[nI 0, nI 0, nI 0, nI 0, nI 0, nI 0, nI 0] 54)) := St.new hS239 #[nI 0, nI 0, nI 0, nI 0, nI 0, nI 0, nI 0] 54
               clear hS239
               refine op_step 12 #[true, true, true, true, true, true, true, true, false, false, false, false, true, false, false] (nP ((w225.drew).heap.size) 0) ((w225.drew).alloc (.cells #[nI 0, nI 0, nI 0, nI 0, nI 0, nI 0, nI 0] 54)) hF240 rfl (by kernel_rfl) rfl (by kernel_rfl) (by kernel_rfl) (l' := [(13, nP ((w225.drew).heap.size) 0), (116, nI (atI L72 x222)), (112, nP z25 0), (12, nI x222), (6, .slice (some ⟨g237, 0, none⟩) L72.length c85), (5, nP z24 0), (0, nI x5), (1, nI i1)]) (by kernel_rfl) ⟨_, hS306.pick2.pick2⟩ (by kernel_rfl) ?_
               intro a308 hF307; clear hF240
               have hS309 := hS306.pick3
               clear hS306
               refine any_call 8 #[true, true, true, true, true, true, true, true, true, false, false, false, true, false, false] 29 #[nP z25 0, nI (atI L72 x222)] hF307 rfl (by kernel_rfl) rfl rfl (by kernel_rfl) rfl (by kernel_rfl) (fun w => by kernel_rfl) (by kernel_rfl) ?_
               obtain ⟨q310, x311, hx312, hm313⟩ := bind2E hm236; clear hm236
               refine (p_Sudog hS309 hx312).mono ?_
               rintro _ w314 ⟨rfl, hS316⟩; clear hS309
               refine ⟨⟨_, hS316.pick3.pick3⟩, ?_⟩
               intro a315 hF317; clear hF307
               refine any_many 3 [(9, some (.tuple #[.agg #[nI (q310.gor), nI (q310.chan), nI (q310.value), nI (q310.next), nI (q310.to), nI (q310.reg), nI (q310.more)], nI x311])), (10, some (.agg #[nI (q310.gor), nI (q310.chan), nI (q310.value), nI (q310.next), nI (q310.to), nI (q310.reg), nI (q310.more)])), (11, some (nI x311))] [0, 1, 5, 6, 12, 13, 118, 119] #[true, true, true, true, true, true, true, true, true, true, true, true, true, false, false] (by rfl) hF317 (by kernel_rfl) (by kernel_rfl) (by exact (And.intro (fun wS hw => by kernel_rfl) (And.intro (fun wS hw => by kernel_rfl) (And.intro (fun wS hw => by kernel_rfl) trivial)))) (fun _ _ _ _ _ h => h) ⟨_, hS316.pick3.pick3⟩ (l' := [(119, nI x311), (118, .agg #[nI (q310.gor), nI (q310.chan), nI (q310.value), nI (q310.next), nI (q310.to), nI (q310.reg), nI (q310.more)]), (13, nP ((w225.drew).heap.size) 0), (12, nI x222), (6, .slice (some ⟨g237, 0, none⟩) L72.length c85), (5, nP z24 0), (0, nI x5), (1, nI i1)]) (by kernel_rfl) ?_
               intro a319 hF318; clear hF317
               refine any_one 13 (by kernel_rfl) ?_
               have hS320 := hS316.pick1
               clear hS316
               refine op_store 13 #[true, true, true, true, true, true, true, true, true, true, true, true, true, true, false] (.agg #[nI (q310.gor), nI (q310.chan), nI (q310.value), nI (q310.next), nI (q310.to), nI (q310.reg), nI (q310.more)]) #[nI (q310.gor), nI (q310.chan), nI (q310.value), nI (q310.next), nI (q310.to), nI (q310.reg), nI (q310.more)] hF318 rfl (by kernel_rfl) rfl rfl rfl rfl (by kernel_rfl) hS320 (by kernel_rfl) (by kernel_rfl) (by kernel_rfl) (l' := [(119, nI x311), (118, .agg #[nI (q310.gor), nI (q310.chan), nI (q310.value), nI (q310.next), nI (q310.to), nI (q310.reg), nI (q310.more)]), (13, nP ((w225.drew).heap.size) 0), (12, nI x222), (6, .slice (some ⟨g237, 0, none⟩) L72.length c85), (5, nP z24 0), (0, nI x5), (1, nI i1)]) (by kernel_rfl) (by kernel_rfl) ?_
               intro w321 a322 hS323 hF324; clear hF318 hS320
               refine ⟨⟨_, hS323.pick3.pick3⟩, ?_⟩
               refine any_many 1 [(14, some (nI x311))] [0, 1, 5, 6, 12, 13] #[true, true, true, true, true, true, true, true, true, true, true, true, true, true, true] (by rfl) hF324 (by kernel_rfl) (by kernel_rfl) (by exact (And.intro (fun wS hw => by kernel_rfl) trivial)) (fun _ _ _ _ _ h => h) ⟨_, hS323.pick3.pick3⟩ (l' := [(13, nP ((w225.drew).heap.size) 0), (12, nI x222), (6, .slice (some ⟨g237, 0, none⟩) L72.length c85), (5, nP z24 0), (0, nI x5), (1, nI i1)]) (by kernel_rfl) ?_
               intro a326 hF325; clear hF324
               refine any_done (by kernel_rfl) ?_
               refine thenN (wp_seq (wp_region_lit ?_))
               refine ev_runs 1 hF325 (l' := [(15, nI (-1)), (13, nP ((w225.drew).heap.size) 0), (12, nI x222), (6, .slice (some ⟨g237, 0, none⟩) L72.length c85), (5, nP z24 0), (0, nI x5), (1, nI i1)]) (w' := w321) (by kernel_rfl) ?_
               intro a328 hF327; clear hF325
               refine wpList_nil (thenN (wp_seq (wp_seq (wp_region_lit ?_))))
               refine ev_runK 4 hF327 [0, 1, 5, 6, 12, 13, 15, 123] (l' := [(123, .bool (decide ((IntKind.i64.wrap (x222 + 1)) < x5))), (15, nI (-1)), (13, nP ((w225.drew).heap.size) 0), (12, nI x222), (6, .slice (some ⟨g237, 0, none⟩) L72.length c85), (5, nP z24 0), (0, nI x5), (1, nI i1)]) (w' := w321) (by kernel_rfl) ?_
               intro a330 hF329; clear hF327
               refine wpList_nil (thenN ?_)
               refine joinQ (fun aI wI => ∃ (x331 : Int), Fr 182 aI [(15, nI x331), (13, nP ((w225.drew).heap.size) 0), (12, nI x222), (6, .slice (some ⟨g237, 0, none⟩) L72.length c85), (5, nP z24 0), (0, nI x5), (1, nI i1)] ∧ St w0 F0 (BlkP ((w225.drew).heap.size) 54 #[nI (q310.gor), nI (q310.chan), nI (q310.value), nI (q310.next), nI (q310.to), nI (q310.reg), nI (q310.more)] :: HeapP z25 z26 s184 :: BlkP z24 66 #[nP z25 0, nP z27 0, .slice p39 L16.length c40, .slice p43 L17.length c44] :: RowP (.slice (some ⟨g237, 0, none⟩) L72.length c85) L72 :: RHeapP z27 z28 z29 z30 z31 s185 :: RowP (.slice p39 L16.length c40) L16 :: RowP (.slice p43 L17.length c44) L17 :: ps) wI ∧ WakeParks.j8 x222 (WakeParks.l7 i1 k x5 L16 L17 L72 s184 s185 k223) q310 x331 = some r0) ?_ ?_
               rotate_left
               · rintro a333 w334 ⟨x331, hF335, hS336, hm337⟩
                 clear hF329 hS323 hm313
                 unfold WakeParks.j8 at hm337
                 refine thenN (wp_seq (wp_region_lit ?_))
                 refine ev_runs 1 hF335 (l' := [(129, nP ((w225.drew).heap.size) 6), (15, nI x331), (13, nP ((w225.drew).heap.size) 0), (12, nI x222), (6, .slice (some ⟨g237, 0, none⟩) L72.length c85), (5, nP z24 0), (0, nI x5), (1, nI i1)]) (w' := w334) (by kernel_rfl) ?_
                 intro a340 hF339; clear hF335
                 refine ev_one (nI (q310.more)) w334 hF339 (by kernel_rfl) rfl (by kernel_rfl) (run_loadV rfl rfl (run_loadS rfl rfl (hS336.cell 0 rfl 6 rfl))) (l' := [(130, nI (q310.more)), (129, nP ((w225.drew).heap.size) 6), (15, nI x331), (13, nP ((w225.drew).heap.size) 0), (12, nI x222), (6, .slice (some ⟨g237, 0, none⟩) L72.length c85), (5, nP z24 0), (0, nI x5), (1, nI i1)]) (by kernel_rfl) ?_
                 intro a342 hF341; clear hF339
                 refine ev_runK 2 hF341 [0, 1, 5, 6, 12, 132] (l' := [(132, .bool (q310.more != x331)), (12, nI x222), (6, .slice (some ⟨g237, 0, none⟩) L72.length c85), (5, nP z24 0), (0, nI x5), (1, nI i1)]) (w' := w334) (by kernel_rfl) ?_
                 intro a344 hF343; clear hF341
                 refine wpList_nil ?_
                 have hS345 := hS336.drop
                 clear hS336
                 refine thenN ?_
                 cases hc346 : (q310.more != x331) with
                 | true =>
                  rw [hc346] at hF343
                  have hm347 := ifYes hc346 hm337; clear hm337
                  refine ev_condT hF343 rfl rfl ?_
                  refine wp_seq (wp_region_lit ?_)
                  refine ev_runK 1 hF343 [4] (l' := [(4, .bool false)]) (w' := w334) (by kernel_rfl) ?_
                  intro a349 hF348; clear hF343
                  refine wpList_nil ?_
                  have hS350 := hS345.drop.drop.drop.drop.drop.drop
                  clear hS345
                  refine thenN ?_
                  refine wp_ret ?_
                  refine blockR ?_
                  refine thenR (thenR ?_)
                  refine blockR ?_
                  refine thenR ?_
                  obtain rfl := Option.some.inj hm347
                  refine ev_ret hF348 [4] (.bool false) rfl rfl rfl ?_
                  exact ⟨rfl, hS350⟩
                 | false =>
                  rw [hc346] at hF343
                  have hm352 := ifNot hc346 hm337; clear hm337
                  refine ev_condF hF343 rfl rfl ?_
                  refine wp_skip ?_
                  have hF353 := hF343.keep [0, 1, 5, 6, 12]
                  clear hF343
                  refine blockN ?_
                  refine thenN (wp_region_lit ?_)
                  refine ev_runK 3 hF353 [0, 1, 5, 6, 12] (l' := [(12, nI (IntKind.i64.wrap (x222 + 1))), (6, .slice (some ⟨g237, 0, none⟩) L72.length c85), (5, nP z24 0), (0, nI x5), (1, nI i1)]) (w' := w334) (by kernel_rfl) ?_
                  intro a355 hF354; clear hF353
                  refine wpList_nil ?_
                  have hS356 := hS345.pick5.pick5.pick5.pick4.pick4.pick5
                  clear hS345
                  exact thenN ⟨k223, Nat.lt_succ_self _, IntKind.i64.wrap (x222 + 1), hF354, hS356, hm352⟩
               · skip
                 cases hc357 : (decide ((IntKind.i64.wrap (x222 + 1)) < x5)) with
                 | true =>
                  rw [hc357] at hF329
                  have hm358 := ifYes hc357 hm313; clear hm313
                  refine ev_condT hF329 rfl rfl ?_
                  refine wp_region_lit ?_
                  refine ev_runs 3 hF329 (l' := [(126, nI (IntKind.i64.wrap (x222 + 1))), (125, nI x222), (124, .slice (some ⟨g237, 0, none⟩) L72.length c85), (123, .bool true), (15, nI (-1)), (13, nP ((w225.drew).heap.size) 0), (12, nI x222), (6, .slice (some ⟨g237, 0, none⟩) L72.length c85), (5, nP z24 0), (0, nI x5), (1, nI i1)]) (w' := w321) (by kernel_rfl) ?_
                  intro a360 hF359; clear hF329
                  obtain ⟨hc361, hm362⟩ := ifTE hm358; clear hm358
                  refine ev_one (nP g237 ((IntKind.i64.wrap (x222 + 1)).toNat)) w321 hF359 (by kernel_rfl) rfl (by kernel_rfl) (run_idx rfl rfl rfl rfl rfl (inR_spec hc361).1 (inR_spec hc361).2 _) (l' := [(127, nP g237 ((IntKind.i64.wrap (x222 + 1)).toNat)), (126, nI (IntKind.i64.wrap (x222 + 1))), (125, nI x222), (124, .slice (some ⟨g237, 0, none⟩) L72.length c85), (123, .bool true), (15, nI (-1)), (13, nP ((w225.drew).heap.size) 0), (12, nI x222), (6, .slice (some ⟨g237, 0, none⟩) L72.length c85), (5, nP z24 0), (0, nI x5), (1, nI i1)]) (by kernel_rfl) ?_
                  intro a364 hF363; clear hF359
                  refine ev_one (nI (atI L72 (IntKind.i64.wrap (x222 + 1)))) w321 hF363 (by kernel_rfl) rfl (by kernel_rfl) (run_load1 rfl rfl rfl (hS323.atI 3 rfl hc361)) (l' := [(128, nI (atI L72 (IntKind.i64.wrap (x222 + 1)))), (127, nP g237 ((IntKind.i64.wrap (x222 + 1)).toNat)), (126, nI (IntKind.i64.wrap (x222 + 1))), (125, nI x222), (124, .slice (some ⟨g237, 0, none⟩) L72.length c85), (123, .bool true), (15, nI (-1)), (13, nP ((w225.drew).heap.size) 0), (12, nI x222), (6, .slice (some ⟨g237, 0, none⟩) L72.length c85), (5, nP z24 0), (0, nI x5), (1, nI i1)]) (by kernel_rfl) ?_
                  intro a366 hF365; clear hF363
                  refine ev_runK 1 hF365 [0, 1, 5, 6, 12, 13, 15] (l' := [(15, nI (atI L72 (IntKind.i64.wrap (x222 + 1)))), (13, nP ((w225.drew).heap.size) 0), (12, nI x222), (6, .slice (some ⟨g237, 0, none⟩) L72.length c85), (5, nP z24 0), (0, nI x5), (1, nI i1)]) (w' := w321) (by kernel_rfl) ?_
                  intro a368 hF367; clear hF365
                  refine wpList_nil ?_
                  exact thenN ⟨atI L72 (IntKind.i64.wrap (x222 + 1)), hF367, hS323, hm362⟩
                 | false =>
                  rw [hc357] at hF329
                  have hm369 := ifNot hc357 hm313; clear hm313
                  refine ev_condF hF329 rfl rfl ?_
                  refine wp_skip ?_
                  have hF370 := hF329.keep [0, 1, 5, 6, 12, 13, 15]
                  clear hF329
                  exact thenN ⟨-1, hF370, hS323, hm369⟩
            | false =>
             rw [hc232] at hF230
             have hm371 := ifNot hc232 hm229; clear hm229
             refine ev_condF hF230 rfl rfl ?_
             refine wp_exit ?_
             refine thenE ?_
             refine thenE ?_
             refine blockE ?_
             refine thenN (wp_seq ?_)
             -- draws
             have hS372 := hS227.pick2
             clear hS227
             have hS373 := hS372.drew; clear hS372
             refine any_start (fun wS => ∃ qs, St w0 F0 (BlkP z24 66 #[nP z25 0, nP z27 0, .slice p39 L16.length c40, .slice p43 L17.length c44] :: qs) wS) 12 #[false, false, false, false, false, false, false, false, false, false, false, false] (by kernel_rfl) (by kernel_rfl) (by kernel_rfl) ?_
             refine any_many 5 [(0, some (nP z24 0)), (1, some (nP z24 0)), (2, some (nP z24 0)), (3, some (nP z25 0)), (4, some (nP z24 0))] [1, 5, 17, 133, 137, 138, 139, 140, 141, 142] #[true, true, true, true, true, false, false, false, false, false, false, false] (by rfl) hF230 (by kernel_rfl) (by kernel_rfl) (by exact (And.intro (fun wS hw => by kernel_rfl) (And.intro (fun wS hw => by kernel_rfl) (And.intro (fun wS hw => by kernel_rfl) (And.intro (fun wS hw => hw.elim fun qs hw => run_loadV rfl rfl (run_loadS rfl rfl (hw.cell 0 rfl 0 rfl))) (And.intro (fun wS hw => by kernel_rfl) trivial)))))) (fun _ _ _ _ _ h => h) ⟨_, hS373⟩ (l' := [(138, nP z24 0), (137, nP z25 0), (5, nP z24 0), (1, nI i1)]) (by kernel_rfl) ?_
             intro a375 hF374; clear hF230
             have hS376 := hS373.pick5.pick5.pick5.pick5.pick4
             clear hS373
             refine any_call 5 #[true, true, true, true, true, true, false, false, false, false, false, false] 43 #[nP z24 0, nI 0] hF374 rfl (by kernel_rfl) rfl rfl (by kernel_rfl) rfl (by kernel_rfl) (fun w => by kernel_rfl) (by kernel_rfl) ?_
             obtain ⟨x377, s378, s379, hx380, hm381⟩ := bind3E hm371; clear hm371
             refine (law14_ch.ok hS376 hx380).mono ?_
             rintro _ w382 ⟨rfl, hS384⟩; clear hS376
             refine ⟨⟨_, hS384⟩, ?_⟩
             intro a383 hF385; clear hF374
             have hS386 := hS384.pick1
             clear hS384
             refine any_call 6 #[true, true, true, true, true, true, true, false, false, false, false, false] 38 #[nP z25 0, nI x377, nI 0] hF385 rfl (by kernel_rfl) rfl rfl (by kernel_rfl) rfl (by kernel_rfl) (fun w => by kernel_rfl) (by kernel_rfl) ?_
             obtain ⟨x387, x388, s389, hx390, hm391⟩ := bind3E hm381; clear hm381
             refine (wake_Wake.ok hS386 hx390).mono ?_
             rintro _ w392 ⟨rfl, hS394⟩; clear hS386
             refine ⟨⟨_, hS394.pick1⟩, ?_⟩
             intro a393 hF395; clear hF385
             refine any_many 5 [(7, some (.tuple #[nI x387, nI x388])), (8, some (nI x387)), (9, some (nI x388)), (10, some (nI x387)), (11, some (nI x388))] [1, 5, 17] #[true, true, true, true, true, true, true, true, true, true, true, true] (by rfl) hF395 (by kernel_rfl) (by kernel_rfl) (by exact (And.intro (fun wS hw => by kernel_rfl) (And.intro (fun wS hw => by kernel_rfl) (And.intro (fun wS hw => by kernel_rfl) (And.intro (fun wS hw => by kernel_rfl) (And.intro (fun wS hw => by kernel_rfl) trivial)))))) (fun _ _ _ _ _ h => h) ⟨_, hS394.pick1⟩ (l' := [(17, nI x388), (5, nP z24 0), (1, nI i1)]) (by kernel_rfl) ?_
             intro a397 hF396; clear hF395
             refine any_done (by kernel_rfl) ?_
             have hS398 := hS394.pick5.drop
             clear hS394
             refine thenN (wp_seq (wp_region_lit ?_))
             refine ev_runs 1 hF396 (l' := [(144, nI i1), (17, nI x388), (5, nP z24 0), (1, nI i1)]) (w' := w392) (by kernel_rfl) ?_
             intro a400 hF399; clear hF396
             refine ev_call 38 #[.pointer none, nI i1, nI 0] hF399 rfl rfl (by kernel_rfl) rfl (by kernel_rfl) (fun w => by kernel_rfl) ?_
             obtain ⟨x401, x402, hx403, hm404⟩ := bind2E hm391; clear hm391
             refine (wake_WakeN.ok hS398 hx403).mono ?_
             rintro _ w405 ⟨rfl, hS407⟩ a406 hF408; clear hF399 hS398
             refine ev_runK 5 hF408 [1, 5, 17, 19] (l' := [(19, nI x402), (17, nI x388), (5, nP z24 0), (1, nI i1)]) (w' := w405) (by kernel_rfl) ?_
             intro a410 hF409; clear hF408
             refine wpList_nil (thenN (wp_seq ?_))
             refine joinQ (fun aI wI => ∃ (y411 : Bool), Fr 182 aI [(4, .bool (y411))] ∧ St w0 F0 (ps) wI ∧ WakeParks.j9 y411 = some r0) ?_ ?_
             rotate_left
             · rintro a413 w414 ⟨y411, hF415, hS416, hm417⟩
               clear hF409 hS407 hm404
               unfold WakeParks.j9 at hm417
               refine thenN ?_
               refine wp_ret ?_
               obtain rfl := Option.some.inj hm417
               refine ev_ret hF415 [4] (.bool (y411)) rfl rfl rfl ?_
               exact ⟨rfl, hS416⟩
             · skip
               -- draws
               have hS420 := hS407.pick1
               clear hS407
               have hS421 := hS420.drew; clear hS420
               refine any_start (fun wS => ∃ qs, St w0 F0 (BlkP z24 66 #[nP z25 0, nP z27 0, .slice p39 L16.length c40, .slice p43 L17.length c44] :: qs) wS) 35 #[false, false, false, false, false, false, false, false, false, false, false, false, false, false, false, false, false, false, false, false, false, false, false, false, false, false, false, false, false, false, false, false, false, false, false] (by kernel_rfl) (by kernel_rfl) (by kernel_rfl) ?_
               refine any_many 3 [(0, some (nI x388)), (1, some (.bool (x388 == 10))), (2, some (.bool (x388 == 10)))] [1, 4, 5, 19, 150, 151, 152, 153, 154, 155, 156, 157, 158, 159, 160, 161, 162, 163, 164, 165, 166, 167, 168, 169, 170, 171, 172, 173, 174, 175, 176, 177, 178, 179, 180, 181] #[true, true, true, false, false, false, false, false, false, false, false, false, false, false, false, false, false, false, false, false, false, false, false, false, false, false, false, false, false, false, false, false, false, false, false] (by rfl) hF409 (by kernel_rfl) (by kernel_rfl) (by exact (And.intro (fun wS hw => by kernel_rfl) (And.intro (fun wS hw => by kernel_rfl) (And.intro (fun wS hw => by kernel_rfl) trivial)))) (fun _ _ _ _ _ h => h) ⟨_, hS421⟩ (l' := [(150, .bool (x388 == 10)), (19, nI x402), (5, nP z24 0), (1, nI i1)]) (by kernel_rfl) ?_
               intro a423 hF422; clear hF409
               cases hc424 : (x388 == 10) with
               | true =>
                rw [hc424] at hF422
                have hm425 := ifYes hc424 hm404; clear hm404
                refine any_many 4 [(3, some (nI x402)), (4, some (.bool (x402 == 2))), (5, some (.bool (x402 == 2))), (6, some (.bool (x402 == 2)))] [1, 4, 5, 154, 155, 156, 157, 158, 159, 160, 161, 162, 163, 164, 165, 166, 167, 168, 169, 170, 171, 172, 173, 174, 175, 176, 177, 178, 179, 180, 181] #[true, true, true, true, true, true, true, false, false, false, false, false, false, false, false, false, false, false, false, false, false, false, false, false, false, false, false, false, false, false, false, false, false, false, false] (by rfl) hF422 (by kernel_rfl) (by kernel_rfl) (by exact (And.intro (fun wS hw => by kernel_rfl) (And.intro (fun wS hw => by kernel_rfl) (And.intro (fun wS hw => by kernel_rfl) (And.intro (fun wS hw => by kernel_rfl) trivial))))) (fun _ _ _ _ _ h => h) ⟨_, hS421⟩ (l' := [(154, .bool (x402 == 2)), (5, nP z24 0), (1, nI i1)]) (by kernel_rfl) ?_
                intro a427 hF426; clear hF422
                cases hc428 : (x402 == 2) with
                | true =>
                 rw [hc428] at hF426
                 have hm429 := ifYes hc428 hm425; clear hm425
                 refine any_many 1 [(7, some (nI i1))] [4, 5, 154, 155, 156, 157, 158, 159, 160, 161, 162, 163, 164, 165, 166, 167, 168, 169, 170, 171, 172, 173, 174, 175, 176, 177, 178, 179, 180, 181] #[true, true, true, true, true, true, true, true, false, false, false, false, false, false, false, false, false, false, false, false, false, false, false, false, false, false, false, false, false, false, false, false, false, false, false] (by rfl) hF426 (by kernel_rfl) (by kernel_rfl) (by exact (And.intro (fun wS hw => by kernel_rfl) trivial)) (fun _ _ _ _ _ h => h) ⟨_, hS421⟩ (l' := [(155, nI i1), (154, .bool true), (5, nP z24 0)]) (by kernel_rfl) ?_
                 intro a431 hF430; clear hF426
                 have hS433 : St w0 F0 (RowP (.slice none 0 0) [] :: BlkP z24 66 #[nP z25 0, nP z27 0, .slice p39 L16.length c40, .slice p43 L17.length c44] :: HeapP z25 z26 s389 :: RHeapP z27 z28 z29 z30 z31 s379 :: RowP (.slice p39 L16.length c40) L16 :: RowP (.slice p43 L17.length c44) L17 :: ps) (w405.drew) := St.nil hS421
                 clear hS421
                 refine any_call 8 #[true, true, true, true, true, true, true, true, true, false, false, false, false, false, false, false, false, false, false, false, false, false, false, false, false, false, false, false, false, false, false, false, false, false, false] 42 #[.pointer none, nI i1, .slice none 0 0] hF430 rfl (by kernel_rfl) rfl rfl (by kernel_rfl) rfl (by kernel_rfl) (fun w => by kernel_rfl) (by kernel_rfl) ?_
                 obtain ⟨x434, hx435, hm436⟩ := bind1E hm429; clear hm429
                 refine (wake_ParkN.ok hS433 hx435).mono ?_
                 rintro _ w437 ⟨rfl, hS439⟩; clear hS433
                 refine ⟨⟨_, hS439.pick1⟩, ?_⟩
                 intro a438 hF440; clear hF430
                 refine any_many 3 [(9, some (.bool (x434 == 2))), (10, some (.bool (x434 == 2))), (11, some (.bool (x434 == 2)))] [4, 5, 159, 160, 161, 162, 163, 164, 165, 166, 167, 168, 169, 170, 171, 172, 173, 174, 175, 176, 177, 178, 179, 180, 181] #[true, true, true, true, true, true, true, true, true, true, true, true, false, false, false, false, false, false, false, false, false, false, false, false, false, false, false, false, false, false, false, false, false, false, false] (by rfl) hF440 (by kernel_rfl) (by kernel_rfl) (by exact (And.intro (fun wS hw => by kernel_rfl) (And.intro (fun wS hw => by kernel_rfl) (And.intro (fun wS hw => by kernel_rfl) trivial)))) (fun _ _ _ _ _ h => h) ⟨_, hS439.pick1⟩ (l' := [(159, .bool (x434 == 2)), (5, nP z24 0)]) (by kernel_rfl) ?_
                 intro a442 hF441; clear hF440
                 cases hc443 : (x434 == 2) with
                 | true =>
                  rw [hc443] at hF441
                  have hm444 := ifYes hc443 hm436; clear hm436
                  refine any_many 5 [(12, some (nP z24 0)), (13, some (nP z24 0)), (14, some (nP z24 0)), (15, some (nP z25 0)), (16, some (nP z24 0))] [4, 5, 159, 163, 164, 165, 166, 167, 168, 169, 170, 171, 172, 173, 174, 175, 176, 177, 178, 179, 180, 181] #[true, true, true, true, true, true, true, true, true, true, true, true, true, true, true, true, true, false, false, false, false, false, false, false, false, false, false, false, false, false, false, false, false, false, false] (by rfl) hF441 (by kernel_rfl) (by kernel_rfl) (by exact (And.intro (fun wS hw => by kernel_rfl) (And.intro (fun wS hw => by kernel_rfl) (And.intro (fun wS hw => by kernel_rfl) (And.intro (fun wS hw => hw.elim fun qs hw => run_loadV rfl rfl (run_loadS rfl rfl (hw.cell 0 rfl 0 rfl))) (And.intro (fun wS hw => by kernel_rfl) trivial)))))) (fun _ _ _ _ _ h => h) ⟨_, hS439.pick1⟩ (l' := [(164, nP z24 0), (163, nP z25 0), (159, .bool true), (5, nP z24 0)]) (by kernel_rfl) ?_
                  intro a446 hF445; clear hF441
                  have hS447 := hS439.pick5.pick5.pick5.pick5.pick5
                  clear hS439
                  refine any_call 17 #[true, true, true, true, true, true, true, true, true, true, true, true, true, true, true, true, true, true, false, false, false, false, false, false, false, false, false, false, false, false, false, false, false, false, false] 43 #[nP z24 0, nI 0] hF445 rfl (by kernel_rfl) rfl rfl (by kernel_rfl) rfl (by kernel_rfl) (fun w => by kernel_rfl) (by kernel_rfl) ?_
                  obtain ⟨x448, s449, s450, hx451, hm452⟩ := bind3E hm444; clear hm444
                  refine (law14_ch.ok hS447 hx451).mono ?_
                  rintro _ w453 ⟨rfl, hS455⟩; clear hS447
                  refine ⟨⟨_, hS455⟩, ?_⟩
                  intro a454 hF456; clear hF445
                  have hS458 : St w0 F0 (RowP (.slice none 0 0) [] :: BlkP z24 66 #[nP z25 0, nP z27 0, .slice p39 L16.length c40, .slice p43 L17.length c44] :: HeapP z25 z26 s449 :: RHeapP z27 z28 z29 z30 z31 s450 :: RowP (.slice p39 L16.length c40) L16 :: RowP (.slice p43 L17.length c44) L17 :: RowP (.slice none 0 0) [] :: ps) w453 := St.nil hS455
                  clear hS455
                  have hS459 := hS458.pick2
                  clear hS458
                  refine any_call 18 #[true, true, true, true, true, true, true, true, true, true, true, true, true, true, true, true, true, true, true, false, false, false, false, false, false, false, false, false, false, false, false, false, false, false, false] 42 #[nP z25 0, nI x448, .slice none 0 0] hF456 rfl (by kernel_rfl) rfl rfl (by kernel_rfl) rfl (by kernel_rfl) (fun w => by kernel_rfl) (by kernel_rfl) ?_
                  obtain ⟨x460, s461, hx462, hm463⟩ := bind2E hm452; clear hm452
                  refine (wake_Park.ok hS459 hx462).mono ?_
                  rintro _ w464 ⟨rfl, hS466⟩; clear hS459
                  refine ⟨⟨_, hS466.pick2⟩, ?_⟩
                  intro a465 hF467; clear hF456
                  refine any_many 3 [(19, some (.bool (x460 == 10))), (20, some (.bool (x460 == 10))), (21, some (.bool (x460 == 10)))] [4, 5, 169, 170, 171, 172, 173, 174, 175, 176, 177, 178, 179, 180, 181] #[true, true, true, true, true, true, true, true, true, true, true, true, true, true, true, true, true, true, true, true, true, true, false, false, false, false, false, false, false, false, false, false, false, false, false] (by rfl) hF467 (by kernel_rfl) (by kernel_rfl) (by exact (And.intro (fun wS hw => by kernel_rfl) (And.intro (fun wS hw => by kernel_rfl) (And.intro (fun wS hw => by kernel_rfl) trivial)))) (fun _ _ _ _ _ h => h) ⟨_, hS466.pick2⟩ (l' := [(169, .bool (x460 == 10)), (5, nP z24 0)]) (by kernel_rfl) ?_
                  intro a469 hF468; clear hF467
                  cases hc470 : (x460 == 10) with
                  | true =>
                   rw [hc470] at hF468
                   have hm471 := ifYes hc470 hm463; clear hm463
                   refine any_many 6 [(22, some (nP z24 0)), (23, some (nP z24 0)), (24, some (nP z24 0)), (25, some (nP z25 0)), (26, some (nP z24 0)), (28, some (nP z24 0))] [4, 169, 173, 174, 175, 176, 177, 178, 179, 180, 181] #[true, true, true, true, true, true, true, true, true, true, true, true, true, true, true, true, true, true, true, true, true, true, true, true, true, true, true, false, true, false, false, false, false, false, false] (by rfl) hF468 (by kernel_rfl) (by kernel_rfl) (by exact (And.intro (fun wS hw => by kernel_rfl) (And.intro (fun wS hw => by kernel_rfl) (And.intro (fun wS hw => by kernel_rfl) (And.intro (fun wS hw => hw.elim fun qs hw => run_loadV rfl rfl (run_loadS rfl rfl (hw.cell 0 rfl 0 rfl))) (And.intro (fun wS hw => by kernel_rfl) (And.intro (fun wS hw => by kernel_rfl) trivial))))))) (fun _ _ _ _ _ h => h) ⟨_, hS466.pick2⟩ (l' := [(176, nP z24 0), (174, nP z24 0), (173, nP z25 0), (169, .bool true)]) (by kernel_rfl) ?_
                   intro a473 hF472; clear hF468
                   have hS474 := hS466.pick5.pick5.pick5.pick3.pick5
                   clear hS466
                   refine any_call 27 #[true, true, true, true, true, true, true, true, true, true, true, true, true, true, true, true, true, true, true, true, true, true, true, true, true, true, true, true, true, false, false, false, false, false, false] 41 #[nP z24 0, nI 0] hF472 rfl (by kernel_rfl) rfl rfl (by kernel_rfl) rfl (by kernel_rfl) (fun w => by kernel_rfl) (by kernel_rfl) ?_
                   obtain ⟨x475, s476, s477, hx478, hm479⟩ := bind3E hm471; clear hm471
                   refine (law14_gor.ok hS474 hx478).mono ?_
                   rintro _ w480 ⟨rfl, hS482⟩; clear hS474
                   refine ⟨⟨_, hS482⟩, ?_⟩
                   intro a481 hF483; clear hF472
                   refine any_call 29 #[true, true, true, true, true, true, true, true, true, true, true, true, true, true, true, true, true, true, true, true, true, true, true, true, true, true, true, true, true, true, false, false, false, false, false] 43 #[nP z24 0, nI 0] hF483 rfl (by kernel_rfl) rfl rfl (by kernel_rfl) rfl (by kernel_rfl) (fun w => by kernel_rfl) (by kernel_rfl) ?_
                   obtain ⟨x484, s485, s486, hx487, hm488⟩ := bind3E hm479; clear hm479
                   refine (law14_ch.ok hS482 hx487).mono ?_
                   rintro _ w489 ⟨rfl, hS491⟩; clear hS482
                   refine ⟨⟨_, hS491⟩, ?_⟩
                   intro a490 hF492; clear hF483
                   refine any_one 30 (by kernel_rfl) ?_
                   have hS493 : St w0 F0 (RowP (.slice (some ⟨w489.heap.size, 0, none⟩) 1 1) [x484] :: BlkP z24 66 #[nP z25 0, nP z27 0, .slice p39 L16.length c40, .slice p43 L17.length c44] :: HeapP z25 z26 s485 :: RHeapP z27 z28 z29 z30 z31 s486 :: RowP (.slice p39 L16.length c40) L16 :: RowP (.slice p43 L17.length c44) L17 :: RowP (.slice none 0 0) [] :: RowP (.slice none 0 0) [] :: ps) (w489.alloc (.cells #[nI x484] 3)) := St.lit hS491 [x484] (by unfold maxLen; simp)
                   clear hS491
                   refine op_step 30 #[true, true, true, true, true, true, true, true, true, true, true, true, true, true, true, true, true, true, true, true, true, true, true, true, true, true, true, true, true, true, true, false, false, false, false] (.slice (some ⟨w489.heap.size, 0, none⟩) 1 1) (w489.alloc (.cells #[nI x484] 3)) hF492 rfl (by kernel_rfl) rfl (by kernel_rfl) (by kernel_rfl) (l' := [(178, .slice (some ⟨w489.heap.size, 0, none⟩) 1 1), (177, nI x484), (175, nI x475), (176, nP z24 0), (174, nP z24 0), (173, nP z25 0), (169, .bool true)]) (by kernel_rfl) ⟨_, hS493.pick1⟩ (by kernel_rfl) ?_
                   intro a495 hF494; clear hF492
                   have hS496 := hS493.pick2
                   clear hS493
                   refine any_call 31 #[true, true, true, true, true, true, true, true, true, true, true, true, true, true, true, true, true, true, true, true, true, true, true, true, true, true, true, true, true, true, true, true, false, false, false] 42 #[nP z25 0, nI x475, .slice (some ⟨w489.heap.size, 0, none⟩) 1 1] hF494 rfl (by kernel_rfl) rfl rfl (by kernel_rfl) rfl (by kernel_rfl) (fun w => by kernel_rfl) (by kernel_rfl) ?_
                   obtain ⟨x497, s498, hx499, hm500⟩ := bind2E hm488; clear hm488
                   refine (wake_Park.ok hS496 hx499).mono ?_
                   rintro _ w501 ⟨rfl, hS503⟩; clear hS496
                   refine ⟨⟨_, hS503.pick2⟩, ?_⟩
                   intro a502 hF504; clear hF494
                   refine any_many 3 [(32, some (.bool (x497 == 10))), (33, some (.bool (x497 == 10))), (34, some (.bool (x497 == 10)))] [4] #[true, true, true, true, true, true, true, true, true, true, true, true, true, true, true, true, true, true, true, true, true, true, true, true, true, true, true, true, true, true, true, true, true, true, true] (by rfl) hF504 (by kernel_rfl) (by kernel_rfl) (by exact (And.intro (fun wS hw => by kernel_rfl) (And.intro (fun wS hw => by kernel_rfl) (And.intro (fun wS hw => by kernel_rfl) trivial)))) (fun _ _ _ _ _ h => h) ⟨_, hS503.pick2⟩ (l' := [(4, .bool (x497 == 10))]) (by kernel_rfl) ?_
                   intro a506 hF505; clear hF504
                   refine any_done (by kernel_rfl) ?_
                   have hS507 := hS503.drop.drop.drop.drop.drop.drop.drop.drop
                   clear hS503
                   exact thenN ⟨x497 == 10, hF505, hS507, hm500⟩
                  | false =>
                   rw [hc470] at hF468
                   have hm508 := ifNot hc470 hm463; clear hm463
                   refine any_many 13 [(22, none), (23, none), (24, none), (25, none), (26, none), (27, none), (28, none), (29, none), (30, none), (31, none), (32, none), (33, some (.bool false)), (34, some (.bool false))] [4] #[true, true, true, true, true, true, true, true, true, true, true, true, true, true, true, true, true, true, true, true, true, true, true, true, true, true, true, true, true, true, true, true, true, true, true] (by rfl) hF468 (by kernel_rfl) (by kernel_rfl) (by exact (And.intro trivial (And.intro trivial (And.intro trivial (And.intro trivial (And.intro trivial (And.intro trivial (And.intro trivial (And.intro trivial (And.intro trivial (And.intro trivial (And.intro trivial (And.intro (fun wS hw => by kernel_rfl) (And.intro (fun wS hw => by kernel_rfl) trivial)))))))))))))) (fun _ _ _ _ _ h => h) ⟨_, hS466.pick2⟩ (l' := [(4, .bool false)]) (by kernel_rfl) ?_
                   intro a510 hF509; clear hF468
                   refine any_done (by kernel_rfl) ?_
                   have hS511 := hS466.drop.drop.drop.drop.drop.drop.drop
                   clear hS466
                   exact thenN ⟨false, hF509, hS511, hm508⟩
                 | false =>
                  rw [hc443] at hF441
                  have hm512 := ifNot hc443 hm436; clear hm436
                  refine any_many 23 [(12, none), (13, none), (14, none), (15, none), (16, none), (17, none), (18, none), (19, none), (20, some (.bool false)), (21, some (.bool false)), (22, none), (23, none), (24, none), (25, none), (26, none), (27, none), (28, none), (29, none), (30, none), (31, none), (32, none), (33, some (.bool false)), (34, some (.bool false))] [4] #[true, true, true, true, true, true, true, true, true, true, true, true, true, true, true, true, true, true, true, true, true, true, true, true, true, true, true, true, true, true, true, true, true, true, true] (by rfl) hF441 (by kernel_rfl) (by kernel_rfl) (by exact (And.intro trivial (And.intro trivial (And.intro trivial (And.intro trivial (And.intro trivial (And.intro trivial (And.intro trivial (And.intro trivial (And.intro (fun wS hw => by kernel_rfl) (And.intro (fun wS hw => by kernel_rfl) (And.intro trivial (And.intro trivial (And.intro trivial (And.intro trivial (And.intro trivial (And.intro trivial (And.intro trivial (And.intro trivial (And.intro trivial (And.intro trivial (And.intro trivial (And.intro (fun wS hw => by kernel_rfl) (And.intro (fun wS hw => by kernel_rfl) trivial)))))))))))))))))))))))) (fun _ _ _ _ _ h => h) ⟨_, hS439.pick1⟩ (l' := [(4, .bool false)]) (by kernel_rfl) ?_
                  intro a514 hF513; clear hF441
                  refine any_done (by kernel_rfl) ?_
                  have hS515 := hS439.drop.drop.drop.drop.drop.drop
                  clear hS439
                  exact thenN ⟨false, hF513, hS515, hm512⟩
                | false =>
                 rw [hc428] at hF426
                 have hm516 := ifNot hc428 hm425; clear hm425
                 refine any_many 28 [(7, none), (8, none), (9, none), (10, some (.bool false)), (11, some (.bool false)), (12, none), (13, none), (14, none), (15, none), (16, none), (17, none), (18, none), (19, none), (20, some (.bool false)), (21, some (.bool false)), (22, none), (23, none), (24, none), (25, none), (26, none), (27, none), (28, none), (29, none), (30, none), (31, none), (32, none), (33, some (.bool false)), (34, some (.bool false))] [4] #[true, true, true, true, true, true, true, true, true, true, true, true, true, true, true, true, true, true, true, true, true, true, true, true, true, true, true, true, true, true, true, true, true, true, true] (by rfl) hF426 (by kernel_rfl) (by kernel_rfl) (by exact (And.intro trivial (And.intro trivial (And.intro trivial (And.intro (fun wS hw => by kernel_rfl) (And.intro (fun wS hw => by kernel_rfl) (And.intro trivial (And.intro trivial (And.intro trivial (And.intro trivial (And.intro trivial (And.intro trivial (And.intro trivial (And.intro trivial (And.intro (fun wS hw => by kernel_rfl) (And.intro (fun wS hw => by kernel_rfl) (And.intro trivial (And.intro trivial (And.intro trivial (And.intro trivial (And.intro trivial (And.intro trivial (And.intro trivial (And.intro trivial (And.intro trivial (And.intro trivial (And.intro trivial (And.intro (fun wS hw => by kernel_rfl) (And.intro (fun wS hw => by kernel_rfl) trivial))))))))))))))))))))))))))))) (fun _ _ _ _ _ h => h) ⟨_, hS421⟩ (l' := [(4, .bool false)]) (by kernel_rfl) ?_
                 intro a518 hF517; clear hF426
                 refine any_done (by kernel_rfl) ?_
                 have hS519 := hS421.drop.drop.drop.drop.drop
                 clear hS421
                 exact thenN ⟨false, hF517, hS519, hm516⟩
               | false =>
                rw [hc424] at hF422
                have hm520 := ifNot hc424 hm404; clear hm404
                refine any_many 32 [(3, none), (4, none), (5, some (.bool false)), (6, some (.bool false)), (7, none), (8, none), (9, none), (10, some (.bool false)), (11, some (.bool false)), (12, none), (13, none), (14, none), (15, none), (16, none), (17, none), (18, none), (19, none), (20, some (.bool false)), (21, some (.bool false)), (22, none), (23, none), (24, none), (25, none), (26, none), (27, none), (28, none), (29, none), (30, none), (31, none), (32, none), (33, some (.bool false)), (34, some (.bool false))] [4] #[true, true, true, true, true, true, true, true, true, true, true, true, true, true, true, true, true, true, true, true, true, true, true, true, true, true, true, true, true, true, true, true, true, true, true] (by rfl) hF422 (by kernel_rfl) (by kernel_rfl) (by exact (And.intro trivial (And.intro trivial (And.intro (fun wS hw => by kernel_rfl) (And.intro (fun wS hw => by kernel_rfl) (And.intro trivial (And.intro trivial (And.intro trivial (And.intro (fun wS hw => by kernel_rfl) (And.intro (fun wS hw => by kernel_rfl) (And.intro trivial (And.intro trivial (And.intro trivial (And.intro trivial (And.intro trivial (And.intro trivial (And.intro trivial (And.intro trivial (And.intro (fun wS hw => by kernel_rfl) (And.intro (fun wS hw => by kernel_rfl) (And.intro trivial (And.intro trivial (And.intro trivial (And.intro trivial (And.intro trivial (And.intro trivial (And.intro trivial (And.intro trivial (And.intro trivial (And.intro trivial (And.intro trivial (And.intro (fun wS hw => by kernel_rfl) (And.intro (fun wS hw => by kernel_rfl) trivial))))))))))))))))))))))))))))))))) (fun _ _ _ _ _ h => h) ⟨_, hS421⟩ (l' := [(4, .bool false)]) (by kernel_rfl) ?_
                intro a522 hF521; clear hF422
                refine any_done (by kernel_rfl) ?_
                have hS523 := hS421.drop.drop.drop.drop.drop
                clear hS421
                exact thenN ⟨false, hF521, hS523, hm520⟩
        · skip
          -- draws
          have hS524 := hS201.pick6.pick1
          clear hS201
          have hS525 := hS524.drew; clear hS524
          refine any_start (fun wS => ∃ qs, St w0 F0 (BlkP g183 70 #[nI x186, nI x187, nI x188, nI x189, nI x190, nI x191, nI x192, nI x193, nI x194, nI x195] :: RowP (.slice p84 L72.length c85) L72 :: qs) wS) 32 #[false, false, false, false, false, false, false, false, false, false, false, false, false, false, false, false, false, false, false, false, false, false, false, false, false, false, false, false, false, false, false, false] (by kernel_rfl) (by kernel_rfl) (by kernel_rfl) ?_
          refine any_many 3 [(0, some (nI x173)), (1, some (.bool (x173 != 0))), (2, some (.bool (x173 != 0)))] [0, 1, 5, 6, 10, 11, 73, 74, 75, 76, 77, 78, 79, 80, 81, 82, 83, 84, 85, 86, 87, 88, 89, 90, 91, 92, 93, 94, 95, 96, 97, 98, 99, 100, 101, 102] #[true, true, true, false, false, false, false, false, false, false, false, false, false, false, false, false, false, false, false, false, false, false, false, false, false, false, false, false, false, false, false, false] (by rfl) hF200 (by kernel_rfl) (by kernel_rfl) (by exact (And.intro (fun wS hw => by kernel_rfl) (And.intro (fun wS hw => by kernel_rfl) (And.intro (fun wS hw => by kernel_rfl) trivial)))) (fun _ _ _ _ _ h => h) ⟨_, hS525⟩ (l' := [(73, .bool (x173 != 0)), (11, nI x196), (10, nP g183 0), (6, .slice p84 L72.length c85), (5, nP z24 0), (0, nI x5), (1, nI i1)]) (by kernel_rfl) ?_
          intro a527 hF526; clear hF200
          cases hc528 : (x173 != 0) with
          | true =>
           rw [hc528] at hF526
           have hm529 := ifYes hc528 hm202; clear hm202
           refine any_many 29 [(3, none), (4, none), (5, some (.bool true)), (6, some (.bool true)), (7, none), (8, none), (9, none), (10, some (.bool true)), (11, some (.bool true)), (12, none), (13, none), (14, none), (15, none), (16, none), (17, none), (18, none), (19, some (.bool true)), (20, some (.bool true)), (21, none), (22, none), (23, none), (24, none), (25, none), (26, none), (27, none), (28, none), (29, none), (30, none), (31, some (.bool true))] [0, 1, 5, 6, 102] #[true, true, true, true, true, true, true, true, true, true, true, true, true, true, true, true, true, true, true, true, true, true, true, true, true, true, true, true, true, true, true, true] (by rfl) hF526 (by kernel_rfl) (by kernel_rfl) (by exact (And.intro trivial (And.intro trivial (And.intro (fun wS hw => by kernel_rfl) (And.intro (fun wS hw => by kernel_rfl) (And.intro trivial (And.intro trivial (And.intro trivial (And.intro (fun wS hw => by kernel_rfl) (And.intro (fun wS hw => by kernel_rfl) (And.intro trivial (And.intro trivial (And.intro trivial (And.intro trivial (And.intro trivial (And.intro trivial (And.intro trivial (And.intro (fun wS hw => by kernel_rfl) (And.intro (fun wS hw => by kernel_rfl) (And.intro trivial (And.intro trivial (And.intro trivial (And.intro trivial (And.intro trivial (And.intro trivial (And.intro trivial (And.intro trivial (And.intro trivial (And.intro trivial (And.intro (fun wS hw => by kernel_rfl) trivial)))))))))))))))))))))))))))))) (fun _ _ _ _ _ h => h) ⟨_, hS525⟩ (l' := [(102, .bool true), (6, .slice p84 L72.length c85), (5, nP z24 0), (0, nI x5), (1, nI i1)]) (by kernel_rfl) ?_
           intro a531 hF530; clear hF526
           refine any_done (by kernel_rfl) ?_
           have hS532 := hS525.drop
           clear hS525
           exact thenN ⟨true, hF530, hS532, hm529⟩
          | false =>
           rw [hc528] at hF526
           have hm533 := ifNot hc528 hm202; clear hm202
           refine any_many 4 [(3, some (nI x196)), (4, some (.bool (x196 != 0))), (5, some (.bool (x196 != 0))), (6, some (.bool (x196 != 0)))] [0, 1, 5, 6, 10, 77, 78, 79, 80, 81, 82, 83, 84, 85, 86, 87, 88, 89, 90, 91, 92, 93, 94, 95, 96, 97, 98, 99, 100, 101, 102] #[true, true, true, true, true, true, true, false, false, false, false, false, false, false, false, false, false, false, false, false, false, false, false, false, false, false, false, false, false, false, false, false] (by rfl) hF526 (by kernel_rfl) (by kernel_rfl) (by exact (And.intro (fun wS hw => by kernel_rfl) (And.intro (fun wS hw => by kernel_rfl) (And.intro (fun wS hw => by kernel_rfl) (And.intro (fun wS hw => by kernel_rfl) trivial))))) (fun _ _ _ _ _ h => h) ⟨_, hS525⟩ (l' := [(77, .bool (x196 != 0)), (10, nP g183 0), (6, .slice p84 L72.length c85), (5, nP z24 0), (0, nI x5), (1, nI i1)]) (by kernel_rfl) ?_
           intro a535 hF534; clear hF526
           cases hc536 : (x196 != 0) with
           | true =>
            rw [hc536] at hF534
            have hm537 := ifYes hc536 hm533; clear hm533
            refine any_many 25 [(7, none), (8, none), (9, none), (10, some (.bool true)), (11, some (.bool true)), (12, none), (13, none), (14, none), (15, none), (16, none), (17, none), (18, none), (19, some (.bool true)), (20, some (.bool true)), (21, none), (22, none), (23, none), (24, none), (25, none), (26, none), (27, none), (28, none), (29, none), (30, none), (31, some (.bool true))] [0, 1, 5, 6, 102] #[true, true, true, true, true, true, true, true, true, true, true, true, true, true, true, true, true, true, true, true, true, true, true, true, true, true, true, true, true, true, true, true] (by rfl) hF534 (by kernel_rfl) (by kernel_rfl) (by exact (And.intro trivial (And.intro trivial (And.intro trivial (And.intro (fun wS hw => by kernel_rfl) (And.intro (fun wS hw => by kernel_rfl) (And.intro trivial (And.intro trivial (And.intro trivial (And.intro trivial (And.intro trivial (And.intro trivial (And.intro trivial (And.intro (fun wS hw => by kernel_rfl) (And.intro (fun wS hw => by kernel_rfl) (And.intro trivial (And.intro trivial (And.intro trivial (And.intro trivial (And.intro trivial (And.intro trivial (And.intro trivial (And.intro trivial (And.intro trivial (And.intro trivial (And.intro (fun wS hw => by kernel_rfl) trivial)))))))))))))))))))))))))) (fun _ _ _ _ _ h => h) ⟨_, hS525⟩ (l' := [(102, .bool true), (6, .slice p84 L72.length c85), (5, nP z24 0), (0, nI x5), (1, nI i1)]) (by kernel_rfl) ?_
            intro a539 hF538; clear hF534
            refine any_done (by kernel_rfl) ?_
            have hS540 := hS525.drop
            clear hS525
            exact thenN ⟨true, hF538, hS540, hm537⟩
           | false =>
            rw [hc536] at hF534
            have hm541 := ifNot hc536 hm533; clear hm533
            refine any_many 5 [(7, some (nP g183 1)), (8, some (nI x187)), (9, some (.bool (x187 != 1))), (10, some (.bool (x187 != 1))), (11, some (.bool (x187 != 1)))] [0, 1, 5, 6, 10, 82, 83, 84, 85, 86, 87, 88, 89, 90, 91, 92, 93, 94, 95, 96, 97, 98, 99, 100, 101, 102] #[true, true, true, true, true, true, true, true, true, true, true, true, false, false, false, false, false, false, false, false, false, false, false, false, false, false, false, false, false, false, false, false] (by rfl) hF534 (by kernel_rfl) (by kernel_rfl) (by exact (And.intro (fun wS hw => by kernel_rfl) (And.intro (fun wS hw => hw.elim fun qs hw => run_loadV rfl rfl (run_loadS rfl rfl (hw.cell 0 rfl 1 rfl))) (And.intro (fun wS hw => by kernel_rfl) (And.intro (fun wS hw => by kernel_rfl) (And.intro (fun wS hw => by kernel_rfl) trivial)))))) (fun _ _ _ _ _ h => h) ⟨_, hS525⟩ (l' := [(82, .bool (x187 != 1)), (10, nP g183 0), (6, .slice p84 L72.length c85), (5, nP z24 0), (0, nI x5), (1, nI i1)]) (by kernel_rfl) ?_
            intro a543 hF542; clear hF534
            cases hc544 : (x187 != 1) with
            | true =>
             rw [hc544] at hF542
             have hm545 := ifYes hc544 hm541; clear hm541
             refine any_many 20 [(12, none), (13, none), (14, none), (15, none), (16, none), (17, none), (18, none), (19, some (.bool true)), (20, some (.bool true)), (21, none), (22, none), (23, none), (24, none), (25, none), (26, none), (27, none), (28, none), (29, none), (30, none), (31, some (.bool true))] [0, 1, 5, 6, 102] #[true, true, true, true, true, true, true, true, true, true, true, true, true, true, true, true, true, true, true, true, true, true, true, true, true, true, true, true, true, true, true, true] (by rfl) hF542 (by kernel_rfl) (by kernel_rfl) (by exact (And.intro trivial (And.intro trivial (And.intro trivial (And.intro trivial (And.intro trivial (And.intro trivial (And.intro trivial (And.intro (fun wS hw => by kernel_rfl) (And.intro (fun wS hw => by kernel_rfl) (And.intro trivial (And.intro trivial (And.intro trivial (And.intro trivial (And.intro trivial (And.intro trivial (And.intro trivial (And.intro trivial (And.intro trivial (And.intro trivial (And.intro (fun wS hw => by kernel_rfl) trivial))))))))))))))))))))) (fun _ _ _ _ _ h => h) ⟨_, hS525⟩ (l' := [(102, .bool true), (6, .slice p84 L72.length c85), (5, nP z24 0), (0, nI x5), (1, nI i1)]) (by kernel_rfl) ?_
             intro a547 hF546; clear hF542
             refine any_done (by kernel_rfl) ?_
             have hS548 := hS525.drop
             clear hS525
             exact thenN ⟨true, hF546, hS548, hm545⟩
            | false =>
             rw [hc544] at hF542
             have hm549 := ifNot hc544 hm541; clear hm541
             refine any_many 3 [(12, some (nI x5)), (13, some (.bool (x5 == 0))), (14, some (.bool (x5 == 0)))] [0, 1, 5, 6, 10, 82, 85, 86, 87, 88, 89, 90, 91, 92, 93, 94, 95, 96, 97, 98, 99, 100, 101, 102] #[true, true, true, true, true, true, true, true, true, true, true, true, true, true, true, false, false, false, false, false, false, false, false, false, false, false, false, false, false, false, false, false] (by rfl) hF542 (by kernel_rfl) (by kernel_rfl) (by exact (And.intro (fun wS hw => by kernel_rfl) (And.intro (fun wS hw => by kernel_rfl) (And.intro (fun wS hw => by kernel_rfl) trivial)))) (fun _ _ _ _ _ h => h) ⟨_, hS525⟩ (l' := [(85, .bool (x5 == 0)), (82, .bool false), (10, nP g183 0), (6, .slice p84 L72.length c85), (5, nP z24 0), (0, nI x5), (1, nI i1)]) (by kernel_rfl) ?_
             intro a551 hF550; clear hF542
             cases hc552 : (x5 == 0) with
             | true =>
              rw [hc552] at hF550
              have hm553 := ifYes hc552 hm549; clear hm549
              refine any_many 6 [(15, some (nP g183 9)), (16, some (nI x195)), (17, some (.bool (x195 != (-1)))), (18, some (.bool (x195 != (-1)))), (19, some (.bool (x195 != (-1)))), (20, some (.bool (x195 != (-1))))] [0, 1, 5, 6, 10, 91, 92, 93, 94, 95, 96, 97, 98, 99, 100, 101, 102] #[true, true, true, true, true, true, true, true, true, true, true, true, true, true, true, true, true, true, true, true, true, false, false, false, false, false, false, false, false, false, false, false] (by rfl) hF550 (by kernel_rfl) (by kernel_rfl) (by exact (And.intro (fun wS hw => by kernel_rfl) (And.intro (fun wS hw => hw.elim fun qs hw => run_loadV rfl rfl (run_loadS rfl rfl (hw.cell 0 rfl 9 rfl))) (And.intro (fun wS hw => by kernel_rfl) (And.intro (fun wS hw => by kernel_rfl) (And.intro (fun wS hw => by kernel_rfl) (And.intro (fun wS hw => by kernel_rfl) trivial))))))) (fun _ _ _ _ _ h => h) ⟨_, hS525⟩ (l' := [(91, .bool (x195 != (-1))), (10, nP g183 0), (6, .slice p84 L72.length c85), (5, nP z24 0), (0, nI x5), (1, nI i1)]) (by kernel_rfl) ?_
              intro a555 hF554; clear hF550
              cases hc556 : (x195 != (-1)) with
              | true =>
               rw [hc556] at hF554
               have hm557 := ifYes hc556 hm553; clear hm553
               refine any_many 11 [(21, none), (22, none), (23, none), (24, none), (25, none), (26, none), (27, none), (28, none), (29, none), (30, none), (31, some (.bool true))] [0, 1, 5, 6, 102] #[true, true, true, true, true, true, true, true, true, true, true, true, true, true, true, true, true, true, true, true, true, true, true, true, true, true, true, true, true, true, true, true] (by rfl) hF554 (by kernel_rfl) (by kernel_rfl) (by exact (And.intro trivial (And.intro trivial (And.intro trivial (And.intro trivial (And.intro trivial (And.intro trivial (And.intro trivial (And.intro trivial (And.intro trivial (And.intro trivial (And.intro (fun wS hw => by kernel_rfl) trivial)))))))))))) (fun _ _ _ _ _ h => h) ⟨_, hS525⟩ (l' := [(102, .bool true), (6, .slice p84 L72.length c85), (5, nP z24 0), (0, nI x5), (1, nI i1)]) (by kernel_rfl) ?_
               intro a559 hF558; clear hF554
               refine any_done (by kernel_rfl) ?_
               have hS560 := hS525.drop
               clear hS525
               exact thenN ⟨true, hF558, hS560, hm557⟩
              | false =>
               rw [hc556] at hF554
               have hm561 := ifNot hc556 hm553; clear hm553
               refine any_many 3 [(21, some (nI x5)), (22, some (.bool (decide (x5 > 0)))), (23, some (.bool (decide (x5 > 0))))] [0, 1, 5, 6, 10, 91, 94, 95, 96, 97, 98, 99, 100, 101, 102] #[true, true, true, true, true, true, true, true, true, true, true, true, true, true, true, true, true, true, true, true, true, true, true, true, false, false, false, false, false, false, false, false] (by rfl) hF554 (by kernel_rfl) (by kernel_rfl) (by exact (And.intro (fun wS hw => by kernel_rfl) (And.intro (fun wS hw => by kernel_rfl) (And.intro (fun wS hw => by kernel_rfl) trivial)))) (fun _ _ _ _ _ h => h) ⟨_, hS525⟩ (l' := [(94, .bool (decide (x5 > 0))), (91, .bool false), (10, nP g183 0), (6, .slice p84 L72.length c85), (5, nP z24 0), (0, nI x5), (1, nI i1)]) (by kernel_rfl) ?_
               intro a563 hF562; clear hF554
               cases hc564 : (decide (x5 > 0)) with
               | true =>
                rw [hc564] at hF562
                have hm565 := ifYes hc564 hm561; clear hm561
                refine any_many 3 [(24, some (nP g183 9)), (25, some (nI x195)), (26, some (.slice p84 L72.length c85))] [0, 1, 5, 6, 91, 94, 96, 97, 98, 99, 100, 101, 102] #[true, true, true, true, true, true, true, true, true, true, true, true, true, true, true, true, true, true, true, true, true, true, true, true, true, true, true, false, false, false, false, false] (by rfl) hF562 (by kernel_rfl) (by kernel_rfl) (by exact (And.intro (fun wS hw => by kernel_rfl) (And.intro (fun wS hw => hw.elim fun qs hw => run_loadV rfl rfl (run_loadS rfl rfl (hw.cell 0 rfl 9 rfl))) (And.intro (fun wS hw => by kernel_rfl) trivial)))) (fun _ _ _ _ _ h => h) ⟨_, hS525⟩ (l' := [(97, .slice p84 L72.length c85), (96, nI x195), (94, .bool true), (91, .bool false), (6, .slice p84 L72.length c85), (5, nP z24 0), (0, nI x5), (1, nI i1)]) (by kernel_rfl) ?_
                intro a567 hF566; clear hF562
                obtain ⟨hc568, hm569⟩ := ifTE hm565; clear hm565
                obtain ⟨g570, rfl⟩ := hp86.resolve_left (by have := inR_spec hc568; omega)
                refine any_many 5 [(27, some (nP g570 ((0 : Int).toNat))), (28, some (nI (atI L72 (0 : Int)))), (29, some (.bool (x195 != (atI L72 (0 : Int))))), (30, some (.bool (x195 != (atI L72 (0 : Int))))), (31, some (.bool (x195 != (atI L72 (0 : Int)))))] [0, 1, 5, 6, 102] #[true, true, true, true, true, true, true, true, true, true, true, true, true, true, true, true, true, true, true, true, true, true, true, true, true, true, true, true, true, true, true, true] (by rfl) hF566 (by kernel_rfl) (by kernel_rfl) (by exact (And.intro (fun wS hw => run_idx rfl rfl rfl rfl rfl (inR_spec hc568).1 (inR_spec hc568).2 _) (And.intro (fun wS hw => run_load1 rfl rfl rfl (hw.elim fun qs hw => hw.atI 1 rfl hc568)) (And.intro (fun wS hw => by kernel_rfl) (And.intro (fun wS hw => by kernel_rfl) (And.intro (fun wS hw => by kernel_rfl) trivial)))))) (fun _ _ _ _ _ h => h) ⟨_, hS525⟩ (l' := [(102, .bool (x195 != (atI L72 (0 : Int)))), (6, .slice (some ⟨g570, 0, none⟩) L72.length c85), (5, nP z24 0), (0, nI x5), (1, nI i1)]) (by kernel_rfl) ?_
                intro a572 hF571; clear hF566
                refine any_done (by kernel_rfl) ?_
                have hS573 := hS525.drop
                clear hS525
                exact thenN ⟨x195 != (atI L72 (0 : Int)), hF571, hS573, hm569⟩
               | false =>
                rw [hc564] at hF562
                have hm574 := ifNot hc564 hm561; clear hm561
                refine any_many 8 [(24, none), (25, none), (26, none), (27, none), (28, none), (29, none), (30, some (.bool false)), (31, some (.bool false))] [0, 1, 5, 6, 102] #[true, true, true, true, true, true, true, true, true, true, true, true, true, true, true, true, true, true, true, true, true, true, true, true, true, true, true, true, true, true, true, true] (by rfl) hF562 (by kernel_rfl) (by kernel_rfl) (by exact (And.intro trivial (And.intro trivial (And.intro trivial (And.intro trivial (And.intro trivial (And.intro trivial (And.intro (fun wS hw => by kernel_rfl) (And.intro (fun wS hw => by kernel_rfl) trivial))))))))) (fun _ _ _ _ _ h => h) ⟨_, hS525⟩ (l' := [(102, .bool false), (6, .slice p84 L72.length c85), (5, nP z24 0), (0, nI x5), (1, nI i1)]) (by kernel_rfl) ?_
                intro a576 hF575; clear hF562
                refine any_done (by kernel_rfl) ?_
                have hS577 := hS525.drop
                clear hS525
                exact thenN ⟨false, hF575, hS577, hm574⟩
             | false =>
              rw [hc552] at hF550
              have hm578 := ifNot hc552 hm549; clear hm549
              refine any_many 9 [(15, none), (16, none), (17, none), (18, some (.bool false)), (19, some (.bool false)), (20, some (.bool false)), (21, some (nI x5)), (22, some (.bool (decide (x5 > 0)))), (23, some (.bool (decide (x5 > 0))))] [0, 1, 5, 6, 10, 91, 94, 95, 96, 97, 98, 99, 100, 101, 102] #[true, true, true, true, true, true, true, true, true, true, true, true, true, true, true, true, true, true, true, true, true, true, true, true, false, false, false, false, false, false, false, false] (by rfl) hF550 (by kernel_rfl) (by kernel_rfl) (by exact (And.intro trivial (And.intro trivial (And.intro trivial (And.intro (fun wS hw => by kernel_rfl) (And.intro (fun wS hw => by kernel_rfl) (And.intro (fun wS hw => by kernel_rfl) (And.intro (fun wS hw => by kernel_rfl) (And.intro (fun wS hw => by kernel_rfl) (And.intro (fun wS hw => by kernel_rfl) trivial)))))))))) (fun _ _ _ _ _ h => h) ⟨_, hS525⟩ (l' := [(94, .bool (decide (x5 > 0))), (91, .bool false), (10, nP g183 0), (6, .slice p84 L72.length c85), (5, nP z24 0), (0, nI x5), (1, nI i1)]) (by kernel_rfl) ?_
              intro a580 hF579; clear hF550
              cases hc581 : (decide (x5 > 0)) with
              | true =>
               rw [hc581] at hF579
               have hm582 := ifYes hc581 hm578; clear hm578
               refine any_many 3 [(24, some (nP g183 9)), (25, some (nI x195)), (26, some (.slice p84 L72.length c85))] [0, 1, 5, 6, 91, 94, 96, 97, 98, 99, 100, 101, 102] #[true, true, true, true, true, true, true, true, true, true, true, true, true, true, true, true, true, true, true, true, true, true, true, true, true, true, true, false, false, false, false, false] (by rfl) hF579 (by kernel_rfl) (by kernel_rfl) (by exact (And.intro (fun wS hw => by kernel_rfl) (And.intro (fun wS hw => hw.elim fun qs hw => run_loadV rfl rfl (run_loadS rfl rfl (hw.cell 0 rfl 9 rfl))) (And.intro (fun wS hw => by kernel_rfl) trivial)))) (fun _ _ _ _ _ h => h) ⟨_, hS525⟩ (l' := [(97, .slice p84 L72.length c85), (96, nI x195), (94, .bool true), (91, .bool false), (6, .slice p84 L72.length c85), (5, nP z24 0), (0, nI x5), (1, nI i1)]) (by kernel_rfl) ?_
               intro a584 hF583; clear hF579
               obtain ⟨hc585, hm586⟩ := ifTE hm582; clear hm582
               obtain ⟨g587, rfl⟩ := hp86.resolve_left (by have := inR_spec hc585; omega)
               refine any_many 5 [(27, some (nP g587 ((0 : Int).toNat))), (28, some (nI (atI L72 (0 : Int)))), (29, some (.bool (x195 != (atI L72 (0 : Int))))), (30, some (.bool (x195 != (atI L72 (0 : Int))))), (31, some (.bool (x195 != (atI L72 (0 : Int)))))] [0, 1, 5, 6, 102] #[true, true, true, true, true, true, true, true, true, true, true, true, true, true, true, true, true, true, true, true, true, true, true, true, true, true, true, true, true, true, true, true] (by rfl) hF583 (by kernel_rfl) (by kernel_rfl) (by exact (And.intro (fun wS hw => run_idx rfl rfl rfl rfl rfl (inR_spec hc585).1 (inR_spec hc585).2 _) (And.intro (fun wS hw => run_load1 rfl rfl rfl (hw.elim fun qs hw => hw.atI 1 rfl hc585)) (And.intro (fun wS hw => by kernel_rfl) (And.intro (fun wS hw => by kernel_rfl) (And.intro (fun wS hw => by kernel_rfl) trivial)))))) (fun _ _ _ _ _ h => h) ⟨_, hS525⟩ (l' := [(102, .bool (x195 != (atI L72 (0 : Int)))), (6, .slice (some ⟨g587, 0, none⟩) L72.length c85), (5, nP z24 0), (0, nI x5), (1, nI i1)]) (by kernel_rfl) ?_
               intro a589 hF588; clear hF583
               refine any_done (by kernel_rfl) ?_
               have hS590 := hS525.drop
               clear hS525
               exact thenN ⟨x195 != (atI L72 (0 : Int)), hF588, hS590, hm586⟩
              | false =>
               rw [hc581] at hF579
               have hm591 := ifNot hc581 hm578; clear hm578
               refine any_many 8 [(24, none), (25, none), (26, none), (27, none), (28, none), (29, none), (30, some (.bool false)), (31, some (.bool false))] [0, 1, 5, 6, 102] #[true, true, true, true, true, true, true, true, true, true, true, true, true, true, true, true, true, true, true, true, true, true, true, true, true, true, true, true, true, true, true, true] (by rfl) hF579 (by kernel_rfl) (by kernel_rfl) (by exact (And.intro trivial (And.intro trivial (And.intro trivial (And.intro trivial (And.intro trivial (And.intro trivial (And.intro (fun wS hw => by kernel_rfl) (And.intro (fun wS hw => by kernel_rfl) trivial))))))))) (fun _ _ _ _ _ h => h) ⟨_, hS525⟩ (l' := [(102, .bool false), (6, .slice p84 L72.length c85), (5, nP z24 0), (0, nI x5), (1, nI i1)]) (by kernel_rfl) ?_
               intro a593 hF592; clear hF579
               refine any_done (by kernel_rfl) ?_
               have hS594 := hS525.drop
               clear hS525
               exact thenN ⟨false, hF592, hS594, hm591⟩
      · skip
        -- draws
        have hS595 := hS179.pick2
        clear hS179
        have hS596 := hS595.drew; clear hS595
        refine any_start (fun wS => ∃ qs, St w0 F0 (BlkP z24 66 #[nP z25 0, nP z27 0, .slice p39 L16.length c40, .slice p43 L17.length c44] :: qs) wS) 13 #[false, false, false, false, false, false, false, false, false, false, false, false, false] (by kernel_rfl) (by kernel_rfl) (by kernel_rfl) ?_
        refine any_many 5 [(0, some (nP z24 0)), (1, some (nP z24 0)), (2, some (nP z24 0)), (3, some (nP z25 0)), (4, some (nP z24 0))] [0, 1, 5, 6, 9, 10, 11, 61, 65, 66, 67, 68, 69, 70] #[true, true, true, true, true, false, false, false, false, false, false, false, false] (by rfl) hF181 (by kernel_rfl) (by kernel_rfl) (by exact (And.intro (fun wS hw => by kernel_rfl) (And.intro (fun wS hw => by kernel_rfl) (And.intro (fun wS hw => by kernel_rfl) (And.intro (fun wS hw => hw.elim fun qs hw => run_loadV rfl rfl (run_loadS rfl rfl (hw.cell 0 rfl 0 rfl))) (And.intro (fun wS hw => by kernel_rfl) trivial)))))) (fun _ _ _ _ _ h => h) ⟨_, hS596⟩ (l' := [(66, nP z24 0), (65, nP z25 0), (9, nI x173), (6, .slice p84 L72.length c85), (5, nP z24 0), (0, nI x5), (1, nI i1)]) (by kernel_rfl) ?_
        intro a598 hF597; clear hF181
        refine any_two 5 10 (by kernel_rfl) ?_ ?_
        · skip
          have hS599 := hS596.pick5.pick5.pick5.pick4.pick4
          clear hS596
          refine op_call 5 #[true, true, true, true, true, true, false, false, false, false, false, false, false] 41 #[nP z24 0, nI 0] hF597 rfl rfl rfl (by kernel_rfl) rfl (by kernel_rfl) (fun w => by kernel_rfl) (by kernel_rfl) ?_
          obtain ⟨x600, s601, s602, hx603, hm604⟩ := bind3E hm176; clear hm176
          refine (law14_gor.ok hS599 hx603).mono ?_
          rintro _ w605 ⟨rfl, hS607⟩; clear hS599
          refine ⟨⟨_, hS607⟩, ?_⟩
          intro a606 hF608; clear hF597
          refine any_two 6 10 (by kernel_rfl) ?_ ?_
          · skip
            have hS609 := hS607.pick1
            clear hS607
            refine op_call 6 #[true, true, true, true, true, true, true, false, false, false, false, false, false] 37 #[nP z25 0, nI x600] hF608 rfl rfl rfl (by kernel_rfl) rfl (by kernel_rfl) (fun w => by kernel_rfl) (by kernel_rfl) ?_
            obtain ⟨q610, x611, s612, hx613, hm614⟩ := bind3E hm604; clear hm604
            refine (view_Gor.ok hS609 hx613).mono ?_
            rintro _ w615 ⟨rfl, hS617⟩; clear hS609
            refine ⟨⟨_, hS617.pick1⟩, ?_⟩
            intro a616 hF618; clear hF608
            refine any_many 3 [(7, some (.tuple #[.agg #[nI (q610.id), nI (q610.status), nI (q610.pc), nI (q610.a), nI (q610.b), nI (q610.c), nI (q610.d), nI (q610.e), nI (q610.f), nI (q610.sudogs)], nI x611])), (8, some (.agg #[nI (q610.id), nI (q610.status), nI (q610.pc), nI (q610.a), nI (q610.b), nI (q610.c), nI (q610.d), nI (q610.e), nI (q610.f), nI (q610.sudogs)])), (9, some (nI x611))] [0, 1, 5, 6, 9, 10, 11, 69, 70] #[true, true, true, true, true, true, true, true, true, true, false, false, false] (by rfl) hF618 (by kernel_rfl) (by kernel_rfl) (by exact (And.intro (fun wS hw => by kernel_rfl) (And.intro (fun wS hw => by kernel_rfl) (And.intro (fun wS hw => by kernel_rfl) trivial)))) (fun _ _ _ _ _ h => h) ⟨_, hS617.pick1⟩ (l' := [(70, nI x611), (69, .agg #[nI (q610.id), nI (q610.status), nI (q610.pc), nI (q610.a), nI (q610.b), nI (q610.c), nI (q610.d), nI (q610.e), nI (q610.f), nI (q610.sudogs)]), (9, nI x173), (6, .slice p84 L72.length c85), (5, nP z24 0), (0, nI x5), (1, nI i1)]) (by kernel_rfl) ?_
            intro a620 hF619; clear hF618
            refine any_one 10 (by kernel_rfl) ?_
            have hS621 : St w0 F0 (BlkP (w615.heap.size) 70 #[nI 0, nI 0, nI 0, nI 0, nI 0, nI 0, nI 0, nI 0, nI 0, nI 0] :: HeapP z25 z26 s612 :: BlkP z24 66 #[nP z25 0, nP z27 0, .slice p39 L16.length c40, .slice p43 L17.length c44] :: RHeapP z27 z28 z29 z30 z31 s602 :: RowP (.slice p39 L16.length c40) L16 :: RowP (.slice p43 L17.length c44) L17 :: RowP (.slice p84 L72.length c85) L72 :: ps) (w615.alloc (.cells #[nI 0, nI 0, nI 0, nI 0, nI 0, nI 0, nI 0, nI 0, nI 0, nI 0] 70)) := St.new hS617 #[nI 0, nI 0, nI 0, nI 0, nI 0, nI 0, nI 0, nI 0, nI 0, nI 0] 70
            clear hS617
            refine op_step 10 #[true, true, true, true, true, true, true, true, true, true, true, false, false] (nP (w615.heap.size) 0) (w615.alloc (.cells #[nI 0, nI 0, nI 0, nI 0, nI 0, nI 0, nI 0, nI 0, nI 0, nI 0] 70)) hF619 rfl (by kernel_rfl) rfl (by kernel_rfl) (by kernel_rfl) (l' := [(10, nP (w615.heap.size) 0), (70, nI x611), (69, .agg #[nI (q610.id), nI (q610.status), nI (q610.pc), nI (q610.a), nI (q610.b), nI (q610.c), nI (q610.d), nI (q610.e), nI (q610.f), nI (q610.sudogs)]), (9, nI x173), (6, .slice p84 L72.length c85), (5, nP z24 0), (0, nI x5), (1, nI i1)]) (by kernel_rfl) ⟨_, hS621.pick2⟩ (by kernel_rfl) ?_
            intro a623 hF622; clear hF619
            refine any_one 11 (by kernel_rfl) ?_
            refine op_store 11 #[true, true, true, true, true, true, true, true, true, true, true, true, false] (.agg #[nI (q610.id), nI (q610.status), nI (q610.pc), nI (q610.a), nI (q610.b), nI (q610.c), nI (q610.d), nI (q610.e), nI (q610.f), nI (q610.sudogs)]) #[nI (q610.id), nI (q610.status), nI (q610.pc), nI (q610.a), nI (q610.b), nI (q610.c), nI (q610.d), nI (q610.e), nI (q610.f), nI (q610.sudogs)] hF622 rfl (by kernel_rfl) rfl rfl rfl rfl (by kernel_rfl) hS621 (by kernel_rfl) (by kernel_rfl) (by kernel_rfl) (l' := [(10, nP (w615.heap.size) 0), (70, nI x611), (69, .agg #[nI (q610.id), nI (q610.status), nI (q610.pc), nI (q610.a), nI (q610.b), nI (q610.c), nI (q610.d), nI (q610.e), nI (q610.f), nI (q610.sudogs)]), (9, nI x173), (6, .slice p84 L72.length c85), (5, nP z24 0), (0, nI x5), (1, nI i1)]) (by kernel_rfl) (by kernel_rfl) ?_
            intro w624 a625 hS626 hF627; clear hF622 hS621
            refine ⟨⟨_, hS626.pick2⟩, ?_⟩
            refine any_many 1 [(12, some (nI x611))] [0, 1, 5, 6, 9, 10, 11] #[true, true, true, true, true, true, true, true, true, true, true, true, true] (by rfl) hF627 (by kernel_rfl) (by kernel_rfl) (by exact (And.intro (fun wS hw => by kernel_rfl) trivial)) (fun _ _ _ _ _ h => h) ⟨_, hS626.pick2⟩ (l' := [(11, nI x611), (10, nP (w615.heap.size) 0), (9, nI x173), (6, .slice p84 L72.length c85), (5, nP z24 0), (0, nI x5), (1, nI i1)]) (by kernel_rfl) ?_
            intro a629 hF628; clear hF627
            refine any_done (by kernel_rfl) ?_
            exact thenN ⟨(w615.heap.size), s612, s602, q610.id, q610.status, q610.pc, q610.a, q610.b, q610.c, q610.d, q610.e, q610.f, q610.sudogs, x611, hF628, hS626, hm614⟩
          · skip
            have hS630 : St w0 F0 (BlkP (w605.heap.size) 70 #[nI 0, nI 0, nI 0, nI 0, nI 0, nI 0, nI 0, nI 0, nI 0, nI 0] :: BlkP z24 66 #[nP z25 0, nP z27 0, .slice p39 L16.length c40, .slice p43 L17.length c44] :: HeapP z25 z26 s601 :: RHeapP z27 z28 z29 z30 z31 s602 :: RowP (.slice p39 L16.length c40) L16 :: RowP (.slice p43 L17.length c44) L17 :: RowP (.slice p84 L72.length c85) L72 :: ps) (w605.alloc (.cells #[nI 0, nI 0, nI 0, nI 0, nI 0, nI 0, nI 0, nI 0, nI 0, nI 0] 70)) := St.new hS607 #[nI 0, nI 0, nI 0, nI 0, nI 0, nI 0, nI 0, nI 0, nI 0, nI 0] 70
            clear hS607
            refine op_step 10 #[true, true, true, true, true, true, false, false, false, false, true, false, false] (nP (w605.heap.size) 0) (w605.alloc (.cells #[nI 0, nI 0, nI 0, nI 0, nI 0, nI 0, nI 0, nI 0, nI 0, nI 0] 70)) hF608 rfl (by kernel_rfl) rfl (by kernel_rfl) (by kernel_rfl) (l' := [(10, nP (w605.heap.size) 0), (67, nI x600), (66, nP z24 0), (65, nP z25 0), (9, nI x173), (6, .slice p84 L72.length c85), (5, nP z24 0), (0, nI x5), (1, nI i1)]) (by kernel_rfl) ⟨_, hS630.pick1⟩ (by kernel_rfl) ?_
            intro a632 hF631; clear hF608
            have hS633 := hS630.pick2
            clear hS630
            refine any_call 6 #[true, true, true, true, true, true, true, false, false, false, true, false, false] 37 #[nP z25 0, nI x600] hF631 rfl (by kernel_rfl) rfl rfl (by kernel_rfl) rfl (by kernel_rfl) (fun w => by kernel_rfl) (by kernel_rfl) ?_
            obtain ⟨q634, x635, s636, hx637, hm638⟩ := bind3E hm604; clear hm604
            refine (view_Gor.ok hS633 hx637).mono ?_
            rintro _ w639 ⟨rfl, hS641⟩; clear hS633
            refine ⟨⟨_, hS641.pick2⟩, ?_⟩
            intro a640 hF642; clear hF631
            refine any_many 3 [(7, some (.tuple #[.agg #[nI (q634.id), nI (q634.status), nI (q634.pc), nI (q634.a), nI (q634.b), nI (q634.c), nI (q634.d), nI (q634.e), nI (q634.f), nI (q634.sudogs)], nI x635])), (8, some (.agg #[nI (q634.id), nI (q634.status), nI (q634.pc), nI (q634.a), nI (q634.b), nI (q634.c), nI (q634.d), nI (q634.e), nI (q634.f), nI (q634.sudogs)])), (9, some (nI x635))] [0, 1, 5, 6, 9, 10, 11, 69, 70] #[true, true, true, true, true, true, true, true, true, true, true, false, false] (by rfl) hF642 (by kernel_rfl) (by kernel_rfl) (by exact (And.intro (fun wS hw => by kernel_rfl) (And.intro (fun wS hw => by kernel_rfl) (And.intro (fun wS hw => by kernel_rfl) trivial)))) (fun _ _ _ _ _ h => h) ⟨_, hS641.pick2⟩ (l' := [(70, nI x635), (69, .agg #[nI (q634.id), nI (q634.status), nI (q634.pc), nI (q634.a), nI (q634.b), nI (q634.c), nI (q634.d), nI (q634.e), nI (q634.f), nI (q634.sudogs)]), (10, nP (w605.heap.size) 0), (9, nI x173), (6, .slice p84 L72.length c85), (5, nP z24 0), (0, nI x5), (1, nI i1)]) (by kernel_rfl) ?_
            intro a644 hF643; clear hF642
            refine any_one 11 (by kernel_rfl) ?_
            have hS645 := hS641.pick1
            clear hS641
            refine op_store 11 #[true, true, true, true, true, true, true, true, true, true, true, true, false] (.agg #[nI (q634.id), nI (q634.status), nI (q634.pc), nI (q634.a), nI (q634.b), nI (q634.c), nI (q634.d), nI (q634.e), nI (q634.f), nI (q634.sudogs)]) #[nI (q634.id), nI (q634.status), nI (q634.pc), nI (q634.a), nI (q634.b), nI (q634.c), nI (q634.d), nI (q634.e), nI (q634.f), nI (q634.sudogs)] hF643 rfl (by kernel_rfl) rfl rfl rfl rfl (by kernel_rfl) hS645 (by kernel_rfl) (by kernel_rfl) (by kernel_rfl) (l' := [(70, nI x635), (69, .agg #[nI (q634.id), nI (q634.status), nI (q634.pc), nI (q634.a), nI (q634.b), nI (q634.c), nI (q634.d), nI (q634.e), nI (q634.f), nI (q634.sudogs)]), (10, nP (w605.heap.size) 0), (9, nI x173), (6, .slice p84 L72.length c85), (5, nP z24 0), (0, nI x5), (1, nI i1)]) (by kernel_rfl) (by kernel_rfl) ?_
            intro w646 a647 hS648 hF649; clear hF643 hS645
            refine ⟨⟨_, hS648.pick2⟩, ?_⟩
            refine any_many 1 [(12, some (nI x635))] [0, 1, 5, 6, 9, 10, 11] #[true, true, true, true, true, true, true, true, true, true, true, true, true] (by rfl) hF649 (by kernel_rfl) (by kernel_rfl) (by exact (And.intro (fun wS hw => by kernel_rfl) trivial)) (fun _ _ _ _ _ h => h) ⟨_, hS648.pick2⟩ (l' := [(11, nI x635), (10, nP (w605.heap.size) 0), (9, nI x173), (6, .slice p84 L72.length c85), (5, nP z24 0), (0, nI x5), (1, nI i1)]) (by kernel_rfl) ?_
            intro a651 hF650; clear hF649
            refine any_done (by kernel_rfl) ?_
            exact thenN ⟨(w605.heap.size), s636, s602, q634.id, q634.status, q634.pc, q634.a, q634.b, q634.c, q634.d, q634.e, q634.f, q634.sudogs, x635, hF650, hS648, hm638⟩
        · skip
          have hS652 : St w0 F0 (BlkP ((w177.drew).heap.size) 70 #[nI 0, nI 0, nI 0, nI 0, nI 0, nI 0, nI 0, nI 0, nI 0, nI 0] :: BlkP z24 66 #[nP z25 0, nP z27 0, .slice p39 L16.length c40, .slice p43 L17.length c44] :: HeapP z25 z26 s174 :: RowP (.slice p84 L72.length c85) L72 :: RHeapP z27 z28 z29 z30 z31 s165 :: RowP (.slice p39 L16.length c40) L16 :: RowP (.slice p43 L17.length c44) L17 :: ps) ((w177.drew).alloc (.cells #[nI 0, nI 0, nI 0, nI 0, nI 0, nI 0, nI 0, nI 0, nI 0, nI 0] 70)) := St.new hS596 #[nI 0, nI 0, nI 0, nI 0, nI 0, nI 0, nI 0, nI 0, nI 0, nI 0] 70
          clear hS596
          refine op_step 10 #[true, true, true, true, true, false, false, false, false, false, true, false, false] (nP ((w177.drew).heap.size) 0) ((w177.drew).alloc (.cells #[nI 0, nI 0, nI 0, nI 0, nI 0, nI 0, nI 0, nI 0, nI 0, nI 0] 70)) hF597 rfl (by kernel_rfl) rfl (by kernel_rfl) (by kernel_rfl) (l' := [(10, nP ((w177.drew).heap.size) 0), (66, nP z24 0), (65, nP z25 0), (9, nI x173), (6, .slice p84 L72.length c85), (5, nP z24 0), (0, nI x5), (1, nI i1)]) (by kernel_rfl) ⟨_, hS652.pick1⟩ (by kernel_rfl) ?_
          intro a654 hF653; clear hF597
          have hS655 := hS652.pick6.pick6.pick6.pick5.pick5
          clear hS652
          refine any_call 5 #[true, true, true, true, true, true, false, false, false, false, true, false, false] 41 #[nP z24 0, nI 0] hF653 rfl (by kernel_rfl) rfl rfl (by kernel_rfl) rfl (by kernel_rfl) (fun w => by kernel_rfl) (by kernel_rfl) ?_
          obtain ⟨x656, s657, s658, hx659, hm660⟩ := bind3E hm176; clear hm176
          refine (law14_gor.ok hS655 hx659).mono ?_
          rintro _ w661 ⟨rfl, hS663⟩; clear hS655
          refine ⟨⟨_, hS663⟩, ?_⟩
          intro a662 hF664; clear hF653
          have hS665 := hS663.pick1
          clear hS663
          refine any_call 6 #[true, true, true, true, true, true, true, false, false, false, true, false, false] 37 #[nP z25 0, nI x656] hF664 rfl (by kernel_rfl) rfl rfl (by kernel_rfl) rfl (by kernel_rfl) (fun w => by kernel_rfl) (by kernel_rfl) ?_
          obtain ⟨q666, x667, s668, hx669, hm670⟩ := bind3E hm660; clear hm660
          refine (view_Gor.ok hS665 hx669).mono ?_
          rintro _ w671 ⟨rfl, hS673⟩; clear hS665
          refine ⟨⟨_, hS673.pick1⟩, ?_⟩
          intro a672 hF674; clear hF664
          refine any_many 3 [(7, some (.tuple #[.agg #[nI (q666.id), nI (q666.status), nI (q666.pc), nI (q666.a), nI (q666.b), nI (q666.c), nI (q666.d), nI (q666.e), nI (q666.f), nI (q666.sudogs)], nI x667])), (8, some (.agg #[nI (q666.id), nI (q666.status), nI (q666.pc), nI (q666.a), nI (q666.b), nI (q666.c), nI (q666.d), nI (q666.e), nI (q666.f), nI (q666.sudogs)])), (9, some (nI x667))] [0, 1, 5, 6, 9, 10, 11, 69, 70] #[true, true, true, true, true, true, true, true, true, true, true, false, false] (by rfl) hF674 (by kernel_rfl) (by kernel_rfl) (by exact (And.intro (fun wS hw => by kernel_rfl) (And.intro (fun wS hw => by kernel_rfl) (And.intro (fun wS hw => by kernel_rfl) trivial)))) (fun _ _ _ _ _ h => h) ⟨_, hS673.pick1⟩ (l' := [(70, nI x667), (69, .agg #[nI (q666.id), nI (q666.status), nI (q666.pc), nI (q666.a), nI (q666.b), nI (q666.c), nI (q666.d), nI (q666.e), nI (q666.f), nI (q666.sudogs)]), (10, nP ((w177.drew).heap.size) 0), (9, nI x173), (6, .slice p84 L72.length c85), (5, nP z24 0), (0, nI x5), (1, nI i1)]) (by kernel_rfl) ?_
          intro a676 hF675; clear hF674
          refine any_one 11 (by kernel_rfl) ?_
          have hS677 := hS673.pick5
          clear hS673
          refine op_store 11 #[true, true, true, true, true, true, true, true, true, true, true, true, false] (.agg #[nI (q666.id), nI (q666.status), nI (q666.pc), nI (q666.a), nI (q666.b), nI (q666.c), nI (q666.d), nI (q666.e), nI (q666.f), nI (q666.sudogs)]) #[nI (q666.id), nI (q666.status), nI (q666.pc), nI (q666.a), nI (q666.b), nI (q666.c), nI (q666.d), nI (q666.e), nI (q666.f), nI (q666.sudogs)] hF675 rfl (by kernel_rfl) rfl rfl rfl rfl (by kernel_rfl) hS677 (by kernel_rfl) (by kernel_rfl) (by kernel_rfl) (l' := [(70, nI x667), (69, .agg #[nI (q666.id), nI (q666.status), nI (q666.pc), nI (q666.a), nI (q666.b), nI (q666.c), nI (q666.d), nI (q666.e), nI (q666.f), nI (q666.sudogs)]), (10, nP ((w177.drew).heap.size) 0), (9, nI x173), (6, .slice p84 L72.length c85), (5, nP z24 0), (0, nI x5), (1, nI i1)]) (by kernel_rfl) (by kernel_rfl) ?_
          intro w678 a679 hS680 hF681; clear hF675 hS677
          refine ⟨⟨_, hS680.pick2⟩, ?_⟩
          refine any_many 1 [(12, some (nI x667))] [0, 1, 5, 6, 9, 10, 11] #[true, true, true, true, true, true, true, true, true, true, true, true, true] (by rfl) hF681 (by kernel_rfl) (by kernel_rfl) (by exact (And.intro (fun wS hw => by kernel_rfl) trivial)) (fun _ _ _ _ _ h => h) ⟨_, hS680.pick2⟩ (l' := [(11, nI x667), (10, nP ((w177.drew).heap.size) 0), (9, nI x173), (6, .slice p84 L72.length c85), (5, nP z24 0), (0, nI x5), (1, nI i1)]) (by kernel_rfl) ?_
          intro a683 hF682; clear hF681
          refine any_done (by kernel_rfl) ?_
          exact thenN ⟨((w177.drew).heap.size), s668, s658, q666.id, q666.status, q666.pc, q666.a, q666.b, q666.c, q666.d, q666.e, q666.f, q666.sudogs, x667, hF682, hS680, hm670⟩
 · skip
   refine wp_region_lit ?_
   refine ev_call 35 #[] hF47 rfl rfl (by kernel_rfl) rfl (by kernel_rfl) (fun w => by kernel_rfl) ?_
   obtain ⟨y684, hx685, hm686⟩ := bind1E hm19; clear hm19
   refine (law14_awake.ok hS49 hx685).mono ?_
   rintro _ w687 ⟨rfl, hS689⟩ a688 hF690; clear hF47 hS49
   refine ev_runs 2 hF690 (l' := [(28, .bool (!(y684))), (27, .bool (!(y684))), (26, .bool (y684)), (5, nP z24 0), (0, nI x5), (1, nI i1)]) (w' := w687) (by kernel_rfl) ?_
   intro a692 hF691; clear hF690
   cases hc693 : (!(y684)) with
   | true =>
    rw [hc693] at hF691
    have hm694 := ifYes hc693 hm686; clear hm686
    refine ev_runK 3 hF691 [0, 1, 5, 31] (l' := [(31, .bool true), (5, nP z24 0), (0, nI x5), (1, nI i1)]) (w' := w687) (by kernel_rfl) ?_
    intro a696 hF695; clear hF691
    refine wpList_nil ?_
    exact thenN ⟨true, hF695, hS689, hm694⟩
   | false =>
    rw [hc693] at hF691
    have hm697 := ifNot hc693 hm686; clear hm686
    refine ev_runK 3 hF691 [0, 1, 5, 31] (l' := [(31, .bool false), (5, nP z24 0), (0, nI x5), (1, nI i1)]) (w' := w687) (by kernel_rfl) ?_
    intro a699 hF698; clear hF691
    refine wpList_nil ?_
    exact thenN ⟨false, hF698, hS689, hm697⟩

end Go.Proofs.YtaihdiccmaincaaGreat
