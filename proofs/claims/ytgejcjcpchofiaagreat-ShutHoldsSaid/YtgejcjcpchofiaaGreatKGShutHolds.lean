/- GShutHolds -/
import Derived.Test.YtgejcjcpchofiaaGreatKG17
import Derived.Test.YtgejcjcpchofiaaGreatKGRef11
import Derived.Deep.LoopGhost
import Derived.KernelRfl
/- The walks of GShutHolds, printed by gen/walk.py. -/
namespace Go.Proofs.YtgejcjcpchofiaaGreat
open Go.RowKit
set_option linter.unusedVariables false

def ShutHolds.j7 (y226 : Bool) : Option (Bool) := some (y226)
def ShutHolds.j6 (k : Nat) (x5 : Int) (L16 : List Int) (L191 : List Int) (x192 : Int) (s193 : HSt) (x209 : Int) (x210 : Int) (x211 : Int) (x212 : Int) (x213 : Int) (x214 : Int) (x215 : Int) (x216 : Int) (x217 : Int) (x218 : Int) : Option (Bool) := (if ((L191.length : Int) == 0) then (if (x192 == 1) then (if (x218 == 0) then (if (x210 == 1) then (if (x211 == x5) then (if (inR (1 : Int) L16.length) then bind2 (list_All.m k s193 (atI L16 (1 : Int)) (false)) fun L264 s265 => ShutHolds.j7 ((L264.length : Int) == 1) else none) else ShutHolds.j7 false) else ShutHolds.j7 false) else ShutHolds.j7 false) else ShutHolds.j7 false) else ShutHolds.j7 false)
def ShutHolds.j5 (k : Nat) (x5 : Int) (L16 : List Int) (s165 : HSt) (s166 : HSt) (y167 : Bool) : Option (Bool) := (if (y167) then some (false) else (if (inR (0 : Int) L16.length) then bind3 (shut_Try.m k s165 (IntKind.i64.wrap ((IntKind.i64.wrap (2 * (atI L16 (0 : Int)))) + 1))) fun L191 x192 s193 => bind2 (pChan (atI L16 (0 : Int)) s193) fun q306 x307 => ShutHolds.j6 k x5 L16 L191 x192 s193 q306.cap q306.closed q306.count q306.start q306.buf q306.th q306.tt q306.sh q306.st x307 else none))
def ShutHolds.l4b (i1 : Int) (k : Nat) (x5 : Int) (L16 : List Int) (L17 : List Int) (s114 : HSt) (x115 : Int) (x116 : Int) (x117 : Int) (x118 : Int) (x119 : Int) (x120 : Int) (x121 : Int) (x122 : Int) (x123 : Int) (rec137 : HSt → Int → Option (Bool)) (s133 : HSt) (x134 : Int) : Option (Bool) := (if (decide (x134 < x5)) then bind2 (pStore x119 x134 i1 s133) fun x152 s153 => rec137 s153 (IntKind.i64.wrap (x134 + 1)) else (if (inR (0 : Int) L16.length) then bind2 (pPutChan (atI L16 (0 : Int)) (⟨x115, x116, x117, x118, x119, x120, x121, x122, x123⟩ : Ch) s133) fun x354 s355 => (if (x354 != 0) then ShutHolds.j5 k x5 L16 s355 s114 true else (if (inR (1 : Int) L16.length) then bind3 (law17_gor.m k s355 s114 L16 L17 0) fun x377 s378 s379 => bind3 (law17_wait.m k s378 s379 L16 L17 x377 [atI L16 (1 : Int)] [false] 0 5) fun y393 s394 s395 => ShutHolds.j5 k x5 L16 s394 s395 (!(y393)) else none)) else none))
def ShutHolds.l4 (i1 : Int) (k : Nat) (x5 : Int) (L16 : List Int) (L17 : List Int) (s114 : HSt) (x115 : Int) (x116 : Int) (x117 : Int) (x118 : Int) (x119 : Int) (x120 : Int) (x121 : Int) (x122 : Int) (x123 : Int) : Nat → HSt → Int → Option (Bool)
  | 0 => fun _ _ => none
  | kI + 1 => ShutHolds.l4b i1 k x5 L16 L17 s114 x115 x116 x117 x118 x119 x120 x121 x122 x123 (ShutHolds.l4 i1 k x5 L16 L17 s114 x115 x116 x117 x118 x119 x120 x121 x122 x123 kI)
def ShutHolds.j3 (i1 : Int) (k : Nat) (x5 : Int) (s14 : HSt) (L16 : List Int) (L17 : List Int) (s114 : HSt) (x115 : Int) (x116 : Int) (x117 : Int) (x118 : Int) (x119 : Int) (x120 : Int) (x121 : Int) (x122 : Int) (x123 : Int) : Option (Bool) := ShutHolds.l4 i1 k x5 L16 L17 s114 x115 x116 x117 x118 x119 x120 x121 x122 x123 k s14 0
def ShutHolds.l2b (i1 : Int) (k : Nat) (x5 : Int) (s14 : HSt) (L16 : List Int) (L17 : List Int) (rec73 : HSt → Int → Option (Bool)) (s69 : HSt) (x70 : Int) : Option (Bool) := (if (decide (x70 < x5)) then (if (inR (0 : Int) L16.length) then bind2 (ref11_PutRing.m k s69 (atI L16 (0 : Int)) i1) fun x91 s92 => (if (x91 != 0) then some (false) else rec73 s92 (IntKind.i64.wrap (x70 + 1))) else none) else (if (inR (0 : Int) L16.length) then bind3 (ref11_Chan.m k s69 (atI L16 (0 : Int))) fun q547 x548 s549 => ShutHolds.j3 i1 k x5 s14 L16 L17 s549 q547.cap q547.closed q547.count q547.start q547.buf q547.th q547.tt q547.sh q547.st else none))
def ShutHolds.l2 (i1 : Int) (k : Nat) (x5 : Int) (s14 : HSt) (L16 : List Int) (L17 : List Int) : Nat → HSt → Int → Option (Bool)
  | 0 => fun _ _ => none
  | kI + 1 => ShutHolds.l2b i1 k x5 s14 L16 L17 (ShutHolds.l2 i1 k x5 s14 L16 L17 kI)
def ShutHolds.j1 (i1 : Int) (k : Nat) (x5 : Int) (s14 : HSt) (s15 : HSt) (L16 : List Int) (L17 : List Int) (y51 : Bool) : Option (Bool) := (if (y51) then some (false) else ShutHolds.l2 i1 k x5 s14 L16 L17 k s15 0)
def ShutHolds.m (k : Nat) (i0 : Int) (i1 : Int) : Option (Bool) := bind1 (some (IntKind.i64.wrap (Int.tmod (IntKind.u64.wrap i0) 4))) fun x5 => bind4 (law17_made.m k [3, 0] 1) fun s14 s15 L16 L17 => bind1 (law17_awake.m k ) fun y589 => (if (!(y589)) then ShutHolds.j1 i1 k x5 s14 s15 L16 L17 true else ShutHolds.j1 i1 k x5 s14 s15 L16 L17 false)
set_option maxRecDepth 100000 in
set_option maxHeartbeats 40000000 in
theorem ShutHolds.ok {w0 w : World} {F0 : List Nat} {ps : List Piece} {k : Nat} {i0 : Int} {i1 : Int} {r0 : Bool} (hS : St w0 F0 (ps) w) (hm : ShutHolds.m k i0 i1 = some r0) :
    Calls Tryz.prog 7 #[nI i0, nI i1] w fun e w' => e = .returned (.bool r0) ∧ St w0 F0 (ps) w' := by
 refine ev_enterL 167 [nI i0, nI i1] Tryz.func7 rfl rfl (by simp) ?_
 intro a hF
 have hF0 : Fr 167 a [(0, nI i0), (1, nI i1)] := hF; clear hF
 unfold ShutHolds.m at hm
 refine wp_seq (wp_region_lit ?_)
 refine ev_runK 1 hF0 [0, 1] (l' := [(0, nI i0), (1, nI i1)]) (w' := w) (by kernel_rfl) ?_
 intro a2 hF1; clear hF0
 refine wpList_nil (thenN (wp_seq (wp_region_lit ?_)))
 refine ev_runs 5 hF1 (l' := [(0, nI (IntKind.i64.wrap (Int.tmod (IntKind.u64.wrap i0) 4))), (17, nI (IntKind.i64.wrap (Int.tmod (IntKind.u64.wrap i0) 4))), (16, .int .u64 (Int.tmod (IntKind.u64.wrap i0) 4)), (15, .int .u64 (IntKind.u64.wrap i0)), (14, nI i0), (1, nI i1)]) (w' := w) (by kernel_rfl) ?_
 intro a4 hF3; clear hF1
 obtain ⟨x5, hx6, hm7⟩ := bind1E hm; clear hm
 have hF8 := hF3; rw [Option.some.inj hx6] at hF8; clear hF3
 refine wpList_nil ?_
 have hF9 := hF8.keep [0, 1]
 clear hF8
 refine thenN (wp_seq (wp_region_lit ?_))
 refine ev_runs 1 hF9 (l' := [(18, .slice (some ⟨w.heap.size, 0, none⟩) 2 2), (0, nI x5), (1, nI i1)]) (w' := w.alloc (.cells #[nI 3, nI 0] 3)) (by kernel_rfl) ?_
 intro a11 hF10; clear hF9
 have hS13 : St w0 F0 (RowP (.slice (some ⟨w.heap.size, 0, none⟩) 2 2) [3, 0] :: ps) (w.alloc (.cells #[nI 3, nI 0] 3)) := St.lit hS [3, 0] (by unfold maxLen; simp)
 refine ev_call 21 #[.slice (some ⟨w.heap.size, 0, none⟩) 2 2, nI 1] hF10 rfl rfl (by kernel_rfl) rfl (by kernel_rfl) (fun w => by kernel_rfl) ?_
 obtain ⟨s14, s15, L16, L17, hx18, hm19⟩ := bind4E hm7; clear hm7
 refine (law17_made.ok hS13 hx18).mono ?_
 rintro _ w20 ⟨z24, z25, z26, z27, z28, z29, z30, z31, z32, z33, rfl, hS22⟩ a21 hF23; clear hF10 hS13
 have hS39 : St w0 F0 (RowP (.slice (some ⟨w.heap.size, 0, none⟩) 2 2) [3, 0] :: BlkP z24 46 #[nP z25 0, nP z27 0, z32, z33] :: HeapP z25 z26 s14 :: RHeapP z27 z28 z29 z30 z31 s15 :: RowP (z32) L16 :: RowP (z33) L17 :: ps) w20 := hS22
 clear hS22
 obtain ⟨hl43, p40, c41, rfl, hp42⟩ := St.shape hS39 4 rfl
 obtain ⟨hl47, p44, c45, rfl, hp46⟩ := St.shape hS39 5 rfl
 refine ev_runK 1 hF23 [0, 1, 5] (l' := [(5, nP z24 0), (0, nI x5), (1, nI i1)]) (w' := w20) (by kernel_rfl) ?_
 intro a49 hF48; clear hF23
 refine wpList_nil ?_
 have hS50 := hS39.drop
 clear hS39
 refine thenN (wp_seq (wp_seq ?_))
 refine joinQ (fun aI wI => ∃ (y51 : Bool), Fr 167 aI [(25, .bool (y51)), (5, nP z24 0), (0, nI x5), (1, nI i1)] ∧ St w0 F0 (BlkP z24 46 #[nP z25 0, nP z27 0, .slice p40 L16.length c41, .slice p44 L17.length c45] :: HeapP z25 z26 s14 :: RHeapP z27 z28 z29 z30 z31 s15 :: RowP (.slice p40 L16.length c41) L16 :: RowP (.slice p44 L17.length c45) L17 :: ps) wI ∧ ShutHolds.j1 i1 k x5 s14 s15 L16 L17 y51 = some r0) ?_ ?_
 rotate_left
 · rintro a53 w54 ⟨y51, hF55, hS56, hm57⟩
   clear hF48 hS50 hm19
   unfold ShutHolds.j1 at hm57
   refine thenN ?_
   cases hc59 : (y51)
   case true =>
    rw [hc59] at hF55
    have hm60 := ifYes hc59 hm57; clear hm57
    refine ev_condT hF55 rfl rfl ?_
    refine wp_seq (wp_region_lit ?_)
    refine ev_runK 1 hF55 [4] (l' := [(4, .bool false)]) (w' := w54) (by kernel_rfl) ?_
    intro a62 hF61; clear hF55
    refine wpList_nil ?_
    have hS63 := hS56.drop.drop.drop.drop.drop
    clear hS56
    refine thenN ?_
    refine wp_ret ?_
    refine thenR ?_
    obtain rfl := Option.some.inj hm60
    refine ev_ret hF61 [4] (.bool false) rfl rfl rfl ?_
    exact ⟨rfl, hS63⟩
   rw [hc59] at hF55
   have hm65 := ifNot hc59 hm57; clear hm57
   refine ev_condF hF55 rfl rfl ?_
   refine wp_skip ?_
   have hF66 := hF55.keep [0, 1, 5]
   clear hF55
   refine thenN (wp_seq (wp_seq (wp_region_lit ?_)))
   refine ev_runs 1 hF66 (l' := [(6, nI 0), (5, nP z24 0), (0, nI x5), (1, nI i1)]) (w' := w54) (by kernel_rfl) ?_
   intro a68 hF67; clear hF66
   refine wpList_nil (thenN ?_)
   refine wp_block ?_
   refine wp_loop_ghost (fun kI aI wI => ∃ (s69 : HSt) (x70 : Int), Fr 167 aI [(6, nI x70), (5, nP z24 0), (0, nI x5), (1, nI i1)] ∧ St w0 F0 (BlkP z24 46 #[nP z25 0, nP z27 0, .slice p40 L16.length c41, .slice p44 L17.length c45] :: HeapP z25 z26 s14 :: RHeapP z27 z28 z29 z30 z31 s69 :: RowP (.slice p40 L16.length c41) L16 :: RowP (.slice p44 L17.length c45) L17 :: ps) wI ∧ ShutHolds.l2 i1 k x5 s14 L16 L17 kI s69 x70 = some r0) k ⟨s15, 0, hF67, hS56, hm65⟩ ?_
   rintro k71 a72 w73 ⟨s69, x70, hF74, hS75, hm76⟩
   clear hF67 hS56 hm65
   rcases k71 with _ | k71
   · cases hm76
   have hm77 : ShutHolds.l2b i1 k x5 s14 L16 L17 (ShutHolds.l2 i1 k x5 s14 L16 L17 k71) s69 x70 = some r0 := hm76
   clear hm76
   unfold ShutHolds.l2b at hm77
   refine wp_seq (wp_seq (wp_region_lit ?_))
   refine ev_runK 3 hF74 [0, 1, 5, 6, 28] (l' := [(28, .bool (decide (x70 < x5))), (6, nI x70), (5, nP z24 0), (0, nI x5), (1, nI i1)]) (w' := w73) (by kernel_rfl) ?_
   intro a79 hF78; clear hF74
   refine wpList_nil (thenN ?_)
   cases hc80 : (decide (x70 < x5))
   case true =>
    rw [hc80] at hF78
    have hm81 := ifYes hc80 hm77; clear hm77
    refine ev_condT hF78 rfl rfl ?_
    refine wp_skip ?_
    have hF82 := hF78.keep [0, 1, 5, 6]
    clear hF78
    refine thenN (wp_seq ?_)
    refine wp_block ?_
    refine wp_seq ?_
    -- draws
    obtain ⟨hc83, hm84⟩ := ifTE hm81; clear hm81
    obtain ⟨g85, rfl⟩ := hp42.resolve_left (by have := inR_spec hc83; omega)
    have hS86 := hS75.pick3.pick1
    clear hS75
    have hS87 := hS86.drew; clear hS86
    refine any_start (fun wS => ∃ qs, St w0 F0 (BlkP z24 46 #[nP z25 0, nP z27 0, nS g85 L16 c41, .slice p44 L17.length c45] :: RowP (nS g85 L16 c41) L16 :: qs) wS) 13 #[false, false, false, false, false, false, false, false, false, false, false, false, false] (by kernel_rfl) (by kernel_rfl) (by kernel_rfl) ?_
    refine any_many 11 [(0, some (nP z24 0)), (1, some (nP z24 0)), (2, some (nP z24 1)), (3, some (nP z27 0)), (4, some (nP z24 0)), (5, some (nP z24 0)), (6, some (nP z24 2)), (7, some (nS g85 L16 c41)), (8, some (nP g85 ((0 : Int).toNat))), (9, some (nI (atI L16 (0 : Int)))), (10, some (nI i1))] [0, 1, 5, 6, 34, 40, 41, 42, 43] #[true, true, true, true, true, true, true, true, true, true, true, false, false] (by rfl) hF82 (by kernel_rfl) (by kernel_rfl) (by exact ⟨fun wS hw => by kernel_rfl, fun wS hw => by kernel_rfl, fun wS hw => by kernel_rfl, fun wS hw => hw.elim fun qs hw => run_loadV rfl rfl (run_loadS rfl rfl (hw.cell 0 rfl 1 rfl)), fun wS hw => by kernel_rfl, fun wS hw => by kernel_rfl, fun wS hw => by kernel_rfl, fun wS hw => hw.elim fun qs hw => run_loadV rfl rfl (run_loadS rfl rfl (hw.cell 0 rfl 2 rfl)), fun wS hw => run_idx rfl rfl rfl rfl rfl (inR_spec hc83).1 (inR_spec hc83).2 _, fun wS hw => run_load1 rfl rfl rfl (hw.elim fun qs hw => hw.atI 1 rfl hc83), fun wS hw => by kernel_rfl, trivial⟩) (fun _ _ _ _ _ h => h) ⟨_, hS87⟩ (l' := [(41, nI i1), (40, nI (atI L16 (0 : Int))), (34, nP z27 0), (6, nI x70), (5, nP z24 0), (0, nI x5), (1, nI i1)]) (by kernel_rfl) ?_
    intro a89 hF88; clear hF82
    have hS90 := hS87.pick3
    clear hS87
    refine any_call 11 #[true, true, true, true, true, true, true, true, true, true, true, true, false] 38 #[nP z27 0, nI (atI L16 (0 : Int)), nI i1] hF88 rfl (by kernel_rfl) rfl rfl (by kernel_rfl) rfl (by kernel_rfl) (fun w => by kernel_rfl) (by kernel_rfl) ?_
    obtain ⟨x91, s92, hx93, hm94⟩ := bind2E hm84; clear hm84
    refine (ref11_PutRing.ok hS90 hx93).mono ?_
    rintro _ w95 ⟨rfl, hS97⟩; clear hS90
    refine ⟨⟨_, hS97.pick2.pick2⟩, ?_⟩
    intro a96 hF98; clear hF88
    refine any_many 1 [(12, some (.bool (x91 != 0)))] [0, 1, 5, 6, 43] #[true, true, true, true, true, true, true, true, true, true, true, true, true] (by rfl) hF98 (by kernel_rfl) (by kernel_rfl) (by exact ⟨fun wS hw => by kernel_rfl, trivial⟩) (fun _ _ _ _ _ h => h) ⟨_, hS97.pick2.pick2⟩ (l' := [(43, .bool (x91 != 0)), (6, nI x70), (5, nP z24 0), (0, nI x5), (1, nI i1)]) (by kernel_rfl) ?_
    intro a100 hF99; clear hF98
    refine any_done (by kernel_rfl) ?_
    refine thenN ?_
    cases hc101 : (x91 != 0)
    case true =>
     rw [hc101] at hF99
     have hm102 := ifYes hc101 hm94; clear hm94
     refine ev_condT hF99 rfl rfl ?_
     refine wp_seq (wp_region_lit ?_)
     refine ev_runK 1 hF99 [4] (l' := [(4, .bool false)]) (w' := w95) (by kernel_rfl) ?_
     intro a104 hF103; clear hF99
     refine wpList_nil ?_
     have hS105 := hS97.drop.drop.drop.drop.drop
     clear hS97
     refine thenN ?_
     refine wp_ret ?_
     refine blockR ?_
     refine thenR (thenR ?_)
     refine blockR ?_
     refine thenR ?_
     obtain rfl := Option.some.inj hm102
     refine ev_ret hF103 [4] (.bool false) rfl rfl rfl ?_
     exact ⟨rfl, hS105⟩
    rw [hc101] at hF99
    have hm107 := ifNot hc101 hm94; clear hm94
    refine ev_condF hF99 rfl rfl ?_
    refine wp_skip ?_
    have hF108 := hF99.keep [0, 1, 5, 6]
    clear hF99
    refine blockN ?_
    refine thenN (wp_region_lit ?_)
    refine ev_runK 3 hF108 [0, 1, 5, 6] (l' := [(6, nI (IntKind.i64.wrap (x70 + 1))), (5, nP z24 0), (0, nI x5), (1, nI i1)]) (w' := w95) (by kernel_rfl) ?_
    intro a110 hF109; clear hF108
    refine wpList_nil ?_
    have hS111 := hS97.pick4.pick3.pick2.pick4.pick4
    clear hS97
    exact thenN ⟨k71, Nat.lt_succ_self _, s92, IntKind.i64.wrap (x70 + 1), hF109, hS111, hm107⟩
   rw [hc80] at hF78
   have hm112 := ifNot hc80 hm77; clear hm77
   refine ev_condF hF78 rfl rfl ?_
   refine wp_exit ?_
   refine thenE ?_
   refine thenE ?_
   refine blockE ?_
   refine thenN (wp_seq ?_)
   refine joinQ (fun aI wI => ∃ (g113 : Nat) (s114 : HSt) (x115 : Int) (x116 : Int) (x117 : Int) (x118 : Int) (x119 : Int) (x120 : Int) (x121 : Int) (x122 : Int) (x123 : Int), Fr 167 aI [(7, nP g113 0), (5, nP z24 0), (0, nI x5), (1, nI i1)] ∧ St w0 F0 (BlkP g113 57 #[nI x115, nI x116, nI x117, nI x118, nI x119, nI x120, nI x121, nI x122, nI x123] :: RHeapP z27 z28 z29 z30 z31 s114 :: BlkP z24 46 #[nP z25 0, nP z27 0, .slice p40 L16.length c41, .slice p44 L17.length c45] :: RowP (.slice p40 L16.length c41) L16 :: HeapP z25 z26 s14 :: RowP (.slice p44 L17.length c45) L17 :: ps) wI ∧ ShutHolds.j3 i1 k x5 s14 L16 L17 s114 x115 x116 x117 x118 x119 x120 x121 x122 x123 = some r0) ?_ ?_
   rotate_left
   · rintro a125 w126 ⟨g113, s114, x115, x116, x117, x118, x119, x120, x121, x122, x123, hF127, hS128, hm129⟩
     clear hF78 hS75 hm112
     unfold ShutHolds.j3 at hm129
     refine thenN (wp_seq (wp_seq (wp_region_lit ?_)))
     refine ev_runs 1 hF127 (l' := [(9, nI 0), (7, nP g113 0), (5, nP z24 0), (0, nI x5), (1, nI i1)]) (w' := w126) (by kernel_rfl) ?_
     intro a132 hF131; clear hF127
     refine wpList_nil (thenN ?_)
     refine wp_block ?_
     refine wp_loop_ghost (fun kI aI wI => ∃ (s133 : HSt) (x134 : Int), Fr 167 aI [(9, nI x134), (7, nP g113 0), (5, nP z24 0), (0, nI x5), (1, nI i1)] ∧ St w0 F0 (BlkP g113 57 #[nI x115, nI x116, nI x117, nI x118, nI x119, nI x120, nI x121, nI x122, nI x123] :: RHeapP z27 z28 z29 z30 z31 s114 :: BlkP z24 46 #[nP z25 0, nP z27 0, .slice p40 L16.length c41, .slice p44 L17.length c45] :: RowP (.slice p40 L16.length c41) L16 :: HeapP z25 z26 s133 :: RowP (.slice p44 L17.length c45) L17 :: ps) wI ∧ ShutHolds.l4 i1 k x5 L16 L17 s114 x115 x116 x117 x118 x119 x120 x121 x122 x123 kI s133 x134 = some r0) k ⟨s14, 0, hF131, hS128, hm129⟩ ?_
     rintro k135 a136 w137 ⟨s133, x134, hF138, hS139, hm140⟩
     clear hF131 hS128 hm129
     rcases k135 with _ | k135
     · cases hm140
     have hm141 : ShutHolds.l4b i1 k x5 L16 L17 s114 x115 x116 x117 x118 x119 x120 x121 x122 x123 (ShutHolds.l4 i1 k x5 L16 L17 s114 x115 x116 x117 x118 x119 x120 x121 x122 x123 k135) s133 x134 = some r0 := hm140
     clear hm140
     unfold ShutHolds.l4b at hm141
     refine wp_seq (wp_seq (wp_region_lit ?_))
     refine ev_runK 3 hF138 [0, 1, 5, 7, 9, 60] (l' := [(60, .bool (decide (x134 < x5))), (9, nI x134), (7, nP g113 0), (5, nP z24 0), (0, nI x5), (1, nI i1)]) (w' := w137) (by kernel_rfl) ?_
     intro a143 hF142; clear hF138
     refine wpList_nil (thenN ?_)
     cases hc144 : (decide (x134 < x5))
     case true =>
      rw [hc144] at hF142
      have hm145 := ifYes hc144 hm141; clear hm141
      refine ev_condT hF142 rfl rfl ?_
      refine wp_skip ?_
      have hF146 := hF142.keep [0, 1, 5, 7, 9]
      clear hF142
      refine thenN (wp_seq ?_)
      refine wp_block ?_
      -- draws
      have hS147 := hS139.pick2
      clear hS139
      have hS148 := hS147.drew; clear hS147
      refine any_start (fun wS => ∃ qs, St w0 F0 (BlkP z24 46 #[nP z25 0, nP z27 0, .slice p40 L16.length c41, .slice p44 L17.length c45] :: BlkP g113 57 #[nI x115, nI x116, nI x117, nI x118, nI x119, nI x120, nI x121, nI x122, nI x123] :: qs) wS) 9 #[false, false, false, false, false, false, false, false, false] (by kernel_rfl) (by kernel_rfl) (by kernel_rfl) ?_
      refine any_many 8 [(0, some (nP z24 0)), (1, some (nP z24 0)), (2, some (nP z24 0)), (3, some (nP z25 0)), (4, some (nP g113 4)), (5, some (nI x119)), (6, some (nI x134)), (7, some (nI i1))] [0, 1, 5, 7, 9, 66, 68, 69, 70] #[true, true, true, true, true, true, true, true, false] (by rfl) hF146 (by kernel_rfl) (by kernel_rfl) (by exact ⟨fun wS hw => by kernel_rfl, fun wS hw => by kernel_rfl, fun wS hw => by kernel_rfl, fun wS hw => hw.elim fun qs hw => run_loadV rfl rfl (run_loadS rfl rfl (hw.cell 0 rfl 0 rfl)), fun wS hw => by kernel_rfl, fun wS hw => hw.elim fun qs hw => run_loadV rfl rfl (run_loadS rfl rfl (hw.cell 1 rfl 4 rfl)), fun wS hw => by kernel_rfl, fun wS hw => by kernel_rfl, trivial⟩) (fun _ _ _ _ _ h => h) ⟨_, hS148⟩ (l' := [(70, nI i1), (69, nI x134), (68, nI x119), (66, nP z25 0), (9, nI x134), (7, nP g113 0), (5, nP z24 0), (0, nI x5), (1, nI i1)]) (by kernel_rfl) ?_
      intro a150 hF149; clear hF146
      have hS151 := hS148.pick4
      clear hS148
      refine any_call 8 #[true, true, true, true, true, true, true, true, true] 40 #[nP z25 0, nI x119, nI x134, nI i1] hF149 rfl (by kernel_rfl) rfl rfl (by kernel_rfl) rfl (by kernel_rfl) (fun w => by kernel_rfl) (by kernel_rfl) ?_
      obtain ⟨x152, s153, hx154, hm155⟩ := bind2E hm145; clear hm145
      refine (p_Store hS151 hx154).mono ?_
      rintro _ w156 ⟨rfl, hS158⟩; clear hS151
      refine ⟨⟨_, hS158.pick2.pick2⟩, ?_⟩
      intro a157 hF159; clear hF149
      refine any_done (by kernel_rfl) ?_
      have hF160 := hF159.keep [0, 1, 5, 7, 9]
      clear hF159
      refine blockN ?_
      refine thenN (wp_region_lit ?_)
      refine ev_runK 3 hF160 [0, 1, 5, 7, 9] (l' := [(9, nI (IntKind.i64.wrap (x134 + 1))), (7, nP g113 0), (5, nP z24 0), (0, nI x5), (1, nI i1)]) (w' := w156) (by kernel_rfl) ?_
      intro a162 hF161; clear hF160
      refine wpList_nil ?_
      have hS163 := hS158.pick5.pick1.pick5.pick3.pick5.pick5
      clear hS158
      exact thenN ⟨k135, Nat.lt_succ_self _, s153, IntKind.i64.wrap (x134 + 1), hF161, hS163, hm155⟩
     rw [hc144] at hF142
     have hm164 := ifNot hc144 hm141; clear hm141
     refine ev_condF hF142 rfl rfl ?_
     refine wp_exit ?_
     refine thenE ?_
     refine thenE ?_
     refine blockE ?_
     refine thenN (wp_seq (wp_seq ?_))
     refine joinQ (fun aI wI => ∃ (s165 : HSt) (s166 : HSt) (y167 : Bool), Fr 167 aI [(99, .bool (y167)), (5, nP z24 0), (0, nI x5)] ∧ St w0 F0 (HeapP z25 z26 s165 :: BlkP z24 46 #[nP z25 0, nP z27 0, .slice p40 L16.length c41, .slice p44 L17.length c45] :: RowP (.slice p40 L16.length c41) L16 :: RHeapP z27 z28 z29 z30 z31 s166 :: RowP (.slice p44 L17.length c45) L17 :: ps) wI ∧ ShutHolds.j5 k x5 L16 s165 s166 y167 = some r0) ?_ ?_
     rotate_left
     · rintro a169 w170 ⟨s165, s166, y167, hF171, hS172, hm173⟩
       clear hF142 hS139 hm164
       unfold ShutHolds.j5 at hm173
       refine thenN ?_
       cases hc175 : (y167)
       case true =>
        rw [hc175] at hF171
        have hm176 := ifYes hc175 hm173; clear hm173
        refine ev_condT hF171 rfl rfl ?_
        refine wp_seq (wp_region_lit ?_)
        refine ev_runK 1 hF171 [4] (l' := [(4, .bool false)]) (w' := w170) (by kernel_rfl) ?_
        intro a178 hF177; clear hF171
        refine wpList_nil ?_
        have hS179 := hS172.drop.drop.drop.drop.drop
        clear hS172
        refine thenN ?_
        refine wp_ret ?_
        refine thenR ?_
        obtain rfl := Option.some.inj hm176
        refine ev_ret hF177 [4] (.bool false) rfl rfl rfl ?_
        exact ⟨rfl, hS179⟩
       rw [hc175] at hF171
       have hm181 := ifNot hc175 hm173; clear hm173
       refine ev_condF hF171 rfl rfl ?_
       refine wp_skip ?_
       have hF182 := hF171.keep [0, 5]
       clear hF171
       refine thenN (wp_seq ?_)
       -- draws
       obtain ⟨hc183, hm184⟩ := ifTE hm181; clear hm181
       obtain ⟨g185, rfl⟩ := hp42.resolve_left (by have := inR_spec hc183; omega)
       have hS186 := hS172.pick2.pick2
       clear hS172
       have hS187 := hS186.drew; clear hS186
       refine any_start (fun wS => ∃ qs, St w0 F0 (BlkP z24 46 #[nP z25 0, nP z27 0, nS g185 L16 c41, .slice p44 L17.length c45] :: RowP (nS g185 L16 c41) L16 :: qs) wS) 18 #[false, false, false, false, false, false, false, false, false, false, false, false, false, false, false, false, false, false] (by kernel_rfl) (by kernel_rfl) (by kernel_rfl) ?_
       refine any_many 12 [(0, some (nP z24 0)), (1, some (nP z24 0)), (2, some (nP z24 0)), (3, some (nP z25 0)), (4, some (nP z24 0)), (5, some (nP z24 0)), (6, some (nP z24 2)), (7, some (nS g185 L16 c41)), (8, some (nP g185 ((0 : Int).toNat))), (9, some (nI (atI L16 (0 : Int)))), (10, some (nI (IntKind.i64.wrap (2 * (atI L16 (0 : Int)))))), (11, some (nI (IntKind.i64.wrap ((IntKind.i64.wrap (2 * (atI L16 (0 : Int)))) + 1))))] [0, 5, 10, 11, 100, 104, 112, 113, 114, 115] #[true, true, true, true, true, true, true, true, true, true, true, true, false, false, false, false, false, false] (by rfl) hF182 (by kernel_rfl) (by kernel_rfl) (by exact ⟨fun wS hw => by kernel_rfl, fun wS hw => by kernel_rfl, fun wS hw => by kernel_rfl, fun wS hw => hw.elim fun qs hw => run_loadV rfl rfl (run_loadS rfl rfl (hw.cell 0 rfl 0 rfl)), fun wS hw => by kernel_rfl, fun wS hw => by kernel_rfl, fun wS hw => by kernel_rfl, fun wS hw => hw.elim fun qs hw => run_loadV rfl rfl (run_loadS rfl rfl (hw.cell 0 rfl 2 rfl)), fun wS hw => run_idx rfl rfl rfl rfl rfl (inR_spec hc183).1 (inR_spec hc183).2 _, fun wS hw => run_load1 rfl rfl rfl (hw.elim fun qs hw => hw.atI 1 rfl hc183), fun wS hw => by kernel_rfl, fun wS hw => by kernel_rfl, trivial⟩) (fun _ _ _ _ _ h => h) ⟨_, hS187⟩ (l' := [(112, nI (IntKind.i64.wrap ((IntKind.i64.wrap (2 * (atI L16 (0 : Int)))) + 1))), (104, nP z25 0), (5, nP z24 0), (0, nI x5)]) (by kernel_rfl) ?_
       intro a189 hF188; clear hF182
       have hS190 := hS187.pick2
       clear hS187
       refine any_call 12 #[true, true, true, true, true, true, true, true, true, true, true, true, true, false, false, false, false, false] 23 #[nP z25 0, nI (IntKind.i64.wrap ((IntKind.i64.wrap (2 * (atI L16 (0 : Int)))) + 1))] hF188 rfl (by kernel_rfl) rfl rfl (by kernel_rfl) rfl (by kernel_rfl) (fun w => by kernel_rfl) (by kernel_rfl) ?_
       obtain ⟨L191, x192, s193, hx194, hm195⟩ := bind3E hm184; clear hm184
       refine (shut_Try.ok hS190 hx194).mono ?_
       rintro _ w196 ⟨z200, rfl, hS198⟩; clear hS190
       obtain ⟨hl205, p202, c203, rfl, hp204⟩ := St.shape hS198 1 rfl
       refine ⟨⟨_, hS198.pick3.pick3⟩, ?_⟩
       intro a197 hF199; clear hF188
       refine any_many 5 [(13, some (.tuple #[.slice p202 L191.length c203, nI x192])), (14, some (.slice p202 L191.length c203)), (15, some (nI x192)), (16, some (.slice p202 L191.length c203)), (17, some (nI x192))] [0, 5, 10, 11] #[true, true, true, true, true, true, true, true, true, true, true, true, true, true, true, true, true, true] (by rfl) hF199 (by kernel_rfl) (by kernel_rfl) (by exact ⟨fun wS hw => by kernel_rfl, fun wS hw => by kernel_rfl, fun wS hw => by kernel_rfl, fun wS hw => by kernel_rfl, fun wS hw => by kernel_rfl, trivial⟩) (fun _ _ _ _ _ h => h) ⟨_, hS198.pick3.pick3⟩ (l' := [(11, nI x192), (10, .slice p202 L191.length c203), (5, nP z24 0), (0, nI x5)]) (by kernel_rfl) ?_
       intro a207 hF206; clear hF199
       refine any_done (by kernel_rfl) ?_
       refine thenN (wp_seq ?_)
       refine joinQ (fun aI wI => ∃ (g208 : Nat) (x209 : Int) (x210 : Int) (x211 : Int) (x212 : Int) (x213 : Int) (x214 : Int) (x215 : Int) (x216 : Int) (x217 : Int) (x218 : Int), Fr 167 aI [(13, nI x218), (12, nP g208 0), (11, nI x192), (10, .slice p202 L191.length c203), (5, nP z24 0), (0, nI x5)] ∧ St w0 F0 (BlkP g208 57 #[nI x209, nI x210, nI x211, nI x212, nI x213, nI x214, nI x215, nI x216, nI x217] :: HeapP z25 z26 s193 :: BlkP z24 46 #[nP z25 0, nP z27 0, nS g185 L16 c41, .slice p44 L17.length c45] :: RowP (nS g185 L16 c41) L16 :: RowP (.slice p202 L191.length c203) L191 :: RHeapP z27 z28 z29 z30 z31 s166 :: RowP (.slice p44 L17.length c45) L17 :: ps) wI ∧ ShutHolds.j6 k x5 L16 L191 x192 s193 x209 x210 x211 x212 x213 x214 x215 x216 x217 x218 = some r0) ?_ ?_
       rotate_left
       · rintro a220 w221 ⟨g208, x209, x210, x211, x212, x213, x214, x215, x216, x217, x218, hF222, hS223, hm224⟩
         clear hF206 hS198 hm195
         unfold ShutHolds.j6 at hm224
         refine thenN (wp_seq ?_)
         refine joinQ (fun aI wI => ∃ (y226 : Bool), Fr 167 aI [(4, .bool (y226))] ∧ St w0 F0 (ps) wI ∧ ShutHolds.j7 y226 = some r0) ?_ ?_
         rotate_left
         · rintro a228 w229 ⟨y226, hF230, hS231, hm232⟩
           clear hF222 hS223 hm224
           unfold ShutHolds.j7 at hm232
           refine thenN ?_
           refine wp_ret ?_
           obtain rfl := Option.some.inj hm232
           refine ev_ret hF230 [4] (.bool (y226)) rfl rfl rfl ?_
           exact ⟨rfl, hS231⟩
         · skip
           -- draws
           have hS235 := hS223.pick3.pick3.pick2
           clear hS223
           have hS236 := hS235.drew; clear hS235
           refine any_start (fun wS => ∃ qs, St w0 F0 (BlkP g208 57 #[nI x209, nI x210, nI x211, nI x212, nI x213, nI x214, nI x215, nI x216, nI x217] :: BlkP z24 46 #[nP z25 0, nP z27 0, nS g185 L16 c41, .slice p44 L17.length c45] :: RowP (nS g185 L16 c41) L16 :: qs) wS) 38 #[false, false, false, false, false, false, false, false, false, false, false, false, false, false, false, false, false, false, false, false, false, false, false, false, false, false, false, false, false, false, false, false, false, false, false, false, false, false] (by kernel_rfl) (by kernel_rfl) (by kernel_rfl) ?_
           refine any_many 4 [(0, some (.slice p202 L191.length c203)), (1, some (nI ((L191.length : Int)))), (2, some (.bool ((L191.length : Int) == 0))), (3, some (.bool ((L191.length : Int) == 0)))] [0, 4, 5, 11, 12, 13, 133, 134, 135, 136, 137, 138, 139, 140, 141, 142, 143, 144, 145, 146, 147, 148, 149, 150, 151, 152, 153, 154, 155, 156, 157, 158, 159, 160, 161, 162, 163, 164, 165, 166] #[true, true, true, true, false, false, false, false, false, false, false, false, false, false, false, false, false, false, false, false, false, false, false, false, false, false, false, false, false, false, false, false, false, false, false, false, false, false] (by rfl) hF222 (by kernel_rfl) (by kernel_rfl) (by exact ⟨fun wS hw => by kernel_rfl, fun wS hw => by kernel_rfl, fun wS hw => by kernel_rfl, fun wS hw => by kernel_rfl, trivial⟩) (fun _ _ _ _ _ h => h) ⟨_, hS236⟩ (l' := [(133, .bool ((L191.length : Int) == 0)), (13, nI x218), (12, nP g208 0), (11, nI x192), (5, nP z24 0), (0, nI x5)]) (by kernel_rfl) ?_
           intro a238 hF237; clear hF222
           cases hc239 : ((L191.length : Int) == 0)
           case true =>
            rw [hc239] at hF237
            have hm240 := ifYes hc239 hm224; clear hm224
            refine any_many 4 [(4, some (nI x192)), (5, some (.bool (x192 == 1))), (6, some (.bool (x192 == 1))), (7, some (.bool (x192 == 1)))] [0, 4, 5, 12, 13, 137, 138, 139, 140, 141, 142, 143, 144, 145, 146, 147, 148, 149, 150, 151, 152, 153, 154, 155, 156, 157, 158, 159, 160, 161, 162, 163, 164, 165, 166] #[true, true, true, true, true, true, true, true, false, false, false, false, false, false, false, false, false, false, false, false, false, false, false, false, false, false, false, false, false, false, false, false, false, false, false, false, false, false] (by rfl) hF237 (by kernel_rfl) (by kernel_rfl) (by exact ⟨fun wS hw => by kernel_rfl, fun wS hw => by kernel_rfl, fun wS hw => by kernel_rfl, fun wS hw => by kernel_rfl, trivial⟩) (fun _ _ _ _ _ h => h) ⟨_, hS236⟩ (l' := [(137, .bool (x192 == 1)), (13, nI x218), (12, nP g208 0), (5, nP z24 0), (0, nI x5)]) (by kernel_rfl) ?_
            intro a242 hF241; clear hF237
            cases hc243 : (x192 == 1)
            case true =>
             rw [hc243] at hF241
             have hm244 := ifYes hc243 hm240; clear hm240
             refine any_many 4 [(8, some (nI x218)), (9, some (.bool (x218 == 0))), (10, some (.bool (x218 == 0))), (11, some (.bool (x218 == 0)))] [0, 4, 5, 12, 141, 142, 143, 144, 145, 146, 147, 148, 149, 150, 151, 152, 153, 154, 155, 156, 157, 158, 159, 160, 161, 162, 163, 164, 165, 166] #[true, true, true, true, true, true, true, true, true, true, true, true, false, false, false, false, false, false, false, false, false, false, false, false, false, false, false, false, false, false, false, false, false, false, false, false, false, false] (by rfl) hF241 (by kernel_rfl) (by kernel_rfl) (by exact ⟨fun wS hw => by kernel_rfl, fun wS hw => by kernel_rfl, fun wS hw => by kernel_rfl, fun wS hw => by kernel_rfl, trivial⟩) (fun _ _ _ _ _ h => h) ⟨_, hS236⟩ (l' := [(141, .bool (x218 == 0)), (12, nP g208 0), (5, nP z24 0), (0, nI x5)]) (by kernel_rfl) ?_
             intro a246 hF245; clear hF241
             cases hc247 : (x218 == 0)
             case true =>
              rw [hc247] at hF245
              have hm248 := ifYes hc247 hm244; clear hm244
              refine any_many 5 [(12, some (nP g208 1)), (13, some (nI x210)), (14, some (.bool (x210 == 1))), (15, some (.bool (x210 == 1))), (16, some (.bool (x210 == 1)))] [0, 4, 5, 12, 146, 147, 148, 149, 150, 151, 152, 153, 154, 155, 156, 157, 158, 159, 160, 161, 162, 163, 164, 165, 166] #[true, true, true, true, true, true, true, true, true, true, true, true, true, true, true, true, true, false, false, false, false, false, false, false, false, false, false, false, false, false, false, false, false, false, false, false, false, false] (by rfl) hF245 (by kernel_rfl) (by kernel_rfl) (by exact ⟨fun wS hw => by kernel_rfl, fun wS hw => hw.elim fun qs hw => run_loadV rfl rfl (run_loadS rfl rfl (hw.cell 0 rfl 1 rfl)), fun wS hw => by kernel_rfl, fun wS hw => by kernel_rfl, fun wS hw => by kernel_rfl, trivial⟩) (fun _ _ _ _ _ h => h) ⟨_, hS236⟩ (l' := [(146, .bool (x210 == 1)), (12, nP g208 0), (5, nP z24 0), (0, nI x5)]) (by kernel_rfl) ?_
              intro a250 hF249; clear hF245
              cases hc251 : (x210 == 1)
              case true =>
               rw [hc251] at hF249
               have hm252 := ifYes hc251 hm248; clear hm248
               refine any_many 6 [(17, some (nP g208 2)), (18, some (nI x211)), (19, some (nI x5)), (20, some (.bool (x211 == x5))), (21, some (.bool (x211 == x5))), (22, some (.bool (x211 == x5)))] [4, 5, 152, 153, 154, 155, 156, 157, 158, 159, 160, 161, 162, 163, 164, 165, 166] #[true, true, true, true, true, true, true, true, true, true, true, true, true, true, true, true, true, true, true, true, true, true, true, false, false, false, false, false, false, false, false, false, false, false, false, false, false, false] (by rfl) hF249 (by kernel_rfl) (by kernel_rfl) (by exact ⟨fun wS hw => by kernel_rfl, fun wS hw => hw.elim fun qs hw => run_loadV rfl rfl (run_loadS rfl rfl (hw.cell 0 rfl 2 rfl)), fun wS hw => by kernel_rfl, fun wS hw => by kernel_rfl, fun wS hw => by kernel_rfl, fun wS hw => by kernel_rfl, trivial⟩) (fun _ _ _ _ _ h => h) ⟨_, hS236⟩ (l' := [(152, .bool (x211 == x5)), (5, nP z24 0)]) (by kernel_rfl) ?_
               intro a254 hF253; clear hF249
               cases hc255 : (x211 == x5)
               case true =>
                rw [hc255] at hF253
                have hm256 := ifYes hc255 hm252; clear hm252
                refine any_many 8 [(23, some (nP z24 0)), (24, some (nP z24 0)), (25, some (nP z24 0)), (26, some (nP z25 0)), (27, some (nP z24 0)), (28, some (nP z24 0)), (29, some (nP z24 2)), (30, some (nS g185 L16 c41))] [4, 152, 156, 160, 161, 162, 163, 164, 165, 166] #[true, true, true, true, true, true, true, true, true, true, true, true, true, true, true, true, true, true, true, true, true, true, true, true, true, true, true, true, true, true, true, false, false, false, false, false, false, false] (by rfl) hF253 (by kernel_rfl) (by kernel_rfl) (by exact ⟨fun wS hw => by kernel_rfl, fun wS hw => by kernel_rfl, fun wS hw => by kernel_rfl, fun wS hw => hw.elim fun qs hw => run_loadV rfl rfl (run_loadS rfl rfl (hw.cell 1 rfl 0 rfl)), fun wS hw => by kernel_rfl, fun wS hw => by kernel_rfl, fun wS hw => by kernel_rfl, fun wS hw => hw.elim fun qs hw => run_loadV rfl rfl (run_loadS rfl rfl (hw.cell 1 rfl 2 rfl)), trivial⟩) (fun _ _ _ _ _ h => h) ⟨_, hS236⟩ (l' := [(160, nS g185 L16 c41), (156, nP z25 0), (152, .bool true)]) (by kernel_rfl) ?_
                intro a258 hF257; clear hF253
                obtain ⟨hc259, hm260⟩ := ifTE hm256; clear hm256
                refine any_many 2 [(31, some (nP g185 ((1 : Int).toNat))), (32, some (nI (atI L16 (1 : Int))))] [4, 152, 156, 162, 163, 164, 165, 166] #[true, true, true, true, true, true, true, true, true, true, true, true, true, true, true, true, true, true, true, true, true, true, true, true, true, true, true, true, true, true, true, true, true, false, false, false, false, false] (by rfl) hF257 (by kernel_rfl) (by kernel_rfl) (by exact ⟨fun wS hw => run_idx rfl rfl rfl rfl rfl (inR_spec hc259).1 (inR_spec hc259).2 _, fun wS hw => run_load1 rfl rfl rfl (hw.elim fun qs hw => hw.atI 2 rfl hc259), trivial⟩) (fun _ _ _ _ _ h => h) ⟨_, hS236⟩ (l' := [(162, nI (atI L16 (1 : Int))), (156, nP z25 0), (152, .bool true)]) (by kernel_rfl) ?_
                intro a262 hF261; clear hF257
                have hS263 := hS236.pick3
                clear hS236
                refine any_call 33 #[true, true, true, true, true, true, true, true, true, true, true, true, true, true, true, true, true, true, true, true, true, true, true, true, true, true, true, true, true, true, true, true, true, true, false, false, false, false] 35 #[nP z25 0, nI (atI L16 (1 : Int)), .bool false] hF261 rfl (by kernel_rfl) rfl rfl (by kernel_rfl) rfl (by kernel_rfl) (fun w => by kernel_rfl) (by kernel_rfl) ?_
                obtain ⟨L264, s265, hx266, hm267⟩ := bind2E hm260; clear hm260
                refine (list_All.ok hS263 hx266).mono ?_
                rintro _ w268 ⟨z272, rfl, hS270⟩; clear hS263
                obtain ⟨hl277, p274, c275, rfl, hp276⟩ := St.shape hS270 1 rfl
                refine ⟨⟨_, hS270.pick4.pick4.pick4⟩, ?_⟩
                intro a269 hF271; clear hF261
                refine any_many 4 [(34, some (nI ((L264.length : Int)))), (35, some (.bool ((L264.length : Int) == 1))), (36, some (.bool ((L264.length : Int) == 1))), (37, some (.bool ((L264.length : Int) == 1)))] [4] #[true, true, true, true, true, true, true, true, true, true, true, true, true, true, true, true, true, true, true, true, true, true, true, true, true, true, true, true, true, true, true, true, true, true, true, true, true, true] (by rfl) hF271 (by kernel_rfl) (by kernel_rfl) (by exact ⟨fun wS hw => by kernel_rfl, fun wS hw => by kernel_rfl, fun wS hw => by kernel_rfl, fun wS hw => by kernel_rfl, trivial⟩) (fun _ _ _ _ _ h => h) ⟨_, hS270.pick4.pick4.pick4⟩ (l' := [(4, .bool ((L264.length : Int) == 1))]) (by kernel_rfl) ?_
                intro a279 hF278; clear hF271
                refine any_done (by kernel_rfl) ?_
                have hS280 := hS270.drop.drop.drop.drop.drop.drop.drop.drop
                clear hS270
                exact thenN ⟨(L264.length : Int) == 1, hF278, hS280, hm267⟩
               rw [hc255] at hF253
               have hm281 := ifNot hc255 hm252; clear hm252
               refine any_many 15 [(23, none), (24, none), (25, none), (26, none), (27, none), (28, none), (29, none), (30, none), (31, none), (32, none), (33, none), (34, none), (35, none), (36, some (.bool false)), (37, some (.bool false))] [4] #[true, true, true, true, true, true, true, true, true, true, true, true, true, true, true, true, true, true, true, true, true, true, true, true, true, true, true, true, true, true, true, true, true, true, true, true, true, true] (by rfl) hF253 (by kernel_rfl) (by kernel_rfl) (by exact (And.intro trivial (And.intro trivial (And.intro trivial (And.intro trivial (And.intro trivial (And.intro trivial (And.intro trivial (And.intro trivial (And.intro trivial (And.intro trivial (And.intro trivial (And.intro trivial (And.intro trivial (And.intro (fun wS hw => by kernel_rfl) (And.intro (fun wS hw => by kernel_rfl) trivial)))))))))))))))) (fun _ _ _ _ _ h => h) ⟨_, hS236⟩ (l' := [(4, .bool false)]) (by kernel_rfl) ?_
               intro a283 hF282; clear hF253
               refine any_done (by kernel_rfl) ?_
               have hS284 := hS236.drop.drop.drop.drop.drop.drop.drop
               clear hS236
               exact thenN ⟨false, hF282, hS284, hm281⟩
              rw [hc251] at hF249
              have hm285 := ifNot hc251 hm248; clear hm248
              refine any_many 21 [(17, none), (18, none), (19, none), (20, none), (21, some (.bool false)), (22, some (.bool false)), (23, none), (24, none), (25, none), (26, none), (27, none), (28, none), (29, none), (30, none), (31, none), (32, none), (33, none), (34, none), (35, none), (36, some (.bool false)), (37, some (.bool false))] [4] #[true, true, true, true, true, true, true, true, true, true, true, true, true, true, true, true, true, true, true, true, true, true, true, true, true, true, true, true, true, true, true, true, true, true, true, true, true, true] (by rfl) hF249 (by kernel_rfl) (by kernel_rfl) (by exact (And.intro trivial (And.intro trivial (And.intro trivial (And.intro trivial (And.intro (fun wS hw => by kernel_rfl) (And.intro (fun wS hw => by kernel_rfl) (And.intro trivial (And.intro trivial (And.intro trivial (And.intro trivial (And.intro trivial (And.intro trivial (And.intro trivial (And.intro trivial (And.intro trivial (And.intro trivial (And.intro trivial (And.intro trivial (And.intro trivial (And.intro (fun wS hw => by kernel_rfl) (And.intro (fun wS hw => by kernel_rfl) trivial)))))))))))))))))))))) (fun _ _ _ _ _ h => h) ⟨_, hS236⟩ (l' := [(4, .bool false)]) (by kernel_rfl) ?_
              intro a287 hF286; clear hF249
              refine any_done (by kernel_rfl) ?_
              have hS288 := hS236.drop.drop.drop.drop.drop.drop.drop
              clear hS236
              exact thenN ⟨false, hF286, hS288, hm285⟩
             rw [hc247] at hF245
             have hm289 := ifNot hc247 hm244; clear hm244
             refine any_many 26 [(12, none), (13, none), (14, none), (15, some (.bool false)), (16, some (.bool false)), (17, none), (18, none), (19, none), (20, none), (21, some (.bool false)), (22, some (.bool false)), (23, none), (24, none), (25, none), (26, none), (27, none), (28, none), (29, none), (30, none), (31, none), (32, none), (33, none), (34, none), (35, none), (36, some (.bool false)), (37, some (.bool false))] [4] #[true, true, true, true, true, true, true, true, true, true, true, true, true, true, true, true, true, true, true, true, true, true, true, true, true, true, true, true, true, true, true, true, true, true, true, true, true, true] (by rfl) hF245 (by kernel_rfl) (by kernel_rfl) (by exact (And.intro trivial (And.intro trivial (And.intro trivial (And.intro (fun wS hw => by kernel_rfl) (And.intro (fun wS hw => by kernel_rfl) (And.intro trivial (And.intro trivial (And.intro trivial (And.intro trivial (And.intro (fun wS hw => by kernel_rfl) (And.intro (fun wS hw => by kernel_rfl) (And.intro trivial (And.intro trivial (And.intro trivial (And.intro trivial (And.intro trivial (And.intro trivial (And.intro trivial (And.intro trivial (And.intro trivial (And.intro trivial (And.intro trivial (And.intro trivial (And.intro trivial (And.intro (fun wS hw => by kernel_rfl) (And.intro (fun wS hw => by kernel_rfl) trivial))))))))))))))))))))))))))) (fun _ _ _ _ _ h => h) ⟨_, hS236⟩ (l' := [(4, .bool false)]) (by kernel_rfl) ?_
             intro a291 hF290; clear hF245
             refine any_done (by kernel_rfl) ?_
             have hS292 := hS236.drop.drop.drop.drop.drop.drop.drop
             clear hS236
             exact thenN ⟨false, hF290, hS292, hm289⟩
            rw [hc243] at hF241
            have hm293 := ifNot hc243 hm240; clear hm240
            refine any_many 30 [(8, none), (9, none), (10, some (.bool false)), (11, some (.bool false)), (12, none), (13, none), (14, none), (15, some (.bool false)), (16, some (.bool false)), (17, none), (18, none), (19, none), (20, none), (21, some (.bool false)), (22, some (.bool false)), (23, none), (24, none), (25, none), (26, none), (27, none), (28, none), (29, none), (30, none), (31, none), (32, none), (33, none), (34, none), (35, none), (36, some (.bool false)), (37, some (.bool false))] [4] #[true, true, true, true, true, true, true, true, true, true, true, true, true, true, true, true, true, true, true, true, true, true, true, true, true, true, true, true, true, true, true, true, true, true, true, true, true, true] (by rfl) hF241 (by kernel_rfl) (by kernel_rfl) (by exact (And.intro trivial (And.intro trivial (And.intro (fun wS hw => by kernel_rfl) (And.intro (fun wS hw => by kernel_rfl) (And.intro trivial (And.intro trivial (And.intro trivial (And.intro (fun wS hw => by kernel_rfl) (And.intro (fun wS hw => by kernel_rfl) (And.intro trivial (And.intro trivial (And.intro trivial (And.intro trivial (And.intro (fun wS hw => by kernel_rfl) (And.intro (fun wS hw => by kernel_rfl) (And.intro trivial (And.intro trivial (And.intro trivial (And.intro trivial (And.intro trivial (And.intro trivial (And.intro trivial (And.intro trivial (And.intro trivial (And.intro trivial (And.intro trivial (And.intro trivial (And.intro trivial (And.intro (fun wS hw => by kernel_rfl) (And.intro (fun wS hw => by kernel_rfl) trivial))))))))))))))))))))))))))))))) (fun _ _ _ _ _ h => h) ⟨_, hS236⟩ (l' := [(4, .bool false)]) (by kernel_rfl) ?_
            intro a295 hF294; clear hF241
            refine any_done (by kernel_rfl) ?_
            have hS296 := hS236.drop.drop.drop.drop.drop.drop.drop
            clear hS236
            exact thenN ⟨false, hF294, hS296, hm293⟩
           rw [hc239] at hF237
           have hm297 := ifNot hc239 hm224; clear hm224
           refine any_many 34 [(4, none), (5, none), (6, some (.bool false)), (7, some (.bool false)), (8, none), (9, none), (10, some (.bool false)), (11, some (.bool false)), (12, none), (13, none), (14, none), (15, some (.bool false)), (16, some (.bool false)), (17, none), (18, none), (19, none), (20, none), (21, some (.bool false)), (22, some (.bool false)), (23, none), (24, none), (25, none), (26, none), (27, none), (28, none), (29, none), (30, none), (31, none), (32, none), (33, none), (34, none), (35, none), (36, some (.bool false)), (37, some (.bool false))] [4] #[true, true, true, true, true, true, true, true, true, true, true, true, true, true, true, true, true, true, true, true, true, true, true, true, true, true, true, true, true, true, true, true, true, true, true, true, true, true] (by rfl) hF237 (by kernel_rfl) (by kernel_rfl) (by exact (And.intro trivial (And.intro trivial (And.intro (fun wS hw => by kernel_rfl) (And.intro (fun wS hw => by kernel_rfl) (And.intro trivial (And.intro trivial (And.intro (fun wS hw => by kernel_rfl) (And.intro (fun wS hw => by kernel_rfl) (And.intro trivial (And.intro trivial (And.intro trivial (And.intro (fun wS hw => by kernel_rfl) (And.intro (fun wS hw => by kernel_rfl) (And.intro trivial (And.intro trivial (And.intro trivial (And.intro trivial (And.intro (fun wS hw => by kernel_rfl) (And.intro (fun wS hw => by kernel_rfl) (And.intro trivial (And.intro trivial (And.intro trivial (And.intro trivial (And.intro trivial (And.intro trivial (And.intro trivial (And.intro trivial (And.intro trivial (And.intro trivial (And.intro trivial (And.intro trivial (And.intro trivial (And.intro (fun wS hw => by kernel_rfl) (And.intro (fun wS hw => by kernel_rfl) trivial))))))))))))))))))))))))))))))))))) (fun _ _ _ _ _ h => h) ⟨_, hS236⟩ (l' := [(4, .bool false)]) (by kernel_rfl) ?_
           intro a299 hF298; clear hF237
           refine any_done (by kernel_rfl) ?_
           have hS300 := hS236.drop.drop.drop.drop.drop.drop.drop
           clear hS236
           exact thenN ⟨false, hF298, hS300, hm297⟩
       · skip
         -- draws
         have hS301 := hS198.pick3.pick3
         clear hS198
         have hS302 := hS301.drew; clear hS301
         refine any_start (fun wS => ∃ qs, St w0 F0 (BlkP z24 46 #[nP z25 0, nP z27 0, nS g185 L16 c41, .slice p44 L17.length c45] :: RowP (nS g185 L16 c41) L16 :: qs) wS) 17 #[false, false, false, false, false, false, false, false, false, false, false, false, false, false, false, false, false] (by kernel_rfl) (by kernel_rfl) (by kernel_rfl) ?_
         refine any_many 10 [(0, some (nP z24 0)), (1, some (nP z24 0)), (2, some (nP z24 0)), (3, some (nP z25 0)), (4, some (nP z24 0)), (5, some (nP z24 0)), (6, some (nP z24 2)), (7, some (nS g185 L16 c41)), (8, some (nP g185 ((0 : Int).toNat))), (9, some (nI (atI L16 (0 : Int))))] [0, 5, 10, 11, 12, 13, 116, 120, 126, 127, 128, 129] #[true, true, true, true, true, true, true, true, true, true, false, false, false, false, false, false, false] (by rfl) hF206 (by kernel_rfl) (by kernel_rfl) (by exact ⟨fun wS hw => by kernel_rfl, fun wS hw => by kernel_rfl, fun wS hw => by kernel_rfl, fun wS hw => hw.elim fun qs hw => run_loadV rfl rfl (run_loadS rfl rfl (hw.cell 0 rfl 0 rfl)), fun wS hw => by kernel_rfl, fun wS hw => by kernel_rfl, fun wS hw => by kernel_rfl, fun wS hw => hw.elim fun qs hw => run_loadV rfl rfl (run_loadS rfl rfl (hw.cell 0 rfl 2 rfl)), fun wS hw => run_idx rfl rfl rfl rfl rfl (inR_spec hc183).1 (inR_spec hc183).2 _, fun wS hw => run_load1 rfl rfl rfl (hw.elim fun qs hw => hw.atI 1 rfl hc183), trivial⟩) (fun _ _ _ _ _ h => h) ⟨_, hS302⟩ (l' := [(126, nI (atI L16 (0 : Int))), (120, nP z25 0), (11, nI x192), (10, .slice p202 L191.length c203), (5, nP z24 0), (0, nI x5)]) (by kernel_rfl) ?_
         intro a304 hF303; clear hF206
         refine any_two 10 14 (by kernel_rfl) ?_ ?_
         · skip
           have hS305 := hS302.pick2
           clear hS302
           refine op_call 10 #[true, true, true, true, true, true, true, true, true, true, true, false, false, false, false, false, false] 30 #[nP z25 0, nI (atI L16 (0 : Int))] hF303 rfl rfl rfl (by kernel_rfl) rfl (by kernel_rfl) (fun w => by kernel_rfl) (by kernel_rfl) ?_
           obtain ⟨q306, x307, hx308, hm309⟩ := bind2E hm195; clear hm195
           refine (p_Chan hS305 hx308).mono ?_
           rintro _ w310 ⟨rfl, hS312⟩; clear hS305
           refine ⟨⟨_, hS312.pick2.pick2⟩, ?_⟩
           intro a311 hF313; clear hF303
           refine any_many 3 [(11, some (.tuple #[.agg #[nI (q306.cap), nI (q306.closed), nI (q306.count), nI (q306.start), nI (q306.buf), nI (q306.th), nI (q306.tt), nI (q306.sh), nI (q306.st)], nI x307])), (12, some (.agg #[nI (q306.cap), nI (q306.closed), nI (q306.count), nI (q306.start), nI (q306.buf), nI (q306.th), nI (q306.tt), nI (q306.sh), nI (q306.st)])), (13, some (nI x307))] [0, 5, 10, 11, 12, 13, 128, 129] #[true, true, true, true, true, true, true, true, true, true, true, true, true, true, false, false, false] (by rfl) hF313 (by kernel_rfl) (by kernel_rfl) (by exact ⟨fun wS hw => by kernel_rfl, fun wS hw => by kernel_rfl, fun wS hw => by kernel_rfl, trivial⟩) (fun _ _ _ _ _ h => h) ⟨_, hS312.pick2.pick2⟩ (l' := [(129, nI x307), (128, .agg #[nI (q306.cap), nI (q306.closed), nI (q306.count), nI (q306.start), nI (q306.buf), nI (q306.th), nI (q306.tt), nI (q306.sh), nI (q306.st)]), (11, nI x192), (10, .slice p202 L191.length c203), (5, nP z24 0), (0, nI x5)]) (by kernel_rfl) ?_
           intro a315 hF314; clear hF313
           refine any_one 14 (by kernel_rfl) ?_
           have hS316 : St w0 F0 (BlkP (w310.heap.size) 57 #[nI 0, nI 0, nI 0, nI 0, nI 0, nI 0, nI 0, nI 0, nI 0] :: HeapP z25 z26 s193 :: BlkP z24 46 #[nP z25 0, nP z27 0, nS g185 L16 c41, .slice p44 L17.length c45] :: RowP (nS g185 L16 c41) L16 :: RowP (.slice p202 L191.length c203) L191 :: RHeapP z27 z28 z29 z30 z31 s166 :: RowP (.slice p44 L17.length c45) L17 :: ps) (w310.alloc (.cells #[nI 0, nI 0, nI 0, nI 0, nI 0, nI 0, nI 0, nI 0, nI 0] 57)) := St.new hS312 #[nI 0, nI 0, nI 0, nI 0, nI 0, nI 0, nI 0, nI 0, nI 0] 57
           clear hS312
           refine op_step 14 #[true, true, true, true, true, true, true, true, true, true, true, true, true, true, true, false, false] (nB w310) (w310.alloc (.cells #[nI 0, nI 0, nI 0, nI 0, nI 0, nI 0, nI 0, nI 0, nI 0] 57)) hF314 rfl (by kernel_rfl) rfl (by kernel_rfl) (by kernel_rfl) (l' := [(12, nB w310), (129, nI x307), (128, .agg #[nI (q306.cap), nI (q306.closed), nI (q306.count), nI (q306.start), nI (q306.buf), nI (q306.th), nI (q306.tt), nI (q306.sh), nI (q306.st)]), (11, nI x192), (10, .slice p202 L191.length c203), (5, nP z24 0), (0, nI x5)]) (by kernel_rfl) ⟨_, hS316.pick3.pick3⟩ (by kernel_rfl) ?_
           intro a318 hF317; clear hF314
           refine any_one 15 (by kernel_rfl) ?_
           refine op_store 15 #[true, true, true, true, true, true, true, true, true, true, true, true, true, true, true, true, false] (.agg #[nI (q306.cap), nI (q306.closed), nI (q306.count), nI (q306.start), nI (q306.buf), nI (q306.th), nI (q306.tt), nI (q306.sh), nI (q306.st)]) #[nI (q306.cap), nI (q306.closed), nI (q306.count), nI (q306.start), nI (q306.buf), nI (q306.th), nI (q306.tt), nI (q306.sh), nI (q306.st)] hF317 rfl (by kernel_rfl) rfl rfl rfl rfl (by kernel_rfl) hS316 (by kernel_rfl) (by kernel_rfl) (by kernel_rfl) (l' := [(12, nB w310), (129, nI x307), (128, .agg #[nI (q306.cap), nI (q306.closed), nI (q306.count), nI (q306.start), nI (q306.buf), nI (q306.th), nI (q306.tt), nI (q306.sh), nI (q306.st)]), (11, nI x192), (10, .slice p202 L191.length c203), (5, nP z24 0), (0, nI x5)]) (by kernel_rfl) (by kernel_rfl) ?_
           intro w319 a320 hS321 hF322; clear hF317 hS316
           refine ⟨⟨_, hS321.pick3.pick3⟩, ?_⟩
           refine any_many 1 [(16, some (nI x307))] [0, 5, 10, 11, 12, 13] #[true, true, true, true, true, true, true, true, true, true, true, true, true, true, true, true, true] (by rfl) hF322 (by kernel_rfl) (by kernel_rfl) (by exact ⟨fun wS hw => by kernel_rfl, trivial⟩) (fun _ _ _ _ _ h => h) ⟨_, hS321.pick3.pick3⟩ (l' := [(13, nI x307), (12, nB w310), (11, nI x192), (10, .slice p202 L191.length c203), (5, nP z24 0), (0, nI x5)]) (by kernel_rfl) ?_
           intro a324 hF323; clear hF322
           refine any_done (by kernel_rfl) ?_
           exact thenN ⟨(w310.heap.size), q306.cap, q306.closed, q306.count, q306.start, q306.buf, q306.th, q306.tt, q306.sh, q306.st, x307, hF323, hS321, hm309⟩
         · skip
           have hS325 : St w0 F0 (BlkP ((w196.drew).heap.size) 57 #[nI 0, nI 0, nI 0, nI 0, nI 0, nI 0, nI 0, nI 0, nI 0] :: BlkP z24 46 #[nP z25 0, nP z27 0, nS g185 L16 c41, .slice p44 L17.length c45] :: RowP (nS g185 L16 c41) L16 :: HeapP z25 z26 s193 :: RowP (.slice p202 L191.length c203) L191 :: RHeapP z27 z28 z29 z30 z31 s166 :: RowP (.slice p44 L17.length c45) L17 :: ps) ((w196.drew).alloc (.cells #[nI 0, nI 0, nI 0, nI 0, nI 0, nI 0, nI 0, nI 0, nI 0] 57)) := St.new hS302 #[nI 0, nI 0, nI 0, nI 0, nI 0, nI 0, nI 0, nI 0, nI 0] 57
           clear hS302
           refine op_step 14 #[true, true, true, true, true, true, true, true, true, true, false, false, false, false, true, false, false] (nB (w196.drew)) ((w196.drew).alloc (.cells #[nI 0, nI 0, nI 0, nI 0, nI 0, nI 0, nI 0, nI 0, nI 0] 57)) hF303 rfl (by kernel_rfl) rfl (by kernel_rfl) (by kernel_rfl) (l' := [(12, nB (w196.drew)), (126, nI (atI L16 (0 : Int))), (120, nP z25 0), (11, nI x192), (10, .slice p202 L191.length c203), (5, nP z24 0), (0, nI x5)]) (by kernel_rfl) ⟨_, hS325.pick2.pick2⟩ (by kernel_rfl) ?_
           intro a327 hF326; clear hF303
           have hS328 := hS325.pick3
           clear hS325
           refine any_call 10 #[true, true, true, true, true, true, true, true, true, true, true, false, false, false, true, false, false] 30 #[nP z25 0, nI (atI L16 (0 : Int))] hF326 rfl (by kernel_rfl) rfl rfl (by kernel_rfl) rfl (by kernel_rfl) (fun w => by kernel_rfl) (by kernel_rfl) ?_
           obtain ⟨q329, x330, hx331, hm332⟩ := bind2E hm195; clear hm195
           refine (p_Chan hS328 hx331).mono ?_
           rintro _ w333 ⟨rfl, hS335⟩; clear hS328
           refine ⟨⟨_, hS335.pick3.pick3⟩, ?_⟩
           intro a334 hF336; clear hF326
           refine any_many 3 [(11, some (.tuple #[.agg #[nI (q329.cap), nI (q329.closed), nI (q329.count), nI (q329.start), nI (q329.buf), nI (q329.th), nI (q329.tt), nI (q329.sh), nI (q329.st)], nI x330])), (12, some (.agg #[nI (q329.cap), nI (q329.closed), nI (q329.count), nI (q329.start), nI (q329.buf), nI (q329.th), nI (q329.tt), nI (q329.sh), nI (q329.st)])), (13, some (nI x330))] [0, 5, 10, 11, 12, 13, 128, 129] #[true, true, true, true, true, true, true, true, true, true, true, true, true, true, true, false, false] (by rfl) hF336 (by kernel_rfl) (by kernel_rfl) (by exact ⟨fun wS hw => by kernel_rfl, fun wS hw => by kernel_rfl, fun wS hw => by kernel_rfl, trivial⟩) (fun _ _ _ _ _ h => h) ⟨_, hS335.pick3.pick3⟩ (l' := [(129, nI x330), (128, .agg #[nI (q329.cap), nI (q329.closed), nI (q329.count), nI (q329.start), nI (q329.buf), nI (q329.th), nI (q329.tt), nI (q329.sh), nI (q329.st)]), (12, nB (w196.drew)), (11, nI x192), (10, .slice p202 L191.length c203), (5, nP z24 0), (0, nI x5)]) (by kernel_rfl) ?_
           intro a338 hF337; clear hF336
           refine any_one 15 (by kernel_rfl) ?_
           have hS339 := hS335.pick1
           clear hS335
           refine op_store 15 #[true, true, true, true, true, true, true, true, true, true, true, true, true, true, true, true, false] (.agg #[nI (q329.cap), nI (q329.closed), nI (q329.count), nI (q329.start), nI (q329.buf), nI (q329.th), nI (q329.tt), nI (q329.sh), nI (q329.st)]) #[nI (q329.cap), nI (q329.closed), nI (q329.count), nI (q329.start), nI (q329.buf), nI (q329.th), nI (q329.tt), nI (q329.sh), nI (q329.st)] hF337 rfl (by kernel_rfl) rfl rfl rfl rfl (by kernel_rfl) hS339 (by kernel_rfl) (by kernel_rfl) (by kernel_rfl) (l' := [(129, nI x330), (128, .agg #[nI (q329.cap), nI (q329.closed), nI (q329.count), nI (q329.start), nI (q329.buf), nI (q329.th), nI (q329.tt), nI (q329.sh), nI (q329.st)]), (12, nB (w196.drew)), (11, nI x192), (10, .slice p202 L191.length c203), (5, nP z24 0), (0, nI x5)]) (by kernel_rfl) (by kernel_rfl) ?_
           intro w340 a341 hS342 hF343; clear hF337 hS339
           refine ⟨⟨_, hS342.pick3.pick3⟩, ?_⟩
           refine any_many 1 [(16, some (nI x330))] [0, 5, 10, 11, 12, 13] #[true, true, true, true, true, true, true, true, true, true, true, true, true, true, true, true, true] (by rfl) hF343 (by kernel_rfl) (by kernel_rfl) (by exact ⟨fun wS hw => by kernel_rfl, trivial⟩) (fun _ _ _ _ _ h => h) ⟨_, hS342.pick3.pick3⟩ (l' := [(13, nI x330), (12, nB (w196.drew)), (11, nI x192), (10, .slice p202 L191.length c203), (5, nP z24 0), (0, nI x5)]) (by kernel_rfl) ?_
           intro a345 hF344; clear hF343
           refine any_done (by kernel_rfl) ?_
           exact thenN ⟨((w196.drew).heap.size), q329.cap, q329.closed, q329.count, q329.start, q329.buf, q329.th, q329.tt, q329.sh, q329.st, x330, hF344, hS342, hm332⟩
     · skip
       -- draws
       obtain ⟨hc346, hm347⟩ := ifTE hm164; clear hm164
       obtain ⟨g348, rfl⟩ := hp42.resolve_left (by have := inR_spec hc346; omega)
       have hS349 := hS139.pick3.pick3
       clear hS139
       have hS350 := hS349.drew; clear hS349
       refine any_start (fun wS => ∃ qs, St w0 F0 (BlkP z24 46 #[nP z25 0, nP z27 0, nS g348 L16 c41, .slice p44 L17.length c45] :: RowP (nS g348 L16 c41) L16 :: BlkP g113 57 #[nI x115, nI x116, nI x117, nI x118, nI x119, nI x120, nI x121, nI x122, nI x123] :: qs) wS) 28 #[false, false, false, false, false, false, false, false, false, false, false, false, false, false, false, false, false, false, false, false, false, false, false, false, false, false, false, false] (by kernel_rfl) (by kernel_rfl) (by kernel_rfl) ?_
       refine any_many 11 [(0, some (nP z24 0)), (1, some (nP z24 0)), (2, some (nP z24 0)), (3, some (nP z25 0)), (4, some (nP z24 0)), (5, some (nP z24 0)), (6, some (nP z24 2)), (7, some (nS g348 L16 c41)), (8, some (nP g348 ((0 : Int).toNat))), (9, some (nI (atI L16 (0 : Int)))), (10, some (.agg #[nI x115, nI x116, nI x117, nI x118, nI x119, nI x120, nI x121, nI x122, nI x123]))] [0, 5, 75, 81, 82, 83, 84, 85, 86, 87, 88, 89, 90, 91, 92, 93, 94, 95, 96, 97, 98, 99] #[true, true, true, true, true, true, true, true, true, true, true, false, false, false, false, false, false, false, false, false, false, false, false, false, false, false, false, false] (by rfl) hF142 (by kernel_rfl) (by kernel_rfl) (by exact ⟨fun wS hw => by kernel_rfl, fun wS hw => by kernel_rfl, fun wS hw => by kernel_rfl, fun wS hw => hw.elim fun qs hw => run_loadV rfl rfl (run_loadS rfl rfl (hw.cell 0 rfl 0 rfl)), fun wS hw => by kernel_rfl, fun wS hw => by kernel_rfl, fun wS hw => by kernel_rfl, fun wS hw => hw.elim fun qs hw => run_loadV rfl rfl (run_loadS rfl rfl (hw.cell 0 rfl 2 rfl)), fun wS hw => run_idx rfl rfl rfl rfl rfl (inR_spec hc346).1 (inR_spec hc346).2 _, fun wS hw => run_load1 rfl rfl rfl (hw.elim fun qs hw => hw.atI 1 rfl hc346), fun wS hw => hw.elim fun qs hw => run_loadV rfl rfl (run_loadA (cs := [nI x115, nI x116, nI x117, nI x118, nI x119, nI x120, nI x121, nI x122, nI x123]) rfl rfl (by kernel_rfl) (blk_cells hw 2 rfl rfl)), trivial⟩) (fun _ _ _ _ _ h => h) ⟨_, hS350⟩ (l' := [(82, .agg #[nI x115, nI x116, nI x117, nI x118, nI x119, nI x120, nI x121, nI x122, nI x123]), (81, nI (atI L16 (0 : Int))), (75, nP z25 0), (5, nP z24 0), (0, nI x5)]) (by kernel_rfl) ?_
       intro a352 hF351; clear hF142
       have hS353 := hS350.pick4
       clear hS350
       refine any_call 11 #[true, true, true, true, true, true, true, true, true, true, true, true, false, false, false, false, false, false, false, false, false, false, false, false, false, false, false, false] 32 #[nP z25 0, nI (atI L16 (0 : Int)), .agg #[nI x115, nI x116, nI x117, nI x118, nI x119, nI x120, nI x121, nI x122, nI x123]] hF351 rfl (by kernel_rfl) rfl rfl (by kernel_rfl) rfl (by kernel_rfl) (fun w => by kernel_rfl) (by kernel_rfl) ?_
       obtain ⟨x354, s355, hx356, hm357⟩ := bind2E hm347; clear hm347
       refine (p_PutChan hS353 hx356).mono ?_
       rintro _ w358 ⟨rfl, hS360⟩; clear hS353
       refine ⟨⟨_, hS360.pick3.pick3.pick3⟩, ?_⟩
       intro a359 hF361; clear hF351
       refine any_many 2 [(12, some (.bool (x354 != 0))), (13, some (.bool (x354 != 0)))] [0, 5, 85, 86, 87, 88, 89, 90, 91, 92, 93, 94, 95, 96, 97, 98, 99] #[true, true, true, true, true, true, true, true, true, true, true, true, true, true, false, false, false, false, false, false, false, false, false, false, false, false, false, false] (by rfl) hF361 (by kernel_rfl) (by kernel_rfl) (by exact ⟨fun wS hw => by kernel_rfl, fun wS hw => by kernel_rfl, trivial⟩) (fun _ _ _ _ _ h => h) ⟨_, hS360.pick3.pick3.pick3⟩ (l' := [(85, .bool (x354 != 0)), (5, nP z24 0), (0, nI x5)]) (by kernel_rfl) ?_
       intro a363 hF362; clear hF361
       cases hc364 : (x354 != 0)
       case true =>
        rw [hc364] at hF362
        have hm365 := ifYes hc364 hm357; clear hm357
        refine any_many 14 [(14, none), (15, none), (16, none), (17, none), (18, none), (19, none), (20, none), (21, none), (22, none), (23, none), (24, none), (25, none), (26, none), (27, some (.bool true))] [0, 5, 99] #[true, true, true, true, true, true, true, true, true, true, true, true, true, true, true, true, true, true, true, true, true, true, true, true, true, true, true, true] (by rfl) hF362 (by kernel_rfl) (by kernel_rfl) (by exact (And.intro trivial (And.intro trivial (And.intro trivial (And.intro trivial (And.intro trivial (And.intro trivial (And.intro trivial (And.intro trivial (And.intro trivial (And.intro trivial (And.intro trivial (And.intro trivial (And.intro trivial (And.intro (fun wS hw => by kernel_rfl) trivial))))))))))))))) (fun _ _ _ _ _ h => h) ⟨_, hS360.pick3.pick3.pick3⟩ (l' := [(99, .bool true), (5, nP z24 0), (0, nI x5)]) (by kernel_rfl) ?_
        intro a367 hF366; clear hF362
        refine any_done (by kernel_rfl) ?_
        have hS368 := hS360.pick3.drop
        clear hS360
        exact thenN ⟨s355, s114, true, hF366, hS368, hm365⟩
       rw [hc364] at hF362
       have hm369 := ifNot hc364 hm357; clear hm357
       refine any_many 6 [(14, some (nP z24 0)), (15, some (nP z24 0)), (17, some (nP z24 0)), (18, some (nP z24 0)), (19, some (nP z24 2)), (20, some (nS g348 L16 c41))] [0, 5, 85, 86, 87, 88, 92, 93, 94, 95, 96, 97, 98, 99] #[true, true, true, true, true, true, true, true, true, true, true, true, true, true, true, true, false, true, true, true, true, false, false, false, false, false, false, false] (by rfl) hF362 (by kernel_rfl) (by kernel_rfl) (by exact ⟨fun wS hw => by kernel_rfl, fun wS hw => by kernel_rfl, fun wS hw => by kernel_rfl, fun wS hw => by kernel_rfl, fun wS hw => by kernel_rfl, fun wS hw => hw.elim fun qs hw => run_loadV rfl rfl (run_loadS rfl rfl (hw.cell 0 rfl 2 rfl)), trivial⟩) (fun _ _ _ _ _ h => h) ⟨_, hS360.pick3.pick3.pick3⟩ (l' := [(92, nS g348 L16 c41), (87, nP z24 0), (86, nP z24 0), (85, .bool false), (5, nP z24 0), (0, nI x5)]) (by kernel_rfl) ?_
       intro a371 hF370; clear hF362
       obtain ⟨hc372, hm373⟩ := ifTE hm369; clear hm369
       refine any_many 2 [(21, some (nP g348 ((1 : Int).toNat))), (22, some (nI (atI L16 (1 : Int))))] [0, 5, 85, 86, 87, 88, 94, 95, 96, 97, 98, 99] #[true, true, true, true, true, true, true, true, true, true, true, true, true, true, true, true, false, true, true, true, true, true, true, false, false, false, false, false] (by rfl) hF370 (by kernel_rfl) (by kernel_rfl) (by exact ⟨fun wS hw => run_idx rfl rfl rfl rfl rfl (inR_spec hc372).1 (inR_spec hc372).2 _, fun wS hw => run_load1 rfl rfl rfl (hw.elim fun qs hw => hw.atI 1 rfl hc372), trivial⟩) (fun _ _ _ _ _ h => h) ⟨_, hS360.pick3.pick3.pick3⟩ (l' := [(94, nI (atI L16 (1 : Int))), (87, nP z24 0), (86, nP z24 0), (85, .bool false), (5, nP z24 0), (0, nI x5)]) (by kernel_rfl) ?_
       intro a375 hF374; clear hF370
       refine any_three 16 23 24 (by kernel_rfl) ?_ ?_ ?_
       · skip
         have hS376 := hS360.pick5.pick3.pick5.pick3.pick4
         clear hS360
         refine op_call 16 #[true, true, true, true, true, true, true, true, true, true, true, true, true, true, true, true, true, true, true, true, true, true, true, false, false, false, false, false] 24 #[nP z24 0, nI 0] hF374 rfl rfl rfl (by kernel_rfl) rfl (by kernel_rfl) (fun w => by kernel_rfl) (by kernel_rfl) ?_
         obtain ⟨x377, s378, s379, hx380, hm381⟩ := bind3E hm373; clear hm373
         refine (law17_gor.ok hS376 hx380).mono ?_
         rintro _ w382 ⟨rfl, hS384⟩; clear hS376
         refine ⟨⟨_, hS384.pick5.pick4.pick2⟩, ?_⟩
         intro a383 hF385; clear hF374
         refine any_two 23 24 (by kernel_rfl) ?_ ?_
         · skip
           have hS386 : St w0 F0 (RowP (.slice (some ⟨w382.heap.size, 0, none⟩) 1 1) [atI L16 (1 : Int)] :: BlkP z24 46 #[nP z25 0, nP z27 0, nS g348 L16 c41, .slice p44 L17.length c45] :: HeapP z25 z26 s378 :: RHeapP z27 z28 z29 z30 z31 s379 :: RowP (nS g348 L16 c41) L16 :: RowP (.slice p44 L17.length c45) L17 :: BlkP g113 57 #[nI x115, nI x116, nI x117, nI x118, nI x119, nI x120, nI x121, nI x122, nI x123] :: ps) (w382.alloc (.cells #[nI (atI L16 (1 : Int))] 3)) := St.lit hS384 [atI L16 (1 : Int)] (by unfold maxLen; simp)
           clear hS384
           refine op_step 23 #[true, true, true, true, true, true, true, true, true, true, true, true, true, true, true, true, true, true, true, true, true, true, true, true, false, false, false, false] (.slice (some ⟨w382.heap.size, 0, none⟩) 1 1) (w382.alloc (.cells #[nI (atI L16 (1 : Int))] 3)) hF385 rfl (by kernel_rfl) rfl (by kernel_rfl) (by kernel_rfl) (l' := [(95, .slice (some ⟨w382.heap.size, 0, none⟩) 1 1), (88, nI x377), (94, nI (atI L16 (1 : Int))), (87, nP z24 0), (86, nP z24 0), (85, .bool false), (5, nP z24 0), (0, nI x5)]) (by kernel_rfl) ⟨_, hS386.pick6.pick5.pick3⟩ (by kernel_rfl) ?_
           intro a388 hF387; clear hF385
           refine any_one 24 (by kernel_rfl) ?_
           have hS389 : St w0 F0 (BoolsP (.slice (some ⟨(w382.alloc (.cells #[nI (atI L16 (1 : Int))] 3)).heap.size, 0, none⟩) 1 1) [false] :: RowP (.slice (some ⟨w382.heap.size, 0, none⟩) 1 1) [atI L16 (1 : Int)] :: BlkP z24 46 #[nP z25 0, nP z27 0, nS g348 L16 c41, .slice p44 L17.length c45] :: HeapP z25 z26 s378 :: RHeapP z27 z28 z29 z30 z31 s379 :: RowP (nS g348 L16 c41) L16 :: RowP (.slice p44 L17.length c45) L17 :: BlkP g113 57 #[nI x115, nI x116, nI x117, nI x118, nI x119, nI x120, nI x121, nI x122, nI x123] :: ps) ((w382.alloc (.cells #[nI (atI L16 (1 : Int))] 3)).alloc (.cells #[.bool false] 4)) := St.litB hS386 [false] (by unfold maxLen; simp)
           clear hS386
           refine op_step 24 #[true, true, true, true, true, true, true, true, true, true, true, true, true, true, true, true, true, true, true, true, true, true, true, true, true, false, false, false] (.slice (some ⟨(w382.alloc (.cells #[nI (atI L16 (1 : Int))] 3)).heap.size, 0, none⟩) 1 1) ((w382.alloc (.cells #[nI (atI L16 (1 : Int))] 3)).alloc (.cells #[.bool false] 4)) hF387 rfl (by kernel_rfl) rfl (by kernel_rfl) (by kernel_rfl) (l' := [(96, .slice (some ⟨(w382.alloc (.cells #[nI (atI L16 (1 : Int))] 3)).heap.size, 0, none⟩) 1 1), (95, .slice (some ⟨w382.heap.size, 0, none⟩) 1 1), (88, nI x377), (94, nI (atI L16 (1 : Int))), (87, nP z24 0), (86, nP z24 0), (85, .bool false), (5, nP z24 0), (0, nI x5)]) (by kernel_rfl) ⟨_, hS389.pick7.pick6.pick4⟩ (by kernel_rfl) ?_
           intro a391 hF390; clear hF387
           have hS392 := hS389.pick1.pick6.pick6.pick6.pick6.pick6
           clear hS389
           refine any_call 25 #[true, true, true, true, true, true, true, true, true, true, true, true, true, true, true, true, true, true, true, true, true, true, true, true, true, true, false, false] 34 #[nP z24 0, nI x377, .slice (some ⟨w382.heap.size, 0, none⟩) 1 1, .slice (some ⟨(w382.alloc (.cells #[nI (atI L16 (1 : Int))] 3)).heap.size, 0, none⟩) 1 1, nI 0, nI 5] hF390 rfl (by kernel_rfl) rfl rfl (by kernel_rfl) rfl (by kernel_rfl) (fun w => by kernel_rfl) (by kernel_rfl) ?_
           obtain ⟨y393, s394, s395, hx396, hm397⟩ := bind3E hm381; clear hm381
           refine (law17_wait.ok hS392 hx396).mono ?_
           rintro _ w398 ⟨rfl, hS400⟩; clear hS392
           refine ⟨⟨_, hS400.pick7.pick4.pick2⟩, ?_⟩
           intro a399 hF401; clear hF390
           refine any_many 2 [(26, some (.bool (!(y393)))), (27, some (.bool (!(y393))))] [0, 5, 99] #[true, true, true, true, true, true, true, true, true, true, true, true, true, true, true, true, true, true, true, true, true, true, true, true, true, true, true, true] (by rfl) hF401 (by kernel_rfl) (by kernel_rfl) (by exact ⟨fun wS hw => by kernel_rfl, fun wS hw => by kernel_rfl, trivial⟩) (fun _ _ _ _ _ h => h) ⟨_, hS400.pick7.pick4.pick2⟩ (l' := [(99, .bool (!(y393))), (5, nP z24 0), (0, nI x5)]) (by kernel_rfl) ?_
           intro a403 hF402; clear hF401
           refine any_done (by kernel_rfl) ?_
           have hS404 := hS400.pick5.drop.pick5.drop.pick5.drop
           clear hS400
           have hS405 := hS404.pick4.pick3.pick4.pick3.pick4
           clear hS404
           exact thenN ⟨s394, s395, !(y393), hF402, hS405, hm397⟩
         · skip
           have hS406 : St w0 F0 (BoolsP (.slice (some ⟨w382.heap.size, 0, none⟩) 1 1) [false] :: BlkP z24 46 #[nP z25 0, nP z27 0, nS g348 L16 c41, .slice p44 L17.length c45] :: HeapP z25 z26 s378 :: RHeapP z27 z28 z29 z30 z31 s379 :: RowP (nS g348 L16 c41) L16 :: RowP (.slice p44 L17.length c45) L17 :: BlkP g113 57 #[nI x115, nI x116, nI x117, nI x118, nI x119, nI x120, nI x121, nI x122, nI x123] :: ps) (w382.alloc (.cells #[.bool false] 4)) := St.litB hS384 [false] (by unfold maxLen; simp)
           clear hS384
           refine op_step 24 #[true, true, true, true, true, true, true, true, true, true, true, true, true, true, true, true, true, true, true, true, true, true, true, false, true, false, false, false] (.slice (some ⟨w382.heap.size, 0, none⟩) 1 1) (w382.alloc (.cells #[.bool false] 4)) hF385 rfl (by kernel_rfl) rfl (by kernel_rfl) (by kernel_rfl) (l' := [(96, .slice (some ⟨w382.heap.size, 0, none⟩) 1 1), (88, nI x377), (94, nI (atI L16 (1 : Int))), (87, nP z24 0), (86, nP z24 0), (85, .bool false), (5, nP z24 0), (0, nI x5)]) (by kernel_rfl) ⟨_, hS406.pick6.pick5.pick3⟩ (by kernel_rfl) ?_
           intro a408 hF407; clear hF385
           refine any_one 23 (by kernel_rfl) ?_
           have hS409 : St w0 F0 (RowP (.slice (some ⟨(w382.alloc (.cells #[.bool false] 4)).heap.size, 0, none⟩) 1 1) [atI L16 (1 : Int)] :: BoolsP (.slice (some ⟨w382.heap.size, 0, none⟩) 1 1) [false] :: BlkP z24 46 #[nP z25 0, nP z27 0, nS g348 L16 c41, .slice p44 L17.length c45] :: HeapP z25 z26 s378 :: RHeapP z27 z28 z29 z30 z31 s379 :: RowP (nS g348 L16 c41) L16 :: RowP (.slice p44 L17.length c45) L17 :: BlkP g113 57 #[nI x115, nI x116, nI x117, nI x118, nI x119, nI x120, nI x121, nI x122, nI x123] :: ps) ((w382.alloc (.cells #[.bool false] 4)).alloc (.cells #[nI (atI L16 (1 : Int))] 3)) := St.lit hS406 [atI L16 (1 : Int)] (by unfold maxLen; simp)
           clear hS406
           refine op_step 23 #[true, true, true, true, true, true, true, true, true, true, true, true, true, true, true, true, true, true, true, true, true, true, true, true, true, false, false, false] (.slice (some ⟨(w382.alloc (.cells #[.bool false] 4)).heap.size, 0, none⟩) 1 1) ((w382.alloc (.cells #[.bool false] 4)).alloc (.cells #[nI (atI L16 (1 : Int))] 3)) hF407 rfl (by kernel_rfl) rfl (by kernel_rfl) (by kernel_rfl) (l' := [(95, .slice (some ⟨(w382.alloc (.cells #[.bool false] 4)).heap.size, 0, none⟩) 1 1), (96, .slice (some ⟨w382.heap.size, 0, none⟩) 1 1), (88, nI x377), (94, nI (atI L16 (1 : Int))), (87, nP z24 0), (86, nP z24 0), (85, .bool false), (5, nP z24 0), (0, nI x5)]) (by kernel_rfl) ⟨_, hS409.pick7.pick6.pick4⟩ (by kernel_rfl) ?_
           intro a411 hF410; clear hF407
           have hS412 := hS409.pick1.pick1.pick6.pick6.pick6.pick6.pick6
           clear hS409
           refine any_call 25 #[true, true, true, true, true, true, true, true, true, true, true, true, true, true, true, true, true, true, true, true, true, true, true, true, true, true, false, false] 34 #[nP z24 0, nI x377, .slice (some ⟨(w382.alloc (.cells #[.bool false] 4)).heap.size, 0, none⟩) 1 1, .slice (some ⟨w382.heap.size, 0, none⟩) 1 1, nI 0, nI 5] hF410 rfl (by kernel_rfl) rfl rfl (by kernel_rfl) rfl (by kernel_rfl) (fun w => by kernel_rfl) (by kernel_rfl) ?_
           obtain ⟨y413, s414, s415, hx416, hm417⟩ := bind3E hm381; clear hm381
           refine (law17_wait.ok hS412 hx416).mono ?_
           rintro _ w418 ⟨rfl, hS420⟩; clear hS412
           refine ⟨⟨_, hS420.pick7.pick4.pick2⟩, ?_⟩
           intro a419 hF421; clear hF410
           refine any_many 2 [(26, some (.bool (!(y413)))), (27, some (.bool (!(y413))))] [0, 5, 99] #[true, true, true, true, true, true, true, true, true, true, true, true, true, true, true, true, true, true, true, true, true, true, true, true, true, true, true, true] (by rfl) hF421 (by kernel_rfl) (by kernel_rfl) (by exact ⟨fun wS hw => by kernel_rfl, fun wS hw => by kernel_rfl, trivial⟩) (fun _ _ _ _ _ h => h) ⟨_, hS420.pick7.pick4.pick2⟩ (l' := [(99, .bool (!(y413))), (5, nP z24 0), (0, nI x5)]) (by kernel_rfl) ?_
           intro a423 hF422; clear hF421
           refine any_done (by kernel_rfl) ?_
           have hS424 := hS420.pick5.drop.pick5.drop.pick5.drop
           clear hS420
           have hS425 := hS424.pick4.pick3.pick4.pick3.pick4
           clear hS424
           exact thenN ⟨s414, s415, !(y413), hF422, hS425, hm417⟩
       · skip
         have hS426 : St w0 F0 (RowP (.slice (some ⟨w358.heap.size, 0, none⟩) 1 1) [atI L16 (1 : Int)] :: HeapP z25 z26 s355 :: BlkP z24 46 #[nP z25 0, nP z27 0, nS g348 L16 c41, .slice p44 L17.length c45] :: RowP (nS g348 L16 c41) L16 :: BlkP g113 57 #[nI x115, nI x116, nI x117, nI x118, nI x119, nI x120, nI x121, nI x122, nI x123] :: RHeapP z27 z28 z29 z30 z31 s114 :: RowP (.slice p44 L17.length c45) L17 :: ps) (w358.alloc (.cells #[nI (atI L16 (1 : Int))] 3)) := St.lit hS360 [atI L16 (1 : Int)] (by unfold maxLen; simp)
         clear hS360
         refine op_step 23 #[true, true, true, true, true, true, true, true, true, true, true, true, true, true, true, true, false, true, true, true, true, true, true, true, false, false, false, false] (.slice (some ⟨w358.heap.size, 0, none⟩) 1 1) (w358.alloc (.cells #[nI (atI L16 (1 : Int))] 3)) hF374 rfl (by kernel_rfl) rfl (by kernel_rfl) (by kernel_rfl) (l' := [(95, .slice (some ⟨w358.heap.size, 0, none⟩) 1 1), (94, nI (atI L16 (1 : Int))), (87, nP z24 0), (86, nP z24 0), (85, .bool false), (5, nP z24 0), (0, nI x5)]) (by kernel_rfl) ⟨_, hS426.pick4.pick4.pick4⟩ (by kernel_rfl) ?_
         intro a428 hF427; clear hF374
         refine any_two 16 24 (by kernel_rfl) ?_ ?_
         · skip
           have hS429 := hS426.pick6.pick4.pick6.pick4.pick5
           clear hS426
           refine op_call 16 #[true, true, true, true, true, true, true, true, true, true, true, true, true, true, true, true, true, true, true, true, true, true, true, true, false, false, false, false] 24 #[nP z24 0, nI 0] hF427 rfl rfl rfl (by kernel_rfl) rfl (by kernel_rfl) (fun w => by kernel_rfl) (by kernel_rfl) ?_
           obtain ⟨x430, s431, s432, hx433, hm434⟩ := bind3E hm373; clear hm373
           refine (law17_gor.ok hS429 hx433).mono ?_
           rintro _ w435 ⟨rfl, hS437⟩; clear hS429
           refine ⟨⟨_, hS437.pick6.pick4.pick2⟩, ?_⟩
           intro a436 hF438; clear hF427
           refine any_one 24 (by kernel_rfl) ?_
           have hS439 : St w0 F0 (BoolsP (.slice (some ⟨w435.heap.size, 0, none⟩) 1 1) [false] :: BlkP z24 46 #[nP z25 0, nP z27 0, nS g348 L16 c41, .slice p44 L17.length c45] :: HeapP z25 z26 s431 :: RHeapP z27 z28 z29 z30 z31 s432 :: RowP (nS g348 L16 c41) L16 :: RowP (.slice p44 L17.length c45) L17 :: RowP (.slice (some ⟨w358.heap.size, 0, none⟩) 1 1) [atI L16 (1 : Int)] :: BlkP g113 57 #[nI x115, nI x116, nI x117, nI x118, nI x119, nI x120, nI x121, nI x122, nI x123] :: ps) (w435.alloc (.cells #[.bool false] 4)) := St.litB hS437 [false] (by unfold maxLen; simp)
           clear hS437
           refine op_step 24 #[true, true, true, true, true, true, true, true, true, true, true, true, true, true, true, true, true, true, true, true, true, true, true, true, true, false, false, false] (.slice (some ⟨w435.heap.size, 0, none⟩) 1 1) (w435.alloc (.cells #[.bool false] 4)) hF438 rfl (by kernel_rfl) rfl (by kernel_rfl) (by kernel_rfl) (l' := [(96, .slice (some ⟨w435.heap.size, 0, none⟩) 1 1), (88, nI x430), (95, .slice (some ⟨w358.heap.size, 0, none⟩) 1 1), (94, nI (atI L16 (1 : Int))), (87, nP z24 0), (86, nP z24 0), (85, .bool false), (5, nP z24 0), (0, nI x5)]) (by kernel_rfl) ⟨_, hS439.pick7.pick5.pick3⟩ (by kernel_rfl) ?_
           intro a441 hF440; clear hF438
           have hS442 := hS439.pick6.pick6.pick6.pick6.pick6.pick6
           clear hS439
           refine any_call 25 #[true, true, true, true, true, true, true, true, true, true, true, true, true, true, true, true, true, true, true, true, true, true, true, true, true, true, false, false] 34 #[nP z24 0, nI x430, .slice (some ⟨w358.heap.size, 0, none⟩) 1 1, .slice (some ⟨w435.heap.size, 0, none⟩) 1 1, nI 0, nI 5] hF440 rfl (by kernel_rfl) rfl rfl (by kernel_rfl) rfl (by kernel_rfl) (fun w => by kernel_rfl) (by kernel_rfl) ?_
           obtain ⟨y443, s444, s445, hx446, hm447⟩ := bind3E hm434; clear hm434
           refine (law17_wait.ok hS442 hx446).mono ?_
           rintro _ w448 ⟨rfl, hS450⟩; clear hS442
           refine ⟨⟨_, hS450.pick7.pick4.pick2⟩, ?_⟩
           intro a449 hF451; clear hF440
           refine any_many 2 [(26, some (.bool (!(y443)))), (27, some (.bool (!(y443))))] [0, 5, 99] #[true, true, true, true, true, true, true, true, true, true, true, true, true, true, true, true, true, true, true, true, true, true, true, true, true, true, true, true] (by rfl) hF451 (by kernel_rfl) (by kernel_rfl) (by exact ⟨fun wS hw => by kernel_rfl, fun wS hw => by kernel_rfl, trivial⟩) (fun _ _ _ _ _ h => h) ⟨_, hS450.pick7.pick4.pick2⟩ (l' := [(99, .bool (!(y443))), (5, nP z24 0), (0, nI x5)]) (by kernel_rfl) ?_
           intro a453 hF452; clear hF451
           refine any_done (by kernel_rfl) ?_
           have hS454 := hS450.pick5.drop.pick5.drop.pick5.drop
           clear hS450
           have hS455 := hS454.pick4.pick3.pick4.pick3.pick4
           clear hS454
           exact thenN ⟨s444, s445, !(y443), hF452, hS455, hm447⟩
         · skip
           have hS456 : St w0 F0 (BoolsP (.slice (some ⟨(w358.alloc (.cells #[nI (atI L16 (1 : Int))] 3)).heap.size, 0, none⟩) 1 1) [false] :: RowP (.slice (some ⟨w358.heap.size, 0, none⟩) 1 1) [atI L16 (1 : Int)] :: HeapP z25 z26 s355 :: BlkP z24 46 #[nP z25 0, nP z27 0, nS g348 L16 c41, .slice p44 L17.length c45] :: RowP (nS g348 L16 c41) L16 :: BlkP g113 57 #[nI x115, nI x116, nI x117, nI x118, nI x119, nI x120, nI x121, nI x122, nI x123] :: RHeapP z27 z28 z29 z30 z31 s114 :: RowP (.slice p44 L17.length c45) L17 :: ps) ((w358.alloc (.cells #[nI (atI L16 (1 : Int))] 3)).alloc (.cells #[.bool false] 4)) := St.litB hS426 [false] (by unfold maxLen; simp)
           clear hS426
           refine op_step 24 #[true, true, true, true, true, true, true, true, true, true, true, true, true, true, true, true, false, true, true, true, true, true, true, true, true, false, false, false] (.slice (some ⟨(w358.alloc (.cells #[nI (atI L16 (1 : Int))] 3)).heap.size, 0, none⟩) 1 1) ((w358.alloc (.cells #[nI (atI L16 (1 : Int))] 3)).alloc (.cells #[.bool false] 4)) hF427 rfl (by kernel_rfl) rfl (by kernel_rfl) (by kernel_rfl) (l' := [(96, .slice (some ⟨(w358.alloc (.cells #[nI (atI L16 (1 : Int))] 3)).heap.size, 0, none⟩) 1 1), (95, .slice (some ⟨w358.heap.size, 0, none⟩) 1 1), (94, nI (atI L16 (1 : Int))), (87, nP z24 0), (86, nP z24 0), (85, .bool false), (5, nP z24 0), (0, nI x5)]) (by kernel_rfl) ⟨_, hS456.pick5.pick5.pick5⟩ (by kernel_rfl) ?_
           intro a458 hF457; clear hF427
           have hS459 := hS456.pick7.pick5.pick7.pick5.pick6
           clear hS456
           refine any_call 16 #[true, true, true, true, true, true, true, true, true, true, true, true, true, true, true, true, true, true, true, true, true, true, true, true, true, false, false, false] 24 #[nP z24 0, nI 0] hF457 rfl (by kernel_rfl) rfl rfl (by kernel_rfl) rfl (by kernel_rfl) (fun w => by kernel_rfl) (by kernel_rfl) ?_
           obtain ⟨x460, s461, s462, hx463, hm464⟩ := bind3E hm373; clear hm373
           refine (law17_gor.ok hS459 hx463).mono ?_
           rintro _ w465 ⟨rfl, hS467⟩; clear hS459
           refine ⟨⟨_, hS467.pick7.pick4.pick2⟩, ?_⟩
           intro a466 hF468; clear hF457
           have hS469 := hS467.pick5.pick6.pick6.pick6.pick6.pick6.pick6
           clear hS467
           refine any_call 25 #[true, true, true, true, true, true, true, true, true, true, true, true, true, true, true, true, true, true, true, true, true, true, true, true, true, true, false, false] 34 #[nP z24 0, nI x460, .slice (some ⟨w358.heap.size, 0, none⟩) 1 1, .slice (some ⟨(w358.alloc (.cells #[nI (atI L16 (1 : Int))] 3)).heap.size, 0, none⟩) 1 1, nI 0, nI 5] hF468 rfl (by kernel_rfl) rfl rfl (by kernel_rfl) rfl (by kernel_rfl) (fun w => by kernel_rfl) (by kernel_rfl) ?_
           obtain ⟨y470, s471, s472, hx473, hm474⟩ := bind3E hm464; clear hm464
           refine (law17_wait.ok hS469 hx473).mono ?_
           rintro _ w475 ⟨rfl, hS477⟩; clear hS469
           refine ⟨⟨_, hS477.pick7.pick4.pick2⟩, ?_⟩
           intro a476 hF478; clear hF468
           refine any_many 2 [(26, some (.bool (!(y470)))), (27, some (.bool (!(y470))))] [0, 5, 99] #[true, true, true, true, true, true, true, true, true, true, true, true, true, true, true, true, true, true, true, true, true, true, true, true, true, true, true, true] (by rfl) hF478 (by kernel_rfl) (by kernel_rfl) (by exact ⟨fun wS hw => by kernel_rfl, fun wS hw => by kernel_rfl, trivial⟩) (fun _ _ _ _ _ h => h) ⟨_, hS477.pick7.pick4.pick2⟩ (l' := [(99, .bool (!(y470))), (5, nP z24 0), (0, nI x5)]) (by kernel_rfl) ?_
           intro a480 hF479; clear hF478
           refine any_done (by kernel_rfl) ?_
           have hS481 := hS477.pick5.drop.pick5.drop.pick5.drop
           clear hS477
           have hS482 := hS481.pick4.pick3.pick4.pick3.pick4
           clear hS481
           exact thenN ⟨s471, s472, !(y470), hF479, hS482, hm474⟩
       · skip
         have hS483 : St w0 F0 (BoolsP (.slice (some ⟨w358.heap.size, 0, none⟩) 1 1) [false] :: HeapP z25 z26 s355 :: BlkP z24 46 #[nP z25 0, nP z27 0, nS g348 L16 c41, .slice p44 L17.length c45] :: RowP (nS g348 L16 c41) L16 :: BlkP g113 57 #[nI x115, nI x116, nI x117, nI x118, nI x119, nI x120, nI x121, nI x122, nI x123] :: RHeapP z27 z28 z29 z30 z31 s114 :: RowP (.slice p44 L17.length c45) L17 :: ps) (w358.alloc (.cells #[.bool false] 4)) := St.litB hS360 [false] (by unfold maxLen; simp)
         clear hS360
         refine op_step 24 #[true, true, true, true, true, true, true, true, true, true, true, true, true, true, true, true, false, true, true, true, true, true, true, false, true, false, false, false] (.slice (some ⟨w358.heap.size, 0, none⟩) 1 1) (w358.alloc (.cells #[.bool false] 4)) hF374 rfl (by kernel_rfl) rfl (by kernel_rfl) (by kernel_rfl) (l' := [(96, .slice (some ⟨w358.heap.size, 0, none⟩) 1 1), (94, nI (atI L16 (1 : Int))), (87, nP z24 0), (86, nP z24 0), (85, .bool false), (5, nP z24 0), (0, nI x5)]) (by kernel_rfl) ⟨_, hS483.pick4.pick4.pick4⟩ (by kernel_rfl) ?_
         intro a485 hF484; clear hF374
         refine any_two 16 23 (by kernel_rfl) ?_ ?_
         · skip
           have hS486 := hS483.pick6.pick4.pick6.pick4.pick5
           clear hS483
           refine op_call 16 #[true, true, true, true, true, true, true, true, true, true, true, true, true, true, true, true, true, true, true, true, true, true, true, false, true, false, false, false] 24 #[nP z24 0, nI 0] hF484 rfl rfl rfl (by kernel_rfl) rfl (by kernel_rfl) (fun w => by kernel_rfl) (by kernel_rfl) ?_
           obtain ⟨x487, s488, s489, hx490, hm491⟩ := bind3E hm373; clear hm373
           refine (law17_gor.ok hS486 hx490).mono ?_
           rintro _ w492 ⟨rfl, hS494⟩; clear hS486
           refine ⟨⟨_, hS494.pick6.pick4.pick2⟩, ?_⟩
           intro a493 hF495; clear hF484
           refine any_one 23 (by kernel_rfl) ?_
           have hS496 : St w0 F0 (RowP (.slice (some ⟨w492.heap.size, 0, none⟩) 1 1) [atI L16 (1 : Int)] :: BlkP z24 46 #[nP z25 0, nP z27 0, nS g348 L16 c41, .slice p44 L17.length c45] :: HeapP z25 z26 s488 :: RHeapP z27 z28 z29 z30 z31 s489 :: RowP (nS g348 L16 c41) L16 :: RowP (.slice p44 L17.length c45) L17 :: BoolsP (.slice (some ⟨w358.heap.size, 0, none⟩) 1 1) [false] :: BlkP g113 57 #[nI x115, nI x116, nI x117, nI x118, nI x119, nI x120, nI x121, nI x122, nI x123] :: ps) (w492.alloc (.cells #[nI (atI L16 (1 : Int))] 3)) := St.lit hS494 [atI L16 (1 : Int)] (by unfold maxLen; simp)
           clear hS494
           refine op_step 23 #[true, true, true, true, true, true, true, true, true, true, true, true, true, true, true, true, true, true, true, true, true, true, true, true, true, false, false, false] (.slice (some ⟨w492.heap.size, 0, none⟩) 1 1) (w492.alloc (.cells #[nI (atI L16 (1 : Int))] 3)) hF495 rfl (by kernel_rfl) rfl (by kernel_rfl) (by kernel_rfl) (l' := [(95, .slice (some ⟨w492.heap.size, 0, none⟩) 1 1), (88, nI x487), (96, .slice (some ⟨w358.heap.size, 0, none⟩) 1 1), (94, nI (atI L16 (1 : Int))), (87, nP z24 0), (86, nP z24 0), (85, .bool false), (5, nP z24 0), (0, nI x5)]) (by kernel_rfl) ⟨_, hS496.pick7.pick5.pick3⟩ (by kernel_rfl) ?_
           intro a498 hF497; clear hF495
           have hS499 := hS496.pick6.pick1.pick6.pick6.pick6.pick6.pick6
           clear hS496
           refine any_call 25 #[true, true, true, true, true, true, true, true, true, true, true, true, true, true, true, true, true, true, true, true, true, true, true, true, true, true, false, false] 34 #[nP z24 0, nI x487, .slice (some ⟨w492.heap.size, 0, none⟩) 1 1, .slice (some ⟨w358.heap.size, 0, none⟩) 1 1, nI 0, nI 5] hF497 rfl (by kernel_rfl) rfl rfl (by kernel_rfl) rfl (by kernel_rfl) (fun w => by kernel_rfl) (by kernel_rfl) ?_
           obtain ⟨y500, s501, s502, hx503, hm504⟩ := bind3E hm491; clear hm491
           refine (law17_wait.ok hS499 hx503).mono ?_
           rintro _ w505 ⟨rfl, hS507⟩; clear hS499
           refine ⟨⟨_, hS507.pick7.pick4.pick2⟩, ?_⟩
           intro a506 hF508; clear hF497
           refine any_many 2 [(26, some (.bool (!(y500)))), (27, some (.bool (!(y500))))] [0, 5, 99] #[true, true, true, true, true, true, true, true, true, true, true, true, true, true, true, true, true, true, true, true, true, true, true, true, true, true, true, true] (by rfl) hF508 (by kernel_rfl) (by kernel_rfl) (by exact ⟨fun wS hw => by kernel_rfl, fun wS hw => by kernel_rfl, trivial⟩) (fun _ _ _ _ _ h => h) ⟨_, hS507.pick7.pick4.pick2⟩ (l' := [(99, .bool (!(y500))), (5, nP z24 0), (0, nI x5)]) (by kernel_rfl) ?_
           intro a510 hF509; clear hF508
           refine any_done (by kernel_rfl) ?_
           have hS511 := hS507.pick5.drop.pick5.drop.pick5.drop
           clear hS507
           have hS512 := hS511.pick4.pick3.pick4.pick3.pick4
           clear hS511
           exact thenN ⟨s501, s502, !(y500), hF509, hS512, hm504⟩
         · skip
           have hS513 : St w0 F0 (RowP (.slice (some ⟨(w358.alloc (.cells #[.bool false] 4)).heap.size, 0, none⟩) 1 1) [atI L16 (1 : Int)] :: BoolsP (.slice (some ⟨w358.heap.size, 0, none⟩) 1 1) [false] :: HeapP z25 z26 s355 :: BlkP z24 46 #[nP z25 0, nP z27 0, nS g348 L16 c41, .slice p44 L17.length c45] :: RowP (nS g348 L16 c41) L16 :: BlkP g113 57 #[nI x115, nI x116, nI x117, nI x118, nI x119, nI x120, nI x121, nI x122, nI x123] :: RHeapP z27 z28 z29 z30 z31 s114 :: RowP (.slice p44 L17.length c45) L17 :: ps) ((w358.alloc (.cells #[.bool false] 4)).alloc (.cells #[nI (atI L16 (1 : Int))] 3)) := St.lit hS483 [atI L16 (1 : Int)] (by unfold maxLen; simp)
           clear hS483
           refine op_step 23 #[true, true, true, true, true, true, true, true, true, true, true, true, true, true, true, true, false, true, true, true, true, true, true, true, true, false, false, false] (.slice (some ⟨(w358.alloc (.cells #[.bool false] 4)).heap.size, 0, none⟩) 1 1) ((w358.alloc (.cells #[.bool false] 4)).alloc (.cells #[nI (atI L16 (1 : Int))] 3)) hF484 rfl (by kernel_rfl) rfl (by kernel_rfl) (by kernel_rfl) (l' := [(95, .slice (some ⟨(w358.alloc (.cells #[.bool false] 4)).heap.size, 0, none⟩) 1 1), (96, .slice (some ⟨w358.heap.size, 0, none⟩) 1 1), (94, nI (atI L16 (1 : Int))), (87, nP z24 0), (86, nP z24 0), (85, .bool false), (5, nP z24 0), (0, nI x5)]) (by kernel_rfl) ⟨_, hS513.pick5.pick5.pick5⟩ (by kernel_rfl) ?_
           intro a515 hF514; clear hF484
           have hS516 := hS513.pick7.pick5.pick7.pick5.pick6
           clear hS513
           refine any_call 16 #[true, true, true, true, true, true, true, true, true, true, true, true, true, true, true, true, true, true, true, true, true, true, true, true, true, false, false, false] 24 #[nP z24 0, nI 0] hF514 rfl (by kernel_rfl) rfl rfl (by kernel_rfl) rfl (by kernel_rfl) (fun w => by kernel_rfl) (by kernel_rfl) ?_
           obtain ⟨x517, s518, s519, hx520, hm521⟩ := bind3E hm373; clear hm373
           refine (law17_gor.ok hS516 hx520).mono ?_
           rintro _ w522 ⟨rfl, hS524⟩; clear hS516
           refine ⟨⟨_, hS524.pick7.pick4.pick2⟩, ?_⟩
           intro a523 hF525; clear hF514
           refine any_call 25 #[true, true, true, true, true, true, true, true, true, true, true, true, true, true, true, true, true, true, true, true, true, true, true, true, true, true, false, false] 34 #[nP z24 0, nI x517, .slice (some ⟨(w358.alloc (.cells #[.bool false] 4)).heap.size, 0, none⟩) 1 1, .slice (some ⟨w358.heap.size, 0, none⟩) 1 1, nI 0, nI 5] hF525 rfl (by kernel_rfl) rfl rfl (by kernel_rfl) rfl (by kernel_rfl) (fun w => by kernel_rfl) (by kernel_rfl) ?_
           obtain ⟨y526, s527, s528, hx529, hm530⟩ := bind3E hm521; clear hm521
           refine (law17_wait.ok hS524 hx529).mono ?_
           rintro _ w531 ⟨rfl, hS533⟩; clear hS524
           refine ⟨⟨_, hS533.pick7.pick4.pick2⟩, ?_⟩
           intro a532 hF534; clear hF525
           refine any_many 2 [(26, some (.bool (!(y526)))), (27, some (.bool (!(y526))))] [0, 5, 99] #[true, true, true, true, true, true, true, true, true, true, true, true, true, true, true, true, true, true, true, true, true, true, true, true, true, true, true, true] (by rfl) hF534 (by kernel_rfl) (by kernel_rfl) (by exact ⟨fun wS hw => by kernel_rfl, fun wS hw => by kernel_rfl, trivial⟩) (fun _ _ _ _ _ h => h) ⟨_, hS533.pick7.pick4.pick2⟩ (l' := [(99, .bool (!(y526))), (5, nP z24 0), (0, nI x5)]) (by kernel_rfl) ?_
           intro a536 hF535; clear hF534
           refine any_done (by kernel_rfl) ?_
           have hS537 := hS533.pick5.drop.pick5.drop.pick5.drop
           clear hS533
           have hS538 := hS537.pick4.pick3.pick4.pick3.pick4
           clear hS537
           exact thenN ⟨s527, s528, !(y526), hF535, hS538, hm530⟩
   · skip
     -- draws
     obtain ⟨hc539, hm540⟩ := ifTE hm112; clear hm112
     obtain ⟨g541, rfl⟩ := hp42.resolve_left (by have := inR_spec hc539; omega)
     have hS542 := hS75.pick3.pick1
     clear hS75
     have hS543 := hS542.drew; clear hS542
     refine any_start (fun wS => ∃ qs, St w0 F0 (BlkP z24 46 #[nP z25 0, nP z27 0, nS g541 L16 c41, .slice p44 L17.length c45] :: RowP (nS g541 L16 c41) L16 :: qs) wS) 17 #[false, false, false, false, false, false, false, false, false, false, false, false, false, false, false, false, false] (by kernel_rfl) (by kernel_rfl) (by kernel_rfl) ?_
     refine any_many 10 [(0, some (nP z24 0)), (1, some (nP z24 0)), (2, some (nP z24 1)), (3, some (nP z27 0)), (4, some (nP z24 0)), (5, some (nP z24 0)), (6, some (nP z24 2)), (7, some (nS g541 L16 c41)), (8, some (nP g541 ((0 : Int).toNat))), (9, some (nI (atI L16 (0 : Int))))] [0, 1, 5, 7, 44, 48, 54, 55, 56, 57] #[true, true, true, true, true, true, true, true, true, true, false, false, false, false, false, false, false] (by rfl) hF78 (by kernel_rfl) (by kernel_rfl) (by exact ⟨fun wS hw => by kernel_rfl, fun wS hw => by kernel_rfl, fun wS hw => by kernel_rfl, fun wS hw => hw.elim fun qs hw => run_loadV rfl rfl (run_loadS rfl rfl (hw.cell 0 rfl 1 rfl)), fun wS hw => by kernel_rfl, fun wS hw => by kernel_rfl, fun wS hw => by kernel_rfl, fun wS hw => hw.elim fun qs hw => run_loadV rfl rfl (run_loadS rfl rfl (hw.cell 0 rfl 2 rfl)), fun wS hw => run_idx rfl rfl rfl rfl rfl (inR_spec hc539).1 (inR_spec hc539).2 _, fun wS hw => run_load1 rfl rfl rfl (hw.elim fun qs hw => hw.atI 1 rfl hc539), trivial⟩) (fun _ _ _ _ _ h => h) ⟨_, hS543⟩ (l' := [(54, nI (atI L16 (0 : Int))), (48, nP z27 0), (5, nP z24 0), (0, nI x5), (1, nI i1)]) (by kernel_rfl) ?_
     intro a545 hF544; clear hF78
     refine any_two 10 14 (by kernel_rfl) ?_ ?_
     · skip
       have hS546 := hS543.pick3
       clear hS543
       refine op_call 10 #[true, true, true, true, true, true, true, true, true, true, true, false, false, false, false, false, false] 39 #[nP z27 0, nI (atI L16 (0 : Int))] hF544 rfl rfl rfl (by kernel_rfl) rfl (by kernel_rfl) (fun w => by kernel_rfl) (by kernel_rfl) ?_
       obtain ⟨q547, x548, s549, hx550, hm551⟩ := bind3E hm540; clear hm540
       refine (ref11_Chan.ok hS546 hx550).mono ?_
       rintro _ w552 ⟨rfl, hS554⟩; clear hS546
       refine ⟨⟨_, hS554.pick2.pick2⟩, ?_⟩
       intro a553 hF555; clear hF544
       refine any_many 3 [(11, some (.tuple #[.agg #[nI (q547.cap), nI (q547.closed), nI (q547.count), nI (q547.start), nI (q547.buf), nI (q547.th), nI (q547.tt), nI (q547.sh), nI (q547.st)], nI x548])), (12, some (.agg #[nI (q547.cap), nI (q547.closed), nI (q547.count), nI (q547.start), nI (q547.buf), nI (q547.th), nI (q547.tt), nI (q547.sh), nI (q547.st)])), (13, some (nI x548))] [0, 1, 5, 7, 56, 57] #[true, true, true, true, true, true, true, true, true, true, true, true, true, true, false, false, false] (by rfl) hF555 (by kernel_rfl) (by kernel_rfl) (by exact ⟨fun wS hw => by kernel_rfl, fun wS hw => by kernel_rfl, fun wS hw => by kernel_rfl, trivial⟩) (fun _ _ _ _ _ h => h) ⟨_, hS554.pick2.pick2⟩ (l' := [(57, nI x548), (56, .agg #[nI (q547.cap), nI (q547.closed), nI (q547.count), nI (q547.start), nI (q547.buf), nI (q547.th), nI (q547.tt), nI (q547.sh), nI (q547.st)]), (5, nP z24 0), (0, nI x5), (1, nI i1)]) (by kernel_rfl) ?_
       intro a557 hF556; clear hF555
       refine any_one 14 (by kernel_rfl) ?_
       have hS558 : St w0 F0 (BlkP (w552.heap.size) 57 #[nI 0, nI 0, nI 0, nI 0, nI 0, nI 0, nI 0, nI 0, nI 0] :: RHeapP z27 z28 z29 z30 z31 s549 :: BlkP z24 46 #[nP z25 0, nP z27 0, nS g541 L16 c41, .slice p44 L17.length c45] :: RowP (nS g541 L16 c41) L16 :: HeapP z25 z26 s14 :: RowP (.slice p44 L17.length c45) L17 :: ps) (w552.alloc (.cells #[nI 0, nI 0, nI 0, nI 0, nI 0, nI 0, nI 0, nI 0, nI 0] 57)) := St.new hS554 #[nI 0, nI 0, nI 0, nI 0, nI 0, nI 0, nI 0, nI 0, nI 0] 57
       clear hS554
       refine op_step 14 #[true, true, true, true, true, true, true, true, true, true, true, true, true, true, true, false, false] (nB w552) (w552.alloc (.cells #[nI 0, nI 0, nI 0, nI 0, nI 0, nI 0, nI 0, nI 0, nI 0] 57)) hF556 rfl (by kernel_rfl) rfl (by kernel_rfl) (by kernel_rfl) (l' := [(7, nB w552), (57, nI x548), (56, .agg #[nI (q547.cap), nI (q547.closed), nI (q547.count), nI (q547.start), nI (q547.buf), nI (q547.th), nI (q547.tt), nI (q547.sh), nI (q547.st)]), (5, nP z24 0), (0, nI x5), (1, nI i1)]) (by kernel_rfl) ⟨_, hS558.pick3.pick3⟩ (by kernel_rfl) ?_
       intro a560 hF559; clear hF556
       refine any_one 15 (by kernel_rfl) ?_
       refine op_store 15 #[true, true, true, true, true, true, true, true, true, true, true, true, true, true, true, true, false] (.agg #[nI (q547.cap), nI (q547.closed), nI (q547.count), nI (q547.start), nI (q547.buf), nI (q547.th), nI (q547.tt), nI (q547.sh), nI (q547.st)]) #[nI (q547.cap), nI (q547.closed), nI (q547.count), nI (q547.start), nI (q547.buf), nI (q547.th), nI (q547.tt), nI (q547.sh), nI (q547.st)] hF559 rfl (by kernel_rfl) rfl rfl rfl rfl (by kernel_rfl) hS558 (by kernel_rfl) (by kernel_rfl) (by kernel_rfl) (l' := [(7, nB w552), (57, nI x548), (56, .agg #[nI (q547.cap), nI (q547.closed), nI (q547.count), nI (q547.start), nI (q547.buf), nI (q547.th), nI (q547.tt), nI (q547.sh), nI (q547.st)]), (5, nP z24 0), (0, nI x5), (1, nI i1)]) (by kernel_rfl) (by kernel_rfl) ?_
       intro w561 a562 hS563 hF564; clear hF559 hS558
       refine ⟨⟨_, hS563.pick3.pick3⟩, ?_⟩
       refine any_many 1 [(16, some (nI x548))] [0, 1, 5, 7] #[true, true, true, true, true, true, true, true, true, true, true, true, true, true, true, true, true] (by rfl) hF564 (by kernel_rfl) (by kernel_rfl) (by exact ⟨fun wS hw => by kernel_rfl, trivial⟩) (fun _ _ _ _ _ h => h) ⟨_, hS563.pick3.pick3⟩ (l' := [(7, nB w552), (5, nP z24 0), (0, nI x5), (1, nI i1)]) (by kernel_rfl) ?_
       intro a566 hF565; clear hF564
       refine any_done (by kernel_rfl) ?_
       exact thenN ⟨(w552.heap.size), s549, q547.cap, q547.closed, q547.count, q547.start, q547.buf, q547.th, q547.tt, q547.sh, q547.st, hF565, hS563, hm551⟩
     · skip
       have hS567 : St w0 F0 (BlkP ((w73.drew).heap.size) 57 #[nI 0, nI 0, nI 0, nI 0, nI 0, nI 0, nI 0, nI 0, nI 0] :: BlkP z24 46 #[nP z25 0, nP z27 0, nS g541 L16 c41, .slice p44 L17.length c45] :: RowP (nS g541 L16 c41) L16 :: HeapP z25 z26 s14 :: RHeapP z27 z28 z29 z30 z31 s69 :: RowP (.slice p44 L17.length c45) L17 :: ps) ((w73.drew).alloc (.cells #[nI 0, nI 0, nI 0, nI 0, nI 0, nI 0, nI 0, nI 0, nI 0] 57)) := St.new hS543 #[nI 0, nI 0, nI 0, nI 0, nI 0, nI 0, nI 0, nI 0, nI 0] 57
       clear hS543
       refine op_step 14 #[true, true, true, true, true, true, true, true, true, true, false, false, false, false, true, false, false] (nB (w73.drew)) ((w73.drew).alloc (.cells #[nI 0, nI 0, nI 0, nI 0, nI 0, nI 0, nI 0, nI 0, nI 0] 57)) hF544 rfl (by kernel_rfl) rfl (by kernel_rfl) (by kernel_rfl) (l' := [(7, nB (w73.drew)), (54, nI (atI L16 (0 : Int))), (48, nP z27 0), (5, nP z24 0), (0, nI x5), (1, nI i1)]) (by kernel_rfl) ⟨_, hS567.pick2.pick2⟩ (by kernel_rfl) ?_
       intro a569 hF568; clear hF544
       have hS570 := hS567.pick4
       clear hS567
       refine any_call 10 #[true, true, true, true, true, true, true, true, true, true, true, false, false, false, true, false, false] 39 #[nP z27 0, nI (atI L16 (0 : Int))] hF568 rfl (by kernel_rfl) rfl rfl (by kernel_rfl) rfl (by kernel_rfl) (fun w => by kernel_rfl) (by kernel_rfl) ?_
       obtain ⟨q571, x572, s573, hx574, hm575⟩ := bind3E hm540; clear hm540
       refine (ref11_Chan.ok hS570 hx574).mono ?_
       rintro _ w576 ⟨rfl, hS578⟩; clear hS570
       refine ⟨⟨_, hS578.pick3.pick3⟩, ?_⟩
       intro a577 hF579; clear hF568
       refine any_many 3 [(11, some (.tuple #[.agg #[nI (q571.cap), nI (q571.closed), nI (q571.count), nI (q571.start), nI (q571.buf), nI (q571.th), nI (q571.tt), nI (q571.sh), nI (q571.st)], nI x572])), (12, some (.agg #[nI (q571.cap), nI (q571.closed), nI (q571.count), nI (q571.start), nI (q571.buf), nI (q571.th), nI (q571.tt), nI (q571.sh), nI (q571.st)])), (13, some (nI x572))] [0, 1, 5, 7, 56, 57] #[true, true, true, true, true, true, true, true, true, true, true, true, true, true, true, false, false] (by rfl) hF579 (by kernel_rfl) (by kernel_rfl) (by exact ⟨fun wS hw => by kernel_rfl, fun wS hw => by kernel_rfl, fun wS hw => by kernel_rfl, trivial⟩) (fun _ _ _ _ _ h => h) ⟨_, hS578.pick3.pick3⟩ (l' := [(57, nI x572), (56, .agg #[nI (q571.cap), nI (q571.closed), nI (q571.count), nI (q571.start), nI (q571.buf), nI (q571.th), nI (q571.tt), nI (q571.sh), nI (q571.st)]), (7, nB (w73.drew)), (5, nP z24 0), (0, nI x5), (1, nI i1)]) (by kernel_rfl) ?_
       intro a581 hF580; clear hF579
       refine any_one 15 (by kernel_rfl) ?_
       have hS582 := hS578.pick1
       clear hS578
       refine op_store 15 #[true, true, true, true, true, true, true, true, true, true, true, true, true, true, true, true, false] (.agg #[nI (q571.cap), nI (q571.closed), nI (q571.count), nI (q571.start), nI (q571.buf), nI (q571.th), nI (q571.tt), nI (q571.sh), nI (q571.st)]) #[nI (q571.cap), nI (q571.closed), nI (q571.count), nI (q571.start), nI (q571.buf), nI (q571.th), nI (q571.tt), nI (q571.sh), nI (q571.st)] hF580 rfl (by kernel_rfl) rfl rfl rfl rfl (by kernel_rfl) hS582 (by kernel_rfl) (by kernel_rfl) (by kernel_rfl) (l' := [(57, nI x572), (56, .agg #[nI (q571.cap), nI (q571.closed), nI (q571.count), nI (q571.start), nI (q571.buf), nI (q571.th), nI (q571.tt), nI (q571.sh), nI (q571.st)]), (7, nB (w73.drew)), (5, nP z24 0), (0, nI x5), (1, nI i1)]) (by kernel_rfl) (by kernel_rfl) ?_
       intro w583 a584 hS585 hF586; clear hF580 hS582
       refine ⟨⟨_, hS585.pick3.pick3⟩, ?_⟩
       refine any_many 1 [(16, some (nI x572))] [0, 1, 5, 7] #[true, true, true, true, true, true, true, true, true, true, true, true, true, true, true, true, true] (by rfl) hF586 (by kernel_rfl) (by kernel_rfl) (by exact ⟨fun wS hw => by kernel_rfl, trivial⟩) (fun _ _ _ _ _ h => h) ⟨_, hS585.pick3.pick3⟩ (l' := [(7, nB (w73.drew)), (5, nP z24 0), (0, nI x5), (1, nI i1)]) (by kernel_rfl) ?_
       intro a588 hF587; clear hF586
       refine any_done (by kernel_rfl) ?_
       exact thenN ⟨((w73.drew).heap.size), s573, q571.cap, q571.closed, q571.count, q571.start, q571.buf, q571.th, q571.tt, q571.sh, q571.st, hF587, hS585, hm575⟩
 · skip
   refine wp_region_lit ?_
   refine ev_call 22 #[] hF48 rfl rfl (by kernel_rfl) rfl (by kernel_rfl) (fun w => by kernel_rfl) ?_
   obtain ⟨y589, hx590, hm591⟩ := bind1E hm19; clear hm19
   refine (law17_awake.ok hS50 hx590).mono ?_
   rintro _ w592 ⟨rfl, hS594⟩ a593 hF595; clear hF48 hS50
   refine ev_runs 2 hF595 (l' := [(22, .bool (!(y589))), (21, .bool (!(y589))), (20, .bool (y589)), (5, nP z24 0), (0, nI x5), (1, nI i1)]) (w' := w592) (by kernel_rfl) ?_
   intro a597 hF596; clear hF595
   cases hc598 : (!(y589))
   case true =>
    rw [hc598] at hF596
    have hm599 := ifYes hc598 hm591; clear hm591
    refine ev_runK 3 hF596 [0, 1, 5, 25] (l' := [(25, .bool true), (5, nP z24 0), (0, nI x5), (1, nI i1)]) (w' := w592) (by kernel_rfl) ?_
    intro a601 hF600; clear hF596
    refine wpList_nil ?_
    exact thenN ⟨true, hF600, hS594, hm599⟩
   rw [hc598] at hF596
   have hm602 := ifNot hc598 hm591; clear hm591
   refine ev_runK 3 hF596 [0, 1, 5, 25] (l' := [(25, .bool false), (5, nP z24 0), (0, nI x5), (1, nI i1)]) (w' := w592) (by kernel_rfl) ?_
   intro a604 hF603; clear hF596
   refine wpList_nil ?_
   exact thenN ⟨false, hF603, hS594, hm602⟩

end Go.Proofs.YtgejcjcpchofiaaGreat
