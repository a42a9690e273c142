/- The walk of the law ListEnds: where its model gives a result, the Go function returns it and leaves the memory of its caller as it was. -/
import Derived.Test.YtaihdiccmaincaaGreatKG13
import Derived.Deep.LoopGhost
import Derived.KernelRfl
namespace Go.Proofs.YtaihdiccmaincaaGreat
open Go.RowKit
abbrev nS (g : Nat) (L : List Int) (c : Nat) : Value := .slice (some ⟨g, 0, none⟩) L.length c
abbrev nB (w : World) : Value := nP w.heap.size 0
set_option linter.unusedVariables false

def ListEnds.l2b (x5 : Int) (L77 : List Int) (s167 : HSt) (q176 : Ch) (x177 : Int) (rec231 : Int → Option (Bool)) (x228 : Int) : Option (Bool) := (if (decide (x228 < x5)) then (if (inR x228 L77.length) then bind2 (pSudog (atI L77 x228) s167) fun q248 x249 => (if (decide ((IntKind.i64.wrap (x228 + 1)) < x5)) then (if (inR (IntKind.i64.wrap (x228 + 1)) L77.length) then (if (x249 != 0) then some (false) else (if (q248.next != (atI L77 (IntKind.i64.wrap (x228 + 1)))) then some (false) else rec231 (IntKind.i64.wrap (x228 + 1)))) else none) else (if (x249 != 0) then some (false) else (if (q248.next != (-1)) then some (false) else rec231 (IntKind.i64.wrap (x228 + 1))))) else none) else (if (x177 == 0) then some ((q176.cap == (0 : Int)) && ((q176.closed == (0 : Int)) && ((q176.count == (0 : Int)) && ((q176.start == (0 : Int)) && ((q176.buf == (-1 : Int)) && ((q176.th == (-1 : Int)) && ((q176.tt == (-1 : Int)) && ((q176.sh == (atI L77 (0 : Int))) && ((q176.st == (atI L77 (IntKind.i64.wrap (x5 - 1)))) && (true)))))))))) else some (false)))
def ListEnds.l2 (x5 : Int) (L77 : List Int) (s167 : HSt) (q176 : Ch) (x177 : Int) : Nat → Int → Option (Bool)
  | 0 => fun _ => none
  | kI + 1 => ListEnds.l2b x5 L77 s167 q176 x177 (ListEnds.l2 x5 L77 s167 q176 x177 kI)
def ListEnds.l3b (x5 : Int) (L77 : List Int) (s167 : HSt) (q176 : Ch) (x177 : Int) (rec471 : Int → Option (Bool)) (x468 : Int) : Option (Bool) := (if (decide (x468 < x5)) then (if (inR x468 L77.length) then bind2 (pSudog (atI L77 x468) s167) fun q488 x489 => (if (decide ((IntKind.i64.wrap (x468 + 1)) < x5)) then (if (inR (IntKind.i64.wrap (x468 + 1)) L77.length) then (if (x489 != 0) then some (false) else (if (q488.next != (atI L77 (IntKind.i64.wrap (x468 + 1)))) then some (false) else rec471 (IntKind.i64.wrap (x468 + 1)))) else none) else (if (x489 != 0) then some (false) else (if (q488.next != (-1)) then some (false) else rec471 (IntKind.i64.wrap (x468 + 1))))) else none) else (if (x177 == 0) then some ((q176.cap == (0 : Int)) && ((q176.closed == (0 : Int)) && ((q176.count == (0 : Int)) && ((q176.start == (0 : Int)) && ((q176.buf == (-1 : Int)) && ((q176.th == (atI L77 (0 : Int))) && ((q176.tt == (atI L77 (IntKind.i64.wrap (x5 - 1)))) && ((q176.sh == (-1 : Int)) && ((q176.st == (-1 : Int)) && (true)))))))))) else some (false)))
def ListEnds.l3 (x5 : Int) (L77 : List Int) (s167 : HSt) (q176 : Ch) (x177 : Int) : Nat → Int → Option (Bool)
  | 0 => fun _ => none
  | kI + 1 => ListEnds.l3b x5 L77 s167 q176 x177 (ListEnds.l3 x5 L77 s167 q176 x177 kI)
def ListEnds.l1b (i1 : Bool) (k : Nat) (x5 : Int) (L16 : List Int) (L17 : List Int) (rec84 : List Int → HSt → HSt → Int → Option (Bool)) (L77 : List Int) (s79 : HSt) (s80 : HSt) (x81 : Int) : Option (Bool) := (if (decide (x81 < x5)) then bind3 (law13_ch.m k s79 s80 L16 L17 0) fun x101 s102 s103 => bind3 (law13_sudog.m k s102 s103 L16 L17 x101) fun x110 s111 s112 => bind3 (law13_ch.m k s111 s112 L16 L17 0) fun x124 s125 s126 => bind2 (list_Push.m k s125 x124 (i1) x110) fun x134 s135 => bind1 (pushM L77 x110) fun L146 => rec84 L146 s135 s126 (IntKind.i64.wrap (x81 + 1)) else bind3 (law13_ch.m k s79 s80 L16 L17 0) fun x166 s167 s168 => bind2 (pChan x166 s167) fun q176 x177 => (if (inR (0 : Int) L77.length) then (if (inR (IntKind.i64.wrap (x5 - 1)) L77.length) then (if (i1) then ListEnds.l2 x5 L77 s167 q176 x177 k 0 else ListEnds.l3 x5 L77 s167 q176 x177 k 0) else none) else none))
def ListEnds.l1 (i1 : Bool) (k : Nat) (x5 : Int) (L16 : List Int) (L17 : List Int) : Nat → List Int → HSt → HSt → Int → Option (Bool)
  | 0 => fun _ _ _ _ => none
  | kI + 1 => ListEnds.l1b i1 k x5 L16 L17 (ListEnds.l1 i1 k x5 L16 L17 kI)
def ListEnds.m (k : Nat) (i0 : Int) (i1 : Bool) : Option (Bool) := bind1 (some (IntKind.i64.wrap (1 + (IntKind.i64.wrap (Int.tmod (IntKind.u64.wrap i0) 10))))) fun x5 => bind4 (law13_made.m k [0] 1) fun s14 s15 L16 L17 => bind1 (law13_awake.m k ) fun y50 => (if (!(y50)) then some (false) else ListEnds.l1 i1 k x5 L16 L17 k [] s14 s15 0)
set_option maxRecDepth 100000 in
set_option maxHeartbeats 40000000 in
theorem ListEnds.ok {w0 w : World} {F0 : List Nat} {ps : List Piece} {k : Nat} {i0 : Int} {i1 : Bool} {r0 : Bool} (hS : St w0 F0 (ps) w) (hm : ListEnds.m k i0 i1 = some r0) :
    Calls Tryz.prog 7 #[nI i0, .bool (i1)] w fun e w' => e = .returned (.bool r0) ∧ St w0 F0 (ps) w' := by
 refine ev_enterL 121 [nI i0, .bool (i1)] Tryz.func7 rfl rfl (by simp) ?_
 intro a hF
 have hF0 : Fr 121 a [(0, nI i0), (1, .bool (i1))] := hF; clear hF
 unfold ListEnds.m at hm
 refine wp_seq (wp_region_lit ?_)
 refine ev_runK 1 hF0 [0, 1] (l' := [(0, nI i0), (1, .bool (i1))]) (w' := w) (by kernel_rfl) ?_
 intro a2 hF1; clear hF0
 refine wpList_nil (thenN (wp_seq (wp_region_lit ?_)))
 refine ev_runs 6 hF1 (l' := [(0, nI (IntKind.i64.wrap (1 + (IntKind.i64.wrap (Int.tmod (IntKind.u64.wrap i0) 10))))), (20, nI (IntKind.i64.wrap (1 + (IntKind.i64.wrap (Int.tmod (IntKind.u64.wrap i0) 10))))), (19, nI (IntKind.i64.wrap (Int.tmod (IntKind.u64.wrap i0) 10))), (18, .int .u64 (Int.tmod (IntKind.u64.wrap i0) 10)), (17, .int .u64 (IntKind.u64.wrap i0)), (16, nI i0), (1, .bool (i1))]) (w' := w) (by kernel_rfl) ?_
 intro a4 hF3; clear hF1
 obtain ⟨x5, hx6, hm7⟩ := bind1E hm; clear hm
 have hF8 := hF3; rw [Option.some.inj hx6] at hF8; clear hF3
 refine wpList_nil ?_
 have hF9 := hF8.keep [0, 1]
 clear hF8
 refine thenN (wp_seq (wp_region_lit ?_))
 refine ev_runs 1 hF9 (l' := [(21, .slice (some ⟨w.heap.size, 0, none⟩) 1 1), (0, nI x5), (1, .bool (i1))]) (w' := w.alloc (.cells #[nI 0] 3)) (by kernel_rfl) ?_
 intro a11 hF10; clear hF9
 have hS13 : St w0 F0 (RowP (.slice (some ⟨w.heap.size, 0, none⟩) 1 1) [0] :: ps) (w.alloc (.cells #[nI 0] 3)) := St.lit hS [0] (by unfold maxLen; simp)
 refine ev_call 24 #[.slice (some ⟨w.heap.size, 0, none⟩) 1 1, nI 1] hF10 rfl rfl (by kernel_rfl) rfl (by kernel_rfl) (fun w => by kernel_rfl) ?_
 obtain ⟨s14, s15, L16, L17, hx18, hm19⟩ := bind4E hm7; clear hm7
 refine (law13_made.ok hS13 hx18).mono ?_
 rintro _ w20 ⟨z24, z25, z26, z27, z28, z29, z30, z31, z32, z33, rfl, hS22⟩ a21 hF23; clear hF10 hS13
 obtain ⟨hl42, p39, c40, rfl, hp41⟩ := St.shape hS22 4 rfl
 obtain ⟨hl46, p43, c44, rfl, hp45⟩ := St.shape hS22 5 rfl
 refine ev_runK 1 hF23 [0, 1, 5] (l' := [(5, nP z24 0), (0, nI x5), (1, .bool (i1))]) (w' := w20) (by kernel_rfl) ?_
 intro a48 hF47; clear hF23
 refine wpList_nil ?_
 have hS49 := hS22.drop
 clear hS22
 refine thenN (wp_seq (wp_seq (wp_region_lit ?_)))
 refine ev_call 25 #[] hF47 rfl rfl (by kernel_rfl) rfl (by kernel_rfl) (fun w => by kernel_rfl) ?_
 obtain ⟨y50, hx51, hm52⟩ := bind1E hm19; clear hm19
 refine (law13_awake.ok hS49 hx51).mono ?_
 rintro _ w53 ⟨rfl, hS55⟩ a54 hF56; clear hF47 hS49
 refine ev_runs 2 hF56 (l' := [(25, .bool (!(y50))), (24, .bool (!(y50))), (23, .bool (y50)), (5, nP z24 0), (0, nI x5), (1, .bool (i1))]) (w' := w53) (by kernel_rfl) ?_
 intro a58 hF57; clear hF56
 cases hc59 : (!(y50))
 case true =>
  rw [hc59] at hF57
  rw [hc59] at hm52
  have hm60 := ifT hm52; clear hm52
  refine ev_runK 3 hF57 [0, 1, 5, 28] (l' := [(28, .bool true), (5, nP z24 0), (0, nI x5), (1, .bool (i1))]) (w' := w53) (by kernel_rfl) ?_
  intro a62 hF61; clear hF57
  refine wpList_nil (thenN ?_)
  refine ev_condT hF61 rfl rfl ?_
  refine wp_seq (wp_region_lit ?_)
  refine ev_runK 1 hF61 [4] (l' := [(4, .bool false)]) (w' := w53) (by kernel_rfl) ?_
  intro a64 hF63; clear hF61
  refine wpList_nil ?_
  have hS65 := hS55.drop.drop.drop.drop.drop
  clear hS55
  refine thenN ?_
  refine wp_ret ?_
  refine thenR ?_
  obtain rfl := Option.some.inj hm60
  refine ev_ret hF63 [4] (.bool false) rfl rfl rfl ?_
  exact ⟨rfl, hS65⟩
 rw [hc59] at hF57
 rw [hc59] at hm52
 have hm67 := ifF hm52; clear hm52
 refine ev_runK 3 hF57 [0, 1, 5, 28] (l' := [(28, .bool false), (5, nP z24 0), (0, nI x5), (1, .bool (i1))]) (w' := w53) (by kernel_rfl) ?_
 intro a69 hF68; clear hF57
 refine wpList_nil (thenN ?_)
 refine ev_condF hF68 rfl rfl ?_
 refine wp_skip ?_
 have hF70 := hF68.keep [0, 1, 5]
 clear hF68
 refine thenN (wp_seq (wp_region_lit ?_))
 have hS72 : St w0 F0 (RowP (.slice none 0 0) [] :: BlkP z24 52 #[nP z25 0, nP z27 0, .slice p39 L16.length c40, .slice p43 L17.length c44] :: HeapP z25 z26 s14 :: RHeapP z27 z28 z29 z30 z31 s15 :: RowP (.slice p39 L16.length c40) L16 :: RowP (.slice p43 L17.length c44) L17 :: ps) w53 := St.nil hS55
 clear hS55
 refine ev_runs 1 hF70 (l' := [(6, .slice none 0 0), (5, nP z24 0), (0, nI x5), (1, .bool (i1))]) (w' := w53) (by kernel_rfl) ?_
 intro a74 hF73; clear hF70
 refine wpList_nil (thenN (wp_seq (wp_seq (wp_region_lit ?_))))
 refine ev_runs 1 hF73 (l' := [(7, nI 0), (6, .slice none 0 0), (5, nP z24 0), (0, nI x5), (1, .bool (i1))]) (w' := w53) (by kernel_rfl) ?_
 intro a76 hF75; clear hF73
 refine wpList_nil (thenN ?_)
 refine wp_block ?_
 refine wp_loop_ghost (fun kI aI wI => ∃ (v78 : Value) (L77 : List Int) (s79 : HSt) (s80 : HSt) (x81 : Int), Fr 121 aI [(7, nI x81), (6, v78), (5, nP z24 0), (0, nI x5), (1, .bool (i1))] ∧ St w0 F0 (RowP (v78) L77 :: BlkP z24 52 #[nP z25 0, nP z27 0, .slice p39 L16.length c40, .slice p43 L17.length c44] :: HeapP z25 z26 s79 :: RHeapP z27 z28 z29 z30 z31 s80 :: RowP (.slice p39 L16.length c40) L16 :: RowP (.slice p43 L17.length c44) L17 :: ps) wI ∧ ListEnds.l1 i1 k x5 L16 L17 kI L77 s79 s80 x81 = some r0) k ⟨.slice none 0 0, [], s14, s15, 0, hF75, hS72, hm67⟩ ?_
 rintro k82 a83 w84 ⟨v78, L77, s79, s80, x81, hF85, hS86, hm87⟩
 clear hF75 hS72 hm67
 rcases k82 with _ | k82
 · cases hm87
 have hm88 : ListEnds.l1b i1 k x5 L16 L17 (ListEnds.l1 i1 k x5 L16 L17 k82) L77 s79 s80 x81 = some r0 := hm87
 clear hm87
 unfold ListEnds.l1b at hm88
 obtain ⟨hl92, p89, c90, rfl, hp91⟩ := St.shape hS86 0 rfl
 refine wp_seq (wp_seq (wp_region_lit ?_))
 refine ev_runK 3 hF85 [0, 1, 5, 6, 7, 31] (l' := [(31, .bool (decide (x81 < x5))), (7, nI x81), (6, .slice p89 L77.length c90), (5, nP z24 0), (0, nI x5), (1, .bool (i1))]) (w' := w84) (by kernel_rfl) ?_
 intro a94 hF93; clear hF85
 refine wpList_nil (thenN ?_)
 cases hc95 : (decide (x81 < x5))
 case true =>
  rw [hc95] at hF93
  rw [hc95] at hm88
  have hm96 := ifT hm88; clear hm88
  refine ev_condT hF93 rfl rfl ?_
  refine wp_skip ?_
  have hF97 := hF93.keep [0, 1, 5, 6, 7]
  clear hF93
  refine thenN (wp_seq ?_)
  refine wp_block ?_
  refine wp_seq (wp_region_lit ?_)
  refine ev_runs 2 hF97 (l' := [(35, nP z24 0), (34, nP z24 0), (7, nI x81), (6, .slice p89 L77.length c90), (5, nP z24 0), (0, nI x5), (1, .bool (i1))]) (w' := w84) (by kernel_rfl) ?_
  intro a99 hF98; clear hF97
  have hS100 := hS86.pick5.pick5.pick5.pick5.pick5
  clear hS86
  refine ev_call 27 #[nP z24 0, nI 0] hF98 rfl rfl (by kernel_rfl) rfl (by kernel_rfl) (fun w => by kernel_rfl) ?_
  obtain ⟨x101, s102, s103, hx104, hm105⟩ := bind3E hm96; clear hm96
  refine (law13_ch.ok hS100 hx104).mono ?_
  rintro _ w106 ⟨rfl, hS108⟩ a107 hF109; clear hF98 hS100
  refine ev_call 26 #[nP z24 0, nI x101] hF109 rfl rfl (by kernel_rfl) rfl (by kernel_rfl) (fun w => by kernel_rfl) ?_
  obtain ⟨x110, s111, s112, hx113, hm114⟩ := bind3E hm105; clear hm105
  refine (law13_sudog.ok hS108 hx113).mono ?_
  rintro _ w115 ⟨rfl, hS117⟩ a116 hF118; clear hF109 hS108
  refine ev_runK 1 hF118 [0, 1, 5, 6, 7, 8] (l' := [(8, nI x110), (7, nI x81), (6, .slice p89 L77.length c90), (5, nP z24 0), (0, nI x5), (1, .bool (i1))]) (w' := w115) (by kernel_rfl) ?_
  intro a120 hF119; clear hF118
  refine wpList_nil (thenN (wp_seq ?_))
  -- draws
  have hS121 := hS117.drew; clear hS117
  refine any_start (fun wS => ∃ qs, St w0 F0 (BlkP z24 52 #[nP z25 0, nP z27 0, .slice p39 L16.length c40, .slice p43 L17.length c44] :: qs) wS) 9 #[false, false, false, false, false, false, false, false, false] (by kernel_rfl) (by kernel_rfl) (by kernel_rfl) ?_
  refine any_many 7 [(0, some (nP z24 0)), (1, some (nP z24 0)), (2, some (nP z24 0)), (3, some (nP z25 0)), (4, some (nP z24 0)), (6, some (.bool (i1))), (7, some (nI x110))] [0, 1, 5, 6, 7, 8, 41, 42, 43, 44, 45, 109, 110, 111, 112, 117, 118, 119] #[true, true, true, true, true, false, true, true, false] (by rfl) hF119 (by kernel_rfl) (by kernel_rfl) (by exact ⟨fun wS hw => by kernel_rfl, fun wS hw => by kernel_rfl, fun wS hw => by kernel_rfl, fun wS hw => hw.elim fun qs hw => run_loadV rfl rfl (run_loadS rfl rfl (hw.cell 0 rfl 0 rfl)), fun wS hw => by kernel_rfl, fun wS hw => by kernel_rfl, fun wS hw => by kernel_rfl, trivial⟩) (fun _ _ _ _ _ h => h) ⟨_, hS121⟩ rfl ?_
  intro a123 hF122; clear hF119
  refine any_call 5 #[true, true, true, true, true, true, true, true, false] 27 #[nP z24 0, nI 0] hF122 rfl (by kernel_rfl) rfl rfl (by kernel_rfl) rfl (by kernel_rfl) (fun w => by kernel_rfl) (by kernel_rfl) ?_
  obtain ⟨x124, s125, s126, hx127, hm128⟩ := bind3E hm114; clear hm114
  refine (law13_ch.ok hS121 hx127).mono ?_
  rintro _ w129 ⟨rfl, hS131⟩; clear hS121
  refine ⟨⟨_, hS131⟩, ?_⟩
  intro a130 hF132; clear hF122
  have hS133 := hS131.pick1
  clear hS131
  refine any_call 8 #[true, true, true, true, true, true, true, true, true] 28 #[nP z25 0, nI x124, .bool (i1), nI x110] hF132 rfl (by kernel_rfl) rfl rfl (by kernel_rfl) rfl (by kernel_rfl) (fun w => by kernel_rfl) (by kernel_rfl) ?_
  obtain ⟨x134, s135, hx136, hm137⟩ := bind2E hm128; clear hm128
  refine (list_Push.ok hS133 hx136).mono ?_
  rintro _ w138 ⟨rfl, hS140⟩; clear hS133
  refine ⟨⟨_, hS140.pick1⟩, ?_⟩
  intro a139 hF141; clear hF132
  refine any_done (by kernel_rfl) ?_
  have hF142 := hF141.keep [0, 1, 5, 6, 7, 8]
  clear hF141
  refine thenN (wp_region_lit ?_)
  refine ev_runs 3 hF142 (l' := [(49, .slice (some ⟨w138.heap.size, 0, none⟩) 1 1), (48, nI x110), (47, .slice p89 L77.length c90), (8, nI x110), (7, nI x81), (6, .slice p89 L77.length c90), (5, nP z24 0), (0, nI x5), (1, .bool (i1))]) (w' := w138.alloc (.cells #[nI x110] 3)) (by kernel_rfl) ?_
  intro a144 hF143; clear hF142
  have hS145 := hS140.pick5
  clear hS140
  obtain ⟨L146, hx147, hm148⟩ := bind1E hm137; clear hm137
  refine ev_push 50 (.tmp 47) (.tmp 49) hF143 rfl rfl rfl rfl rfl rfl rfl rfl hS145 hx147 ?_
  intro g149 c150 w151 a152 hS153 hF154; clear hF143 hS145
  refine ev_runK 1 hF154 [0, 1, 5, 6, 7] (l' := [(6, nS g149 L146 c150), (7, nI x81), (5, nP z24 0), (0, nI x5), (1, .bool (i1))]) (w' := w151) (by kernel_rfl) ?_
  intro a156 hF155; clear hF154
  refine wpList_nil ?_
  refine blockN ?_
  refine thenN (wp_region_lit ?_)
  refine ev_runK 3 hF155 [0, 1, 5, 6, 7] (l' := [(7, nI (IntKind.i64.wrap (x81 + 1))), (6, nS g149 L146 c150), (5, nP z24 0), (0, nI x5), (1, .bool (i1))]) (w' := w151) (by kernel_rfl) ?_
  intro a158 hF157; clear hF155
  refine wpList_nil ?_
  have hS159 := hS153.pick5.pick5.pick5.pick4.pick5.pick5
  clear hS153
  exact thenN ⟨k82, Nat.lt_succ_self _, nS g149 L146 c150, L146, s135, s126, IntKind.i64.wrap (x81 + 1), hF157, hS159, hm148⟩
 rw [hc95] at hF93
 rw [hc95] at hm88
 have hm160 := ifF hm88; clear hm88
 refine ev_condF hF93 rfl rfl ?_
 refine wp_exit ?_
 refine thenE ?_
 refine thenE ?_
 refine blockE ?_
 refine thenN (wp_seq ?_)
 -- draws
 have hS161 := hS86.pick1
 clear hS86
 have hS162 := hS161.drew; clear hS161
 refine any_start (fun wS => ∃ qs, St w0 F0 (BlkP z24 52 #[nP z25 0, nP z27 0, .slice p39 L16.length c40, .slice p43 L17.length c44] :: qs) wS) 13 #[false, false, false, false, false, false, false, false, false, false, false, false, false] (by kernel_rfl) (by kernel_rfl) (by kernel_rfl) ?_
 refine any_many 5 [(0, some (nP z24 0)), (1, some (nP z24 0)), (2, some (nP z24 0)), (3, some (nP z25 0)), (4, some (nP z24 0))] [0, 1, 5, 6, 9, 10, 51, 55, 56, 57, 58, 59, 60, 109, 110, 111, 112, 117, 118, 119] #[true, true, true, true, true, false, false, false, false, false, false, false, false] (by rfl) hF93 (by kernel_rfl) (by kernel_rfl) (by exact ⟨fun wS hw => by kernel_rfl, fun wS hw => by kernel_rfl, fun wS hw => by kernel_rfl, fun wS hw => hw.elim fun qs hw => run_loadV rfl rfl (run_loadS rfl rfl (hw.cell 0 rfl 0 rfl)), fun wS hw => by kernel_rfl, trivial⟩) (fun _ _ _ _ _ h => h) ⟨_, hS162⟩ rfl ?_
 intro a164 hF163; clear hF93
 refine any_two 5 10 (by kernel_rfl) ?_ ?_
 · skip
   have hS165 := hS162.pick5.pick5.pick5.pick5.pick4
   clear hS162
   refine op_call 5 #[true, true, true, true, true, true, false, false, false, false, false, false, false] 27 #[nP z24 0, nI 0] hF163 rfl rfl rfl (by kernel_rfl) rfl (by kernel_rfl) (fun w => by kernel_rfl) (by kernel_rfl) ?_
   obtain ⟨x166, s167, s168, hx169, hm170⟩ := bind3E hm160; clear hm160
   refine (law13_ch.ok hS165 hx169).mono ?_
   rintro _ w171 ⟨rfl, hS173⟩; clear hS165
   refine ⟨⟨_, hS173⟩, ?_⟩
   intro a172 hF174; clear hF163
   refine any_two 6 10 (by kernel_rfl) ?_ ?_
   · skip
     have hS175 := hS173.pick1
     clear hS173
     refine op_call 6 #[true, true, true, true, true, true, true, false, false, false, false, false, false] 18 #[nP z25 0, nI x166] hF174 rfl rfl rfl (by kernel_rfl) rfl (by kernel_rfl) (fun w => by kernel_rfl) (by kernel_rfl) ?_
     obtain ⟨q176, x177, hx178, hm179⟩ := bind2E hm170; clear hm170
     refine (p_Chan hS175 hx178).mono ?_
     rintro _ w180 ⟨rfl, hS182⟩; clear hS175
     refine ⟨⟨_, hS182.pick1⟩, ?_⟩
     intro a181 hF183; clear hF174
     refine any_many 3 [(7, some (.tuple #[.agg #[nI (q176.cap), nI (q176.closed), nI (q176.count), nI (q176.start), nI (q176.buf), nI (q176.th), nI (q176.tt), nI (q176.sh), nI (q176.st)], nI x177])), (8, some (.agg #[nI (q176.cap), nI (q176.closed), nI (q176.count), nI (q176.start), nI (q176.buf), nI (q176.th), nI (q176.tt), nI (q176.sh), nI (q176.st)])), (9, some (nI x177))] [0, 1, 5, 6, 9, 10, 59, 60, 109, 110, 111, 112, 117, 118, 119] #[true, true, true, true, true, true, true, true, true, true, false, false, false] (by rfl) hF183 (by kernel_rfl) (by kernel_rfl) (by exact ⟨fun wS hw => by kernel_rfl, fun wS hw => by kernel_rfl, fun wS hw => by kernel_rfl, trivial⟩) (fun _ _ _ _ _ h => h) ⟨_, hS182.pick1⟩ rfl ?_
     intro a185 hF184; clear hF183
     refine any_one 10 (by kernel_rfl) ?_
     have hS186 : St w0 F0 (BlkP (w180.heap.size) 37 #[nI 0, nI 0, nI 0, nI 0, nI 0, nI 0, nI 0, nI 0, nI 0] :: HeapP z25 z26 s167 :: BlkP z24 52 #[nP z25 0, nP z27 0, .slice p39 L16.length c40, .slice p43 L17.length c44] :: RHeapP z27 z28 z29 z30 z31 s168 :: RowP (.slice p39 L16.length c40) L16 :: RowP (.slice p43 L17.length c44) L17 :: RowP (.slice p89 L77.length c90) L77 :: ps) (w180.alloc (.cells #[nI 0, nI 0, nI 0, nI 0, nI 0, nI 0, nI 0, nI 0, nI 0] 37)) := St.new hS182 #[nI 0, nI 0, nI 0, nI 0, nI 0, nI 0, nI 0, nI 0, nI 0] 37
     clear hS182
     refine op_step 10 #[true, true, true, true, true, true, true, true, true, true, true, false, false] (nB w180) (w180.alloc (.cells #[nI 0, nI 0, nI 0, nI 0, nI 0, nI 0, nI 0, nI 0, nI 0] 37)) hF184 rfl (by kernel_rfl) rfl (by kernel_rfl) (by kernel_rfl) rfl ⟨_, hS186.pick2⟩ (by kernel_rfl) ?_
     intro a188 hF187; clear hF184
     refine any_one 11 (by kernel_rfl) ?_
     refine op_store 11 #[true, true, true, true, true, true, true, true, true, true, true, true, false] (.agg #[nI (q176.cap), nI (q176.closed), nI (q176.count), nI (q176.start), nI (q176.buf), nI (q176.th), nI (q176.tt), nI (q176.sh), nI (q176.st)]) #[nI (q176.cap), nI (q176.closed), nI (q176.count), nI (q176.start), nI (q176.buf), nI (q176.th), nI (q176.tt), nI (q176.sh), nI (q176.st)] hF187 rfl (by kernel_rfl) rfl rfl rfl rfl (by kernel_rfl) hS186 (by kernel_rfl) (by kernel_rfl) (by kernel_rfl) rfl (by kernel_rfl) ?_
     intro w189 a190 hS191 hF192; clear hF187 hS186
     refine ⟨⟨_, hS191.pick2⟩, ?_⟩
     refine any_many 1 [(12, some (nI x177))] [0, 1, 5, 6, 9, 10, 109, 110, 111, 112, 117, 118, 119] #[true, true, true, true, true, true, true, true, true, true, true, true, true] (by rfl) hF192 (by kernel_rfl) (by kernel_rfl) (by exact ⟨fun wS hw => by kernel_rfl, trivial⟩) (fun _ _ _ _ _ h => h) ⟨_, hS191.pick2⟩ rfl ?_
     intro a194 hF193; clear hF192
     refine any_done (by kernel_rfl) ?_
     refine thenN (wp_seq ?_)
     -- draws
     obtain ⟨hc195, hm196⟩ := ifTE hm179; clear hm179
     obtain ⟨g197, rfl⟩ := hp91.resolve_left (by have := inR_spec hc195; omega)
     obtain ⟨hc198, hm199⟩ := ifTE hm196; clear hm196
     have hS200 := hS191.pick6
     clear hS191
     have hS201 := hS200.drew; clear hS200
     refine any_start (fun wS => ∃ qs, St w0 F0 (RowP (nS g197 L77 c90) L77 :: qs) wS) 11 #[false, false, false, false, false, false, false, false, false, false, false] (by kernel_rfl) (by kernel_rfl) (by kernel_rfl) ?_
     refine any_many 9 [(0, some (nS g197 L77 c90)), (1, some (nP g197 ((0 : Int).toNat))), (2, some (nI (atI L77 (0 : Int)))), (3, some (nS g197 L77 c90)), (4, some (nI x5)), (5, some (nI (IntKind.i64.wrap (x5 - 1)))), (6, some (nP g197 ((IntKind.i64.wrap (x5 - 1)).toNat))), (7, some (nI (atI L77 (IntKind.i64.wrap (x5 - 1))))), (8, some (.agg #[nI 0, nI 0, nI 0, nI 0, nI (-1), nI (atI L77 (0 : Int)), nI (atI L77 (IntKind.i64.wrap (x5 - 1))), nI (-1), nI (-1)]))] [0, 1, 5, 6, 9, 10, 11, 69, 109, 110, 111, 112, 117, 118, 119] #[true, true, true, true, true, true, true, true, true, false, false] (by rfl) hF193 (by kernel_rfl) (by kernel_rfl) (by exact ⟨fun wS hw => by kernel_rfl, fun wS hw => run_idx rfl rfl rfl rfl rfl (inR_spec hc195).1 (inR_spec hc195).2 _, fun wS hw => run_load1 rfl rfl rfl (hw.elim fun qs hw => hw.atI 0 rfl hc195), fun wS hw => by kernel_rfl, fun wS hw => by kernel_rfl, fun wS hw => by kernel_rfl, fun wS hw => run_idx rfl rfl rfl rfl rfl (inR_spec hc198).1 (inR_spec hc198).2 _, fun wS hw => run_load1 rfl rfl rfl (hw.elim fun qs hw => hw.atI 0 rfl hc198), fun wS hw => by kernel_rfl, trivial⟩) (fun _ _ _ _ _ h => h) ⟨_, hS201⟩ rfl ?_
     intro a203 hF202; clear hF193
     refine any_one 9 (by kernel_rfl) ?_
     have hS204 : St w0 F0 (BlkP ((w189.drew).heap.size) 37 #[nI 0, nI 0, nI 0, nI 0, nI 0, nI 0, nI 0, nI 0, nI 0] :: RowP (nS g197 L77 c90) L77 :: BlkP (w180.heap.size) 37 #[nI (q176.cap), nI (q176.closed), nI (q176.count), nI (q176.start), nI (q176.buf), nI (q176.th), nI (q176.tt), nI (q176.sh), nI (q176.st)] :: HeapP z25 z26 s167 :: BlkP z24 52 #[nP z25 0, nP z27 0, .slice p39 L16.length c40, .slice p43 L17.length c44] :: RHeapP z27 z28 z29 z30 z31 s168 :: RowP (.slice p39 L16.length c40) L16 :: RowP (.slice p43 L17.length c44) L17 :: ps) ((w189.drew).alloc (.cells #[nI 0, nI 0, nI 0, nI 0, nI 0, nI 0, nI 0, nI 0, nI 0] 37)) := St.new hS201 #[nI 0, nI 0, nI 0, nI 0, nI 0, nI 0, nI 0, nI 0, nI 0] 37
     clear hS201
     refine op_step 9 #[true, true, true, true, true, true, true, true, true, true, false] (nB (w189.drew)) ((w189.drew).alloc (.cells #[nI 0, nI 0, nI 0, nI 0, nI 0, nI 0, nI 0, nI 0, nI 0] 37)) hF202 rfl (by kernel_rfl) rfl (by kernel_rfl) (by kernel_rfl) rfl ⟨_, hS204.pick1⟩ (by kernel_rfl) ?_
     intro a206 hF205; clear hF202
     refine any_one 10 (by kernel_rfl) ?_
     refine op_store 10 #[true, true, true, true, true, true, true, true, true, true, true] (.agg #[nI 0, nI 0, nI 0, nI 0, nI (-1), nI (atI L77 (0 : Int)), nI (atI L77 (IntKind.i64.wrap (x5 - 1))), nI (-1), nI (-1)]) #[nI 0, nI 0, nI 0, nI 0, nI (-1), nI (atI L77 (0 : Int)), nI (atI L77 (IntKind.i64.wrap (x5 - 1))), nI (-1), nI (-1)] hF205 rfl (by kernel_rfl) rfl rfl rfl rfl (by kernel_rfl) hS204 (by kernel_rfl) (by kernel_rfl) (by kernel_rfl) rfl (by kernel_rfl) ?_
     intro w207 a208 hS209 hF210; clear hF205 hS204
     refine ⟨⟨_, hS209.pick1⟩, ?_⟩
     refine any_done (by kernel_rfl) ?_
     have hF211 := hF210.keep [0, 1, 5, 6, 9, 10, 11]
     clear hF210
     refine thenN (wp_seq (wp_seq (wp_region_lit ?_)))
     refine ev_runK 1 hF211 [0, 5, 6, 9, 10, 11, 70] (l' := [(70, .bool (i1)), (11, nB (w189.drew)), (10, nI x177), (9, nB w180), (6, nS g197 L77 c90), (5, nP z24 0), (0, nI x5)]) (w' := w207) (by kernel_rfl) ?_
     intro a213 hF212; clear hF211
     refine wpList_nil (thenN ?_)
     cases hc214 : (i1)
     case true =>
      rw [hc214] at hF212
      rw [hc214] at hm199
      have hm215 := ifT hm199; clear hm199
      refine ev_condT hF212 rfl rfl ?_
      -- draws
      have hS216 := hS209.pick1
      clear hS209
      have hS217 := hS216.drew; clear hS216
      refine any_start (fun wS => ∃ qs, St w0 F0 (RowP (nS g197 L77 c90) L77 :: qs) wS) 10 #[false, false, false, false, false, false, false, false, false, false] (by kernel_rfl) (by kernel_rfl) (by kernel_rfl) ?_
      refine any_many 9 [(0, some (nS g197 L77 c90)), (1, some (nP g197 ((0 : Int).toNat))), (2, some (nI (atI L77 (0 : Int)))), (3, some (nS g197 L77 c90)), (4, some (nI x5)), (5, some (nI (IntKind.i64.wrap (x5 - 1)))), (6, some (nP g197 ((IntKind.i64.wrap (x5 - 1)).toNat))), (7, some (nI (atI L77 (IntKind.i64.wrap (x5 - 1))))), (8, some (.agg #[nI 0, nI 0, nI 0, nI 0, nI (-1), nI (-1), nI (-1), nI (atI L77 (0 : Int)), nI (atI L77 (IntKind.i64.wrap (x5 - 1)))]))] [0, 5, 6, 9, 10, 11, 79, 109, 110, 111, 112, 117, 118, 119] #[true, true, true, true, true, true, true, true, true, false] (by rfl) hF212 (by kernel_rfl) (by kernel_rfl) (by exact ⟨fun wS hw => by kernel_rfl, fun wS hw => run_idx rfl rfl rfl rfl rfl (inR_spec hc195).1 (inR_spec hc195).2 _, fun wS hw => run_load1 rfl rfl rfl (hw.elim fun qs hw => hw.atI 0 rfl hc195), fun wS hw => by kernel_rfl, fun wS hw => by kernel_rfl, fun wS hw => by kernel_rfl, fun wS hw => run_idx rfl rfl rfl rfl rfl (inR_spec hc198).1 (inR_spec hc198).2 _, fun wS hw => run_load1 rfl rfl rfl (hw.elim fun qs hw => hw.atI 0 rfl hc198), fun wS hw => by kernel_rfl, trivial⟩) (fun _ _ _ _ _ h => h) ⟨_, hS217⟩ rfl ?_
      intro a219 hF218; clear hF212
      refine any_one 9 (by kernel_rfl) ?_
      have hS220 := hS217.pick1
      clear hS217
      refine op_store 9 #[true, true, true, true, true, true, true, true, true, true] (.agg #[nI 0, nI 0, nI 0, nI 0, nI (-1), nI (-1), nI (-1), nI (atI L77 (0 : Int)), nI (atI L77 (IntKind.i64.wrap (x5 - 1)))]) #[nI 0, nI 0, nI 0, nI 0, nI (-1), nI (-1), nI (-1), nI (atI L77 (0 : Int)), nI (atI L77 (IntKind.i64.wrap (x5 - 1)))] hF218 rfl (by kernel_rfl) rfl rfl rfl rfl (by kernel_rfl) hS220 (by kernel_rfl) (by kernel_rfl) (by kernel_rfl) rfl (by kernel_rfl) ?_
      intro w221 a222 hS223 hF224; clear hF218 hS220
      refine ⟨⟨_, hS223.pick1⟩, ?_⟩
      refine any_done (by kernel_rfl) ?_
      have hF225 := hF224.keep [0, 5, 6, 9, 10, 11]
      clear hF224
      refine thenN (wp_seq (wp_seq (wp_region_lit ?_)))
      refine ev_runs 1 hF225 (l' := [(12, nI 0), (11, nB (w189.drew)), (10, nI x177), (9, nB w180), (6, nS g197 L77 c90), (5, nP z24 0), (0, nI x5)]) (w' := w221) (by kernel_rfl) ?_
      intro a227 hF226; clear hF225
      refine wpList_nil (thenN ?_)
      refine wp_block ?_
      refine wp_loop_ghost (fun kI aI wI => ∃ (x228 : Int), Fr 121 aI [(12, nI x228), (11, nB (w189.drew)), (10, nI x177), (9, nB w180), (6, nS g197 L77 c90), (5, nP z24 0), (0, nI x5)] ∧ St w0 F0 (BlkP ((w189.drew).heap.size) 37 #[nI 0, nI 0, nI 0, nI 0, nI (-1), nI (-1), nI (-1), nI (atI L77 (0 : Int)), nI (atI L77 (IntKind.i64.wrap (x5 - 1)))] :: RowP (nS g197 L77 c90) L77 :: BlkP (w180.heap.size) 37 #[nI (q176.cap), nI (q176.closed), nI (q176.count), nI (q176.start), nI (q176.buf), nI (q176.th), nI (q176.tt), nI (q176.sh), nI (q176.st)] :: HeapP z25 z26 s167 :: BlkP z24 52 #[nP z25 0, nP z27 0, .slice p39 L16.length c40, .slice p43 L17.length c44] :: RHeapP z27 z28 z29 z30 z31 s168 :: RowP (.slice p39 L16.length c40) L16 :: RowP (.slice p43 L17.length c44) L17 :: ps) wI ∧ ListEnds.l2 x5 L77 s167 q176 x177 kI x228 = some r0) k ⟨0, hF226, hS223, hm215⟩ ?_
      rintro k229 a230 w231 ⟨x228, hF232, hS233, hm234⟩
      clear hF226 hS223 hm215
      rcases k229 with _ | k229
      · cases hm234
      have hm235 : ListEnds.l2b x5 L77 s167 q176 x177 (ListEnds.l2 x5 L77 s167 q176 x177 k229) x228 = some r0 := hm234
      clear hm234
      unfold ListEnds.l2b at hm235
      refine wp_seq (wp_seq (wp_region_lit ?_))
      refine ev_runK 3 hF232 [0, 5, 6, 9, 10, 11, 12, 82] (l' := [(82, .bool (decide (x228 < x5))), (12, nI x228), (11, nB (w189.drew)), (10, nI x177), (9, nB w180), (6, nS g197 L77 c90), (5, nP z24 0), (0, nI x5)]) (w' := w231) (by kernel_rfl) ?_
      intro a237 hF236; clear hF232
      refine wpList_nil (thenN ?_)
      cases hc238 : (decide (x228 < x5))
      case true =>
       rw [hc238] at hF236
       rw [hc238] at hm235
       have hm239 := ifT hm235; clear hm235
       refine ev_condT hF236 rfl rfl ?_
       refine wp_skip ?_
       have hF240 := hF236.keep [0, 5, 6, 9, 10, 11, 12]
       clear hF236
       refine thenN (wp_seq ?_)
       refine wp_block ?_
       refine wp_seq ?_
       -- draws
       obtain ⟨hc241, hm242⟩ := ifTE hm239; clear hm239
       have hS243 := hS233.pick1.pick4
       clear hS233
       have hS244 := hS243.drew; clear hS243
       refine any_start (fun wS => ∃ qs, St w0 F0 (BlkP z24 52 #[nP z25 0, nP z27 0, .slice p39 L16.length c40, .slice p43 L17.length c44] :: RowP (nS g197 L77 c90) L77 :: qs) wS) 15 #[false, false, false, false, false, false, false, false, false, false, false, false, false, false, false] (by kernel_rfl) (by kernel_rfl) (by kernel_rfl) ?_
       refine any_many 8 [(0, some (nP z24 0)), (1, some (nP z24 0)), (2, some (nP z24 0)), (3, some (nP z25 0)), (4, some (nS g197 L77 c90)), (5, some (nI x228)), (6, some (nP g197 (x228.toNat))), (7, some (nI (atI L77 x228)))] [0, 5, 6, 9, 10, 11, 12, 13, 14, 85, 89, 93, 94, 95, 96, 109, 110, 111, 112, 117, 118, 119] #[true, true, true, true, true, true, true, true, false, false, false, false, false, false, false] (by rfl) hF240 (by kernel_rfl) (by kernel_rfl) (by exact ⟨fun wS hw => by kernel_rfl, fun wS hw => by kernel_rfl, fun wS hw => by kernel_rfl, fun wS hw => hw.elim fun qs hw => run_loadV rfl rfl (run_loadS rfl rfl (hw.cell 0 rfl 0 rfl)), fun wS hw => by kernel_rfl, fun wS hw => by kernel_rfl, fun wS hw => run_idx rfl rfl rfl rfl rfl (inR_spec hc241).1 (inR_spec hc241).2 _, fun wS hw => run_load1 rfl rfl rfl (hw.elim fun qs hw => hw.atI 1 rfl hc241), trivial⟩) (fun _ _ _ _ _ h => h) ⟨_, hS244⟩ rfl ?_
       intro a246 hF245; clear hF240
       refine any_two 8 12 (by kernel_rfl) ?_ ?_
       · skip
         have hS247 := hS244.pick4
         clear hS244
         refine op_call 8 #[true, true, true, true, true, true, true, true, true, false, false, false, false, false, false] 29 #[nP z25 0, nI (atI L77 x228)] hF245 rfl rfl rfl (by kernel_rfl) rfl (by kernel_rfl) (fun w => by kernel_rfl) (by kernel_rfl) ?_
         obtain ⟨q248, x249, hx250, hm251⟩ := bind2E hm242; clear hm242
         refine (p_Sudog hS247 hx250).mono ?_
         rintro _ w252 ⟨rfl, hS254⟩; clear hS247
         refine ⟨⟨_, hS254.pick2.pick2⟩, ?_⟩
         intro a253 hF255; clear hF245
         refine any_many 3 [(9, some (.tuple #[.agg #[nI (q248.gor), nI (q248.chan), nI (q248.value), nI (q248.next), nI (q248.to), nI (q248.reg), nI (q248.more)], nI x249])), (10, some (.agg #[nI (q248.gor), nI (q248.chan), nI (q248.value), nI (q248.next), nI (q248.to), nI (q248.reg), nI (q248.more)])), (11, some (nI x249))] [0, 5, 6, 9, 10, 11, 12, 13, 14, 95, 96, 109, 110, 111, 112, 117, 118, 119] #[true, true, true, true, true, true, true, true, true, true, true, true, false, false, false] (by rfl) hF255 (by kernel_rfl) (by kernel_rfl) (by exact ⟨fun wS hw => by kernel_rfl, fun wS hw => by kernel_rfl, fun wS hw => by kernel_rfl, trivial⟩) (fun _ _ _ _ _ h => h) ⟨_, hS254.pick2.pick2⟩ rfl ?_
         intro a257 hF256; clear hF255
         refine any_one 12 (by kernel_rfl) ?_
         have hS258 : St w0 F0 (BlkP (w252.heap.size) 54 #[nI 0, nI 0, nI 0, nI 0, nI 0, nI 0, nI 0] :: HeapP z25 z26 s167 :: BlkP z24 52 #[nP z25 0, nP z27 0, .slice p39 L16.length c40, .slice p43 L17.length c44] :: RowP (nS g197 L77 c90) L77 :: BlkP ((w189.drew).heap.size) 37 #[nI 0, nI 0, nI 0, nI 0, nI (-1), nI (-1), nI (-1), nI (atI L77 (0 : Int)), nI (atI L77 (IntKind.i64.wrap (x5 - 1)))] :: BlkP (w180.heap.size) 37 #[nI (q176.cap), nI (q176.closed), nI (q176.count), nI (q176.start), nI (q176.buf), nI (q176.th), nI (q176.tt), nI (q176.sh), nI (q176.st)] :: RHeapP z27 z28 z29 z30 z31 s168 :: RowP (.slice p39 L16.length c40) L16 :: RowP (.slice p43 L17.length c44) L17 :: ps) (w252.alloc (.cells #[nI 0, nI 0, nI 0, nI 0, nI 0, nI 0, nI 0] 54)) := St.new hS254 #[nI 0, nI 0, nI 0, nI 0, nI 0, nI 0, nI 0] 54
         clear hS254
         refine op_step 12 #[true, true, true, true, true, true, true, true, true, true, true, true, true, false, false] (nB w252) (w252.alloc (.cells #[nI 0, nI 0, nI 0, nI 0, nI 0, nI 0, nI 0] 54)) hF256 rfl (by kernel_rfl) rfl (by kernel_rfl) (by kernel_rfl) rfl ⟨_, hS258.pick3.pick3⟩ (by kernel_rfl) ?_
         intro a260 hF259; clear hF256
         refine any_one 13 (by kernel_rfl) ?_
         refine op_store 13 #[true, true, true, true, true, true, true, true, true, true, true, true, true, true, false] (.agg #[nI (q248.gor), nI (q248.chan), nI (q248.value), nI (q248.next), nI (q248.to), nI (q248.reg), nI (q248.more)]) #[nI (q248.gor), nI (q248.chan), nI (q248.value), nI (q248.next), nI (q248.to), nI (q248.reg), nI (q248.more)] hF259 rfl (by kernel_rfl) rfl rfl rfl rfl (by kernel_rfl) hS258 (by kernel_rfl) (by kernel_rfl) (by kernel_rfl) rfl (by kernel_rfl) ?_
         intro w261 a262 hS263 hF264; clear hF259 hS258
         refine ⟨⟨_, hS263.pick3.pick3⟩, ?_⟩
         refine any_many 1 [(14, some (nI x249))] [0, 5, 6, 9, 10, 11, 12, 13, 14, 109, 110, 111, 112, 117, 118, 119] #[true, true, true, true, true, true, true, true, true, true, true, true, true, true, true] (by rfl) hF264 (by kernel_rfl) (by kernel_rfl) (by exact ⟨fun wS hw => by kernel_rfl, trivial⟩) (fun _ _ _ _ _ h => h) ⟨_, hS263.pick3.pick3⟩ rfl ?_
         intro a266 hF265; clear hF264
         refine any_done (by kernel_rfl) ?_
         refine thenN (wp_seq (wp_region_lit ?_))
         refine ev_runs 1 hF265 (l' := [(15, nI (-1)), (14, nI x249), (13, nB w252), (12, nI x228), (11, nB (w189.drew)), (10, nI x177), (9, nB w180), (6, nS g197 L77 c90), (5, nP z24 0), (0, nI x5)]) (w' := w261) (by kernel_rfl) ?_
         intro a268 hF267; clear hF265
         refine wpList_nil (thenN (wp_seq (wp_seq (wp_region_lit ?_))))
         refine ev_runK 4 hF267 [0, 5, 6, 9, 10, 11, 12, 13, 14, 15, 100] (l' := [(100, .bool (decide ((IntKind.i64.wrap (x228 + 1)) < x5))), (15, nI (-1)), (14, nI x249), (13, nB w252), (12, nI x228), (11, nB (w189.drew)), (10, nI x177), (9, nB w180), (6, nS g197 L77 c90), (5, nP z24 0), (0, nI x5)]) (w' := w261) (by kernel_rfl) ?_
         intro a270 hF269; clear hF267
         refine wpList_nil (thenN ?_)
         cases hc271 : (decide ((IntKind.i64.wrap (x228 + 1)) < x5))
         case true =>
          rw [hc271] at hF269
          rw [hc271] at hm251
          have hm272 := ifT hm251; clear hm251
          refine ev_condT hF269 rfl rfl ?_
          refine wp_region_lit ?_
          refine ev_runs 3 hF269 (l' := [(103, nI (IntKind.i64.wrap (x228 + 1))), (102, nI x228), (101, nS g197 L77 c90), (100, .bool true), (15, nI (-1)), (14, nI x249), (13, nB w252), (12, nI x228), (11, nB (w189.drew)), (10, nI x177), (9, nB w180), (6, nS g197 L77 c90), (5, nP z24 0), (0, nI x5)]) (w' := w261) (by kernel_rfl) ?_
          intro a274 hF273; clear hF269
          obtain ⟨hc275, hm276⟩ := ifTE hm272; clear hm272
          refine ev_one (nP g197 ((IntKind.i64.wrap (x228 + 1)).toNat)) w261 hF273 (by kernel_rfl) rfl (by kernel_rfl) (run_idx rfl rfl rfl rfl rfl (inR_spec hc275).1 (inR_spec hc275).2 _) rfl ?_
          intro a278 hF277; clear hF273
          refine ev_one (nI (atI L77 (IntKind.i64.wrap (x228 + 1)))) w261 hF277 (by kernel_rfl) rfl (by kernel_rfl) (run_load1 rfl rfl rfl (hS263.atI 3 rfl hc275)) rfl ?_
          intro a280 hF279; clear hF277
          refine ev_runK 1 hF279 [0, 5, 6, 9, 10, 11, 12, 13, 14, 15] (l' := [(15, nI (atI L77 (IntKind.i64.wrap (x228 + 1)))), (14, nI x249), (13, nB w252), (12, nI x228), (11, nB (w189.drew)), (10, nI x177), (9, nB w180), (6, nS g197 L77 c90), (5, nP z24 0), (0, nI x5)]) (w' := w261) (by kernel_rfl) ?_
          intro a282 hF281; clear hF279
          refine wpList_nil (thenN (wp_seq (wp_region_lit ?_)))
          refine ev_runs 3 hF281 (l' := [(108, .bool (x249 != 0)), (107, .bool (x249 != 0)), (106, nI x249), (15, nI (atI L77 (IntKind.i64.wrap (x228 + 1)))), (14, nI x249), (13, nB w252), (12, nI x228), (11, nB (w189.drew)), (10, nI x177), (9, nB w180), (6, nS g197 L77 c90), (5, nP z24 0), (0, nI x5)]) (w' := w261) (by kernel_rfl) ?_
          intro a284 hF283; clear hF281
          cases hc285 : (x249 != 0)
          case true =>
           rw [hc285] at hF283
           rw [hc285] at hm276
           have hm286 := ifT hm276; clear hm276
           refine ev_runK 5 hF283 [0, 5, 6, 9, 10, 11, 12, 109, 110, 111, 112, 113] (l' := [(113, .bool true), (112, .tuple #[]), (111, .tuple #[]), (110, .tuple #[]), (109, .tuple #[]), (12, nI x228), (11, nB (w189.drew)), (10, nI x177), (9, nB w180), (6, nS g197 L77 c90), (5, nP z24 0), (0, nI x5)]) (w' := w261) (by kernel_rfl) ?_
           intro a288 hF287; clear hF283
           refine wpList_nil ?_
           have hS289 := hS263.drop
           clear hS263
           refine thenN ?_
           refine ev_condT hF287 rfl rfl ?_
           refine wp_seq (wp_region_lit ?_)
           refine ev_runK 1 hF287 [4] (l' := [(4, .bool false)]) (w' := w261) (by kernel_rfl) ?_
           intro a291 hF290; clear hF287
           refine wpList_nil ?_
           have hS292 := hS289.drop.drop.drop.drop.drop.drop.drop.drop
           clear hS289
           refine thenN ?_
           refine wp_ret ?_
           refine blockR ?_
           refine thenR (thenR ?_)
           refine blockR ?_
           refine thenR ?_
           obtain rfl := Option.some.inj hm286
           refine ev_ret hF290 [4] (.bool false) rfl rfl rfl ?_
           exact ⟨rfl, hS292⟩
          rw [hc285] at hF283
          rw [hc285] at hm276
          have hm294 := ifF hm276; clear hm276
          refine ev_runs 1 hF283 (l' := [(109, nP (w252.heap.size) 3), (108, .bool false), (107, .bool false), (106, nI x249), (15, nI (atI L77 (IntKind.i64.wrap (x228 + 1)))), (14, nI x249), (13, nB w252), (12, nI x228), (11, nB (w189.drew)), (10, nI x177), (9, nB w180), (6, nS g197 L77 c90), (5, nP z24 0), (0, nI x5)]) (w' := w261) (by kernel_rfl) ?_
          intro a296 hF295; clear hF283
          refine ev_one (nI (q248.next)) w261 hF295 (by kernel_rfl) rfl (by kernel_rfl) (run_loadV rfl rfl (run_loadS rfl rfl (hS263.cell 0 rfl 3 rfl))) rfl ?_
          intro a298 hF297; clear hF295
          refine ev_runK 3 hF297 [0, 5, 6, 9, 10, 11, 12, 109, 110, 111, 112, 113] (l' := [(113, .bool (q248.next != (atI L77 (IntKind.i64.wrap (x228 + 1))))), (112, .bool (q248.next != (atI L77 (IntKind.i64.wrap (x228 + 1))))), (111, nI (atI L77 (IntKind.i64.wrap (x228 + 1)))), (110, nI (q248.next)), (109, nP (w252.heap.size) 3), (12, nI x228), (11, nB (w189.drew)), (10, nI x177), (9, nB w180), (6, nS g197 L77 c90), (5, nP z24 0), (0, nI x5)]) (w' := w261) (by kernel_rfl) ?_
          intro a300 hF299; clear hF297
          refine wpList_nil (thenN ?_)
          cases hc301 : (q248.next != (atI L77 (IntKind.i64.wrap (x228 + 1))))
          case true =>
           rw [hc301] at hF299
           rw [hc301] at hm294
           have hm302 := ifT hm294; clear hm294
           refine ev_condT hF299 rfl rfl ?_
           refine wp_seq (wp_region_lit ?_)
           refine ev_runK 1 hF299 [4] (l' := [(4, .bool false)]) (w' := w261) (by kernel_rfl) ?_
           intro a304 hF303; clear hF299
           refine wpList_nil ?_
           have hS305 := hS263.drop.drop.drop.drop.drop.drop.drop.drop.drop
           clear hS263
           refine thenN ?_
           refine wp_ret ?_
           refine blockR ?_
           refine thenR (thenR ?_)
           refine blockR ?_
           refine thenR ?_
           obtain rfl := Option.some.inj hm302
           refine ev_ret hF303 [4] (.bool false) rfl rfl rfl ?_
           exact ⟨rfl, hS305⟩
          rw [hc301] at hF299
          rw [hc301] at hm294
          have hm307 := ifF hm294; clear hm294
          refine ev_condF hF299 rfl rfl ?_
          refine wp_skip ?_
          have hF308 := hF299.keep [0, 5, 6, 9, 10, 11, 12, 109, 110, 111, 112]
          clear hF299
          refine blockN ?_
          refine thenN (wp_region_lit ?_)
          refine ev_runK 3 hF308 [0, 5, 6, 9, 10, 11, 12, 109, 110, 111, 112] (l' := [(12, nI (IntKind.i64.wrap (x228 + 1))), (112, .bool false), (111, nI (atI L77 (IntKind.i64.wrap (x228 + 1)))), (110, nI (q248.next)), (109, nP (w252.heap.size) 3), (11, nB (w189.drew)), (10, nI x177), (9, nB w180), (6, nS g197 L77 c90), (5, nP z24 0), (0, nI x5)]) (w' := w261) (by kernel_rfl) ?_
          intro a310 hF309; clear hF308
          refine wpList_nil ?_
          have hF311 : Fr 121 a310 [(12, nI (IntKind.i64.wrap (x228 + 1))), (11, nB (w189.drew)), (10, nI x177), (9, nB w180), (6, nS g197 L77 c90), (5, nP z24 0), (0, nI x5)] := Fr.re hF309 (by kernel_rfl)
          clear hF309
          have hS312 := hS263.drop.pick7.pick7.pick7.pick4.pick4.pick7.pick6.pick7
          clear hS263
          exact thenN ⟨k229, Nat.lt_succ_self _, IntKind.i64.wrap (x228 + 1), hF311, hS312, hm307⟩
         rw [hc271] at hF269
         rw [hc271] at hm251
         have hm313 := ifF hm251; clear hm251
         refine ev_condF hF269 rfl rfl ?_
         refine wp_skip ?_
         have hF314 := hF269.keep [0, 5, 6, 9, 10, 11, 12, 13, 14, 15]
         clear hF269
         refine thenN (wp_seq (wp_region_lit ?_))
         refine ev_runs 3 hF314 (l' := [(108, .bool (x249 != 0)), (107, .bool (x249 != 0)), (106, nI x249), (15, nI (-1)), (14, nI x249), (13, nB w252), (12, nI x228), (11, nB (w189.drew)), (10, nI x177), (9, nB w180), (6, nS g197 L77 c90), (5, nP z24 0), (0, nI x5)]) (w' := w261) (by kernel_rfl) ?_
         intro a316 hF315; clear hF314
         cases hc317 : (x249 != 0)
         case true =>
          rw [hc317] at hF315
          rw [hc317] at hm313
          have hm318 := ifT hm313; clear hm313
          refine ev_runK 5 hF315 [0, 5, 6, 9, 10, 11, 12, 109, 110, 111, 112, 113] (l' := [(113, .bool true), (112, .tuple #[]), (111, .tuple #[]), (110, .tuple #[]), (109, .tuple #[]), (12, nI x228), (11, nB (w189.drew)), (10, nI x177), (9, nB w180), (6, nS g197 L77 c90), (5, nP z24 0), (0, nI x5)]) (w' := w261) (by kernel_rfl) ?_
          intro a320 hF319; clear hF315
          refine wpList_nil ?_
          have hS321 := hS263.drop
          clear hS263
          refine thenN ?_
          refine ev_condT hF319 rfl rfl ?_
          refine wp_seq (wp_region_lit ?_)
          refine ev_runK 1 hF319 [4] (l' := [(4, .bool false)]) (w' := w261) (by kernel_rfl) ?_
          intro a323 hF322; clear hF319
          refine wpList_nil ?_
          have hS324 := hS321.drop.drop.drop.drop.drop.drop.drop.drop
          clear hS321
          refine thenN ?_
          refine wp_ret ?_
          refine blockR ?_
          refine thenR (thenR ?_)
          refine blockR ?_
          refine thenR ?_
          obtain rfl := Option.some.inj hm318
          refine ev_ret hF322 [4] (.bool false) rfl rfl rfl ?_
          exact ⟨rfl, hS324⟩
         rw [hc317] at hF315
         rw [hc317] at hm313
         have hm326 := ifF hm313; clear hm313
         refine ev_runs 1 hF315 (l' := [(109, nP (w252.heap.size) 3), (108, .bool false), (107, .bool false), (106, nI x249), (15, nI (-1)), (14, nI x249), (13, nB w252), (12, nI x228), (11, nB (w189.drew)), (10, nI x177), (9, nB w180), (6, nS g197 L77 c90), (5, nP z24 0), (0, nI x5)]) (w' := w261) (by kernel_rfl) ?_
         intro a328 hF327; clear hF315
         refine ev_one (nI (q248.next)) w261 hF327 (by kernel_rfl) rfl (by kernel_rfl) (run_loadV rfl rfl (run_loadS rfl rfl (hS263.cell 0 rfl 3 rfl))) rfl ?_
         intro a330 hF329; clear hF327
         refine ev_runK 3 hF329 [0, 5, 6, 9, 10, 11, 12, 109, 110, 111, 112, 113] (l' := [(113, .bool (q248.next != (-1))), (112, .bool (q248.next != (-1))), (111, nI (-1)), (110, nI (q248.next)), (109, nP (w252.heap.size) 3), (12, nI x228), (11, nB (w189.drew)), (10, nI x177), (9, nB w180), (6, nS g197 L77 c90), (5, nP z24 0), (0, nI x5)]) (w' := w261) (by kernel_rfl) ?_
         intro a332 hF331; clear hF329
         refine wpList_nil (thenN ?_)
         cases hc333 : (q248.next != (-1))
         case true =>
          rw [hc333] at hF331
          rw [hc333] at hm326
          have hm334 := ifT hm326; clear hm326
          refine ev_condT hF331 rfl rfl ?_
          refine wp_seq (wp_region_lit ?_)
          refine ev_runK 1 hF331 [4] (l' := [(4, .bool false)]) (w' := w261) (by kernel_rfl) ?_
          intro a336 hF335; clear hF331
          refine wpList_nil ?_
          have hS337 := hS263.drop.drop.drop.drop.drop.drop.drop.drop.drop
          clear hS263
          refine thenN ?_
          refine wp_ret ?_
          refine blockR ?_
          refine thenR (thenR ?_)
          refine blockR ?_
          refine thenR ?_
          obtain rfl := Option.some.inj hm334
          refine ev_ret hF335 [4] (.bool false) rfl rfl rfl ?_
          exact ⟨rfl, hS337⟩
         rw [hc333] at hF331
         rw [hc333] at hm326
         have hm339 := ifF hm326; clear hm326
         refine ev_condF hF331 rfl rfl ?_
         refine wp_skip ?_
         have hF340 := hF331.keep [0, 5, 6, 9, 10, 11, 12, 109, 110, 111, 112]
         clear hF331
         refine blockN ?_
         refine thenN (wp_region_lit ?_)
         refine ev_runK 3 hF340 [0, 5, 6, 9, 10, 11, 12, 109, 110, 111, 112] (l' := [(12, nI (IntKind.i64.wrap (x228 + 1))), (112, .bool false), (111, nI (-1)), (110, nI (q248.next)), (109, nP (w252.heap.size) 3), (11, nB (w189.drew)), (10, nI x177), (9, nB w180), (6, nS g197 L77 c90), (5, nP z24 0), (0, nI x5)]) (w' := w261) (by kernel_rfl) ?_
         intro a342 hF341; clear hF340
         refine wpList_nil ?_
         have hF343 : Fr 121 a342 [(12, nI (IntKind.i64.wrap (x228 + 1))), (11, nB (w189.drew)), (10, nI x177), (9, nB w180), (6, nS g197 L77 c90), (5, nP z24 0), (0, nI x5)] := Fr.re hF341 (by kernel_rfl)
         clear hF341
         have hS344 := hS263.drop.pick7.pick7.pick7.pick4.pick4.pick7.pick6.pick7
         clear hS263
         exact thenN ⟨k229, Nat.lt_succ_self _, IntKind.i64.wrap (x228 + 1), hF343, hS344, hm339⟩
       · skip
         have hS345 : St w0 F0 (BlkP ((w231.drew).heap.size) 54 #[nI 0, nI 0, nI 0, nI 0, nI 0, nI 0, nI 0] :: BlkP z24 52 #[nP z25 0, nP z27 0, .slice p39 L16.length c40, .slice p43 L17.length c44] :: RowP (nS g197 L77 c90) L77 :: BlkP ((w189.drew).heap.size) 37 #[nI 0, nI 0, nI 0, nI 0, nI (-1), nI (-1), nI (-1), nI (atI L77 (0 : Int)), nI (atI L77 (IntKind.i64.wrap (x5 - 1)))] :: BlkP (w180.heap.size) 37 #[nI (q176.cap), nI (q176.closed), nI (q176.count), nI (q176.start), nI (q176.buf), nI (q176.th), nI (q176.tt), nI (q176.sh), nI (q176.st)] :: HeapP z25 z26 s167 :: RHeapP z27 z28 z29 z30 z31 s168 :: RowP (.slice p39 L16.length c40) L16 :: RowP (.slice p43 L17.length c44) L17 :: ps) ((w231.drew).alloc (.cells #[nI 0, nI 0, nI 0, nI 0, nI 0, nI 0, nI 0] 54)) := St.new hS244 #[nI 0, nI 0, nI 0, nI 0, nI 0, nI 0, nI 0] 54
         clear hS244
         refine op_step 12 #[true, true, true, true, true, true, true, true, false, false, false, false, true, false, false] (nB (w231.drew)) ((w231.drew).alloc (.cells #[nI 0, nI 0, nI 0, nI 0, nI 0, nI 0, nI 0] 54)) hF245 rfl (by kernel_rfl) rfl (by kernel_rfl) (by kernel_rfl) rfl ⟨_, hS345.pick2.pick2⟩ (by kernel_rfl) ?_
         intro a347 hF346; clear hF245
         have hS348 := hS345.pick5
         clear hS345
         refine any_call 8 #[true, true, true, true, true, true, true, true, true, false, false, false, true, false, false] 29 #[nP z25 0, nI (atI L77 x228)] hF346 rfl (by kernel_rfl) rfl rfl (by kernel_rfl) rfl (by kernel_rfl) (fun w => by kernel_rfl) (by kernel_rfl) ?_
         obtain ⟨q349, x350, hx351, hm352⟩ := bind2E hm242; clear hm242
         refine (p_Sudog hS348 hx351).mono ?_
         rintro _ w353 ⟨rfl, hS355⟩; clear hS348
         refine ⟨⟨_, hS355.pick3.pick3⟩, ?_⟩
         intro a354 hF356; clear hF346
         refine any_many 3 [(9, some (.tuple #[.agg #[nI (q349.gor), nI (q349.chan), nI (q349.value), nI (q349.next), nI (q349.to), nI (q349.reg), nI (q349.more)], nI x350])), (10, some (.agg #[nI (q349.gor), nI (q349.chan), nI (q349.value), nI (q349.next), nI (q349.to), nI (q349.reg), nI (q349.more)])), (11, some (nI x350))] [0, 5, 6, 9, 10, 11, 12, 13, 14, 95, 96, 109, 110, 111, 112, 117, 118, 119] #[true, true, true, true, true, true, true, true, true, true, true, true, true, false, false] (by rfl) hF356 (by kernel_rfl) (by kernel_rfl) (by exact ⟨fun wS hw => by kernel_rfl, fun wS hw => by kernel_rfl, fun wS hw => by kernel_rfl, trivial⟩) (fun _ _ _ _ _ h => h) ⟨_, hS355.pick3.pick3⟩ rfl ?_
         intro a358 hF357; clear hF356
         refine any_one 13 (by kernel_rfl) ?_
         have hS359 := hS355.pick1
         clear hS355
         refine op_store 13 #[true, true, true, true, true, true, true, true, true, true, true, true, true, true, false] (.agg #[nI (q349.gor), nI (q349.chan), nI (q349.value), nI (q349.next), nI (q349.to), nI (q349.reg), nI (q349.more)]) #[nI (q349.gor), nI (q349.chan), nI (q349.value), nI (q349.next), nI (q349.to), nI (q349.reg), nI (q349.more)] hF357 rfl (by kernel_rfl) rfl rfl rfl rfl (by kernel_rfl) hS359 (by kernel_rfl) (by kernel_rfl) (by kernel_rfl) rfl (by kernel_rfl) ?_
         intro w360 a361 hS362 hF363; clear hF357 hS359
         refine ⟨⟨_, hS362.pick3.pick3⟩, ?_⟩
         refine any_many 1 [(14, some (nI x350))] [0, 5, 6, 9, 10, 11, 12, 13, 14, 109, 110, 111, 112, 117, 118, 119] #[true, true, true, true, true, true, true, true, true, true, true, true, true, true, true] (by rfl) hF363 (by kernel_rfl) (by kernel_rfl) (by exact ⟨fun wS hw => by kernel_rfl, trivial⟩) (fun _ _ _ _ _ h => h) ⟨_, hS362.pick3.pick3⟩ rfl ?_
         intro a365 hF364; clear hF363
         refine any_done (by kernel_rfl) ?_
         refine thenN (wp_seq (wp_region_lit ?_))
         refine ev_runs 1 hF364 (l' := [(15, nI (-1)), (14, nI x350), (13, nB (w231.drew)), (12, nI x228), (11, nB (w189.drew)), (10, nI x177), (9, nB w180), (6, nS g197 L77 c90), (5, nP z24 0), (0, nI x5)]) (w' := w360) (by kernel_rfl) ?_
         intro a367 hF366; clear hF364
         refine wpList_nil (thenN (wp_seq (wp_seq (wp_region_lit ?_))))
         refine ev_runK 4 hF366 [0, 5, 6, 9, 10, 11, 12, 13, 14, 15, 100] (l' := [(100, .bool (decide ((IntKind.i64.wrap (x228 + 1)) < x5))), (15, nI (-1)), (14, nI x350), (13, nB (w231.drew)), (12, nI x228), (11, nB (w189.drew)), (10, nI x177), (9, nB w180), (6, nS g197 L77 c90), (5, nP z24 0), (0, nI x5)]) (w' := w360) (by kernel_rfl) ?_
         intro a369 hF368; clear hF366
         refine wpList_nil (thenN ?_)
         cases hc370 : (decide ((IntKind.i64.wrap (x228 + 1)) < x5))
         case true =>
          rw [hc370] at hF368
          rw [hc370] at hm352
          have hm371 := ifT hm352; clear hm352
          refine ev_condT hF368 rfl rfl ?_
          refine wp_region_lit ?_
          refine ev_runs 3 hF368 (l' := [(103, nI (IntKind.i64.wrap (x228 + 1))), (102, nI x228), (101, nS g197 L77 c90), (100, .bool true), (15, nI (-1)), (14, nI x350), (13, nB (w231.drew)), (12, nI x228), (11, nB (w189.drew)), (10, nI x177), (9, nB w180), (6, nS g197 L77 c90), (5, nP z24 0), (0, nI x5)]) (w' := w360) (by kernel_rfl) ?_
          intro a373 hF372; clear hF368
          obtain ⟨hc374, hm375⟩ := ifTE hm371; clear hm371
          refine ev_one (nP g197 ((IntKind.i64.wrap (x228 + 1)).toNat)) w360 hF372 (by kernel_rfl) rfl (by kernel_rfl) (run_idx rfl rfl rfl rfl rfl (inR_spec hc374).1 (inR_spec hc374).2 _) rfl ?_
          intro a377 hF376; clear hF372
          refine ev_one (nI (atI L77 (IntKind.i64.wrap (x228 + 1)))) w360 hF376 (by kernel_rfl) rfl (by kernel_rfl) (run_load1 rfl rfl rfl (hS362.atI 3 rfl hc374)) rfl ?_
          intro a379 hF378; clear hF376
          refine ev_runK 1 hF378 [0, 5, 6, 9, 10, 11, 12, 13, 14, 15] (l' := [(15, nI (atI L77 (IntKind.i64.wrap (x228 + 1)))), (14, nI x350), (13, nB (w231.drew)), (12, nI x228), (11, nB (w189.drew)), (10, nI x177), (9, nB w180), (6, nS g197 L77 c90), (5, nP z24 0), (0, nI x5)]) (w' := w360) (by kernel_rfl) ?_
          intro a381 hF380; clear hF378
          refine wpList_nil (thenN (wp_seq (wp_region_lit ?_)))
          refine ev_runs 3 hF380 (l' := [(108, .bool (x350 != 0)), (107, .bool (x350 != 0)), (106, nI x350), (15, nI (atI L77 (IntKind.i64.wrap (x228 + 1)))), (14, nI x350), (13, nB (w231.drew)), (12, nI x228), (11, nB (w189.drew)), (10, nI x177), (9, nB w180), (6, nS g197 L77 c90), (5, nP z24 0), (0, nI x5)]) (w' := w360) (by kernel_rfl) ?_
          intro a383 hF382; clear hF380
          cases hc384 : (x350 != 0)
          case true =>
           rw [hc384] at hF382
           rw [hc384] at hm375
           have hm385 := ifT hm375; clear hm375
           refine ev_runK 5 hF382 [0, 5, 6, 9, 10, 11, 12, 109, 110, 111, 112, 113] (l' := [(113, .bool true), (112, .tuple #[]), (111, .tuple #[]), (110, .tuple #[]), (109, .tuple #[]), (12, nI x228), (11, nB (w189.drew)), (10, nI x177), (9, nB w180), (6, nS g197 L77 c90), (5, nP z24 0), (0, nI x5)]) (w' := w360) (by kernel_rfl) ?_
           intro a387 hF386; clear hF382
           refine wpList_nil ?_
           have hS388 := hS362.drop
           clear hS362
           refine thenN ?_
           refine ev_condT hF386 rfl rfl ?_
           refine wp_seq (wp_region_lit ?_)
           refine ev_runK 1 hF386 [4] (l' := [(4, .bool false)]) (w' := w360) (by kernel_rfl) ?_
           intro a390 hF389; clear hF386
           refine wpList_nil ?_
           have hS391 := hS388.drop.drop.drop.drop.drop.drop.drop.drop
           clear hS388
           refine thenN ?_
           refine wp_ret ?_
           refine blockR ?_
           refine thenR (thenR ?_)
           refine blockR ?_
           refine thenR ?_
           obtain rfl := Option.some.inj hm385
           refine ev_ret hF389 [4] (.bool false) rfl rfl rfl ?_
           exact ⟨rfl, hS391⟩
          rw [hc384] at hF382
          rw [hc384] at hm375
          have hm393 := ifF hm375; clear hm375
          refine ev_runs 1 hF382 (l' := [(109, nP ((w231.drew).heap.size) 3), (108, .bool false), (107, .bool false), (106, nI x350), (15, nI (atI L77 (IntKind.i64.wrap (x228 + 1)))), (14, nI x350), (13, nB (w231.drew)), (12, nI x228), (11, nB (w189.drew)), (10, nI x177), (9, nB w180), (6, nS g197 L77 c90), (5, nP z24 0), (0, nI x5)]) (w' := w360) (by kernel_rfl) ?_
          intro a395 hF394; clear hF382
          refine ev_one (nI (q349.next)) w360 hF394 (by kernel_rfl) rfl (by kernel_rfl) (run_loadV rfl rfl (run_loadS rfl rfl (hS362.cell 0 rfl 3 rfl))) rfl ?_
          intro a397 hF396; clear hF394
          refine ev_runK 3 hF396 [0, 5, 6, 9, 10, 11, 12, 109, 110, 111, 112, 113] (l' := [(113, .bool (q349.next != (atI L77 (IntKind.i64.wrap (x228 + 1))))), (112, .bool (q349.next != (atI L77 (IntKind.i64.wrap (x228 + 1))))), (111, nI (atI L77 (IntKind.i64.wrap (x228 + 1)))), (110, nI (q349.next)), (109, nP ((w231.drew).heap.size) 3), (12, nI x228), (11, nB (w189.drew)), (10, nI x177), (9, nB w180), (6, nS g197 L77 c90), (5, nP z24 0), (0, nI x5)]) (w' := w360) (by kernel_rfl) ?_
          intro a399 hF398; clear hF396
          refine wpList_nil (thenN ?_)
          cases hc400 : (q349.next != (atI L77 (IntKind.i64.wrap (x228 + 1))))
          case true =>
           rw [hc400] at hF398
           rw [hc400] at hm393
           have hm401 := ifT hm393; clear hm393
           refine ev_condT hF398 rfl rfl ?_
           refine wp_seq (wp_region_lit ?_)
           refine ev_runK 1 hF398 [4] (l' := [(4, .bool false)]) (w' := w360) (by kernel_rfl) ?_
           intro a403 hF402; clear hF398
           refine wpList_nil ?_
           have hS404 := hS362.drop.drop.drop.drop.drop.drop.drop.drop.drop
           clear hS362
           refine thenN ?_
           refine wp_ret ?_
           refine blockR ?_
           refine thenR (thenR ?_)
           refine blockR ?_
           refine thenR ?_
           obtain rfl := Option.some.inj hm401
           refine ev_ret hF402 [4] (.bool false) rfl rfl rfl ?_
           exact ⟨rfl, hS404⟩
          rw [hc400] at hF398
          rw [hc400] at hm393
          have hm406 := ifF hm393; clear hm393
          refine ev_condF hF398 rfl rfl ?_
          refine wp_skip ?_
          have hF407 := hF398.keep [0, 5, 6, 9, 10, 11, 12, 109, 110, 111, 112]
          clear hF398
          refine blockN ?_
          refine thenN (wp_region_lit ?_)
          refine ev_runK 3 hF407 [0, 5, 6, 9, 10, 11, 12, 109, 110, 111, 112] (l' := [(12, nI (IntKind.i64.wrap (x228 + 1))), (112, .bool false), (111, nI (atI L77 (IntKind.i64.wrap (x228 + 1)))), (110, nI (q349.next)), (109, nP ((w231.drew).heap.size) 3), (11, nB (w189.drew)), (10, nI x177), (9, nB w180), (6, nS g197 L77 c90), (5, nP z24 0), (0, nI x5)]) (w' := w360) (by kernel_rfl) ?_
          intro a409 hF408; clear hF407
          refine wpList_nil ?_
          have hF410 : Fr 121 a409 [(12, nI (IntKind.i64.wrap (x228 + 1))), (11, nB (w189.drew)), (10, nI x177), (9, nB w180), (6, nS g197 L77 c90), (5, nP z24 0), (0, nI x5)] := Fr.re hF408 (by kernel_rfl)
          clear hF408
          have hS411 := hS362.drop.pick7.pick7.pick7.pick4.pick4.pick7.pick6.pick7
          clear hS362
          exact thenN ⟨k229, Nat.lt_succ_self _, IntKind.i64.wrap (x228 + 1), hF410, hS411, hm406⟩
         rw [hc370] at hF368
         rw [hc370] at hm352
         have hm412 := ifF hm352; clear hm352
         refine ev_condF hF368 rfl rfl ?_
         refine wp_skip ?_
         have hF413 := hF368.keep [0, 5, 6, 9, 10, 11, 12, 13, 14, 15]
         clear hF368
         refine thenN (wp_seq (wp_region_lit ?_))
         refine ev_runs 3 hF413 (l' := [(108, .bool (x350 != 0)), (107, .bool (x350 != 0)), (106, nI x350), (15, nI (-1)), (14, nI x350), (13, nB (w231.drew)), (12, nI x228), (11, nB (w189.drew)), (10, nI x177), (9, nB w180), (6, nS g197 L77 c90), (5, nP z24 0), (0, nI x5)]) (w' := w360) (by kernel_rfl) ?_
         intro a415 hF414; clear hF413
         cases hc416 : (x350 != 0)
         case true =>
          rw [hc416] at hF414
          rw [hc416] at hm412
          have hm417 := ifT hm412; clear hm412
          refine ev_runK 5 hF414 [0, 5, 6, 9, 10, 11, 12, 109, 110, 111, 112, 113] (l' := [(113, .bool true), (112, .tuple #[]), (111, .tuple #[]), (110, .tuple #[]), (109, .tuple #[]), (12, nI x228), (11, nB (w189.drew)), (10, nI x177), (9, nB w180), (6, nS g197 L77 c90), (5, nP z24 0), (0, nI x5)]) (w' := w360) (by kernel_rfl) ?_
          intro a419 hF418; clear hF414
          refine wpList_nil ?_
          have hS420 := hS362.drop
          clear hS362
          refine thenN ?_
          refine ev_condT hF418 rfl rfl ?_
          refine wp_seq (wp_region_lit ?_)
          refine ev_runK 1 hF418 [4] (l' := [(4, .bool false)]) (w' := w360) (by kernel_rfl) ?_
          intro a422 hF421; clear hF418
          refine wpList_nil ?_
          have hS423 := hS420.drop.drop.drop.drop.drop.drop.drop.drop
          clear hS420
          refine thenN ?_
          refine wp_ret ?_
          refine blockR ?_
          refine thenR (thenR ?_)
          refine blockR ?_
          refine thenR ?_
          obtain rfl := Option.some.inj hm417
          refine ev_ret hF421 [4] (.bool false) rfl rfl rfl ?_
          exact ⟨rfl, hS423⟩
         rw [hc416] at hF414
         rw [hc416] at hm412
         have hm425 := ifF hm412; clear hm412
         refine ev_runs 1 hF414 (l' := [(109, nP ((w231.drew).heap.size) 3), (108, .bool false), (107, .bool false), (106, nI x350), (15, nI (-1)), (14, nI x350), (13, nB (w231.drew)), (12, nI x228), (11, nB (w189.drew)), (10, nI x177), (9, nB w180), (6, nS g197 L77 c90), (5, nP z24 0), (0, nI x5)]) (w' := w360) (by kernel_rfl) ?_
         intro a427 hF426; clear hF414
         refine ev_one (nI (q349.next)) w360 hF426 (by kernel_rfl) rfl (by kernel_rfl) (run_loadV rfl rfl (run_loadS rfl rfl (hS362.cell 0 rfl 3 rfl))) rfl ?_
         intro a429 hF428; clear hF426
         refine ev_runK 3 hF428 [0, 5, 6, 9, 10, 11, 12, 109, 110, 111, 112, 113] (l' := [(113, .bool (q349.next != (-1))), (112, .bool (q349.next != (-1))), (111, nI (-1)), (110, nI (q349.next)), (109, nP ((w231.drew).heap.size) 3), (12, nI x228), (11, nB (w189.drew)), (10, nI x177), (9, nB w180), (6, nS g197 L77 c90), (5, nP z24 0), (0, nI x5)]) (w' := w360) (by kernel_rfl) ?_
         intro a431 hF430; clear hF428
         refine wpList_nil (thenN ?_)
         cases hc432 : (q349.next != (-1))
         case true =>
          rw [hc432] at hF430
          rw [hc432] at hm425
          have hm433 := ifT hm425; clear hm425
          refine ev_condT hF430 rfl rfl ?_
          refine wp_seq (wp_region_lit ?_)
          refine ev_runK 1 hF430 [4] (l' := [(4, .bool false)]) (w' := w360) (by kernel_rfl) ?_
          intro a435 hF434; clear hF430
          refine wpList_nil ?_
          have hS436 := hS362.drop.drop.drop.drop.drop.drop.drop.drop.drop
          clear hS362
          refine thenN ?_
          refine wp_ret ?_
          refine blockR ?_
          refine thenR (thenR ?_)
          refine blockR ?_
          refine thenR ?_
          obtain rfl := Option.some.inj hm433
          refine ev_ret hF434 [4] (.bool false) rfl rfl rfl ?_
          exact ⟨rfl, hS436⟩
         rw [hc432] at hF430
         rw [hc432] at hm425
         have hm438 := ifF hm425; clear hm425
         refine ev_condF hF430 rfl rfl ?_
         refine wp_skip ?_
         have hF439 := hF430.keep [0, 5, 6, 9, 10, 11, 12, 109, 110, 111, 112]
         clear hF430
         refine blockN ?_
         refine thenN (wp_region_lit ?_)
         refine ev_runK 3 hF439 [0, 5, 6, 9, 10, 11, 12, 109, 110, 111, 112] (l' := [(12, nI (IntKind.i64.wrap (x228 + 1))), (112, .bool false), (111, nI (-1)), (110, nI (q349.next)), (109, nP ((w231.drew).heap.size) 3), (11, nB (w189.drew)), (10, nI x177), (9, nB w180), (6, nS g197 L77 c90), (5, nP z24 0), (0, nI x5)]) (w' := w360) (by kernel_rfl) ?_
         intro a441 hF440; clear hF439
         refine wpList_nil ?_
         have hF442 : Fr 121 a441 [(12, nI (IntKind.i64.wrap (x228 + 1))), (11, nB (w189.drew)), (10, nI x177), (9, nB w180), (6, nS g197 L77 c90), (5, nP z24 0), (0, nI x5)] := Fr.re hF440 (by kernel_rfl)
         clear hF440
         have hS443 := hS362.drop.pick7.pick7.pick7.pick4.pick4.pick7.pick6.pick7
         clear hS362
         exact thenN ⟨k229, Nat.lt_succ_self _, IntKind.i64.wrap (x228 + 1), hF442, hS443, hm438⟩
      rw [hc238] at hF236
      rw [hc238] at hm235
      have hm444 := ifF hm235; clear hm235
      refine ev_condF hF236 rfl rfl ?_
      refine wp_exit ?_
      refine thenE ?_
      refine thenE ?_
      refine blockE ?_
      refine thenN (wp_seq (wp_region_lit ?_))
      refine ev_runs 3 hF236 (l' := [(116, .bool (x177 == 0)), (115, .bool (x177 == 0)), (114, nI x177), (82, .bool false), (12, nI x228), (11, nB (w189.drew)), (10, nI x177), (9, nB w180), (6, nS g197 L77 c90), (5, nP z24 0), (0, nI x5)]) (w' := w231) (by kernel_rfl) ?_
      intro a446 hF445; clear hF236
      cases hc447 : (x177 == 0)
      case true =>
       rw [hc447] at hF445
       rw [hc447] at hm444
       have hm448 := ifT hm444; clear hm444
       refine ev_one (.agg #[nI (q176.cap), nI (q176.closed), nI (q176.count), nI (q176.start), nI (q176.buf), nI (q176.th), nI (q176.tt), nI (q176.sh), nI (q176.st)]) w231 hF445 (by kernel_rfl) rfl (by kernel_rfl) (run_loadV rfl rfl (run_loadA (cs := [nI (q176.cap), nI (q176.closed), nI (q176.count), nI (q176.start), nI (q176.buf), nI (q176.th), nI (q176.tt), nI (q176.sh), nI (q176.st)]) rfl rfl (by kernel_rfl) (blk_cells hS233 2 rfl rfl))) rfl ?_
       intro a450 hF449; clear hF445
       refine ev_one (.agg #[nI 0, nI 0, nI 0, nI 0, nI (-1), nI (-1), nI (-1), nI (atI L77 (0 : Int)), nI (atI L77 (IntKind.i64.wrap (x5 - 1)))]) w231 hF449 (by kernel_rfl) rfl (by kernel_rfl) (run_loadV rfl rfl (run_loadA (cs := [nI 0, nI 0, nI 0, nI 0, nI (-1), nI (-1), nI (-1), nI (atI L77 (0 : Int)), nI (atI L77 (IntKind.i64.wrap (x5 - 1)))]) rfl rfl (by kernel_rfl) (blk_cells hS233 0 rfl rfl))) rfl ?_
       intro a452 hF451; clear hF449
       refine ev_one (.bool ((q176.cap == (0 : Int)) && ((q176.closed == (0 : Int)) && ((q176.count == (0 : Int)) && ((q176.start == (0 : Int)) && ((q176.buf == (-1 : Int)) && ((q176.th == (-1 : Int)) && ((q176.tt == (-1 : Int)) && ((q176.sh == (atI L77 (0 : Int))) && ((q176.st == (atI L77 (IntKind.i64.wrap (x5 - 1)))) && (true))))))))))) w231 hF451 (by kernel_rfl) rfl (by kernel_rfl) (run_eqS rfl rfl rfl (by kernel_rfl) rfl (by kernel_rfl) (eqf_int (by kernel_rfl) rfl rfl rfl (eqf_int (by kernel_rfl) rfl rfl rfl (eqf_int (by kernel_rfl) rfl rfl rfl (eqf_int (by kernel_rfl) rfl rfl rfl (eqf_int (by kernel_rfl) rfl rfl rfl (eqf_int (by kernel_rfl) rfl rfl rfl (eqf_int (by kernel_rfl) rfl rfl rfl (eqf_int (by kernel_rfl) rfl rfl rfl (eqf_int (by kernel_rfl) rfl rfl rfl eqf_nil)))))))))) rfl ?_
       intro a454 hF453; clear hF451
       refine ev_runK 2 hF453 [4] (l' := [(4, .bool ((q176.cap == (0 : Int)) && ((q176.closed == (0 : Int)) && ((q176.count == (0 : Int)) && ((q176.start == (0 : Int)) && ((q176.buf == (-1 : Int)) && ((q176.th == (-1 : Int)) && ((q176.tt == (-1 : Int)) && ((q176.sh == (atI L77 (0 : Int))) && ((q176.st == (atI L77 (IntKind.i64.wrap (x5 - 1)))) && (true)))))))))))]) (w' := w231) (by kernel_rfl) ?_
       intro a456 hF455; clear hF453
       refine wpList_nil ?_
       have hS457 := hS233.drop.drop.drop.drop.drop.drop.drop.drop
       clear hS233
       refine thenN ?_
       refine wp_ret ?_
       obtain rfl := Option.some.inj hm448
       refine ev_ret hF455 [4] (.bool ((q176.cap == (0 : Int)) && ((q176.closed == (0 : Int)) && ((q176.count == (0 : Int)) && ((q176.start == (0 : Int)) && ((q176.buf == (-1 : Int)) && ((q176.th == (-1 : Int)) && ((q176.tt == (-1 : Int)) && ((q176.sh == (atI L77 (0 : Int))) && ((q176.st == (atI L77 (IntKind.i64.wrap (x5 - 1)))) && (true))))))))))) rfl rfl rfl ?_
       exact ⟨rfl, hS457⟩
      rw [hc447] at hF445
      rw [hc447] at hm444
      have hm459 := ifF hm444; clear hm444
      refine ev_runK 5 hF445 [4] (l' := [(4, .bool false)]) (w' := w231) (by kernel_rfl) ?_
      intro a461 hF460; clear hF445
      refine wpList_nil ?_
      have hS462 := hS233.drop.drop.drop.drop.drop.drop.drop.drop
      clear hS233
      refine thenN ?_
      refine wp_ret ?_
      obtain rfl := Option.some.inj hm459
      refine ev_ret hF460 [4] (.bool false) rfl rfl rfl ?_
      exact ⟨rfl, hS462⟩
     rw [hc214] at hF212
     rw [hc214] at hm199
     have hm464 := ifF hm199; clear hm199
     refine ev_condF hF212 rfl rfl ?_
     refine wp_skip ?_
     have hF465 := hF212.keep [0, 5, 6, 9, 10, 11]
     clear hF212
     refine thenN (wp_seq (wp_seq (wp_region_lit ?_)))
     refine ev_runs 1 hF465 (l' := [(12, nI 0), (11, nB (w189.drew)), (10, nI x177), (9, nB w180), (6, nS g197 L77 c90), (5, nP z24 0), (0, nI x5)]) (w' := w207) (by kernel_rfl) ?_
     intro a467 hF466; clear hF465
     refine wpList_nil (thenN ?_)
     refine wp_block ?_
     refine wp_loop_ghost (fun kI aI wI => ∃ (x468 : Int), Fr 121 aI [(12, nI x468), (11, nB (w189.drew)), (10, nI x177), (9, nB w180), (6, nS g197 L77 c90), (5, nP z24 0), (0, nI x5)] ∧ St w0 F0 (BlkP ((w189.drew).heap.size) 37 #[nI 0, nI 0, nI 0, nI 0, nI (-1), nI (atI L77 (0 : Int)), nI (atI L77 (IntKind.i64.wrap (x5 - 1))), nI (-1), nI (-1)] :: RowP (nS g197 L77 c90) L77 :: BlkP (w180.heap.size) 37 #[nI (q176.cap), nI (q176.closed), nI (q176.count), nI (q176.start), nI (q176.buf), nI (q176.th), nI (q176.tt), nI (q176.sh), nI (q176.st)] :: HeapP z25 z26 s167 :: BlkP z24 52 #[nP z25 0, nP z27 0, .slice p39 L16.length c40, .slice p43 L17.length c44] :: RHeapP z27 z28 z29 z30 z31 s168 :: RowP (.slice p39 L16.length c40) L16 :: RowP (.slice p43 L17.length c44) L17 :: ps) wI ∧ ListEnds.l3 x5 L77 s167 q176 x177 kI x468 = some r0) k ⟨0, hF466, hS209, hm464⟩ ?_
     rintro k469 a470 w471 ⟨x468, hF472, hS473, hm474⟩
     clear hF466 hS209 hm464
     rcases k469 with _ | k469
     · cases hm474
     have hm475 : ListEnds.l3b x5 L77 s167 q176 x177 (ListEnds.l3 x5 L77 s167 q176 x177 k469) x468 = some r0 := hm474
     clear hm474
     unfold ListEnds.l3b at hm475
     refine wp_seq (wp_seq (wp_region_lit ?_))
     refine ev_runK 3 hF472 [0, 5, 6, 9, 10, 11, 12, 82] (l' := [(82, .bool (decide (x468 < x5))), (12, nI x468), (11, nB (w189.drew)), (10, nI x177), (9, nB w180), (6, nS g197 L77 c90), (5, nP z24 0), (0, nI x5)]) (w' := w471) (by kernel_rfl) ?_
     intro a477 hF476; clear hF472
     refine wpList_nil (thenN ?_)
     cases hc478 : (decide (x468 < x5))
     case true =>
      rw [hc478] at hF476
      rw [hc478] at hm475
      have hm479 := ifT hm475; clear hm475
      refine ev_condT hF476 rfl rfl ?_
      refine wp_skip ?_
      have hF480 := hF476.keep [0, 5, 6, 9, 10, 11, 12]
      clear hF476
      refine thenN (wp_seq ?_)
      refine wp_block ?_
      refine wp_seq ?_
      -- draws
      obtain ⟨hc481, hm482⟩ := ifTE hm479; clear hm479
      have hS483 := hS473.pick1.pick4
      clear hS473
      have hS484 := hS483.drew; clear hS483
      refine any_start (fun wS => ∃ qs, St w0 F0 (BlkP z24 52 #[nP z25 0, nP z27 0, .slice p39 L16.length c40, .slice p43 L17.length c44] :: RowP (nS g197 L77 c90) L77 :: qs) wS) 15 #[false, false, false, false, false, false, false, false, false, false, false, false, false, false, false] (by kernel_rfl) (by kernel_rfl) (by kernel_rfl) ?_
      refine any_many 8 [(0, some (nP z24 0)), (1, some (nP z24 0)), (2, some (nP z24 0)), (3, some (nP z25 0)), (4, some (nS g197 L77 c90)), (5, some (nI x468)), (6, some (nP g197 (x468.toNat))), (7, some (nI (atI L77 x468)))] [0, 5, 6, 9, 10, 11, 12, 13, 14, 85, 89, 93, 94, 95, 96, 109, 110, 111, 112, 117, 118, 119] #[true, true, true, true, true, true, true, true, false, false, false, false, false, false, false] (by rfl) hF480 (by kernel_rfl) (by kernel_rfl) (by exact ⟨fun wS hw => by kernel_rfl, fun wS hw => by kernel_rfl, fun wS hw => by kernel_rfl, fun wS hw => hw.elim fun qs hw => run_loadV rfl rfl (run_loadS rfl rfl (hw.cell 0 rfl 0 rfl)), fun wS hw => by kernel_rfl, fun wS hw => by kernel_rfl, fun wS hw => run_idx rfl rfl rfl rfl rfl (inR_spec hc481).1 (inR_spec hc481).2 _, fun wS hw => run_load1 rfl rfl rfl (hw.elim fun qs hw => hw.atI 1 rfl hc481), trivial⟩) (fun _ _ _ _ _ h => h) ⟨_, hS484⟩ rfl ?_
      intro a486 hF485; clear hF480
      refine any_two 8 12 (by kernel_rfl) ?_ ?_
      · skip
        have hS487 := hS484.pick4
        clear hS484
        refine op_call 8 #[true, true, true, true, true, true, true, true, true, false, false, false, false, false, false] 29 #[nP z25 0, nI (atI L77 x468)] hF485 rfl rfl rfl (by kernel_rfl) rfl (by kernel_rfl) (fun w => by kernel_rfl) (by kernel_rfl) ?_
        obtain ⟨q488, x489, hx490, hm491⟩ := bind2E hm482; clear hm482
        refine (p_Sudog hS487 hx490).mono ?_
        rintro _ w492 ⟨rfl, hS494⟩; clear hS487
        refine ⟨⟨_, hS494.pick2.pick2⟩, ?_⟩
        intro a493 hF495; clear hF485
        refine any_many 3 [(9, some (.tuple #[.agg #[nI (q488.gor), nI (q488.chan), nI (q488.value), nI (q488.next), nI (q488.to), nI (q488.reg), nI (q488.more)], nI x489])), (10, some (.agg #[nI (q488.gor), nI (q488.chan), nI (q488.value), nI (q488.next), nI (q488.to), nI (q488.reg), nI (q488.more)])), (11, some (nI x489))] [0, 5, 6, 9, 10, 11, 12, 13, 14, 95, 96, 109, 110, 111, 112, 117, 118, 119] #[true, true, true, true, true, true, true, true, true, true, true, true, false, false, false] (by rfl) hF495 (by kernel_rfl) (by kernel_rfl) (by exact ⟨fun wS hw => by kernel_rfl, fun wS hw => by kernel_rfl, fun wS hw => by kernel_rfl, trivial⟩) (fun _ _ _ _ _ h => h) ⟨_, hS494.pick2.pick2⟩ rfl ?_
        intro a497 hF496; clear hF495
        refine any_one 12 (by kernel_rfl) ?_
        have hS498 : St w0 F0 (BlkP (w492.heap.size) 54 #[nI 0, nI 0, nI 0, nI 0, nI 0, nI 0, nI 0] :: HeapP z25 z26 s167 :: BlkP z24 52 #[nP z25 0, nP z27 0, .slice p39 L16.length c40, .slice p43 L17.length c44] :: RowP (nS g197 L77 c90) L77 :: BlkP ((w189.drew).heap.size) 37 #[nI 0, nI 0, nI 0, nI 0, nI (-1), nI (atI L77 (0 : Int)), nI (atI L77 (IntKind.i64.wrap (x5 - 1))), nI (-1), nI (-1)] :: BlkP (w180.heap.size) 37 #[nI (q176.cap), nI (q176.closed), nI (q176.count), nI (q176.start), nI (q176.buf), nI (q176.th), nI (q176.tt), nI (q176.sh), nI (q176.st)] :: RHeapP z27 z28 z29 z30 z31 s168 :: RowP (.slice p39 L16.length c40) L16 :: RowP (.slice p43 L17.length c44) L17 :: ps) (w492.alloc (.cells #[nI 0, nI 0, nI 0, nI 0, nI 0, nI 0, nI 0] 54)) := St.new hS494 #[nI 0, nI 0, nI 0, nI 0, nI 0, nI 0, nI 0] 54
        clear hS494
        refine op_step 12 #[true, true, true, true, true, true, true, true, true, true, true, true, true, false, false] (nB w492) (w492.alloc (.cells #[nI 0, nI 0, nI 0, nI 0, nI 0, nI 0, nI 0] 54)) hF496 rfl (by kernel_rfl) rfl (by kernel_rfl) (by kernel_rfl) rfl ⟨_, hS498.pick3.pick3⟩ (by kernel_rfl) ?_
        intro a500 hF499; clear hF496
        refine any_one 13 (by kernel_rfl) ?_
        refine op_store 13 #[true, true, true, true, true, true, true, true, true, true, true, true, true, true, false] (.agg #[nI (q488.gor), nI (q488.chan), nI (q488.value), nI (q488.next), nI (q488.to), nI (q488.reg), nI (q488.more)]) #[nI (q488.gor), nI (q488.chan), nI (q488.value), nI (q488.next), nI (q488.to), nI (q488.reg), nI (q488.more)] hF499 rfl (by kernel_rfl) rfl rfl rfl rfl (by kernel_rfl) hS498 (by kernel_rfl) (by kernel_rfl) (by kernel_rfl) rfl (by kernel_rfl) ?_
        intro w501 a502 hS503 hF504; clear hF499 hS498
        refine ⟨⟨_, hS503.pick3.pick3⟩, ?_⟩
        refine any_many 1 [(14, some (nI x489))] [0, 5, 6, 9, 10, 11, 12, 13, 14, 109, 110, 111, 112, 117, 118, 119] #[true, true, true, true, true, true, true, true, true, true, true, true, true, true, true] (by rfl) hF504 (by kernel_rfl) (by kernel_rfl) (by exact ⟨fun wS hw => by kernel_rfl, trivial⟩) (fun _ _ _ _ _ h => h) ⟨_, hS503.pick3.pick3⟩ rfl ?_
        intro a506 hF505; clear hF504
        refine any_done (by kernel_rfl) ?_
        refine thenN (wp_seq (wp_region_lit ?_))
        refine ev_runs 1 hF505 (l' := [(15, nI (-1)), (14, nI x489), (13, nB w492), (12, nI x468), (11, nB (w189.drew)), (10, nI x177), (9, nB w180), (6, nS g197 L77 c90), (5, nP z24 0), (0, nI x5)]) (w' := w501) (by kernel_rfl) ?_
        intro a508 hF507; clear hF505
        refine wpList_nil (thenN (wp_seq (wp_seq (wp_region_lit ?_))))
        refine ev_runK 4 hF507 [0, 5, 6, 9, 10, 11, 12, 13, 14, 15, 100] (l' := [(100, .bool (decide ((IntKind.i64.wrap (x468 + 1)) < x5))), (15, nI (-1)), (14, nI x489), (13, nB w492), (12, nI x468), (11, nB (w189.drew)), (10, nI x177), (9, nB w180), (6, nS g197 L77 c90), (5, nP z24 0), (0, nI x5)]) (w' := w501) (by kernel_rfl) ?_
        intro a510 hF509; clear hF507
        refine wpList_nil (thenN ?_)
        cases hc511 : (decide ((IntKind.i64.wrap (x468 + 1)) < x5))
        case true =>
         rw [hc511] at hF509
         rw [hc511] at hm491
         have hm512 := ifT hm491; clear hm491
         refine ev_condT hF509 rfl rfl ?_
         refine wp_region_lit ?_
         refine ev_runs 3 hF509 (l' := [(103, nI (IntKind.i64.wrap (x468 + 1))), (102, nI x468), (101, nS g197 L77 c90), (100, .bool true), (15, nI (-1)), (14, nI x489), (13, nB w492), (12, nI x468), (11, nB (w189.drew)), (10, nI x177), (9, nB w180), (6, nS g197 L77 c90), (5, nP z24 0), (0, nI x5)]) (w' := w501) (by kernel_rfl) ?_
         intro a514 hF513; clear hF509
         obtain ⟨hc515, hm516⟩ := ifTE hm512; clear hm512
         refine ev_one (nP g197 ((IntKind.i64.wrap (x468 + 1)).toNat)) w501 hF513 (by kernel_rfl) rfl (by kernel_rfl) (run_idx rfl rfl rfl rfl rfl (inR_spec hc515).1 (inR_spec hc515).2 _) rfl ?_
         intro a518 hF517; clear hF513
         refine ev_one (nI (atI L77 (IntKind.i64.wrap (x468 + 1)))) w501 hF517 (by kernel_rfl) rfl (by kernel_rfl) (run_load1 rfl rfl rfl (hS503.atI 3 rfl hc515)) rfl ?_
         intro a520 hF519; clear hF517
         refine ev_runK 1 hF519 [0, 5, 6, 9, 10, 11, 12, 13, 14, 15] (l' := [(15, nI (atI L77 (IntKind.i64.wrap (x468 + 1)))), (14, nI x489), (13, nB w492), (12, nI x468), (11, nB (w189.drew)), (10, nI x177), (9, nB w180), (6, nS g197 L77 c90), (5, nP z24 0), (0, nI x5)]) (w' := w501) (by kernel_rfl) ?_
         intro a522 hF521; clear hF519
         refine wpList_nil (thenN (wp_seq (wp_region_lit ?_)))
         refine ev_runs 3 hF521 (l' := [(108, .bool (x489 != 0)), (107, .bool (x489 != 0)), (106, nI x489), (15, nI (atI L77 (IntKind.i64.wrap (x468 + 1)))), (14, nI x489), (13, nB w492), (12, nI x468), (11, nB (w189.drew)), (10, nI x177), (9, nB w180), (6, nS g197 L77 c90), (5, nP z24 0), (0, nI x5)]) (w' := w501) (by kernel_rfl) ?_
         intro a524 hF523; clear hF521
         cases hc525 : (x489 != 0)
         case true =>
          rw [hc525] at hF523
          rw [hc525] at hm516
          have hm526 := ifT hm516; clear hm516
          refine ev_runK 5 hF523 [0, 5, 6, 9, 10, 11, 12, 109, 110, 111, 112, 113] (l' := [(113, .bool true), (112, .tuple #[]), (111, .tuple #[]), (110, .tuple #[]), (109, .tuple #[]), (12, nI x468), (11, nB (w189.drew)), (10, nI x177), (9, nB w180), (6, nS g197 L77 c90), (5, nP z24 0), (0, nI x5)]) (w' := w501) (by kernel_rfl) ?_
          intro a528 hF527; clear hF523
          refine wpList_nil ?_
          have hS529 := hS503.drop
          clear hS503
          refine thenN ?_
          refine ev_condT hF527 rfl rfl ?_
          refine wp_seq (wp_region_lit ?_)
          refine ev_runK 1 hF527 [4] (l' := [(4, .bool false)]) (w' := w501) (by kernel_rfl) ?_
          intro a531 hF530; clear hF527
          refine wpList_nil ?_
          have hS532 := hS529.drop.drop.drop.drop.drop.drop.drop.drop
          clear hS529
          refine thenN ?_
          refine wp_ret ?_
          refine blockR ?_
          refine thenR (thenR ?_)
          refine blockR ?_
          refine thenR ?_
          obtain rfl := Option.some.inj hm526
          refine ev_ret hF530 [4] (.bool false) rfl rfl rfl ?_
          exact ⟨rfl, hS532⟩
         rw [hc525] at hF523
         rw [hc525] at hm516
         have hm534 := ifF hm516; clear hm516
         refine ev_runs 1 hF523 (l' := [(109, nP (w492.heap.size) 3), (108, .bool false), (107, .bool false), (106, nI x489), (15, nI (atI L77 (IntKind.i64.wrap (x468 + 1)))), (14, nI x489), (13, nB w492), (12, nI x468), (11, nB (w189.drew)), (10, nI x177), (9, nB w180), (6, nS g197 L77 c90), (5, nP z24 0), (0, nI x5)]) (w' := w501) (by kernel_rfl) ?_
         intro a536 hF535; clear hF523
         refine ev_one (nI (q488.next)) w501 hF535 (by kernel_rfl) rfl (by kernel_rfl) (run_loadV rfl rfl (run_loadS rfl rfl (hS503.cell 0 rfl 3 rfl))) rfl ?_
         intro a538 hF537; clear hF535
         refine ev_runK 3 hF537 [0, 5, 6, 9, 10, 11, 12, 109, 110, 111, 112, 113] (l' := [(113, .bool (q488.next != (atI L77 (IntKind.i64.wrap (x468 + 1))))), (112, .bool (q488.next != (atI L77 (IntKind.i64.wrap (x468 + 1))))), (111, nI (atI L77 (IntKind.i64.wrap (x468 + 1)))), (110, nI (q488.next)), (109, nP (w492.heap.size) 3), (12, nI x468), (11, nB (w189.drew)), (10, nI x177), (9, nB w180), (6, nS g197 L77 c90), (5, nP z24 0), (0, nI x5)]) (w' := w501) (by kernel_rfl) ?_
         intro a540 hF539; clear hF537
         refine wpList_nil (thenN ?_)
         cases hc541 : (q488.next != (atI L77 (IntKind.i64.wrap (x468 + 1))))
         case true =>
          rw [hc541] at hF539
          rw [hc541] at hm534
          have hm542 := ifT hm534; clear hm534
          refine ev_condT hF539 rfl rfl ?_
          refine wp_seq (wp_region_lit ?_)
          refine ev_runK 1 hF539 [4] (l' := [(4, .bool false)]) (w' := w501) (by kernel_rfl) ?_
          intro a544 hF543; clear hF539
          refine wpList_nil ?_
          have hS545 := hS503.drop.drop.drop.drop.drop.drop.drop.drop.drop
          clear hS503
          refine thenN ?_
          refine wp_ret ?_
          refine blockR ?_
          refine thenR (thenR ?_)
          refine blockR ?_
          refine thenR ?_
          obtain rfl := Option.some.inj hm542
          refine ev_ret hF543 [4] (.bool false) rfl rfl rfl ?_
          exact ⟨rfl, hS545⟩
         rw [hc541] at hF539
         rw [hc541] at hm534
         have hm547 := ifF hm534; clear hm534
         refine ev_condF hF539 rfl rfl ?_
         refine wp_skip ?_
         have hF548 := hF539.keep [0, 5, 6, 9, 10, 11, 12, 109, 110, 111, 112]
         clear hF539
         refine blockN ?_
         refine thenN (wp_region_lit ?_)
         refine ev_runK 3 hF548 [0, 5, 6, 9, 10, 11, 12, 109, 110, 111, 112] (l' := [(12, nI (IntKind.i64.wrap (x468 + 1))), (112, .bool false), (111, nI (atI L77 (IntKind.i64.wrap (x468 + 1)))), (110, nI (q488.next)), (109, nP (w492.heap.size) 3), (11, nB (w189.drew)), (10, nI x177), (9, nB w180), (6, nS g197 L77 c90), (5, nP z24 0), (0, nI x5)]) (w' := w501) (by kernel_rfl) ?_
         intro a550 hF549; clear hF548
         refine wpList_nil ?_
         have hF551 : Fr 121 a550 [(12, nI (IntKind.i64.wrap (x468 + 1))), (11, nB (w189.drew)), (10, nI x177), (9, nB w180), (6, nS g197 L77 c90), (5, nP z24 0), (0, nI x5)] := Fr.re hF549 (by kernel_rfl)
         clear hF549
         have hS552 := hS503.drop.pick7.pick7.pick7.pick4.pick4.pick7.pick6.pick7
         clear hS503
         exact thenN ⟨k469, Nat.lt_succ_self _, IntKind.i64.wrap (x468 + 1), hF551, hS552, hm547⟩
        rw [hc511] at hF509
        rw [hc511] at hm491
        have hm553 := ifF hm491; clear hm491
        refine ev_condF hF509 rfl rfl ?_
        refine wp_skip ?_
        have hF554 := hF509.keep [0, 5, 6, 9, 10, 11, 12, 13, 14, 15]
        clear hF509
        refine thenN (wp_seq (wp_region_lit ?_))
        refine ev_runs 3 hF554 (l' := [(108, .bool (x489 != 0)), (107, .bool (x489 != 0)), (106, nI x489), (15, nI (-1)), (14, nI x489), (13, nB w492), (12, nI x468), (11, nB (w189.drew)), (10, nI x177), (9, nB w180), (6, nS g197 L77 c90), (5, nP z24 0), (0, nI x5)]) (w' := w501) (by kernel_rfl) ?_
        intro a556 hF555; clear hF554
        cases hc557 : (x489 != 0)
        case true =>
         rw [hc557] at hF555
         rw [hc557] at hm553
         have hm558 := ifT hm553; clear hm553
         refine ev_runK 5 hF555 [0, 5, 6, 9, 10, 11, 12, 109, 110, 111, 112, 113] (l' := [(113, .bool true), (112, .tuple #[]), (111, .tuple #[]), (110, .tuple #[]), (109, .tuple #[]), (12, nI x468), (11, nB (w189.drew)), (10, nI x177), (9, nB w180), (6, nS g197 L77 c90), (5, nP z24 0), (0, nI x5)]) (w' := w501) (by kernel_rfl) ?_
         intro a560 hF559; clear hF555
         refine wpList_nil ?_
         have hS561 := hS503.drop
         clear hS503
         refine thenN ?_
         refine ev_condT hF559 rfl rfl ?_
         refine wp_seq (wp_region_lit ?_)
         refine ev_runK 1 hF559 [4] (l' := [(4, .bool false)]) (w' := w501) (by kernel_rfl) ?_
         intro a563 hF562; clear hF559
         refine wpList_nil ?_
         have hS564 := hS561.drop.drop.drop.drop.drop.drop.drop.drop
         clear hS561
         refine thenN ?_
         refine wp_ret ?_
         refine blockR ?_
         refine thenR (thenR ?_)
         refine blockR ?_
         refine thenR ?_
         obtain rfl := Option.some.inj hm558
         refine ev_ret hF562 [4] (.bool false) rfl rfl rfl ?_
         exact ⟨rfl, hS564⟩
        rw [hc557] at hF555
        rw [hc557] at hm553
        have hm566 := ifF hm553; clear hm553
        refine ev_runs 1 hF555 (l' := [(109, nP (w492.heap.size) 3), (108, .bool false), (107, .bool false), (106, nI x489), (15, nI (-1)), (14, nI x489), (13, nB w492), (12, nI x468), (11, nB (w189.drew)), (10, nI x177), (9, nB w180), (6, nS g197 L77 c90), (5, nP z24 0), (0, nI x5)]) (w' := w501) (by kernel_rfl) ?_
        intro a568 hF567; clear hF555
        refine ev_one (nI (q488.next)) w501 hF567 (by kernel_rfl) rfl (by kernel_rfl) (run_loadV rfl rfl (run_loadS rfl rfl (hS503.cell 0 rfl 3 rfl))) rfl ?_
        intro a570 hF569; clear hF567
        refine ev_runK 3 hF569 [0, 5, 6, 9, 10, 11, 12, 109, 110, 111, 112, 113] (l' := [(113, .bool (q488.next != (-1))), (112, .bool (q488.next != (-1))), (111, nI (-1)), (110, nI (q488.next)), (109, nP (w492.heap.size) 3), (12, nI x468), (11, nB (w189.drew)), (10, nI x177), (9, nB w180), (6, nS g197 L77 c90), (5, nP z24 0), (0, nI x5)]) (w' := w501) (by kernel_rfl) ?_
        intro a572 hF571; clear hF569
        refine wpList_nil (thenN ?_)
        cases hc573 : (q488.next != (-1))
        case true =>
         rw [hc573] at hF571
         rw [hc573] at hm566
         have hm574 := ifT hm566; clear hm566
         refine ev_condT hF571 rfl rfl ?_
         refine wp_seq (wp_region_lit ?_)
         refine ev_runK 1 hF571 [4] (l' := [(4, .bool false)]) (w' := w501) (by kernel_rfl) ?_
         intro a576 hF575; clear hF571
         refine wpList_nil ?_
         have hS577 := hS503.drop.drop.drop.drop.drop.drop.drop.drop.drop
         clear hS503
         refine thenN ?_
         refine wp_ret ?_
         refine blockR ?_
         refine thenR (thenR ?_)
         refine blockR ?_
         refine thenR ?_
         obtain rfl := Option.some.inj hm574
         refine ev_ret hF575 [4] (.bool false) rfl rfl rfl ?_
         exact ⟨rfl, hS577⟩
        rw [hc573] at hF571
        rw [hc573] at hm566
        have hm579 := ifF hm566; clear hm566
        refine ev_condF hF571 rfl rfl ?_
        refine wp_skip ?_
        have hF580 := hF571.keep [0, 5, 6, 9, 10, 11, 12, 109, 110, 111, 112]
        clear hF571
        refine blockN ?_
        refine thenN (wp_region_lit ?_)
        refine ev_runK 3 hF580 [0, 5, 6, 9, 10, 11, 12, 109, 110, 111, 112] (l' := [(12, nI (IntKind.i64.wrap (x468 + 1))), (112, .bool false), (111, nI (-1)), (110, nI (q488.next)), (109, nP (w492.heap.size) 3), (11, nB (w189.drew)), (10, nI x177), (9, nB w180), (6, nS g197 L77 c90), (5, nP z24 0), (0, nI x5)]) (w' := w501) (by kernel_rfl) ?_
        intro a582 hF581; clear hF580
        refine wpList_nil ?_
        have hF583 : Fr 121 a582 [(12, nI (IntKind.i64.wrap (x468 + 1))), (11, nB (w189.drew)), (10, nI x177), (9, nB w180), (6, nS g197 L77 c90), (5, nP z24 0), (0, nI x5)] := Fr.re hF581 (by kernel_rfl)
        clear hF581
        have hS584 := hS503.drop.pick7.pick7.pick7.pick4.pick4.pick7.pick6.pick7
        clear hS503
        exact thenN ⟨k469, Nat.lt_succ_self _, IntKind.i64.wrap (x468 + 1), hF583, hS584, hm579⟩
      · skip
        have hS585 : St w0 F0 (BlkP ((w471.drew).heap.size) 54 #[nI 0, nI 0, nI 0, nI 0, nI 0, nI 0, nI 0] :: BlkP z24 52 #[nP z25 0, nP z27 0, .slice p39 L16.length c40, .slice p43 L17.length c44] :: RowP (nS g197 L77 c90) L77 :: BlkP ((w189.drew).heap.size) 37 #[nI 0, nI 0, nI 0, nI 0, nI (-1), nI (atI L77 (0 : Int)), nI (atI L77 (IntKind.i64.wrap (x5 - 1))), nI (-1), nI (-1)] :: BlkP (w180.heap.size) 37 #[nI (q176.cap), nI (q176.closed), nI (q176.count), nI (q176.start), nI (q176.buf), nI (q176.th), nI (q176.tt), nI (q176.sh), nI (q176.st)] :: HeapP z25 z26 s167 :: RHeapP z27 z28 z29 z30 z31 s168 :: RowP (.slice p39 L16.length c40) L16 :: RowP (.slice p43 L17.length c44) L17 :: ps) ((w471.drew).alloc (.cells #[nI 0, nI 0, nI 0, nI 0, nI 0, nI 0, nI 0] 54)) := St.new hS484 #[nI 0, nI 0, nI 0, nI 0, nI 0, nI 0, nI 0] 54
        clear hS484
        refine op_step 12 #[true, true, true, true, true, true, true, true, false, false, false, false, true, false, false] (nB (w471.drew)) ((w471.drew).alloc (.cells #[nI 0, nI 0, nI 0, nI 0, nI 0, nI 0, nI 0] 54)) hF485 rfl (by kernel_rfl) rfl (by kernel_rfl) (by kernel_rfl) rfl ⟨_, hS585.pick2.pick2⟩ (by kernel_rfl) ?_
        intro a587 hF586; clear hF485
        have hS588 := hS585.pick5
        clear hS585
        refine any_call 8 #[true, true, true, true, true, true, true, true, true, false, false, false, true, false, false] 29 #[nP z25 0, nI (atI L77 x468)] hF586 rfl (by kernel_rfl) rfl rfl (by kernel_rfl) rfl (by kernel_rfl) (fun w => by kernel_rfl) (by kernel_rfl) ?_
        obtain ⟨q589, x590, hx591, hm592⟩ := bind2E hm482; clear hm482
        refine (p_Sudog hS588 hx591).mono ?_
        rintro _ w593 ⟨rfl, hS595⟩; clear hS588
        refine ⟨⟨_, hS595.pick3.pick3⟩, ?_⟩
        intro a594 hF596; clear hF586
        refine any_many 3 [(9, some (.tuple #[.agg #[nI (q589.gor), nI (q589.chan), nI (q589.value), nI (q589.next), nI (q589.to), nI (q589.reg), nI (q589.more)], nI x590])), (10, some (.agg #[nI (q589.gor), nI (q589.chan), nI (q589.value), nI (q589.next), nI (q589.to), nI (q589.reg), nI (q589.more)])), (11, some (nI x590))] [0, 5, 6, 9, 10, 11, 12, 13, 14, 95, 96, 109, 110, 111, 112, 117, 118, 119] #[true, true, true, true, true, true, true, true, true, true, true, true, true, false, false] (by rfl) hF596 (by kernel_rfl) (by kernel_rfl) (by exact ⟨fun wS hw => by kernel_rfl, fun wS hw => by kernel_rfl, fun wS hw => by kernel_rfl, trivial⟩) (fun _ _ _ _ _ h => h) ⟨_, hS595.pick3.pick3⟩ rfl ?_
        intro a598 hF597; clear hF596
        refine any_one 13 (by kernel_rfl) ?_
        have hS599 := hS595.pick1
        clear hS595
        refine op_store 13 #[true, true, true, true, true, true, true, true, true, true, true, true, true, true, false] (.agg #[nI (q589.gor), nI (q589.chan), nI (q589.value), nI (q589.next), nI (q589.to), nI (q589.reg), nI (q589.more)]) #[nI (q589.gor), nI (q589.chan), nI (q589.value), nI (q589.next), nI (q589.to), nI (q589.reg), nI (q589.more)] hF597 rfl (by kernel_rfl) rfl rfl rfl rfl (by kernel_rfl) hS599 (by kernel_rfl) (by kernel_rfl) (by kernel_rfl) rfl (by kernel_rfl) ?_
        intro w600 a601 hS602 hF603; clear hF597 hS599
        refine ⟨⟨_, hS602.pick3.pick3⟩, ?_⟩
        refine any_many 1 [(14, some (nI x590))] [0, 5, 6, 9, 10, 11, 12, 13, 14, 109, 110, 111, 112, 117, 118, 119] #[true, true, true, true, true, true, true, true, true, true, true, true, true, true, true] (by rfl) hF603 (by kernel_rfl) (by kernel_rfl) (by exact ⟨fun wS hw => by kernel_rfl, trivial⟩) (fun _ _ _ _ _ h => h) ⟨_, hS602.pick3.pick3⟩ rfl ?_
        intro a605 hF604; clear hF603
        refine any_done (by kernel_rfl) ?_
        refine thenN (wp_seq (wp_region_lit ?_))
        refine ev_runs 1 hF604 (l' := [(15, nI (-1)), (14, nI x590), (13, nB (w471.drew)), (12, nI x468), (11, nB (w189.drew)), (10, nI x177), (9, nB w180), (6, nS g197 L77 c90), (5, nP z24 0), (0, nI x5)]) (w' := w600) (by kernel_rfl) ?_
        intro a607 hF606; clear hF604
        refine wpList_nil (thenN (wp_seq (wp_seq (wp_region_lit ?_))))
        refine ev_runK 4 hF606 [0, 5, 6, 9, 10, 11, 12, 13, 14, 15, 100] (l' := [(100, .bool (decide ((IntKind.i64.wrap (x468 + 1)) < x5))), (15, nI (-1)), (14, nI x590), (13, nB (w471.drew)), (12, nI x468), (11, nB (w189.drew)), (10, nI x177), (9, nB w180), (6, nS g197 L77 c90), (5, nP z24 0), (0, nI x5)]) (w' := w600) (by kernel_rfl) ?_
        intro a609 hF608; clear hF606
        refine wpList_nil (thenN ?_)
        cases hc610 : (decide ((IntKind.i64.wrap (x468 + 1)) < x5))
        case true =>
         rw [hc610] at hF608
         rw [hc610] at hm592
         have hm611 := ifT hm592; clear hm592
         refine ev_condT hF608 rfl rfl ?_
         refine wp_region_lit ?_
         refine ev_runs 3 hF608 (l' := [(103, nI (IntKind.i64.wrap (x468 + 1))), (102, nI x468), (101, nS g197 L77 c90), (100, .bool true), (15, nI (-1)), (14, nI x590), (13, nB (w471.drew)), (12, nI x468), (11, nB (w189.drew)), (10, nI x177), (9, nB w180), (6, nS g197 L77 c90), (5, nP z24 0), (0, nI x5)]) (w' := w600) (by kernel_rfl) ?_
         intro a613 hF612; clear hF608
         obtain ⟨hc614, hm615⟩ := ifTE hm611; clear hm611
         refine ev_one (nP g197 ((IntKind.i64.wrap (x468 + 1)).toNat)) w600 hF612 (by kernel_rfl) rfl (by kernel_rfl) (run_idx rfl rfl rfl rfl rfl (inR_spec hc614).1 (inR_spec hc614).2 _) rfl ?_
         intro a617 hF616; clear hF612
         refine ev_one (nI (atI L77 (IntKind.i64.wrap (x468 + 1)))) w600 hF616 (by kernel_rfl) rfl (by kernel_rfl) (run_load1 rfl rfl rfl (hS602.atI 3 rfl hc614)) rfl ?_
         intro a619 hF618; clear hF616
         refine ev_runK 1 hF618 [0, 5, 6, 9, 10, 11, 12, 13, 14, 15] (l' := [(15, nI (atI L77 (IntKind.i64.wrap (x468 + 1)))), (14, nI x590), (13, nB (w471.drew)), (12, nI x468), (11, nB (w189.drew)), (10, nI x177), (9, nB w180), (6, nS g197 L77 c90), (5, nP z24 0), (0, nI x5)]) (w' := w600) (by kernel_rfl) ?_
         intro a621 hF620; clear hF618
         refine wpList_nil (thenN (wp_seq (wp_region_lit ?_)))
         refine ev_runs 3 hF620 (l' := [(108, .bool (x590 != 0)), (107, .bool (x590 != 0)), (106, nI x590), (15, nI (atI L77 (IntKind.i64.wrap (x468 + 1)))), (14, nI x590), (13, nB (w471.drew)), (12, nI x468), (11, nB (w189.drew)), (10, nI x177), (9, nB w180), (6, nS g197 L77 c90), (5, nP z24 0), (0, nI x5)]) (w' := w600) (by kernel_rfl) ?_
         intro a623 hF622; clear hF620
         cases hc624 : (x590 != 0)
         case true =>
          rw [hc624] at hF622
          rw [hc624] at hm615
          have hm625 := ifT hm615; clear hm615
          refine ev_runK 5 hF622 [0, 5, 6, 9, 10, 11, 12, 109, 110, 111, 112, 113] (l' := [(113, .bool true), (112, .tuple #[]), (111, .tuple #[]), (110, .tuple #[]), (109, .tuple #[]), (12, nI x468), (11, nB (w189.drew)), (10, nI x177), (9, nB w180), (6, nS g197 L77 c90), (5, nP z24 0), (0, nI x5)]) (w' := w600) (by kernel_rfl) ?_
          intro a627 hF626; clear hF622
          refine wpList_nil ?_
          have hS628 := hS602.drop
          clear hS602
          refine thenN ?_
          refine ev_condT hF626 rfl rfl ?_
          refine wp_seq (wp_region_lit ?_)
          refine ev_runK 1 hF626 [4] (l' := [(4, .bool false)]) (w' := w600) (by kernel_rfl) ?_
          intro a630 hF629; clear hF626
          refine wpList_nil ?_
          have hS631 := hS628.drop.drop.drop.drop.drop.drop.drop.drop
          clear hS628
          refine thenN ?_
          refine wp_ret ?_
          refine blockR ?_
          refine thenR (thenR ?_)
          refine blockR ?_
          refine thenR ?_
          obtain rfl := Option.some.inj hm625
          refine ev_ret hF629 [4] (.bool false) rfl rfl rfl ?_
          exact ⟨rfl, hS631⟩
         rw [hc624] at hF622
         rw [hc624] at hm615
         have hm633 := ifF hm615; clear hm615
         refine ev_runs 1 hF622 (l' := [(109, nP ((w471.drew).heap.size) 3), (108, .bool false), (107, .bool false), (106, nI x590), (15, nI (atI L77 (IntKind.i64.wrap (x468 + 1)))), (14, nI x590), (13, nB (w471.drew)), (12, nI x468), (11, nB (w189.drew)), (10, nI x177), (9, nB w180), (6, nS g197 L77 c90), (5, nP z24 0), (0, nI x5)]) (w' := w600) (by kernel_rfl) ?_
         intro a635 hF634; clear hF622
         refine ev_one (nI (q589.next)) w600 hF634 (by kernel_rfl) rfl (by kernel_rfl) (run_loadV rfl rfl (run_loadS rfl rfl (hS602.cell 0 rfl 3 rfl))) rfl ?_
         intro a637 hF636; clear hF634
         refine ev_runK 3 hF636 [0, 5, 6, 9, 10, 11, 12, 109, 110, 111, 112, 113] (l' := [(113, .bool (q589.next != (atI L77 (IntKind.i64.wrap (x468 + 1))))), (112, .bool (q589.next != (atI L77 (IntKind.i64.wrap (x468 + 1))))), (111, nI (atI L77 (IntKind.i64.wrap (x468 + 1)))), (110, nI (q589.next)), (109, nP ((w471.drew).heap.size) 3), (12, nI x468), (11, nB (w189.drew)), (10, nI x177), (9, nB w180), (6, nS g197 L77 c90), (5, nP z24 0), (0, nI x5)]) (w' := w600) (by kernel_rfl) ?_
         intro a639 hF638; clear hF636
         refine wpList_nil (thenN ?_)
         cases hc640 : (q589.next != (atI L77 (IntKind.i64.wrap (x468 + 1))))
         case true =>
          rw [hc640] at hF638
          rw [hc640] at hm633
          have hm641 := ifT hm633; clear hm633
          refine ev_condT hF638 rfl rfl ?_
          refine wp_seq (wp_region_lit ?_)
          refine ev_runK 1 hF638 [4] (l' := [(4, .bool false)]) (w' := w600) (by kernel_rfl) ?_
          intro a643 hF642; clear hF638
          refine wpList_nil ?_
          have hS644 := hS602.drop.drop.drop.drop.drop.drop.drop.drop.drop
          clear hS602
          refine thenN ?_
          refine wp_ret ?_
          refine blockR ?_
          refine thenR (thenR ?_)
          refine blockR ?_
          refine thenR ?_
          obtain rfl := Option.some.inj hm641
          refine ev_ret hF642 [4] (.bool false) rfl rfl rfl ?_
          exact ⟨rfl, hS644⟩
         rw [hc640] at hF638
         rw [hc640] at hm633
         have hm646 := ifF hm633; clear hm633
         refine ev_condF hF638 rfl rfl ?_
         refine wp_skip ?_
         have hF647 := hF638.keep [0, 5, 6, 9, 10, 11, 12, 109, 110, 111, 112]
         clear hF638
         refine blockN ?_
         refine thenN (wp_region_lit ?_)
         refine ev_runK 3 hF647 [0, 5, 6, 9, 10, 11, 12, 109, 110, 111, 112] (l' := [(12, nI (IntKind.i64.wrap (x468 + 1))), (112, .bool false), (111, nI (atI L77 (IntKind.i64.wrap (x468 + 1)))), (110, nI (q589.next)), (109, nP ((w471.drew).heap.size) 3), (11, nB (w189.drew)), (10, nI x177), (9, nB w180), (6, nS g197 L77 c90), (5, nP z24 0), (0, nI x5)]) (w' := w600) (by kernel_rfl) ?_
         intro a649 hF648; clear hF647
         refine wpList_nil ?_
         have hF650 : Fr 121 a649 [(12, nI (IntKind.i64.wrap (x468 + 1))), (11, nB (w189.drew)), (10, nI x177), (9, nB w180), (6, nS g197 L77 c90), (5, nP z24 0), (0, nI x5)] := Fr.re hF648 (by kernel_rfl)
         clear hF648
         have hS651 := hS602.drop.pick7.pick7.pick7.pick4.pick4.pick7.pick6.pick7
         clear hS602
         exact thenN ⟨k469, Nat.lt_succ_self _, IntKind.i64.wrap (x468 + 1), hF650, hS651, hm646⟩
        rw [hc610] at hF608
        rw [hc610] at hm592
        have hm652 := ifF hm592; clear hm592
        refine ev_condF hF608 rfl rfl ?_
        refine wp_skip ?_
        have hF653 := hF608.keep [0, 5, 6, 9, 10, 11, 12, 13, 14, 15]
        clear hF608
        refine thenN (wp_seq (wp_region_lit ?_))
        refine ev_runs 3 hF653 (l' := [(108, .bool (x590 != 0)), (107, .bool (x590 != 0)), (106, nI x590), (15, nI (-1)), (14, nI x590), (13, nB (w471.drew)), (12, nI x468), (11, nB (w189.drew)), (10, nI x177), (9, nB w180), (6, nS g197 L77 c90), (5, nP z24 0), (0, nI x5)]) (w' := w600) (by kernel_rfl) ?_
        intro a655 hF654; clear hF653
        cases hc656 : (x590 != 0)
        case true =>
         rw [hc656] at hF654
         rw [hc656] at hm652
         have hm657 := ifT hm652; clear hm652
         refine ev_runK 5 hF654 [0, 5, 6, 9, 10, 11, 12, 109, 110, 111, 112, 113] (l' := [(113, .bool true), (112, .tuple #[]), (111, .tuple #[]), (110, .tuple #[]), (109, .tuple #[]), (12, nI x468), (11, nB (w189.drew)), (10, nI x177), (9, nB w180), (6, nS g197 L77 c90), (5, nP z24 0), (0, nI x5)]) (w' := w600) (by kernel_rfl) ?_
         intro a659 hF658; clear hF654
         refine wpList_nil ?_
         have hS660 := hS602.drop
         clear hS602
         refine thenN ?_
         refine ev_condT hF658 rfl rfl ?_
         refine wp_seq (wp_region_lit ?_)
         refine ev_runK 1 hF658 [4] (l' := [(4, .bool false)]) (w' := w600) (by kernel_rfl) ?_
         intro a662 hF661; clear hF658
         refine wpList_nil ?_
         have hS663 := hS660.drop.drop.drop.drop.drop.drop.drop.drop
         clear hS660
         refine thenN ?_
         refine wp_ret ?_
         refine blockR ?_
         refine thenR (thenR ?_)
         refine blockR ?_
         refine thenR ?_
         obtain rfl := Option.some.inj hm657
         refine ev_ret hF661 [4] (.bool false) rfl rfl rfl ?_
         exact ⟨rfl, hS663⟩
        rw [hc656] at hF654
        rw [hc656] at hm652
        have hm665 := ifF hm652; clear hm652
        refine ev_runs 1 hF654 (l' := [(109, nP ((w471.drew).heap.size) 3), (108, .bool false), (107, .bool false), (106, nI x590), (15, nI (-1)), (14, nI x590), (13, nB (w471.drew)), (12, nI x468), (11, nB (w189.drew)), (10, nI x177), (9, nB w180), (6, nS g197 L77 c90), (5, nP z24 0), (0, nI x5)]) (w' := w600) (by kernel_rfl) ?_
        intro a667 hF666; clear hF654
        refine ev_one (nI (q589.next)) w600 hF666 (by kernel_rfl) rfl (by kernel_rfl) (run_loadV rfl rfl (run_loadS rfl rfl (hS602.cell 0 rfl 3 rfl))) rfl ?_
        intro a669 hF668; clear hF666
        refine ev_runK 3 hF668 [0, 5, 6, 9, 10, 11, 12, 109, 110, 111, 112, 113] (l' := [(113, .bool (q589.next != (-1))), (112, .bool (q589.next != (-1))), (111, nI (-1)), (110, nI (q589.next)), (109, nP ((w471.drew).heap.size) 3), (12, nI x468), (11, nB (w189.drew)), (10, nI x177), (9, nB w180), (6, nS g197 L77 c90), (5, nP z24 0), (0, nI x5)]) (w' := w600) (by kernel_rfl) ?_
        intro a671 hF670; clear hF668
        refine wpList_nil (thenN ?_)
        cases hc672 : (q589.next != (-1))
        case true =>
         rw [hc672] at hF670
         rw [hc672] at hm665
         have hm673 := ifT hm665; clear hm665
         refine ev_condT hF670 rfl rfl ?_
         refine wp_seq (wp_region_lit ?_)
         refine ev_runK 1 hF670 [4] (l' := [(4, .bool false)]) (w' := w600) (by kernel_rfl) ?_
         intro a675 hF674; clear hF670
         refine wpList_nil ?_
         have hS676 := hS602.drop.drop.drop.drop.drop.drop.drop.drop.drop
         clear hS602
         refine thenN ?_
         refine wp_ret ?_
         refine blockR ?_
         refine thenR (thenR ?_)
         refine blockR ?_
         refine thenR ?_
         obtain rfl := Option.some.inj hm673
         refine ev_ret hF674 [4] (.bool false) rfl rfl rfl ?_
         exact ⟨rfl, hS676⟩
        rw [hc672] at hF670
        rw [hc672] at hm665
        have hm678 := ifF hm665; clear hm665
        refine ev_condF hF670 rfl rfl ?_
        refine wp_skip ?_
        have hF679 := hF670.keep [0, 5, 6, 9, 10, 11, 12, 109, 110, 111, 112]
        clear hF670
        refine blockN ?_
        refine thenN (wp_region_lit ?_)
        refine ev_runK 3 hF679 [0, 5, 6, 9, 10, 11, 12, 109, 110, 111, 112] (l' := [(12, nI (IntKind.i64.wrap (x468 + 1))), (112, .bool false), (111, nI (-1)), (110, nI (q589.next)), (109, nP ((w471.drew).heap.size) 3), (11, nB (w189.drew)), (10, nI x177), (9, nB w180), (6, nS g197 L77 c90), (5, nP z24 0), (0, nI x5)]) (w' := w600) (by kernel_rfl) ?_
        intro a681 hF680; clear hF679
        refine wpList_nil ?_
        have hF682 : Fr 121 a681 [(12, nI (IntKind.i64.wrap (x468 + 1))), (11, nB (w189.drew)), (10, nI x177), (9, nB w180), (6, nS g197 L77 c90), (5, nP z24 0), (0, nI x5)] := Fr.re hF680 (by kernel_rfl)
        clear hF680
        have hS683 := hS602.drop.pick7.pick7.pick7.pick4.pick4.pick7.pick6.pick7
        clear hS602
        exact thenN ⟨k469, Nat.lt_succ_self _, IntKind.i64.wrap (x468 + 1), hF682, hS683, hm678⟩
     rw [hc478] at hF476
     rw [hc478] at hm475
     have hm684 := ifF hm475; clear hm475
     refine ev_condF hF476 rfl rfl ?_
     refine wp_exit ?_
     refine thenE ?_
     refine thenE ?_
     refine blockE ?_
     refine thenN (wp_seq (wp_region_lit ?_))
     refine ev_runs 3 hF476 (l' := [(116, .bool (x177 == 0)), (115, .bool (x177 == 0)), (114, nI x177), (82, .bool false), (12, nI x468), (11, nB (w189.drew)), (10, nI x177), (9, nB w180), (6, nS g197 L77 c90), (5, nP z24 0), (0, nI x5)]) (w' := w471) (by kernel_rfl) ?_
     intro a686 hF685; clear hF476
     cases hc687 : (x177 == 0)
     case true =>
      rw [hc687] at hF685
      rw [hc687] at hm684
      have hm688 := ifT hm684; clear hm684
      refine ev_one (.agg #[nI (q176.cap), nI (q176.closed), nI (q176.count), nI (q176.start), nI (q176.buf), nI (q176.th), nI (q176.tt), nI (q176.sh), nI (q176.st)]) w471 hF685 (by kernel_rfl) rfl (by kernel_rfl) (run_loadV rfl rfl (run_loadA (cs := [nI (q176.cap), nI (q176.closed), nI (q176.count), nI (q176.start), nI (q176.buf), nI (q176.th), nI (q176.tt), nI (q176.sh), nI (q176.st)]) rfl rfl (by kernel_rfl) (blk_cells hS473 2 rfl rfl))) rfl ?_
      intro a690 hF689; clear hF685
      refine ev_one (.agg #[nI 0, nI 0, nI 0, nI 0, nI (-1), nI (atI L77 (0 : Int)), nI (atI L77 (IntKind.i64.wrap (x5 - 1))), nI (-1), nI (-1)]) w471 hF689 (by kernel_rfl) rfl (by kernel_rfl) (run_loadV rfl rfl (run_loadA (cs := [nI 0, nI 0, nI 0, nI 0, nI (-1), nI (atI L77 (0 : Int)), nI (atI L77 (IntKind.i64.wrap (x5 - 1))), nI (-1), nI (-1)]) rfl rfl (by kernel_rfl) (blk_cells hS473 0 rfl rfl))) rfl ?_
      intro a692 hF691; clear hF689
      refine ev_one (.bool ((q176.cap == (0 : Int)) && ((q176.closed == (0 : Int)) && ((q176.count == (0 : Int)) && ((q176.start == (0 : Int)) && ((q176.buf == (-1 : Int)) && ((q176.th == (atI L77 (0 : Int))) && ((q176.tt == (atI L77 (IntKind.i64.wrap (x5 - 1)))) && ((q176.sh == (-1 : Int)) && ((q176.st == (-1 : Int)) && (true))))))))))) w471 hF691 (by kernel_rfl) rfl (by kernel_rfl) (run_eqS rfl rfl rfl (by kernel_rfl) rfl (by kernel_rfl) (eqf_int (by kernel_rfl) rfl rfl rfl (eqf_int (by kernel_rfl) rfl rfl rfl (eqf_int (by kernel_rfl) rfl rfl rfl (eqf_int (by kernel_rfl) rfl rfl rfl (eqf_int (by kernel_rfl) rfl rfl rfl (eqf_int (by kernel_rfl) rfl rfl rfl (eqf_int (by kernel_rfl) rfl rfl rfl (eqf_int (by kernel_rfl) rfl rfl rfl (eqf_int (by kernel_rfl) rfl rfl rfl eqf_nil)))))))))) rfl ?_
      intro a694 hF693; clear hF691
      refine ev_runK 2 hF693 [4] (l' := [(4, .bool ((q176.cap == (0 : Int)) && ((q176.closed == (0 : Int)) && ((q176.count == (0 : Int)) && ((q176.start == (0 : Int)) && ((q176.buf == (-1 : Int)) && ((q176.th == (atI L77 (0 : Int))) && ((q176.tt == (atI L77 (IntKind.i64.wrap (x5 - 1)))) && ((q176.sh == (-1 : Int)) && ((q176.st == (-1 : Int)) && (true)))))))))))]) (w' := w471) (by kernel_rfl) ?_
      intro a696 hF695; clear hF693
      refine wpList_nil ?_
      have hS697 := hS473.drop.drop.drop.drop.drop.drop.drop.drop
      clear hS473
      refine thenN ?_
      refine wp_ret ?_
      obtain rfl := Option.some.inj hm688
      refine ev_ret hF695 [4] (.bool ((q176.cap == (0 : Int)) && ((q176.closed == (0 : Int)) && ((q176.count == (0 : Int)) && ((q176.start == (0 : Int)) && ((q176.buf == (-1 : Int)) && ((q176.th == (atI L77 (0 : Int))) && ((q176.tt == (atI L77 (IntKind.i64.wrap (x5 - 1)))) && ((q176.sh == (-1 : Int)) && ((q176.st == (-1 : Int)) && (true))))))))))) rfl rfl rfl ?_
      exact ⟨rfl, hS697⟩
     rw [hc687] at hF685
     rw [hc687] at hm684
     have hm699 := ifF hm684; clear hm684
     refine ev_runK 5 hF685 [4] (l' := [(4, .bool false)]) (w' := w471) (by kernel_rfl) ?_
     intro a701 hF700; clear hF685
     refine wpList_nil ?_
     have hS702 := hS473.drop.drop.drop.drop.drop.drop.drop.drop
     clear hS473
     refine thenN ?_
     refine wp_ret ?_
     obtain rfl := Option.some.inj hm699
     refine ev_ret hF700 [4] (.bool false) rfl rfl rfl ?_
     exact ⟨rfl, hS702⟩
   · skip
     have hS704 : St w0 F0 (BlkP (w171.heap.size) 37 #[nI 0, nI 0, nI 0, nI 0, nI 0, nI 0, nI 0, nI 0, nI 0] :: BlkP z24 52 #[nP z25 0, nP z27 0, .slice p39 L16.length c40, .slice p43 L17.length c44] :: HeapP z25 z26 s167 :: RHeapP z27 z28 z29 z30 z31 s168 :: RowP (.slice p39 L16.length c40) L16 :: RowP (.slice p43 L17.length c44) L17 :: RowP (.slice p89 L77.length c90) L77 :: ps) (w171.alloc (.cells #[nI 0, nI 0, nI 0, nI 0, nI 0, nI 0, nI 0, nI 0, nI 0] 37)) := St.new hS173 #[nI 0, nI 0, nI 0, nI 0, nI 0, nI 0, nI 0, nI 0, nI 0] 37
     clear hS173
     refine op_step 10 #[true, true, true, true, true, true, false, false, false, false, true, false, false] (nB w171) (w171.alloc (.cells #[nI 0, nI 0, nI 0, nI 0, nI 0, nI 0, nI 0, nI 0, nI 0] 37)) hF174 rfl (by kernel_rfl) rfl (by kernel_rfl) (by kernel_rfl) rfl ⟨_, hS704.pick1⟩ (by kernel_rfl) ?_
     intro a706 hF705; clear hF174
     have hS707 := hS704.pick2
     clear hS704
     refine any_call 6 #[true, true, true, true, true, true, true, false, false, false, true, false, false] 18 #[nP z25 0, nI x166] hF705 rfl (by kernel_rfl) rfl rfl (by kernel_rfl) rfl (by kernel_rfl) (fun w => by kernel_rfl) (by kernel_rfl) ?_
     obtain ⟨q708, x709, hx710, hm711⟩ := bind2E hm170; clear hm170
     refine (p_Chan hS707 hx710).mono ?_
     rintro _ w712 ⟨rfl, hS714⟩; clear hS707
     refine ⟨⟨_, hS714.pick2⟩, ?_⟩
     intro a713 hF715; clear hF705
     refine any_many 3 [(7, some (.tuple #[.agg #[nI (q708.cap), nI (q708.closed), nI (q708.count), nI (q708.start), nI (q708.buf), nI (q708.th), nI (q708.tt), nI (q708.sh), nI (q708.st)], nI x709])), (8, some (.agg #[nI (q708.cap), nI (q708.closed), nI (q708.count), nI (q708.start), nI (q708.buf), nI (q708.th), nI (q708.tt), nI (q708.sh), nI (q708.st)])), (9, some (nI x709))] [0, 1, 5, 6, 9, 10, 59, 60, 109, 110, 111, 112, 117, 118, 119] #[true, true, true, true, true, true, true, true, true, true, true, false, false] (by rfl) hF715 (by kernel_rfl) (by kernel_rfl) (by exact ⟨fun wS hw => by kernel_rfl, fun wS hw => by kernel_rfl, fun wS hw => by kernel_rfl, trivial⟩) (fun _ _ _ _ _ h => h) ⟨_, hS714.pick2⟩ rfl ?_
     intro a717 hF716; clear hF715
     refine any_one 11 (by kernel_rfl) ?_
     have hS718 := hS714.pick1
     clear hS714
     refine op_store 11 #[true, true, true, true, true, true, true, true, true, true, true, true, false] (.agg #[nI (q708.cap), nI (q708.closed), nI (q708.count), nI (q708.start), nI (q708.buf), nI (q708.th), nI (q708.tt), nI (q708.sh), nI (q708.st)]) #[nI (q708.cap), nI (q708.closed), nI (q708.count), nI (q708.start), nI (q708.buf), nI (q708.th), nI (q708.tt), nI (q708.sh), nI (q708.st)] hF716 rfl (by kernel_rfl) rfl rfl rfl rfl (by kernel_rfl) hS718 (by kernel_rfl) (by kernel_rfl) (by kernel_rfl) rfl (by kernel_rfl) ?_
     intro w719 a720 hS721 hF722; clear hF716 hS718
     refine ⟨⟨_, hS721.pick2⟩, ?_⟩
     refine any_many 1 [(12, some (nI x709))] [0, 1, 5, 6, 9, 10, 109, 110, 111, 112, 117, 118, 119] #[true, true, true, true, true, true, true, true, true, true, true, true, true] (by rfl) hF722 (by kernel_rfl) (by kernel_rfl) (by exact ⟨fun wS hw => by kernel_rfl, trivial⟩) (fun _ _ _ _ _ h => h) ⟨_, hS721.pick2⟩ rfl ?_
     intro a724 hF723; clear hF722
     refine any_done (by kernel_rfl) ?_
     refine thenN (wp_seq ?_)
     -- draws
     obtain ⟨hc725, hm726⟩ := ifTE hm711; clear hm711
     obtain ⟨g727, rfl⟩ := hp91.resolve_left (by have := inR_spec hc725; omega)
     obtain ⟨hc728, hm729⟩ := ifTE hm726; clear hm726
     have hS730 := hS721.pick6
     clear hS721
     have hS731 := hS730.drew; clear hS730
     refine any_start (fun wS => ∃ qs, St w0 F0 (RowP (nS g727 L77 c90) L77 :: qs) wS) 11 #[false, false, false, false, false, false, false, false, false, false, false] (by kernel_rfl) (by kernel_rfl) (by kernel_rfl) ?_
     refine any_many 9 [(0, some (nS g727 L77 c90)), (1, some (nP g727 ((0 : Int).toNat))), (2, some (nI (atI L77 (0 : Int)))), (3, some (nS g727 L77 c90)), (4, some (nI x5)), (5, some (nI (IntKind.i64.wrap (x5 - 1)))), (6, some (nP g727 ((IntKind.i64.wrap (x5 - 1)).toNat))), (7, some (nI (atI L77 (IntKind.i64.wrap (x5 - 1))))), (8, some (.agg #[nI 0, nI 0, nI 0, nI 0, nI (-1), nI (atI L77 (0 : Int)), nI (atI L77 (IntKind.i64.wrap (x5 - 1))), nI (-1), nI (-1)]))] [0, 1, 5, 6, 9, 10, 11, 69, 109, 110, 111, 112, 117, 118, 119] #[true, true, true, true, true, true, true, true, true, false, false] (by rfl) hF723 (by kernel_rfl) (by kernel_rfl) (by exact ⟨fun wS hw => by kernel_rfl, fun wS hw => run_idx rfl rfl rfl rfl rfl (inR_spec hc725).1 (inR_spec hc725).2 _, fun wS hw => run_load1 rfl rfl rfl (hw.elim fun qs hw => hw.atI 0 rfl hc725), fun wS hw => by kernel_rfl, fun wS hw => by kernel_rfl, fun wS hw => by kernel_rfl, fun wS hw => run_idx rfl rfl rfl rfl rfl (inR_spec hc728).1 (inR_spec hc728).2 _, fun wS hw => run_load1 rfl rfl rfl (hw.elim fun qs hw => hw.atI 0 rfl hc728), fun wS hw => by kernel_rfl, trivial⟩) (fun _ _ _ _ _ h => h) ⟨_, hS731⟩ rfl ?_
     intro a733 hF732; clear hF723
     refine any_one 9 (by kernel_rfl) ?_
     have hS734 : St w0 F0 (BlkP ((w719.drew).heap.size) 37 #[nI 0, nI 0, nI 0, nI 0, nI 0, nI 0, nI 0, nI 0, nI 0] :: RowP (nS g727 L77 c90) L77 :: BlkP (w171.heap.size) 37 #[nI (q708.cap), nI (q708.closed), nI (q708.count), nI (q708.start), nI (q708.buf), nI (q708.th), nI (q708.tt), nI (q708.sh), nI (q708.st)] :: HeapP z25 z26 s167 :: BlkP z24 52 #[nP z25 0, nP z27 0, .slice p39 L16.length c40, .slice p43 L17.length c44] :: RHeapP z27 z28 z29 z30 z31 s168 :: RowP (.slice p39 L16.length c40) L16 :: RowP (.slice p43 L17.length c44) L17 :: ps) ((w719.drew).alloc (.cells #[nI 0, nI 0, nI 0, nI 0, nI 0, nI 0, nI 0, nI 0, nI 0] 37)) := St.new hS731 #[nI 0, nI 0, nI 0, nI 0, nI 0, nI 0, nI 0, nI 0, nI 0] 37
     clear hS731
     refine op_step 9 #[true, true, true, true, true, true, true, true, true, true, false] (nB (w719.drew)) ((w719.drew).alloc (.cells #[nI 0, nI 0, nI 0, nI 0, nI 0, nI 0, nI 0, nI 0, nI 0] 37)) hF732 rfl (by kernel_rfl) rfl (by kernel_rfl) (by kernel_rfl) rfl ⟨_, hS734.pick1⟩ (by kernel_rfl) ?_
     intro a736 hF735; clear hF732
     refine any_one 10 (by kernel_rfl) ?_
     refine op_store 10 #[true, true, true, true, true, true, true, true, true, true, true] (.agg #[nI 0, nI 0, nI 0, nI 0, nI (-1), nI (atI L77 (0 : Int)), nI (atI L77 (IntKind.i64.wrap (x5 - 1))), nI (-1), nI (-1)]) #[nI 0, nI 0, nI 0, nI 0, nI (-1), nI (atI L77 (0 : Int)), nI (atI L77 (IntKind.i64.wrap (x5 - 1))), nI (-1), nI (-1)] hF735 rfl (by kernel_rfl) rfl rfl rfl rfl (by kernel_rfl) hS734 (by kernel_rfl) (by kernel_rfl) (by kernel_rfl) rfl (by kernel_rfl) ?_
     intro w737 a738 hS739 hF740; clear hF735 hS734
     refine ⟨⟨_, hS739.pick1⟩, ?_⟩
     refine any_done (by kernel_rfl) ?_
     have hF741 := hF740.keep [0, 1, 5, 6, 9, 10, 11]
     clear hF740
     refine thenN (wp_seq (wp_seq (wp_region_lit ?_)))
     refine ev_runK 1 hF741 [0, 5, 6, 9, 10, 11, 70] (l' := [(70, .bool (i1)), (11, nB (w719.drew)), (10, nI x709), (9, nB w171), (6, nS g727 L77 c90), (5, nP z24 0), (0, nI x5)]) (w' := w737) (by kernel_rfl) ?_
     intro a743 hF742; clear hF741
     refine wpList_nil (thenN ?_)
     cases hc744 : (i1)
     case true =>
      rw [hc744] at hF742
      rw [hc744] at hm729
      have hm745 := ifT hm729; clear hm729
      refine ev_condT hF742 rfl rfl ?_
      -- draws
      have hS746 := hS739.pick1
      clear hS739
      have hS747 := hS746.drew; clear hS746
      refine any_start (fun wS => ∃ qs, St w0 F0 (RowP (nS g727 L77 c90) L77 :: qs) wS) 10 #[false, false, false, false, false, false, false, false, false, false] (by kernel_rfl) (by kernel_rfl) (by kernel_rfl) ?_
      refine any_many 9 [(0, some (nS g727 L77 c90)), (1, some (nP g727 ((0 : Int).toNat))), (2, some (nI (atI L77 (0 : Int)))), (3, some (nS g727 L77 c90)), (4, some (nI x5)), (5, some (nI (IntKind.i64.wrap (x5 - 1)))), (6, some (nP g727 ((IntKind.i64.wrap (x5 - 1)).toNat))), (7, some (nI (atI L77 (IntKind.i64.wrap (x5 - 1))))), (8, some (.agg #[nI 0, nI 0, nI 0, nI 0, nI (-1), nI (-1), nI (-1), nI (atI L77 (0 : Int)), nI (atI L77 (IntKind.i64.wrap (x5 - 1)))]))] [0, 5, 6, 9, 10, 11, 79, 109, 110, 111, 112, 117, 118, 119] #[true, true, true, true, true, true, true, true, true, false] (by rfl) hF742 (by kernel_rfl) (by kernel_rfl) (by exact ⟨fun wS hw => by kernel_rfl, fun wS hw => run_idx rfl rfl rfl rfl rfl (inR_spec hc725).1 (inR_spec hc725).2 _, fun wS hw => run_load1 rfl rfl rfl (hw.elim fun qs hw => hw.atI 0 rfl hc725), fun wS hw => by kernel_rfl, fun wS hw => by kernel_rfl, fun wS hw => by kernel_rfl, fun wS hw => run_idx rfl rfl rfl rfl rfl (inR_spec hc728).1 (inR_spec hc728).2 _, fun wS hw => run_load1 rfl rfl rfl (hw.elim fun qs hw => hw.atI 0 rfl hc728), fun wS hw => by kernel_rfl, trivial⟩) (fun _ _ _ _ _ h => h) ⟨_, hS747⟩ rfl ?_
      intro a749 hF748; clear hF742
      refine any_one 9 (by kernel_rfl) ?_
      have hS750 := hS747.pick1
      clear hS747
      refine op_store 9 #[true, true, true, true, true, true, true, true, true, true] (.agg #[nI 0, nI 0, nI 0, nI 0, nI (-1), nI (-1), nI (-1), nI (atI L77 (0 : Int)), nI (atI L77 (IntKind.i64.wrap (x5 - 1)))]) #[nI 0, nI 0, nI 0, nI 0, nI (-1), nI (-1), nI (-1), nI (atI L77 (0 : Int)), nI (atI L77 (IntKind.i64.wrap (x5 - 1)))] hF748 rfl (by kernel_rfl) rfl rfl rfl rfl (by kernel_rfl) hS750 (by kernel_rfl) (by kernel_rfl) (by kernel_rfl) rfl (by kernel_rfl) ?_
      intro w751 a752 hS753 hF754; clear hF748 hS750
      refine ⟨⟨_, hS753.pick1⟩, ?_⟩
      refine any_done (by kernel_rfl) ?_
      have hF755 := hF754.keep [0, 5, 6, 9, 10, 11]
      clear hF754
      refine thenN (wp_seq (wp_seq (wp_region_lit ?_)))
      refine ev_runs 1 hF755 (l' := [(12, nI 0), (11, nB (w719.drew)), (10, nI x709), (9, nB w171), (6, nS g727 L77 c90), (5, nP z24 0), (0, nI x5)]) (w' := w751) (by kernel_rfl) ?_
      intro a757 hF756; clear hF755
      refine wpList_nil (thenN ?_)
      refine wp_block ?_
      refine wp_loop_ghost (fun kI aI wI => ∃ (x758 : Int), Fr 121 aI [(12, nI x758), (11, nB (w719.drew)), (10, nI x709), (9, nB w171), (6, nS g727 L77 c90), (5, nP z24 0), (0, nI x5)] ∧ St w0 F0 (BlkP ((w719.drew).heap.size) 37 #[nI 0, nI 0, nI 0, nI 0, nI (-1), nI (-1), nI (-1), nI (atI L77 (0 : Int)), nI (atI L77 (IntKind.i64.wrap (x5 - 1)))] :: RowP (nS g727 L77 c90) L77 :: BlkP (w171.heap.size) 37 #[nI (q708.cap), nI (q708.closed), nI (q708.count), nI (q708.start), nI (q708.buf), nI (q708.th), nI (q708.tt), nI (q708.sh), nI (q708.st)] :: HeapP z25 z26 s167 :: BlkP z24 52 #[nP z25 0, nP z27 0, .slice p39 L16.length c40, .slice p43 L17.length c44] :: RHeapP z27 z28 z29 z30 z31 s168 :: RowP (.slice p39 L16.length c40) L16 :: RowP (.slice p43 L17.length c44) L17 :: ps) wI ∧ ListEnds.l2 x5 L77 s167 q708 x709 kI x758 = some r0) k ⟨0, hF756, hS753, hm745⟩ ?_
      rintro k759 a760 w761 ⟨x758, hF762, hS763, hm764⟩
      clear hF756 hS753 hm745
      rcases k759 with _ | k759
      · cases hm764
      have hm765 : ListEnds.l2b x5 L77 s167 q708 x709 (ListEnds.l2 x5 L77 s167 q708 x709 k759) x758 = some r0 := hm764
      clear hm764
      unfold ListEnds.l2b at hm765
      refine wp_seq (wp_seq (wp_region_lit ?_))
      refine ev_runK 3 hF762 [0, 5, 6, 9, 10, 11, 12, 82] (l' := [(82, .bool (decide (x758 < x5))), (12, nI x758), (11, nB (w719.drew)), (10, nI x709), (9, nB w171), (6, nS g727 L77 c90), (5, nP z24 0), (0, nI x5)]) (w' := w761) (by kernel_rfl) ?_
      intro a767 hF766; clear hF762
      refine wpList_nil (thenN ?_)
      cases hc768 : (decide (x758 < x5))
      case true =>
       rw [hc768] at hF766
       rw [hc768] at hm765
       have hm769 := ifT hm765; clear hm765
       refine ev_condT hF766 rfl rfl ?_
       refine wp_skip ?_
       have hF770 := hF766.keep [0, 5, 6, 9, 10, 11, 12]
       clear hF766
       refine thenN (wp_seq ?_)
       refine wp_block ?_
       refine wp_seq ?_
       -- draws
       obtain ⟨hc771, hm772⟩ := ifTE hm769; clear hm769
       have hS773 := hS763.pick1.pick4
       clear hS763
       have hS774 := hS773.drew; clear hS773
       refine any_start (fun wS => ∃ qs, St w0 F0 (BlkP z24 52 #[nP z25 0, nP z27 0, .slice p39 L16.length c40, .slice p43 L17.length c44] :: RowP (nS g727 L77 c90) L77 :: qs) wS) 15 #[false, false, false, false, false, false, false, false, false, false, false, false, false, false, false] (by kernel_rfl) (by kernel_rfl) (by kernel_rfl) ?_
       refine any_many 8 [(0, some (nP z24 0)), (1, some (nP z24 0)), (2, some (nP z24 0)), (3, some (nP z25 0)), (4, some (nS g727 L77 c90)), (5, some (nI x758)), (6, some (nP g727 (x758.toNat))), (7, some (nI (atI L77 x758)))] [0, 5, 6, 9, 10, 11, 12, 13, 14, 85, 89, 93, 94, 95, 96, 109, 110, 111, 112, 117, 118, 119] #[true, true, true, true, true, true, true, true, false, false, false, false, false, false, false] (by rfl) hF770 (by kernel_rfl) (by kernel_rfl) (by exact ⟨fun wS hw => by kernel_rfl, fun wS hw => by kernel_rfl, fun wS hw => by kernel_rfl, fun wS hw => hw.elim fun qs hw => run_loadV rfl rfl (run_loadS rfl rfl (hw.cell 0 rfl 0 rfl)), fun wS hw => by kernel_rfl, fun wS hw => by kernel_rfl, fun wS hw => run_idx rfl rfl rfl rfl rfl (inR_spec hc771).1 (inR_spec hc771).2 _, fun wS hw => run_load1 rfl rfl rfl (hw.elim fun qs hw => hw.atI 1 rfl hc771), trivial⟩) (fun _ _ _ _ _ h => h) ⟨_, hS774⟩ rfl ?_
       intro a776 hF775; clear hF770
       refine any_two 8 12 (by kernel_rfl) ?_ ?_
       · skip
         have hS777 := hS774.pick4
         clear hS774
         refine op_call 8 #[true, true, true, true, true, true, true, true, true, false, false, false, false, false, false] 29 #[nP z25 0, nI (atI L77 x758)] hF775 rfl rfl rfl (by kernel_rfl) rfl (by kernel_rfl) (fun w => by kernel_rfl) (by kernel_rfl) ?_
         obtain ⟨q778, x779, hx780, hm781⟩ := bind2E hm772; clear hm772
         refine (p_Sudog hS777 hx780).mono ?_
         rintro _ w782 ⟨rfl, hS784⟩; clear hS777
         refine ⟨⟨_, hS784.pick2.pick2⟩, ?_⟩
         intro a783 hF785; clear hF775
         refine any_many 3 [(9, some (.tuple #[.agg #[nI (q778.gor), nI (q778.chan), nI (q778.value), nI (q778.next), nI (q778.to), nI (q778.reg), nI (q778.more)], nI x779])), (10, some (.agg #[nI (q778.gor), nI (q778.chan), nI (q778.value), nI (q778.next), nI (q778.to), nI (q778.reg), nI (q778.more)])), (11, some (nI x779))] [0, 5, 6, 9, 10, 11, 12, 13, 14, 95, 96, 109, 110, 111, 112, 117, 118, 119] #[true, true, true, true, true, true, true, true, true, true, true, true, false, false, false] (by rfl) hF785 (by kernel_rfl) (by kernel_rfl) (by exact ⟨fun wS hw => by kernel_rfl, fun wS hw => by kernel_rfl, fun wS hw => by kernel_rfl, trivial⟩) (fun _ _ _ _ _ h => h) ⟨_, hS784.pick2.pick2⟩ rfl ?_
         intro a787 hF786; clear hF785
         refine any_one 12 (by kernel_rfl) ?_
         have hS788 : St w0 F0 (BlkP (w782.heap.size) 54 #[nI 0, nI 0, nI 0, nI 0, nI 0, nI 0, nI 0] :: HeapP z25 z26 s167 :: BlkP z24 52 #[nP z25 0, nP z27 0, .slice p39 L16.length c40, .slice p43 L17.length c44] :: RowP (nS g727 L77 c90) L77 :: BlkP ((w719.drew).heap.size) 37 #[nI 0, nI 0, nI 0, nI 0, nI (-1), nI (-1), nI (-1), nI (atI L77 (0 : Int)), nI (atI L77 (IntKind.i64.wrap (x5 - 1)))] :: BlkP (w171.heap.size) 37 #[nI (q708.cap), nI (q708.closed), nI (q708.count), nI (q708.start), nI (q708.buf), nI (q708.th), nI (q708.tt), nI (q708.sh), nI (q708.st)] :: RHeapP z27 z28 z29 z30 z31 s168 :: RowP (.slice p39 L16.length c40) L16 :: RowP (.slice p43 L17.length c44) L17 :: ps) (w782.alloc (.cells #[nI 0, nI 0, nI 0, nI 0, nI 0, nI 0, nI 0] 54)) := St.new hS784 #[nI 0, nI 0, nI 0, nI 0, nI 0, nI 0, nI 0] 54
         clear hS784
         refine op_step 12 #[true, true, true, true, true, true, true, true, true, true, true, true, true, false, false] (nB w782) (w782.alloc (.cells #[nI 0, nI 0, nI 0, nI 0, nI 0, nI 0, nI 0] 54)) hF786 rfl (by kernel_rfl) rfl (by kernel_rfl) (by kernel_rfl) rfl ⟨_, hS788.pick3.pick3⟩ (by kernel_rfl) ?_
         intro a790 hF789; clear hF786
         refine any_one 13 (by kernel_rfl) ?_
         refine op_store 13 #[true, true, true, true, true, true, true, true, true, true, true, true, true, true, false] (.agg #[nI (q778.gor), nI (q778.chan), nI (q778.value), nI (q778.next), nI (q778.to), nI (q778.reg), nI (q778.more)]) #[nI (q778.gor), nI (q778.chan), nI (q778.value), nI (q778.next), nI (q778.to), nI (q778.reg), nI (q778.more)] hF789 rfl (by kernel_rfl) rfl rfl rfl rfl (by kernel_rfl) hS788 (by kernel_rfl) (by kernel_rfl) (by kernel_rfl) rfl (by kernel_rfl) ?_
         intro w791 a792 hS793 hF794; clear hF789 hS788
         refine ⟨⟨_, hS793.pick3.pick3⟩, ?_⟩
         refine any_many 1 [(14, some (nI x779))] [0, 5, 6, 9, 10, 11, 12, 13, 14, 109, 110, 111, 112, 117, 118, 119] #[true, true, true, true, true, true, true, true, true, true, true, true, true, true, true] (by rfl) hF794 (by kernel_rfl) (by kernel_rfl) (by exact ⟨fun wS hw => by kernel_rfl, trivial⟩) (fun _ _ _ _ _ h => h) ⟨_, hS793.pick3.pick3⟩ rfl ?_
         intro a796 hF795; clear hF794
         refine any_done (by kernel_rfl) ?_
         refine thenN (wp_seq (wp_region_lit ?_))
         refine ev_runs 1 hF795 (l' := [(15, nI (-1)), (14, nI x779), (13, nB w782), (12, nI x758), (11, nB (w719.drew)), (10, nI x709), (9, nB w171), (6, nS g727 L77 c90), (5, nP z24 0), (0, nI x5)]) (w' := w791) (by kernel_rfl) ?_
         intro a798 hF797; clear hF795
         refine wpList_nil (thenN (wp_seq (wp_seq (wp_region_lit ?_))))
         refine ev_runK 4 hF797 [0, 5, 6, 9, 10, 11, 12, 13, 14, 15, 100] (l' := [(100, .bool (decide ((IntKind.i64.wrap (x758 + 1)) < x5))), (15, nI (-1)), (14, nI x779), (13, nB w782), (12, nI x758), (11, nB (w719.drew)), (10, nI x709), (9, nB w171), (6, nS g727 L77 c90), (5, nP z24 0), (0, nI x5)]) (w' := w791) (by kernel_rfl) ?_
         intro a800 hF799; clear hF797
         refine wpList_nil (thenN ?_)
         cases hc801 : (decide ((IntKind.i64.wrap (x758 + 1)) < x5))
         case true =>
          rw [hc801] at hF799
          rw [hc801] at hm781
          have hm802 := ifT hm781; clear hm781
          refine ev_condT hF799 rfl rfl ?_
          refine wp_region_lit ?_
          refine ev_runs 3 hF799 (l' := [(103, nI (IntKind.i64.wrap (x758 + 1))), (102, nI x758), (101, nS g727 L77 c90), (100, .bool true), (15, nI (-1)), (14, nI x779), (13, nB w782), (12, nI x758), (11, nB (w719.drew)), (10, nI x709), (9, nB w171), (6, nS g727 L77 c90), (5, nP z24 0), (0, nI x5)]) (w' := w791) (by kernel_rfl) ?_
          intro a804 hF803; clear hF799
          obtain ⟨hc805, hm806⟩ := ifTE hm802; clear hm802
          refine ev_one (nP g727 ((IntKind.i64.wrap (x758 + 1)).toNat)) w791 hF803 (by kernel_rfl) rfl (by kernel_rfl) (run_idx rfl rfl rfl rfl rfl (inR_spec hc805).1 (inR_spec hc805).2 _) rfl ?_
          intro a808 hF807; clear hF803
          refine ev_one (nI (atI L77 (IntKind.i64.wrap (x758 + 1)))) w791 hF807 (by kernel_rfl) rfl (by kernel_rfl) (run_load1 rfl rfl rfl (hS793.atI 3 rfl hc805)) rfl ?_
          intro a810 hF809; clear hF807
          refine ev_runK 1 hF809 [0, 5, 6, 9, 10, 11, 12, 13, 14, 15] (l' := [(15, nI (atI L77 (IntKind.i64.wrap (x758 + 1)))), (14, nI x779), (13, nB w782), (12, nI x758), (11, nB (w719.drew)), (10, nI x709), (9, nB w171), (6, nS g727 L77 c90), (5, nP z24 0), (0, nI x5)]) (w' := w791) (by kernel_rfl) ?_
          intro a812 hF811; clear hF809
          refine wpList_nil (thenN (wp_seq (wp_region_lit ?_)))
          refine ev_runs 3 hF811 (l' := [(108, .bool (x779 != 0)), (107, .bool (x779 != 0)), (106, nI x779), (15, nI (atI L77 (IntKind.i64.wrap (x758 + 1)))), (14, nI x779), (13, nB w782), (12, nI x758), (11, nB (w719.drew)), (10, nI x709), (9, nB w171), (6, nS g727 L77 c90), (5, nP z24 0), (0, nI x5)]) (w' := w791) (by kernel_rfl) ?_
          intro a814 hF813; clear hF811
          cases hc815 : (x779 != 0)
          case true =>
           rw [hc815] at hF813
           rw [hc815] at hm806
           have hm816 := ifT hm806; clear hm806
           refine ev_runK 5 hF813 [0, 5, 6, 9, 10, 11, 12, 109, 110, 111, 112, 113] (l' := [(113, .bool true), (112, .tuple #[]), (111, .tuple #[]), (110, .tuple #[]), (109, .tuple #[]), (12, nI x758), (11, nB (w719.drew)), (10, nI x709), (9, nB w171), (6, nS g727 L77 c90), (5, nP z24 0), (0, nI x5)]) (w' := w791) (by kernel_rfl) ?_
           intro a818 hF817; clear hF813
           refine wpList_nil ?_
           have hS819 := hS793.drop
           clear hS793
           refine thenN ?_
           refine ev_condT hF817 rfl rfl ?_
           refine wp_seq (wp_region_lit ?_)
           refine ev_runK 1 hF817 [4] (l' := [(4, .bool false)]) (w' := w791) (by kernel_rfl) ?_
           intro a821 hF820; clear hF817
           refine wpList_nil ?_
           have hS822 := hS819.drop.drop.drop.drop.drop.drop.drop.drop
           clear hS819
           refine thenN ?_
           refine wp_ret ?_
           refine blockR ?_
           refine thenR (thenR ?_)
           refine blockR ?_
           refine thenR ?_
           obtain rfl := Option.some.inj hm816
           refine ev_ret hF820 [4] (.bool false) rfl rfl rfl ?_
           exact ⟨rfl, hS822⟩
          rw [hc815] at hF813
          rw [hc815] at hm806
          have hm824 := ifF hm806; clear hm806
          refine ev_runs 1 hF813 (l' := [(109, nP (w782.heap.size) 3), (108, .bool false), (107, .bool false), (106, nI x779), (15, nI (atI L77 (IntKind.i64.wrap (x758 + 1)))), (14, nI x779), (13, nB w782), (12, nI x758), (11, nB (w719.drew)), (10, nI x709), (9, nB w171), (6, nS g727 L77 c90), (5, nP z24 0), (0, nI x5)]) (w' := w791) (by kernel_rfl) ?_
          intro a826 hF825; clear hF813
          refine ev_one (nI (q778.next)) w791 hF825 (by kernel_rfl) rfl (by kernel_rfl) (run_loadV rfl rfl (run_loadS rfl rfl (hS793.cell 0 rfl 3 rfl))) rfl ?_
          intro a828 hF827; clear hF825
          refine ev_runK 3 hF827 [0, 5, 6, 9, 10, 11, 12, 109, 110, 111, 112, 113] (l' := [(113, .bool (q778.next != (atI L77 (IntKind.i64.wrap (x758 + 1))))), (112, .bool (q778.next != (atI L77 (IntKind.i64.wrap (x758 + 1))))), (111, nI (atI L77 (IntKind.i64.wrap (x758 + 1)))), (110, nI (q778.next)), (109, nP (w782.heap.size) 3), (12, nI x758), (11, nB (w719.drew)), (10, nI x709), (9, nB w171), (6, nS g727 L77 c90), (5, nP z24 0), (0, nI x5)]) (w' := w791) (by kernel_rfl) ?_
          intro a830 hF829; clear hF827
          refine wpList_nil (thenN ?_)
          cases hc831 : (q778.next != (atI L77 (IntKind.i64.wrap (x758 + 1))))
          case true =>
           rw [hc831] at hF829
           rw [hc831] at hm824
           have hm832 := ifT hm824; clear hm824
           refine ev_condT hF829 rfl rfl ?_
           refine wp_seq (wp_region_lit ?_)
           refine ev_runK 1 hF829 [4] (l' := [(4, .bool false)]) (w' := w791) (by kernel_rfl) ?_
           intro a834 hF833; clear hF829
           refine wpList_nil ?_
           have hS835 := hS793.drop.drop.drop.drop.drop.drop.drop.drop.drop
           clear hS793
           refine thenN ?_
           refine wp_ret ?_
           refine blockR ?_
           refine thenR (thenR ?_)
           refine blockR ?_
           refine thenR ?_
           obtain rfl := Option.some.inj hm832
           refine ev_ret hF833 [4] (.bool false) rfl rfl rfl ?_
           exact ⟨rfl, hS835⟩
          rw [hc831] at hF829
          rw [hc831] at hm824
          have hm837 := ifF hm824; clear hm824
          refine ev_condF hF829 rfl rfl ?_
          refine wp_skip ?_
          have hF838 := hF829.keep [0, 5, 6, 9, 10, 11, 12, 109, 110, 111, 112]
          clear hF829
          refine blockN ?_
          refine thenN (wp_region_lit ?_)
          refine ev_runK 3 hF838 [0, 5, 6, 9, 10, 11, 12, 109, 110, 111, 112] (l' := [(12, nI (IntKind.i64.wrap (x758 + 1))), (112, .bool false), (111, nI (atI L77 (IntKind.i64.wrap (x758 + 1)))), (110, nI (q778.next)), (109, nP (w782.heap.size) 3), (11, nB (w719.drew)), (10, nI x709), (9, nB w171), (6, nS g727 L77 c90), (5, nP z24 0), (0, nI x5)]) (w' := w791) (by kernel_rfl) ?_
          intro a840 hF839; clear hF838
          refine wpList_nil ?_
          have hF841 : Fr 121 a840 [(12, nI (IntKind.i64.wrap (x758 + 1))), (11, nB (w719.drew)), (10, nI x709), (9, nB w171), (6, nS g727 L77 c90), (5, nP z24 0), (0, nI x5)] := Fr.re hF839 (by kernel_rfl)
          clear hF839
          have hS842 := hS793.drop.pick7.pick7.pick7.pick4.pick4.pick7.pick6.pick7
          clear hS793
          exact thenN ⟨k759, Nat.lt_succ_self _, IntKind.i64.wrap (x758 + 1), hF841, hS842, hm837⟩
         rw [hc801] at hF799
         rw [hc801] at hm781
         have hm843 := ifF hm781; clear hm781
         refine ev_condF hF799 rfl rfl ?_
         refine wp_skip ?_
         have hF844 := hF799.keep [0, 5, 6, 9, 10, 11, 12, 13, 14, 15]
         clear hF799
         refine thenN (wp_seq (wp_region_lit ?_))
         refine ev_runs 3 hF844 (l' := [(108, .bool (x779 != 0)), (107, .bool (x779 != 0)), (106, nI x779), (15, nI (-1)), (14, nI x779), (13, nB w782), (12, nI x758), (11, nB (w719.drew)), (10, nI x709), (9, nB w171), (6, nS g727 L77 c90), (5, nP z24 0), (0, nI x5)]) (w' := w791) (by kernel_rfl) ?_
         intro a846 hF845; clear hF844
         cases hc847 : (x779 != 0)
         case true =>
          rw [hc847] at hF845
          rw [hc847] at hm843
          have hm848 := ifT hm843; clear hm843
          refine ev_runK 5 hF845 [0, 5, 6, 9, 10, 11, 12, 109, 110, 111, 112, 113] (l' := [(113, .bool true), (112, .tuple #[]), (111, .tuple #[]), (110, .tuple #[]), (109, .tuple #[]), (12, nI x758), (11, nB (w719.drew)), (10, nI x709), (9, nB w171), (6, nS g727 L77 c90), (5, nP z24 0), (0, nI x5)]) (w' := w791) (by kernel_rfl) ?_
          intro a850 hF849; clear hF845
          refine wpList_nil ?_
          have hS851 := hS793.drop
          clear hS793
          refine thenN ?_
          refine ev_condT hF849 rfl rfl ?_
          refine wp_seq (wp_region_lit ?_)
          refine ev_runK 1 hF849 [4] (l' := [(4, .bool false)]) (w' := w791) (by kernel_rfl) ?_
          intro a853 hF852; clear hF849
          refine wpList_nil ?_
          have hS854 := hS851.drop.drop.drop.drop.drop.drop.drop.drop
          clear hS851
          refine thenN ?_
          refine wp_ret ?_
          refine blockR ?_
          refine thenR (thenR ?_)
          refine blockR ?_
          refine thenR ?_
          obtain rfl := Option.some.inj hm848
          refine ev_ret hF852 [4] (.bool false) rfl rfl rfl ?_
          exact ⟨rfl, hS854⟩
         rw [hc847] at hF845
         rw [hc847] at hm843
         have hm856 := ifF hm843; clear hm843
         refine ev_runs 1 hF845 (l' := [(109, nP (w782.heap.size) 3), (108, .bool false), (107, .bool false), (106, nI x779), (15, nI (-1)), (14, nI x779), (13, nB w782), (12, nI x758), (11, nB (w719.drew)), (10, nI x709), (9, nB w171), (6, nS g727 L77 c90), (5, nP z24 0), (0, nI x5)]) (w' := w791) (by kernel_rfl) ?_
         intro a858 hF857; clear hF845
         refine ev_one (nI (q778.next)) w791 hF857 (by kernel_rfl) rfl (by kernel_rfl) (run_loadV rfl rfl (run_loadS rfl rfl (hS793.cell 0 rfl 3 rfl))) rfl ?_
         intro a860 hF859; clear hF857
         refine ev_runK 3 hF859 [0, 5, 6, 9, 10, 11, 12, 109, 110, 111, 112, 113] (l' := [(113, .bool (q778.next != (-1))), (112, .bool (q778.next != (-1))), (111, nI (-1)), (110, nI (q778.next)), (109, nP (w782.heap.size) 3), (12, nI x758), (11, nB (w719.drew)), (10, nI x709), (9, nB w171), (6, nS g727 L77 c90), (5, nP z24 0), (0, nI x5)]) (w' := w791) (by kernel_rfl) ?_
         intro a862 hF861; clear hF859
         refine wpList_nil (thenN ?_)
         cases hc863 : (q778.next != (-1))
         case true =>
          rw [hc863] at hF861
          rw [hc863] at hm856
          have hm864 := ifT hm856; clear hm856
          refine ev_condT hF861 rfl rfl ?_
          refine wp_seq (wp_region_lit ?_)
          refine ev_runK 1 hF861 [4] (l' := [(4, .bool false)]) (w' := w791) (by kernel_rfl) ?_
          intro a866 hF865; clear hF861
          refine wpList_nil ?_
          have hS867 := hS793.drop.drop.drop.drop.drop.drop.drop.drop.drop
          clear hS793
          refine thenN ?_
          refine wp_ret ?_
          refine blockR ?_
          refine thenR (thenR ?_)
          refine blockR ?_
          refine thenR ?_
          obtain rfl := Option.some.inj hm864
          refine ev_ret hF865 [4] (.bool false) rfl rfl rfl ?_
          exact ⟨rfl, hS867⟩
         rw [hc863] at hF861
         rw [hc863] at hm856
         have hm869 := ifF hm856; clear hm856
         refine ev_condF hF861 rfl rfl ?_
         refine wp_skip ?_
         have hF870 := hF861.keep [0, 5, 6, 9, 10, 11, 12, 109, 110, 111, 112]
         clear hF861
         refine blockN ?_
         refine thenN (wp_region_lit ?_)
         refine ev_runK 3 hF870 [0, 5, 6, 9, 10, 11, 12, 109, 110, 111, 112] (l' := [(12, nI (IntKind.i64.wrap (x758 + 1))), (112, .bool false), (111, nI (-1)), (110, nI (q778.next)), (109, nP (w782.heap.size) 3), (11, nB (w719.drew)), (10, nI x709), (9, nB w171), (6, nS g727 L77 c90), (5, nP z24 0), (0, nI x5)]) (w' := w791) (by kernel_rfl) ?_
         intro a872 hF871; clear hF870
         refine wpList_nil ?_
         have hF873 : Fr 121 a872 [(12, nI (IntKind.i64.wrap (x758 + 1))), (11, nB (w719.drew)), (10, nI x709), (9, nB w171), (6, nS g727 L77 c90), (5, nP z24 0), (0, nI x5)] := Fr.re hF871 (by kernel_rfl)
         clear hF871
         have hS874 := hS793.drop.pick7.pick7.pick7.pick4.pick4.pick7.pick6.pick7
         clear hS793
         exact thenN ⟨k759, Nat.lt_succ_self _, IntKind.i64.wrap (x758 + 1), hF873, hS874, hm869⟩
       · skip
         have hS875 : St w0 F0 (BlkP ((w761.drew).heap.size) 54 #[nI 0, nI 0, nI 0, nI 0, nI 0, nI 0, nI 0] :: BlkP z24 52 #[nP z25 0, nP z27 0, .slice p39 L16.length c40, .slice p43 L17.length c44] :: RowP (nS g727 L77 c90) L77 :: BlkP ((w719.drew).heap.size) 37 #[nI 0, nI 0, nI 0, nI 0, nI (-1), nI (-1), nI (-1), nI (atI L77 (0 : Int)), nI (atI L77 (IntKind.i64.wrap (x5 - 1)))] :: BlkP (w171.heap.size) 37 #[nI (q708.cap), nI (q708.closed), nI (q708.count), nI (q708.start), nI (q708.buf), nI (q708.th), nI (q708.tt), nI (q708.sh), nI (q708.st)] :: HeapP z25 z26 s167 :: RHeapP z27 z28 z29 z30 z31 s168 :: RowP (.slice p39 L16.length c40) L16 :: RowP (.slice p43 L17.length c44) L17 :: ps) ((w761.drew).alloc (.cells #[nI 0, nI 0, nI 0, nI 0, nI 0, nI 0, nI 0] 54)) := St.new hS774 #[nI 0, nI 0, nI 0, nI 0, nI 0, nI 0, nI 0] 54
         clear hS774
         refine op_step 12 #[true, true, true, true, true, true, true, true, false, false, false, false, true, false, false] (nB (w761.drew)) ((w761.drew).alloc (.cells #[nI 0, nI 0, nI 0, nI 0, nI 0, nI 0, nI 0] 54)) hF775 rfl (by kernel_rfl) rfl (by kernel_rfl) (by kernel_rfl) rfl ⟨_, hS875.pick2.pick2⟩ (by kernel_rfl) ?_
         intro a877 hF876; clear hF775
         have hS878 := hS875.pick5
         clear hS875
         refine any_call 8 #[true, true, true, true, true, true, true, true, true, false, false, false, true, false, false] 29 #[nP z25 0, nI (atI L77 x758)] hF876 rfl (by kernel_rfl) rfl rfl (by kernel_rfl) rfl (by kernel_rfl) (fun w => by kernel_rfl) (by kernel_rfl) ?_
         obtain ⟨q879, x880, hx881, hm882⟩ := bind2E hm772; clear hm772
         refine (p_Sudog hS878 hx881).mono ?_
         rintro _ w883 ⟨rfl, hS885⟩; clear hS878
         refine ⟨⟨_, hS885.pick3.pick3⟩, ?_⟩
         intro a884 hF886; clear hF876
         refine any_many 3 [(9, some (.tuple #[.agg #[nI (q879.gor), nI (q879.chan), nI (q879.value), nI (q879.next), nI (q879.to), nI (q879.reg), nI (q879.more)], nI x880])), (10, some (.agg #[nI (q879.gor), nI (q879.chan), nI (q879.value), nI (q879.next), nI (q879.to), nI (q879.reg), nI (q879.more)])), (11, some (nI x880))] [0, 5, 6, 9, 10, 11, 12, 13, 14, 95, 96, 109, 110, 111, 112, 117, 118, 119] #[true, true, true, true, true, true, true, true, true, true, true, true, true, false, false] (by rfl) hF886 (by kernel_rfl) (by kernel_rfl) (by exact ⟨fun wS hw => by kernel_rfl, fun wS hw => by kernel_rfl, fun wS hw => by kernel_rfl, trivial⟩) (fun _ _ _ _ _ h => h) ⟨_, hS885.pick3.pick3⟩ rfl ?_
         intro a888 hF887; clear hF886
         refine any_one 13 (by kernel_rfl) ?_
         have hS889 := hS885.pick1
         clear hS885
         refine op_store 13 #[true, true, true, true, true, true, true, true, true, true, true, true, true, true, false] (.agg #[nI (q879.gor), nI (q879.chan), nI (q879.value), nI (q879.next), nI (q879.to), nI (q879.reg), nI (q879.more)]) #[nI (q879.gor), nI (q879.chan), nI (q879.value), nI (q879.next), nI (q879.to), nI (q879.reg), nI (q879.more)] hF887 rfl (by kernel_rfl) rfl rfl rfl rfl (by kernel_rfl) hS889 (by kernel_rfl) (by kernel_rfl) (by kernel_rfl) rfl (by kernel_rfl) ?_
         intro w890 a891 hS892 hF893; clear hF887 hS889
         refine ⟨⟨_, hS892.pick3.pick3⟩, ?_⟩
         refine any_many 1 [(14, some (nI x880))] [0, 5, 6, 9, 10, 11, 12, 13, 14, 109, 110, 111, 112, 117, 118, 119] #[true, true, true, true, true, true, true, true, true, true, true, true, true, true, true] (by rfl) hF893 (by kernel_rfl) (by kernel_rfl) (by exact ⟨fun wS hw => by kernel_rfl, trivial⟩) (fun _ _ _ _ _ h => h) ⟨_, hS892.pick3.pick3⟩ rfl ?_
         intro a895 hF894; clear hF893
         refine any_done (by kernel_rfl) ?_
         refine thenN (wp_seq (wp_region_lit ?_))
         refine ev_runs 1 hF894 (l' := [(15, nI (-1)), (14, nI x880), (13, nB (w761.drew)), (12, nI x758), (11, nB (w719.drew)), (10, nI x709), (9, nB w171), (6, nS g727 L77 c90), (5, nP z24 0), (0, nI x5)]) (w' := w890) (by kernel_rfl) ?_
         intro a897 hF896; clear hF894
         refine wpList_nil (thenN (wp_seq (wp_seq (wp_region_lit ?_))))
         refine ev_runK 4 hF896 [0, 5, 6, 9, 10, 11, 12, 13, 14, 15, 100] (l' := [(100, .bool (decide ((IntKind.i64.wrap (x758 + 1)) < x5))), (15, nI (-1)), (14, nI x880), (13, nB (w761.drew)), (12, nI x758), (11, nB (w719.drew)), (10, nI x709), (9, nB w171), (6, nS g727 L77 c90), (5, nP z24 0), (0, nI x5)]) (w' := w890) (by kernel_rfl) ?_
         intro a899 hF898; clear hF896
         refine wpList_nil (thenN ?_)
         cases hc900 : (decide ((IntKind.i64.wrap (x758 + 1)) < x5))
         case true =>
          rw [hc900] at hF898
          rw [hc900] at hm882
          have hm901 := ifT hm882; clear hm882
          refine ev_condT hF898 rfl rfl ?_
          refine wp_region_lit ?_
          refine ev_runs 3 hF898 (l' := [(103, nI (IntKind.i64.wrap (x758 + 1))), (102, nI x758), (101, nS g727 L77 c90), (100, .bool true), (15, nI (-1)), (14, nI x880), (13, nB (w761.drew)), (12, nI x758), (11, nB (w719.drew)), (10, nI x709), (9, nB w171), (6, nS g727 L77 c90), (5, nP z24 0), (0, nI x5)]) (w' := w890) (by kernel_rfl) ?_
          intro a903 hF902; clear hF898
          obtain ⟨hc904, hm905⟩ := ifTE hm901; clear hm901
          refine ev_one (nP g727 ((IntKind.i64.wrap (x758 + 1)).toNat)) w890 hF902 (by kernel_rfl) rfl (by kernel_rfl) (run_idx rfl rfl rfl rfl rfl (inR_spec hc904).1 (inR_spec hc904).2 _) rfl ?_
          intro a907 hF906; clear hF902
          refine ev_one (nI (atI L77 (IntKind.i64.wrap (x758 + 1)))) w890 hF906 (by kernel_rfl) rfl (by kernel_rfl) (run_load1 rfl rfl rfl (hS892.atI 3 rfl hc904)) rfl ?_
          intro a909 hF908; clear hF906
          refine ev_runK 1 hF908 [0, 5, 6, 9, 10, 11, 12, 13, 14, 15] (l' := [(15, nI (atI L77 (IntKind.i64.wrap (x758 + 1)))), (14, nI x880), (13, nB (w761.drew)), (12, nI x758), (11, nB (w719.drew)), (10, nI x709), (9, nB w171), (6, nS g727 L77 c90), (5, nP z24 0), (0, nI x5)]) (w' := w890) (by kernel_rfl) ?_
          intro a911 hF910; clear hF908
          refine wpList_nil (thenN (wp_seq (wp_region_lit ?_)))
          refine ev_runs 3 hF910 (l' := [(108, .bool (x880 != 0)), (107, .bool (x880 != 0)), (106, nI x880), (15, nI (atI L77 (IntKind.i64.wrap (x758 + 1)))), (14, nI x880), (13, nB (w761.drew)), (12, nI x758), (11, nB (w719.drew)), (10, nI x709), (9, nB w171), (6, nS g727 L77 c90), (5, nP z24 0), (0, nI x5)]) (w' := w890) (by kernel_rfl) ?_
          intro a913 hF912; clear hF910
          cases hc914 : (x880 != 0)
          case true =>
           rw [hc914] at hF912
           rw [hc914] at hm905
           have hm915 := ifT hm905; clear hm905
           refine ev_runK 5 hF912 [0, 5, 6, 9, 10, 11, 12, 109, 110, 111, 112, 113] (l' := [(113, .bool true), (112, .tuple #[]), (111, .tuple #[]), (110, .tuple #[]), (109, .tuple #[]), (12, nI x758), (11, nB (w719.drew)), (10, nI x709), (9, nB w171), (6, nS g727 L77 c90), (5, nP z24 0), (0, nI x5)]) (w' := w890) (by kernel_rfl) ?_
           intro a917 hF916; clear hF912
           refine wpList_nil ?_
           have hS918 := hS892.drop
           clear hS892
           refine thenN ?_
           refine ev_condT hF916 rfl rfl ?_
           refine wp_seq (wp_region_lit ?_)
           refine ev_runK 1 hF916 [4] (l' := [(4, .bool false)]) (w' := w890) (by kernel_rfl) ?_
           intro a920 hF919; clear hF916
           refine wpList_nil ?_
           have hS921 := hS918.drop.drop.drop.drop.drop.drop.drop.drop
           clear hS918
           refine thenN ?_
           refine wp_ret ?_
           refine blockR ?_
           refine thenR (thenR ?_)
           refine blockR ?_
           refine thenR ?_
           obtain rfl := Option.some.inj hm915
           refine ev_ret hF919 [4] (.bool false) rfl rfl rfl ?_
           exact ⟨rfl, hS921⟩
          rw [hc914] at hF912
          rw [hc914] at hm905
          have hm923 := ifF hm905; clear hm905
          refine ev_runs 1 hF912 (l' := [(109, nP ((w761.drew).heap.size) 3), (108, .bool false), (107, .bool false), (106, nI x880), (15, nI (atI L77 (IntKind.i64.wrap (x758 + 1)))), (14, nI x880), (13, nB (w761.drew)), (12, nI x758), (11, nB (w719.drew)), (10, nI x709), (9, nB w171), (6, nS g727 L77 c90), (5, nP z24 0), (0, nI x5)]) (w' := w890) (by kernel_rfl) ?_
          intro a925 hF924; clear hF912
          refine ev_one (nI (q879.next)) w890 hF924 (by kernel_rfl) rfl (by kernel_rfl) (run_loadV rfl rfl (run_loadS rfl rfl (hS892.cell 0 rfl 3 rfl))) rfl ?_
          intro a927 hF926; clear hF924
          refine ev_runK 3 hF926 [0, 5, 6, 9, 10, 11, 12, 109, 110, 111, 112, 113] (l' := [(113, .bool (q879.next != (atI L77 (IntKind.i64.wrap (x758 + 1))))), (112, .bool (q879.next != (atI L77 (IntKind.i64.wrap (x758 + 1))))), (111, nI (atI L77 (IntKind.i64.wrap (x758 + 1)))), (110, nI (q879.next)), (109, nP ((w761.drew).heap.size) 3), (12, nI x758), (11, nB (w719.drew)), (10, nI x709), (9, nB w171), (6, nS g727 L77 c90), (5, nP z24 0), (0, nI x5)]) (w' := w890) (by kernel_rfl) ?_
          intro a929 hF928; clear hF926
          refine wpList_nil (thenN ?_)
          cases hc930 : (q879.next != (atI L77 (IntKind.i64.wrap (x758 + 1))))
          case true =>
           rw [hc930] at hF928
           rw [hc930] at hm923
           have hm931 := ifT hm923; clear hm923
           refine ev_condT hF928 rfl rfl ?_
           refine wp_seq (wp_region_lit ?_)
           refine ev_runK 1 hF928 [4] (l' := [(4, .bool false)]) (w' := w890) (by kernel_rfl) ?_
           intro a933 hF932; clear hF928
           refine wpList_nil ?_
           have hS934 := hS892.drop.drop.drop.drop.drop.drop.drop.drop.drop
           clear hS892
           refine thenN ?_
           refine wp_ret ?_
           refine blockR ?_
           refine thenR (thenR ?_)
           refine blockR ?_
           refine thenR ?_
           obtain rfl := Option.some.inj hm931
           refine ev_ret hF932 [4] (.bool false) rfl rfl rfl ?_
           exact ⟨rfl, hS934⟩
          rw [hc930] at hF928
          rw [hc930] at hm923
          have hm936 := ifF hm923; clear hm923
          refine ev_condF hF928 rfl rfl ?_
          refine wp_skip ?_
          have hF937 := hF928.keep [0, 5, 6, 9, 10, 11, 12, 109, 110, 111, 112]
          clear hF928
          refine blockN ?_
          refine thenN (wp_region_lit ?_)
          refine ev_runK 3 hF937 [0, 5, 6, 9, 10, 11, 12, 109, 110, 111, 112] (l' := [(12, nI (IntKind.i64.wrap (x758 + 1))), (112, .bool false), (111, nI (atI L77 (IntKind.i64.wrap (x758 + 1)))), (110, nI (q879.next)), (109, nP ((w761.drew).heap.size) 3), (11, nB (w719.drew)), (10, nI x709), (9, nB w171), (6, nS g727 L77 c90), (5, nP z24 0), (0, nI x5)]) (w' := w890) (by kernel_rfl) ?_
          intro a939 hF938; clear hF937
          refine wpList_nil ?_
          have hF940 : Fr 121 a939 [(12, nI (IntKind.i64.wrap (x758 + 1))), (11, nB (w719.drew)), (10, nI x709), (9, nB w171), (6, nS g727 L77 c90), (5, nP z24 0), (0, nI x5)] := Fr.re hF938 (by kernel_rfl)
          clear hF938
          have hS941 := hS892.drop.pick7.pick7.pick7.pick4.pick4.pick7.pick6.pick7
          clear hS892
          exact thenN ⟨k759, Nat.lt_succ_self _, IntKind.i64.wrap (x758 + 1), hF940, hS941, hm936⟩
         rw [hc900] at hF898
         rw [hc900] at hm882
         have hm942 := ifF hm882; clear hm882
         refine ev_condF hF898 rfl rfl ?_
         refine wp_skip ?_
         have hF943 := hF898.keep [0, 5, 6, 9, 10, 11, 12, 13, 14, 15]
         clear hF898
         refine thenN (wp_seq (wp_region_lit ?_))
         refine ev_runs 3 hF943 (l' := [(108, .bool (x880 != 0)), (107, .bool (x880 != 0)), (106, nI x880), (15, nI (-1)), (14, nI x880), (13, nB (w761.drew)), (12, nI x758), (11, nB (w719.drew)), (10, nI x709), (9, nB w171), (6, nS g727 L77 c90), (5, nP z24 0), (0, nI x5)]) (w' := w890) (by kernel_rfl) ?_
         intro a945 hF944; clear hF943
         cases hc946 : (x880 != 0)
         case true =>
          rw [hc946] at hF944
          rw [hc946] at hm942
          have hm947 := ifT hm942; clear hm942
          refine ev_runK 5 hF944 [0, 5, 6, 9, 10, 11, 12, 109, 110, 111, 112, 113] (l' := [(113, .bool true), (112, .tuple #[]), (111, .tuple #[]), (110, .tuple #[]), (109, .tuple #[]), (12, nI x758), (11, nB (w719.drew)), (10, nI x709), (9, nB w171), (6, nS g727 L77 c90), (5, nP z24 0), (0, nI x5)]) (w' := w890) (by kernel_rfl) ?_
          intro a949 hF948; clear hF944
          refine wpList_nil ?_
          have hS950 := hS892.drop
          clear hS892
          refine thenN ?_
          refine ev_condT hF948 rfl rfl ?_
          refine wp_seq (wp_region_lit ?_)
          refine ev_runK 1 hF948 [4] (l' := [(4, .bool false)]) (w' := w890) (by kernel_rfl) ?_
          intro a952 hF951; clear hF948
          refine wpList_nil ?_
          have hS953 := hS950.drop.drop.drop.drop.drop.drop.drop.drop
          clear hS950
          refine thenN ?_
          refine wp_ret ?_
          refine blockR ?_
          refine thenR (thenR ?_)
          refine blockR ?_
          refine thenR ?_
          obtain rfl := Option.some.inj hm947
          refine ev_ret hF951 [4] (.bool false) rfl rfl rfl ?_
          exact ⟨rfl, hS953⟩
         rw [hc946] at hF944
         rw [hc946] at hm942
         have hm955 := ifF hm942; clear hm942
         refine ev_runs 1 hF944 (l' := [(109, nP ((w761.drew).heap.size) 3), (108, .bool false), (107, .bool false), (106, nI x880), (15, nI (-1)), (14, nI x880), (13, nB (w761.drew)), (12, nI x758), (11, nB (w719.drew)), (10, nI x709), (9, nB w171), (6, nS g727 L77 c90), (5, nP z24 0), (0, nI x5)]) (w' := w890) (by kernel_rfl) ?_
         intro a957 hF956; clear hF944
         refine ev_one (nI (q879.next)) w890 hF956 (by kernel_rfl) rfl (by kernel_rfl) (run_loadV rfl rfl (run_loadS rfl rfl (hS892.cell 0 rfl 3 rfl))) rfl ?_
         intro a959 hF958; clear hF956
         refine ev_runK 3 hF958 [0, 5, 6, 9, 10, 11, 12, 109, 110, 111, 112, 113] (l' := [(113, .bool (q879.next != (-1))), (112, .bool (q879.next != (-1))), (111, nI (-1)), (110, nI (q879.next)), (109, nP ((w761.drew).heap.size) 3), (12, nI x758), (11, nB (w719.drew)), (10, nI x709), (9, nB w171), (6, nS g727 L77 c90), (5, nP z24 0), (0, nI x5)]) (w' := w890) (by kernel_rfl) ?_
         intro a961 hF960; clear hF958
         refine wpList_nil (thenN ?_)
         cases hc962 : (q879.next != (-1))
         case true =>
          rw [hc962] at hF960
          rw [hc962] at hm955
          have hm963 := ifT hm955; clear hm955
          refine ev_condT hF960 rfl rfl ?_
          refine wp_seq (wp_region_lit ?_)
          refine ev_runK 1 hF960 [4] (l' := [(4, .bool false)]) (w' := w890) (by kernel_rfl) ?_
          intro a965 hF964; clear hF960
          refine wpList_nil ?_
          have hS966 := hS892.drop.drop.drop.drop.drop.drop.drop.drop.drop
          clear hS892
          refine thenN ?_
          refine wp_ret ?_
          refine blockR ?_
          refine thenR (thenR ?_)
          refine blockR ?_
          refine thenR ?_
          obtain rfl := Option.some.inj hm963
          refine ev_ret hF964 [4] (.bool false) rfl rfl rfl ?_
          exact ⟨rfl, hS966⟩
         rw [hc962] at hF960
         rw [hc962] at hm955
         have hm968 := ifF hm955; clear hm955
         refine ev_condF hF960 rfl rfl ?_
         refine wp_skip ?_
         have hF969 := hF960.keep [0, 5, 6, 9, 10, 11, 12, 109, 110, 111, 112]
         clear hF960
         refine blockN ?_
         refine thenN (wp_region_lit ?_)
         refine ev_runK 3 hF969 [0, 5, 6, 9, 10, 11, 12, 109, 110, 111, 112] (l' := [(12, nI (IntKind.i64.wrap (x758 + 1))), (112, .bool false), (111, nI (-1)), (110, nI (q879.next)), (109, nP ((w761.drew).heap.size) 3), (11, nB (w719.drew)), (10, nI x709), (9, nB w171), (6, nS g727 L77 c90), (5, nP z24 0), (0, nI x5)]) (w' := w890) (by kernel_rfl) ?_
         intro a971 hF970; clear hF969
         refine wpList_nil ?_
         have hF972 : Fr 121 a971 [(12, nI (IntKind.i64.wrap (x758 + 1))), (11, nB (w719.drew)), (10, nI x709), (9, nB w171), (6, nS g727 L77 c90), (5, nP z24 0), (0, nI x5)] := Fr.re hF970 (by kernel_rfl)
         clear hF970
         have hS973 := hS892.drop.pick7.pick7.pick7.pick4.pick4.pick7.pick6.pick7
         clear hS892
         exact thenN ⟨k759, Nat.lt_succ_self _, IntKind.i64.wrap (x758 + 1), hF972, hS973, hm968⟩
      rw [hc768] at hF766
      rw [hc768] at hm765
      have hm974 := ifF hm765; clear hm765
      refine ev_condF hF766 rfl rfl ?_
      refine wp_exit ?_
      refine thenE ?_
      refine thenE ?_
      refine blockE ?_
      refine thenN (wp_seq (wp_region_lit ?_))
      refine ev_runs 3 hF766 (l' := [(116, .bool (x709 == 0)), (115, .bool (x709 == 0)), (114, nI x709), (82, .bool false), (12, nI x758), (11, nB (w719.drew)), (10, nI x709), (9, nB w171), (6, nS g727 L77 c90), (5, nP z24 0), (0, nI x5)]) (w' := w761) (by kernel_rfl) ?_
      intro a976 hF975; clear hF766
      cases hc977 : (x709 == 0)
      case true =>
       rw [hc977] at hF975
       rw [hc977] at hm974
       have hm978 := ifT hm974; clear hm974
       refine ev_one (.agg #[nI (q708.cap), nI (q708.closed), nI (q708.count), nI (q708.start), nI (q708.buf), nI (q708.th), nI (q708.tt), nI (q708.sh), nI (q708.st)]) w761 hF975 (by kernel_rfl) rfl (by kernel_rfl) (run_loadV rfl rfl (run_loadA (cs := [nI (q708.cap), nI (q708.closed), nI (q708.count), nI (q708.start), nI (q708.buf), nI (q708.th), nI (q708.tt), nI (q708.sh), nI (q708.st)]) rfl rfl (by kernel_rfl) (blk_cells hS763 2 rfl rfl))) rfl ?_
       intro a980 hF979; clear hF975
       refine ev_one (.agg #[nI 0, nI 0, nI 0, nI 0, nI (-1), nI (-1), nI (-1), nI (atI L77 (0 : Int)), nI (atI L77 (IntKind.i64.wrap (x5 - 1)))]) w761 hF979 (by kernel_rfl) rfl (by kernel_rfl) (run_loadV rfl rfl (run_loadA (cs := [nI 0, nI 0, nI 0, nI 0, nI (-1), nI (-1), nI (-1), nI (atI L77 (0 : Int)), nI (atI L77 (IntKind.i64.wrap (x5 - 1)))]) rfl rfl (by kernel_rfl) (blk_cells hS763 0 rfl rfl))) rfl ?_
       intro a982 hF981; clear hF979
       refine ev_one (.bool ((q708.cap == (0 : Int)) && ((q708.closed == (0 : Int)) && ((q708.count == (0 : Int)) && ((q708.start == (0 : Int)) && ((q708.buf == (-1 : Int)) && ((q708.th == (-1 : Int)) && ((q708.tt == (-1 : Int)) && ((q708.sh == (atI L77 (0 : Int))) && ((q708.st == (atI L77 (IntKind.i64.wrap (x5 - 1)))) && (true))))))))))) w761 hF981 (by kernel_rfl) rfl (by kernel_rfl) (run_eqS rfl rfl rfl (by kernel_rfl) rfl (by kernel_rfl) (eqf_int (by kernel_rfl) rfl rfl rfl (eqf_int (by kernel_rfl) rfl rfl rfl (eqf_int (by kernel_rfl) rfl rfl rfl (eqf_int (by kernel_rfl) rfl rfl rfl (eqf_int (by kernel_rfl) rfl rfl rfl (eqf_int (by kernel_rfl) rfl rfl rfl (eqf_int (by kernel_rfl) rfl rfl rfl (eqf_int (by kernel_rfl) rfl rfl rfl (eqf_int (by kernel_rfl) rfl rfl rfl eqf_nil)))))))))) rfl ?_
       intro a984 hF983; clear hF981
       refine ev_runK 2 hF983 [4] (l' := [(4, .bool ((q708.cap == (0 : Int)) && ((q708.closed == (0 : Int)) && ((q708.count == (0 : Int)) && ((q708.start == (0 : Int)) && ((q708.buf == (-1 : Int)) && ((q708.th == (-1 : Int)) && ((q708.tt == (-1 : Int)) && ((q708.sh == (atI L77 (0 : Int))) && ((q708.st == (atI L77 (IntKind.i64.wrap (x5 - 1)))) && (true)))))))))))]) (w' := w761) (by kernel_rfl) ?_
       intro a986 hF985; clear hF983
       refine wpList_nil ?_
       have hS987 := hS763.drop.drop.drop.drop.drop.drop.drop.drop
       clear hS763
       refine thenN ?_
       refine wp_ret ?_
       obtain rfl := Option.some.inj hm978
       refine ev_ret hF985 [4] (.bool ((q708.cap == (0 : Int)) && ((q708.closed == (0 : Int)) && ((q708.count == (0 : Int)) && ((q708.start == (0 : Int)) && ((q708.buf == (-1 : Int)) && ((q708.th == (-1 : Int)) && ((q708.tt == (-1 : Int)) && ((q708.sh == (atI L77 (0 : Int))) && ((q708.st == (atI L77 (IntKind.i64.wrap (x5 - 1)))) && (true))))))))))) rfl rfl rfl ?_
       exact ⟨rfl, hS987⟩
      rw [hc977] at hF975
      rw [hc977] at hm974
      have hm989 := ifF hm974; clear hm974
      refine ev_runK 5 hF975 [4] (l' := [(4, .bool false)]) (w' := w761) (by kernel_rfl) ?_
      intro a991 hF990; clear hF975
      refine wpList_nil ?_
      have hS992 := hS763.drop.drop.drop.drop.drop.drop.drop.drop
      clear hS763
      refine thenN ?_
      refine wp_ret ?_
      obtain rfl := Option.some.inj hm989
      refine ev_ret hF990 [4] (.bool false) rfl rfl rfl ?_
      exact ⟨rfl, hS992⟩
     rw [hc744] at hF742
     rw [hc744] at hm729
     have hm994 := ifF hm729; clear hm729
     refine ev_condF hF742 rfl rfl ?_
     refine wp_skip ?_
     have hF995 := hF742.keep [0, 5, 6, 9, 10, 11]
     clear hF742
     refine thenN (wp_seq (wp_seq (wp_region_lit ?_)))
     refine ev_runs 1 hF995 (l' := [(12, nI 0), (11, nB (w719.drew)), (10, nI x709), (9, nB w171), (6, nS g727 L77 c90), (5, nP z24 0), (0, nI x5)]) (w' := w737) (by kernel_rfl) ?_
     intro a997 hF996; clear hF995
     refine wpList_nil (thenN ?_)
     refine wp_block ?_
     refine wp_loop_ghost (fun kI aI wI => ∃ (x998 : Int), Fr 121 aI [(12, nI x998), (11, nB (w719.drew)), (10, nI x709), (9, nB w171), (6, nS g727 L77 c90), (5, nP z24 0), (0, nI x5)] ∧ St w0 F0 (BlkP ((w719.drew).heap.size) 37 #[nI 0, nI 0, nI 0, nI 0, nI (-1), nI (atI L77 (0 : Int)), nI (atI L77 (IntKind.i64.wrap (x5 - 1))), nI (-1), nI (-1)] :: RowP (nS g727 L77 c90) L77 :: BlkP (w171.heap.size) 37 #[nI (q708.cap), nI (q708.closed), nI (q708.count), nI (q708.start), nI (q708.buf), nI (q708.th), nI (q708.tt), nI (q708.sh), nI (q708.st)] :: HeapP z25 z26 s167 :: BlkP z24 52 #[nP z25 0, nP z27 0, .slice p39 L16.length c40, .slice p43 L17.length c44] :: RHeapP z27 z28 z29 z30 z31 s168 :: RowP (.slice p39 L16.length c40) L16 :: RowP (.slice p43 L17.length c44) L17 :: ps) wI ∧ ListEnds.l3 x5 L77 s167 q708 x709 kI x998 = some r0) k ⟨0, hF996, hS739, hm994⟩ ?_
     rintro k999 a1000 w1001 ⟨x998, hF1002, hS1003, hm1004⟩
     clear hF996 hS739 hm994
     rcases k999 with _ | k999
     · cases hm1004
     have hm1005 : ListEnds.l3b x5 L77 s167 q708 x709 (ListEnds.l3 x5 L77 s167 q708 x709 k999) x998 = some r0 := hm1004
     clear hm1004
     unfold ListEnds.l3b at hm1005
     refine wp_seq (wp_seq (wp_region_lit ?_))
     refine ev_runK 3 hF1002 [0, 5, 6, 9, 10, 11, 12, 82] (l' := [(82, .bool (decide (x998 < x5))), (12, nI x998), (11, nB (w719.drew)), (10, nI x709), (9, nB w171), (6, nS g727 L77 c90), (5, nP z24 0), (0, nI x5)]) (w' := w1001) (by kernel_rfl) ?_
     intro a1007 hF1006; clear hF1002
     refine wpList_nil (thenN ?_)
     cases hc1008 : (decide (x998 < x5))
     case true =>
      rw [hc1008] at hF1006
      rw [hc1008] at hm1005
      have hm1009 := ifT hm1005; clear hm1005
      refine ev_condT hF1006 rfl rfl ?_
      refine wp_skip ?_
      have hF1010 := hF1006.keep [0, 5, 6, 9, 10, 11, 12]
      clear hF1006
      refine thenN (wp_seq ?_)
      refine wp_block ?_
      refine wp_seq ?_
      -- draws
      obtain ⟨hc1011, hm1012⟩ := ifTE hm1009; clear hm1009
      have hS1013 := hS1003.pick1.pick4
      clear hS1003
      have hS1014 := hS1013.drew; clear hS1013
      refine any_start (fun wS => ∃ qs, St w0 F0 (BlkP z24 52 #[nP z25 0, nP z27 0, .slice p39 L16.length c40, .slice p43 L17.length c44] :: RowP (nS g727 L77 c90) L77 :: qs) wS) 15 #[false, false, false, false, false, false, false, false, false, false, false, false, false, false, false] (by kernel_rfl) (by kernel_rfl) (by kernel_rfl) ?_
      refine any_many 8 [(0, some (nP z24 0)), (1, some (nP z24 0)), (2, some (nP z24 0)), (3, some (nP z25 0)), (4, some (nS g727 L77 c90)), (5, some (nI x998)), (6, some (nP g727 (x998.toNat))), (7, some (nI (atI L77 x998)))] [0, 5, 6, 9, 10, 11, 12, 13, 14, 85, 89, 93, 94, 95, 96, 109, 110, 111, 112, 117, 118, 119] #[true, true, true, true, true, true, true, true, false, false, false, false, false, false, false] (by rfl) hF1010 (by kernel_rfl) (by kernel_rfl) (by exact ⟨fun wS hw => by kernel_rfl, fun wS hw => by kernel_rfl, fun wS hw => by kernel_rfl, fun wS hw => hw.elim fun qs hw => run_loadV rfl rfl (run_loadS rfl rfl (hw.cell 0 rfl 0 rfl)), fun wS hw => by kernel_rfl, fun wS hw => by kernel_rfl, fun wS hw => run_idx rfl rfl rfl rfl rfl (inR_spec hc1011).1 (inR_spec hc1011).2 _, fun wS hw => run_load1 rfl rfl rfl (hw.elim fun qs hw => hw.atI 1 rfl hc1011), trivial⟩) (fun _ _ _ _ _ h => h) ⟨_, hS1014⟩ rfl ?_
      intro a1016 hF1015; clear hF1010
      refine any_two 8 12 (by kernel_rfl) ?_ ?_
      · skip
        have hS1017 := hS1014.pick4
        clear hS1014
        refine op_call 8 #[true, true, true, true, true, true, true, true, true, false, false, false, false, false, false] 29 #[nP z25 0, nI (atI L77 x998)] hF1015 rfl rfl rfl (by kernel_rfl) rfl (by kernel_rfl) (fun w => by kernel_rfl) (by kernel_rfl) ?_
        obtain ⟨q1018, x1019, hx1020, hm1021⟩ := bind2E hm1012; clear hm1012
        refine (p_Sudog hS1017 hx1020).mono ?_
        rintro _ w1022 ⟨rfl, hS1024⟩; clear hS1017
        refine ⟨⟨_, hS1024.pick2.pick2⟩, ?_⟩
        intro a1023 hF1025; clear hF1015
        refine any_many 3 [(9, some (.tuple #[.agg #[nI (q1018.gor), nI (q1018.chan), nI (q1018.value), nI (q1018.next), nI (q1018.to), nI (q1018.reg), nI (q1018.more)], nI x1019])), (10, some (.agg #[nI (q1018.gor), nI (q1018.chan), nI (q1018.value), nI (q1018.next), nI (q1018.to), nI (q1018.reg), nI (q1018.more)])), (11, some (nI x1019))] [0, 5, 6, 9, 10, 11, 12, 13, 14, 95, 96, 109, 110, 111, 112, 117, 118, 119] #[true, true, true, true, true, true, true, true, true, true, true, true, false, false, false] (by rfl) hF1025 (by kernel_rfl) (by kernel_rfl) (by exact ⟨fun wS hw => by kernel_rfl, fun wS hw => by kernel_rfl, fun wS hw => by kernel_rfl, trivial⟩) (fun _ _ _ _ _ h => h) ⟨_, hS1024.pick2.pick2⟩ rfl ?_
        intro a1027 hF1026; clear hF1025
        refine any_one 12 (by kernel_rfl) ?_
        have hS1028 : St w0 F0 (BlkP (w1022.heap.size) 54 #[nI 0, nI 0, nI 0, nI 0, nI 0, nI 0, nI 0] :: HeapP z25 z26 s167 :: BlkP z24 52 #[nP z25 0, nP z27 0, .slice p39 L16.length c40, .slice p43 L17.length c44] :: RowP (nS g727 L77 c90) L77 :: BlkP ((w719.drew).heap.size) 37 #[nI 0, nI 0, nI 0, nI 0, nI (-1), nI (atI L77 (0 : Int)), nI (atI L77 (IntKind.i64.wrap (x5 - 1))), nI (-1), nI (-1)] :: BlkP (w171.heap.size) 37 #[nI (q708.cap), nI (q708.closed), nI (q708.count), nI (q708.start), nI (q708.buf), nI (q708.th), nI (q708.tt), nI (q708.sh), nI (q708.st)] :: RHeapP z27 z28 z29 z30 z31 s168 :: RowP (.slice p39 L16.length c40) L16 :: RowP (.slice p43 L17.length c44) L17 :: ps) (w1022.alloc (.cells #[nI 0, nI 0, nI 0, nI 0, nI 0, nI 0, nI 0] 54)) := St.new hS1024 #[nI 0, nI 0, nI 0, nI 0, nI 0, nI 0, nI 0] 54
        clear hS1024
        refine op_step 12 #[true, true, true, true, true, true, true, true, true, true, true, true, true, false, false] (nB w1022) (w1022.alloc (.cells #[nI 0, nI 0, nI 0, nI 0, nI 0, nI 0, nI 0] 54)) hF1026 rfl (by kernel_rfl) rfl (by kernel_rfl) (by kernel_rfl) rfl ⟨_, hS1028.pick3.pick3⟩ (by kernel_rfl) ?_
        intro a1030 hF1029; clear hF1026
        refine any_one 13 (by kernel_rfl) ?_
        refine op_store 13 #[true, true, true, true, true, true, true, true, true, true, true, true, true, true, false] (.agg #[nI (q1018.gor), nI (q1018.chan), nI (q1018.value), nI (q1018.next), nI (q1018.to), nI (q1018.reg), nI (q1018.more)]) #[nI (q1018.gor), nI (q1018.chan), nI (q1018.value), nI (q1018.next), nI (q1018.to), nI (q1018.reg), nI (q1018.more)] hF1029 rfl (by kernel_rfl) rfl rfl rfl rfl (by kernel_rfl) hS1028 (by kernel_rfl) (by kernel_rfl) (by kernel_rfl) rfl (by kernel_rfl) ?_
        intro w1031 a1032 hS1033 hF1034; clear hF1029 hS1028
        refine ⟨⟨_, hS1033.pick3.pick3⟩, ?_⟩
        refine any_many 1 [(14, some (nI x1019))] [0, 5, 6, 9, 10, 11, 12, 13, 14, 109, 110, 111, 112, 117, 118, 119] #[true, true, true, true, true, true, true, true, true, true, true, true, true, true, true] (by rfl) hF1034 (by kernel_rfl) (by kernel_rfl) (by exact ⟨fun wS hw => by kernel_rfl, trivial⟩) (fun _ _ _ _ _ h => h) ⟨_, hS1033.pick3.pick3⟩ rfl ?_
        intro a1036 hF1035; clear hF1034
        refine any_done (by kernel_rfl) ?_
        refine thenN (wp_seq (wp_region_lit ?_))
        refine ev_runs 1 hF1035 (l' := [(15, nI (-1)), (14, nI x1019), (13, nB w1022), (12, nI x998), (11, nB (w719.drew)), (10, nI x709), (9, nB w171), (6, nS g727 L77 c90), (5, nP z24 0), (0, nI x5)]) (w' := w1031) (by kernel_rfl) ?_
        intro a1038 hF1037; clear hF1035
        refine wpList_nil (thenN (wp_seq (wp_seq (wp_region_lit ?_))))
        refine ev_runK 4 hF1037 [0, 5, 6, 9, 10, 11, 12, 13, 14, 15, 100] (l' := [(100, .bool (decide ((IntKind.i64.wrap (x998 + 1)) < x5))), (15, nI (-1)), (14, nI x1019), (13, nB w1022), (12, nI x998), (11, nB (w719.drew)), (10, nI x709), (9, nB w171), (6, nS g727 L77 c90), (5, nP z24 0), (0, nI x5)]) (w' := w1031) (by kernel_rfl) ?_
        intro a1040 hF1039; clear hF1037
        refine wpList_nil (thenN ?_)
        cases hc1041 : (decide ((IntKind.i64.wrap (x998 + 1)) < x5))
        case true =>
         rw [hc1041] at hF1039
         rw [hc1041] at hm1021
         have hm1042 := ifT hm1021; clear hm1021
         refine ev_condT hF1039 rfl rfl ?_
         refine wp_region_lit ?_
         refine ev_runs 3 hF1039 (l' := [(103, nI (IntKind.i64.wrap (x998 + 1))), (102, nI x998), (101, nS g727 L77 c90), (100, .bool true), (15, nI (-1)), (14, nI x1019), (13, nB w1022), (12, nI x998), (11, nB (w719.drew)), (10, nI x709), (9, nB w171), (6, nS g727 L77 c90), (5, nP z24 0), (0, nI x5)]) (w' := w1031) (by kernel_rfl) ?_
         intro a1044 hF1043; clear hF1039
         obtain ⟨hc1045, hm1046⟩ := ifTE hm1042; clear hm1042
         refine ev_one (nP g727 ((IntKind.i64.wrap (x998 + 1)).toNat)) w1031 hF1043 (by kernel_rfl) rfl (by kernel_rfl) (run_idx rfl rfl rfl rfl rfl (inR_spec hc1045).1 (inR_spec hc1045).2 _) rfl ?_
         intro a1048 hF1047; clear hF1043
         refine ev_one (nI (atI L77 (IntKind.i64.wrap (x998 + 1)))) w1031 hF1047 (by kernel_rfl) rfl (by kernel_rfl) (run_load1 rfl rfl rfl (hS1033.atI 3 rfl hc1045)) rfl ?_
         intro a1050 hF1049; clear hF1047
         refine ev_runK 1 hF1049 [0, 5, 6, 9, 10, 11, 12, 13, 14, 15] (l' := [(15, nI (atI L77 (IntKind.i64.wrap (x998 + 1)))), (14, nI x1019), (13, nB w1022), (12, nI x998), (11, nB (w719.drew)), (10, nI x709), (9, nB w171), (6, nS g727 L77 c90), (5, nP z24 0), (0, nI x5)]) (w' := w1031) (by kernel_rfl) ?_
         intro a1052 hF1051; clear hF1049
         refine wpList_nil (thenN (wp_seq (wp_region_lit ?_)))
         refine ev_runs 3 hF1051 (l' := [(108, .bool (x1019 != 0)), (107, .bool (x1019 != 0)), (106, nI x1019), (15, nI (atI L77 (IntKind.i64.wrap (x998 + 1)))), (14, nI x1019), (13, nB w1022), (12, nI x998), (11, nB (w719.drew)), (10, nI x709), (9, nB w171), (6, nS g727 L77 c90), (5, nP z24 0), (0, nI x5)]) (w' := w1031) (by kernel_rfl) ?_
         intro a1054 hF1053; clear hF1051
         cases hc1055 : (x1019 != 0)
         case true =>
          rw [hc1055] at hF1053
          rw [hc1055] at hm1046
          have hm1056 := ifT hm1046; clear hm1046
          refine ev_runK 5 hF1053 [0, 5, 6, 9, 10, 11, 12, 109, 110, 111, 112, 113] (l' := [(113, .bool true), (112, .tuple #[]), (111, .tuple #[]), (110, .tuple #[]), (109, .tuple #[]), (12, nI x998), (11, nB (w719.drew)), (10, nI x709), (9, nB w171), (6, nS g727 L77 c90), (5, nP z24 0), (0, nI x5)]) (w' := w1031) (by kernel_rfl) ?_
          intro a1058 hF1057; clear hF1053
          refine wpList_nil ?_
          have hS1059 := hS1033.drop
          clear hS1033
          refine thenN ?_
          refine ev_condT hF1057 rfl rfl ?_
          refine wp_seq (wp_region_lit ?_)
          refine ev_runK 1 hF1057 [4] (l' := [(4, .bool false)]) (w' := w1031) (by kernel_rfl) ?_
          intro a1061 hF1060; clear hF1057
          refine wpList_nil ?_
          have hS1062 := hS1059.drop.drop.drop.drop.drop.drop.drop.drop
          clear hS1059
          refine thenN ?_
          refine wp_ret ?_
          refine blockR ?_
          refine thenR (thenR ?_)
          refine blockR ?_
          refine thenR ?_
          obtain rfl := Option.some.inj hm1056
          refine ev_ret hF1060 [4] (.bool false) rfl rfl rfl ?_
          exact ⟨rfl, hS1062⟩
         rw [hc1055] at hF1053
         rw [hc1055] at hm1046
         have hm1064 := ifF hm1046; clear hm1046
         refine ev_runs 1 hF1053 (l' := [(109, nP (w1022.heap.size) 3), (108, .bool false), (107, .bool false), (106, nI x1019), (15, nI (atI L77 (IntKind.i64.wrap (x998 + 1)))), (14, nI x1019), (13, nB w1022), (12, nI x998), (11, nB (w719.drew)), (10, nI x709), (9, nB w171), (6, nS g727 L77 c90), (5, nP z24 0), (0, nI x5)]) (w' := w1031) (by kernel_rfl) ?_
         intro a1066 hF1065; clear hF1053
         refine ev_one (nI (q1018.next)) w1031 hF1065 (by kernel_rfl) rfl (by kernel_rfl) (run_loadV rfl rfl (run_loadS rfl rfl (hS1033.cell 0 rfl 3 rfl))) rfl ?_
         intro a1068 hF1067; clear hF1065
         refine ev_runK 3 hF1067 [0, 5, 6, 9, 10, 11, 12, 109, 110, 111, 112, 113] (l' := [(113, .bool (q1018.next != (atI L77 (IntKind.i64.wrap (x998 + 1))))), (112, .bool (q1018.next != (atI L77 (IntKind.i64.wrap (x998 + 1))))), (111, nI (atI L77 (IntKind.i64.wrap (x998 + 1)))), (110, nI (q1018.next)), (109, nP (w1022.heap.size) 3), (12, nI x998), (11, nB (w719.drew)), (10, nI x709), (9, nB w171), (6, nS g727 L77 c90), (5, nP z24 0), (0, nI x5)]) (w' := w1031) (by kernel_rfl) ?_
         intro a1070 hF1069; clear hF1067
         refine wpList_nil (thenN ?_)
         cases hc1071 : (q1018.next != (atI L77 (IntKind.i64.wrap (x998 + 1))))
         case true =>
          rw [hc1071] at hF1069
          rw [hc1071] at hm1064
          have hm1072 := ifT hm1064; clear hm1064
          refine ev_condT hF1069 rfl rfl ?_
          refine wp_seq (wp_region_lit ?_)
          refine ev_runK 1 hF1069 [4] (l' := [(4, .bool false)]) (w' := w1031) (by kernel_rfl) ?_
          intro a1074 hF1073; clear hF1069
          refine wpList_nil ?_
          have hS1075 := hS1033.drop.drop.drop.drop.drop.drop.drop.drop.drop
          clear hS1033
          refine thenN ?_
          refine wp_ret ?_
          refine blockR ?_
          refine thenR (thenR ?_)
          refine blockR ?_
          refine thenR ?_
          obtain rfl := Option.some.inj hm1072
          refine ev_ret hF1073 [4] (.bool false) rfl rfl rfl ?_
          exact ⟨rfl, hS1075⟩
         rw [hc1071] at hF1069
         rw [hc1071] at hm1064
         have hm1077 := ifF hm1064; clear hm1064
         refine ev_condF hF1069 rfl rfl ?_
         refine wp_skip ?_
         have hF1078 := hF1069.keep [0, 5, 6, 9, 10, 11, 12, 109, 110, 111, 112]
         clear hF1069
         refine blockN ?_
         refine thenN (wp_region_lit ?_)
         refine ev_runK 3 hF1078 [0, 5, 6, 9, 10, 11, 12, 109, 110, 111, 112] (l' := [(12, nI (IntKind.i64.wrap (x998 + 1))), (112, .bool false), (111, nI (atI L77 (IntKind.i64.wrap (x998 + 1)))), (110, nI (q1018.next)), (109, nP (w1022.heap.size) 3), (11, nB (w719.drew)), (10, nI x709), (9, nB w171), (6, nS g727 L77 c90), (5, nP z24 0), (0, nI x5)]) (w' := w1031) (by kernel_rfl) ?_
         intro a1080 hF1079; clear hF1078
         refine wpList_nil ?_
         have hF1081 : Fr 121 a1080 [(12, nI (IntKind.i64.wrap (x998 + 1))), (11, nB (w719.drew)), (10, nI x709), (9, nB w171), (6, nS g727 L77 c90), (5, nP z24 0), (0, nI x5)] := Fr.re hF1079 (by kernel_rfl)
         clear hF1079
         have hS1082 := hS1033.drop.pick7.pick7.pick7.pick4.pick4.pick7.pick6.pick7
         clear hS1033
         exact thenN ⟨k999, Nat.lt_succ_self _, IntKind.i64.wrap (x998 + 1), hF1081, hS1082, hm1077⟩
        rw [hc1041] at hF1039
        rw [hc1041] at hm1021
        have hm1083 := ifF hm1021; clear hm1021
        refine ev_condF hF1039 rfl rfl ?_
        refine wp_skip ?_
        have hF1084 := hF1039.keep [0, 5, 6, 9, 10, 11, 12, 13, 14, 15]
        clear hF1039
        refine thenN (wp_seq (wp_region_lit ?_))
        refine ev_runs 3 hF1084 (l' := [(108, .bool (x1019 != 0)), (107, .bool (x1019 != 0)), (106, nI x1019), (15, nI (-1)), (14, nI x1019), (13, nB w1022), (12, nI x998), (11, nB (w719.drew)), (10, nI x709), (9, nB w171), (6, nS g727 L77 c90), (5, nP z24 0), (0, nI x5)]) (w' := w1031) (by kernel_rfl) ?_
        intro a1086 hF1085; clear hF1084
        cases hc1087 : (x1019 != 0)
        case true =>
         rw [hc1087] at hF1085
         rw [hc1087] at hm1083
         have hm1088 := ifT hm1083; clear hm1083
         refine ev_runK 5 hF1085 [0, 5, 6, 9, 10, 11, 12, 109, 110, 111, 112, 113] (l' := [(113, .bool true), (112, .tuple #[]), (111, .tuple #[]), (110, .tuple #[]), (109, .tuple #[]), (12, nI x998), (11, nB (w719.drew)), (10, nI x709), (9, nB w171), (6, nS g727 L77 c90), (5, nP z24 0), (0, nI x5)]) (w' := w1031) (by kernel_rfl) ?_
         intro a1090 hF1089; clear hF1085
         refine wpList_nil ?_
         have hS1091 := hS1033.drop
         clear hS1033
         refine thenN ?_
         refine ev_condT hF1089 rfl rfl ?_
         refine wp_seq (wp_region_lit ?_)
         refine ev_runK 1 hF1089 [4] (l' := [(4, .bool false)]) (w' := w1031) (by kernel_rfl) ?_
         intro a1093 hF1092; clear hF1089
         refine wpList_nil ?_
         have hS1094 := hS1091.drop.drop.drop.drop.drop.drop.drop.drop
         clear hS1091
         refine thenN ?_
         refine wp_ret ?_
         refine blockR ?_
         refine thenR (thenR ?_)
         refine blockR ?_
         refine thenR ?_
         obtain rfl := Option.some.inj hm1088
         refine ev_ret hF1092 [4] (.bool false) rfl rfl rfl ?_
         exact ⟨rfl, hS1094⟩
        rw [hc1087] at hF1085
        rw [hc1087] at hm1083
        have hm1096 := ifF hm1083; clear hm1083
        refine ev_runs 1 hF1085 (l' := [(109, nP (w1022.heap.size) 3), (108, .bool false), (107, .bool false), (106, nI x1019), (15, nI (-1)), (14, nI x1019), (13, nB w1022), (12, nI x998), (11, nB (w719.drew)), (10, nI x709), (9, nB w171), (6, nS g727 L77 c90), (5, nP z24 0), (0, nI x5)]) (w' := w1031) (by kernel_rfl) ?_
        intro a1098 hF1097; clear hF1085
        refine ev_one (nI (q1018.next)) w1031 hF1097 (by kernel_rfl) rfl (by kernel_rfl) (run_loadV rfl rfl (run_loadS rfl rfl (hS1033.cell 0 rfl 3 rfl))) rfl ?_
        intro a1100 hF1099; clear hF1097
        refine ev_runK 3 hF1099 [0, 5, 6, 9, 10, 11, 12, 109, 110, 111, 112, 113] (l' := [(113, .bool (q1018.next != (-1))), (112, .bool (q1018.next != (-1))), (111, nI (-1)), (110, nI (q1018.next)), (109, nP (w1022.heap.size) 3), (12, nI x998), (11, nB (w719.drew)), (10, nI x709), (9, nB w171), (6, nS g727 L77 c90), (5, nP z24 0), (0, nI x5)]) (w' := w1031) (by kernel_rfl) ?_
        intro a1102 hF1101; clear hF1099
        refine wpList_nil (thenN ?_)
        cases hc1103 : (q1018.next != (-1))
        case true =>
         rw [hc1103] at hF1101
         rw [hc1103] at hm1096
         have hm1104 := ifT hm1096; clear hm1096
         refine ev_condT hF1101 rfl rfl ?_
         refine wp_seq (wp_region_lit ?_)
         refine ev_runK 1 hF1101 [4] (l' := [(4, .bool false)]) (w' := w1031) (by kernel_rfl) ?_
         intro a1106 hF1105; clear hF1101
         refine wpList_nil ?_
         have hS1107 := hS1033.drop.drop.drop.drop.drop.drop.drop.drop.drop
         clear hS1033
         refine thenN ?_
         refine wp_ret ?_
         refine blockR ?_
         refine thenR (thenR ?_)
         refine blockR ?_
         refine thenR ?_
         obtain rfl := Option.some.inj hm1104
         refine ev_ret hF1105 [4] (.bool false) rfl rfl rfl ?_
         exact ⟨rfl, hS1107⟩
        rw [hc1103] at hF1101
        rw [hc1103] at hm1096
        have hm1109 := ifF hm1096; clear hm1096
        refine ev_condF hF1101 rfl rfl ?_
        refine wp_skip ?_
        have hF1110 := hF1101.keep [0, 5, 6, 9, 10, 11, 12, 109, 110, 111, 112]
        clear hF1101
        refine blockN ?_
        refine thenN (wp_region_lit ?_)
        refine ev_runK 3 hF1110 [0, 5, 6, 9, 10, 11, 12, 109, 110, 111, 112] (l' := [(12, nI (IntKind.i64.wrap (x998 + 1))), (112, .bool false), (111, nI (-1)), (110, nI (q1018.next)), (109, nP (w1022.heap.size) 3), (11, nB (w719.drew)), (10, nI x709), (9, nB w171), (6, nS g727 L77 c90), (5, nP z24 0), (0, nI x5)]) (w' := w1031) (by kernel_rfl) ?_
        intro a1112 hF1111; clear hF1110
        refine wpList_nil ?_
        have hF1113 : Fr 121 a1112 [(12, nI (IntKind.i64.wrap (x998 + 1))), (11, nB (w719.drew)), (10, nI x709), (9, nB w171), (6, nS g727 L77 c90), (5, nP z24 0), (0, nI x5)] := Fr.re hF1111 (by kernel_rfl)
        clear hF1111
        have hS1114 := hS1033.drop.pick7.pick7.pick7.pick4.pick4.pick7.pick6.pick7
        clear hS1033
        exact thenN ⟨k999, Nat.lt_succ_self _, IntKind.i64.wrap (x998 + 1), hF1113, hS1114, hm1109⟩
      · skip
        have hS1115 : St w0 F0 (BlkP ((w1001.drew).heap.size) 54 #[nI 0, nI 0, nI 0, nI 0, nI 0, nI 0, nI 0] :: BlkP z24 52 #[nP z25 0, nP z27 0, .slice p39 L16.length c40, .slice p43 L17.length c44] :: RowP (nS g727 L77 c90) L77 :: BlkP ((w719.drew).heap.size) 37 #[nI 0, nI 0, nI 0, nI 0, nI (-1), nI (atI L77 (0 : Int)), nI (atI L77 (IntKind.i64.wrap (x5 - 1))), nI (-1), nI (-1)] :: BlkP (w171.heap.size) 37 #[nI (q708.cap), nI (q708.closed), nI (q708.count), nI (q708.start), nI (q708.buf), nI (q708.th), nI (q708.tt), nI (q708.sh), nI (q708.st)] :: HeapP z25 z26 s167 :: RHeapP z27 z28 z29 z30 z31 s168 :: RowP (.slice p39 L16.length c40) L16 :: RowP (.slice p43 L17.length c44) L17 :: ps) ((w1001.drew).alloc (.cells #[nI 0, nI 0, nI 0, nI 0, nI 0, nI 0, nI 0] 54)) := St.new hS1014 #[nI 0, nI 0, nI 0, nI 0, nI 0, nI 0, nI 0] 54
        clear hS1014
        refine op_step 12 #[true, true, true, true, true, true, true, true, false, false, false, false, true, false, false] (nB (w1001.drew)) ((w1001.drew).alloc (.cells #[nI 0, nI 0, nI 0, nI 0, nI 0, nI 0, nI 0] 54)) hF1015 rfl (by kernel_rfl) rfl (by kernel_rfl) (by kernel_rfl) rfl ⟨_, hS1115.pick2.pick2⟩ (by kernel_rfl) ?_
        intro a1117 hF1116; clear hF1015
        have hS1118 := hS1115.pick5
        clear hS1115
        refine any_call 8 #[true, true, true, true, true, true, true, true, true, false, false, false, true, false, false] 29 #[nP z25 0, nI (atI L77 x998)] hF1116 rfl (by kernel_rfl) rfl rfl (by kernel_rfl) rfl (by kernel_rfl) (fun w => by kernel_rfl) (by kernel_rfl) ?_
        obtain ⟨q1119, x1120, hx1121, hm1122⟩ := bind2E hm1012; clear hm1012
        refine (p_Sudog hS1118 hx1121).mono ?_
        rintro _ w1123 ⟨rfl, hS1125⟩; clear hS1118
        refine ⟨⟨_, hS1125.pick3.pick3⟩, ?_⟩
        intro a1124 hF1126; clear hF1116
        refine any_many 3 [(9, some (.tuple #[.agg #[nI (q1119.gor), nI (q1119.chan), nI (q1119.value), nI (q1119.next), nI (q1119.to), nI (q1119.reg), nI (q1119.more)], nI x1120])), (10, some (.agg #[nI (q1119.gor), nI (q1119.chan), nI (q1119.value), nI (q1119.next), nI (q1119.to), nI (q1119.reg), nI (q1119.more)])), (11, some (nI x1120))] [0, 5, 6, 9, 10, 11, 12, 13, 14, 95, 96, 109, 110, 111, 112, 117, 118, 119] #[true, true, true, true, true, true, true, true, true, true, true, true, true, false, false] (by rfl) hF1126 (by kernel_rfl) (by kernel_rfl) (by exact ⟨fun wS hw => by kernel_rfl, fun wS hw => by kernel_rfl, fun wS hw => by kernel_rfl, trivial⟩) (fun _ _ _ _ _ h => h) ⟨_, hS1125.pick3.pick3⟩ rfl ?_
        intro a1128 hF1127; clear hF1126
        refine any_one 13 (by kernel_rfl) ?_
        have hS1129 := hS1125.pick1
        clear hS1125
        refine op_store 13 #[true, true, true, true, true, true, true, true, true, true, true, true, true, true, false] (.agg #[nI (q1119.gor), nI (q1119.chan), nI (q1119.value), nI (q1119.next), nI (q1119.to), nI (q1119.reg), nI (q1119.more)]) #[nI (q1119.gor), nI (q1119.chan), nI (q1119.value), nI (q1119.next), nI (q1119.to), nI (q1119.reg), nI (q1119.more)] hF1127 rfl (by kernel_rfl) rfl rfl rfl rfl (by kernel_rfl) hS1129 (by kernel_rfl) (by kernel_rfl) (by kernel_rfl) rfl (by kernel_rfl) ?_
        intro w1130 a1131 hS1132 hF1133; clear hF1127 hS1129
        refine ⟨⟨_, hS1132.pick3.pick3⟩, ?_⟩
        refine any_many 1 [(14, some (nI x1120))] [0, 5, 6, 9, 10, 11, 12, 13, 14, 109, 110, 111, 112, 117, 118, 119] #[true, true, true, true, true, true, true, true, true, true, true, true, true, true, true] (by rfl) hF1133 (by kernel_rfl) (by kernel_rfl) (by exact ⟨fun wS hw => by kernel_rfl, trivial⟩) (fun _ _ _ _ _ h => h) ⟨_, hS1132.pick3.pick3⟩ rfl ?_
        intro a1135 hF1134; clear hF1133
        refine any_done (by kernel_rfl) ?_
        refine thenN (wp_seq (wp_region_lit ?_))
        refine ev_runs 1 hF1134 (l' := [(15, nI (-1)), (14, nI x1120), (13, nB (w1001.drew)), (12, nI x998), (11, nB (w719.drew)), (10, nI x709), (9, nB w171), (6, nS g727 L77 c90), (5, nP z24 0), (0, nI x5)]) (w' := w1130) (by kernel_rfl) ?_
        intro a1137 hF1136; clear hF1134
        refine wpList_nil (thenN (wp_seq (wp_seq (wp_region_lit ?_))))
        refine ev_runK 4 hF1136 [0, 5, 6, 9, 10, 11, 12, 13, 14, 15, 100] (l' := [(100, .bool (decide ((IntKind.i64.wrap (x998 + 1)) < x5))), (15, nI (-1)), (14, nI x1120), (13, nB (w1001.drew)), (12, nI x998), (11, nB (w719.drew)), (10, nI x709), (9, nB w171), (6, nS g727 L77 c90), (5, nP z24 0), (0, nI x5)]) (w' := w1130) (by kernel_rfl) ?_
        intro a1139 hF1138; clear hF1136
        refine wpList_nil (thenN ?_)
        cases hc1140 : (decide ((IntKind.i64.wrap (x998 + 1)) < x5))
        case true =>
         rw [hc1140] at hF1138
         rw [hc1140] at hm1122
         have hm1141 := ifT hm1122; clear hm1122
         refine ev_condT hF1138 rfl rfl ?_
         refine wp_region_lit ?_
         refine ev_runs 3 hF1138 (l' := [(103, nI (IntKind.i64.wrap (x998 + 1))), (102, nI x998), (101, nS g727 L77 c90), (100, .bool true), (15, nI (-1)), (14, nI x1120), (13, nB (w1001.drew)), (12, nI x998), (11, nB (w719.drew)), (10, nI x709), (9, nB w171), (6, nS g727 L77 c90), (5, nP z24 0), (0, nI x5)]) (w' := w1130) (by kernel_rfl) ?_
         intro a1143 hF1142; clear hF1138
         obtain ⟨hc1144, hm1145⟩ := ifTE hm1141; clear hm1141
         refine ev_one (nP g727 ((IntKind.i64.wrap (x998 + 1)).toNat)) w1130 hF1142 (by kernel_rfl) rfl (by kernel_rfl) (run_idx rfl rfl rfl rfl rfl (inR_spec hc1144).1 (inR_spec hc1144).2 _) rfl ?_
         intro a1147 hF1146; clear hF1142
         refine ev_one (nI (atI L77 (IntKind.i64.wrap (x998 + 1)))) w1130 hF1146 (by kernel_rfl) rfl (by kernel_rfl) (run_load1 rfl rfl rfl (hS1132.atI 3 rfl hc1144)) rfl ?_
         intro a1149 hF1148; clear hF1146
         refine ev_runK 1 hF1148 [0, 5, 6, 9, 10, 11, 12, 13, 14, 15] (l' := [(15, nI (atI L77 (IntKind.i64.wrap (x998 + 1)))), (14, nI x1120), (13, nB (w1001.drew)), (12, nI x998), (11, nB (w719.drew)), (10, nI x709), (9, nB w171), (6, nS g727 L77 c90), (5, nP z24 0), (0, nI x5)]) (w' := w1130) (by kernel_rfl) ?_
         intro a1151 hF1150; clear hF1148
         refine wpList_nil (thenN (wp_seq (wp_region_lit ?_)))
         refine ev_runs 3 hF1150 (l' := [(108, .bool (x1120 != 0)), (107, .bool (x1120 != 0)), (106, nI x1120), (15, nI (atI L77 (IntKind.i64.wrap (x998 + 1)))), (14, nI x1120), (13, nB (w1001.drew)), (12, nI x998), (11, nB (w719.drew)), (10, nI x709), (9, nB w171), (6, nS g727 L77 c90), (5, nP z24 0), (0, nI x5)]) (w' := w1130) (by kernel_rfl) ?_
         intro a1153 hF1152; clear hF1150
         cases hc1154 : (x1120 != 0)
         case true =>
          rw [hc1154] at hF1152
          rw [hc1154] at hm1145
          have hm1155 := ifT hm1145; clear hm1145
          refine ev_runK 5 hF1152 [0, 5, 6, 9, 10, 11, 12, 109, 110, 111, 112, 113] (l' := [(113, .bool true), (112, .tuple #[]), (111, .tuple #[]), (110, .tuple #[]), (109, .tuple #[]), (12, nI x998), (11, nB (w719.drew)), (10, nI x709), (9, nB w171), (6, nS g727 L77 c90), (5, nP z24 0), (0, nI x5)]) (w' := w1130) (by kernel_rfl) ?_
          intro a1157 hF1156; clear hF1152
          refine wpList_nil ?_
          have hS1158 := hS1132.drop
          clear hS1132
          refine thenN ?_
          refine ev_condT hF1156 rfl rfl ?_
          refine wp_seq (wp_region_lit ?_)
          refine ev_runK 1 hF1156 [4] (l' := [(4, .bool false)]) (w' := w1130) (by kernel_rfl) ?_
          intro a1160 hF1159; clear hF1156
          refine wpList_nil ?_
          have hS1161 := hS1158.drop.drop.drop.drop.drop.drop.drop.drop
          clear hS1158
          refine thenN ?_
          refine wp_ret ?_
          refine blockR ?_
          refine thenR (thenR ?_)
          refine blockR ?_
          refine thenR ?_
          obtain rfl := Option.some.inj hm1155
          refine ev_ret hF1159 [4] (.bool false) rfl rfl rfl ?_
          exact ⟨rfl, hS1161⟩
         rw [hc1154] at hF1152
         rw [hc1154] at hm1145
         have hm1163 := ifF hm1145; clear hm1145
         refine ev_runs 1 hF1152 (l' := [(109, nP ((w1001.drew).heap.size) 3), (108, .bool false), (107, .bool false), (106, nI x1120), (15, nI (atI L77 (IntKind.i64.wrap (x998 + 1)))), (14, nI x1120), (13, nB (w1001.drew)), (12, nI x998), (11, nB (w719.drew)), (10, nI x709), (9, nB w171), (6, nS g727 L77 c90), (5, nP z24 0), (0, nI x5)]) (w' := w1130) (by kernel_rfl) ?_
         intro a1165 hF1164; clear hF1152
         refine ev_one (nI (q1119.next)) w1130 hF1164 (by kernel_rfl) rfl (by kernel_rfl) (run_loadV rfl rfl (run_loadS rfl rfl (hS1132.cell 0 rfl 3 rfl))) rfl ?_
         intro a1167 hF1166; clear hF1164
         refine ev_runK 3 hF1166 [0, 5, 6, 9, 10, 11, 12, 109, 110, 111, 112, 113] (l' := [(113, .bool (q1119.next != (atI L77 (IntKind.i64.wrap (x998 + 1))))), (112, .bool (q1119.next != (atI L77 (IntKind.i64.wrap (x998 + 1))))), (111, nI (atI L77 (IntKind.i64.wrap (x998 + 1)))), (110, nI (q1119.next)), (109, nP ((w1001.drew).heap.size) 3), (12, nI x998), (11, nB (w719.drew)), (10, nI x709), (9, nB w171), (6, nS g727 L77 c90), (5, nP z24 0), (0, nI x5)]) (w' := w1130) (by kernel_rfl) ?_
         intro a1169 hF1168; clear hF1166
         refine wpList_nil (thenN ?_)
         cases hc1170 : (q1119.next != (atI L77 (IntKind.i64.wrap (x998 + 1))))
         case true =>
          rw [hc1170] at hF1168
          rw [hc1170] at hm1163
          have hm1171 := ifT hm1163; clear hm1163
          refine ev_condT hF1168 rfl rfl ?_
          refine wp_seq (wp_region_lit ?_)
          refine ev_runK 1 hF1168 [4] (l' := [(4, .bool false)]) (w' := w1130) (by kernel_rfl) ?_
          intro a1173 hF1172; clear hF1168
          refine wpList_nil ?_
          have hS1174 := hS1132.drop.drop.drop.drop.drop.drop.drop.drop.drop
          clear hS1132
          refine thenN ?_
          refine wp_ret ?_
          refine blockR ?_
          refine thenR (thenR ?_)
          refine blockR ?_
          refine thenR ?_
          obtain rfl := Option.some.inj hm1171
          refine ev_ret hF1172 [4] (.bool false) rfl rfl rfl ?_
          exact ⟨rfl, hS1174⟩
         rw [hc1170] at hF1168
         rw [hc1170] at hm1163
         have hm1176 := ifF hm1163; clear hm1163
         refine ev_condF hF1168 rfl rfl ?_
         refine wp_skip ?_
         have hF1177 := hF1168.keep [0, 5, 6, 9, 10, 11, 12, 109, 110, 111, 112]
         clear hF1168
         refine blockN ?_
         refine thenN (wp_region_lit ?_)
         refine ev_runK 3 hF1177 [0, 5, 6, 9, 10, 11, 12, 109, 110, 111, 112] (l' := [(12, nI (IntKind.i64.wrap (x998 + 1))), (112, .bool false), (111, nI (atI L77 (IntKind.i64.wrap (x998 + 1)))), (110, nI (q1119.next)), (109, nP ((w1001.drew).heap.size) 3), (11, nB (w719.drew)), (10, nI x709), (9, nB w171), (6, nS g727 L77 c90), (5, nP z24 0), (0, nI x5)]) (w' := w1130) (by kernel_rfl) ?_
         intro a1179 hF1178; clear hF1177
         refine wpList_nil ?_
         have hF1180 : Fr 121 a1179 [(12, nI (IntKind.i64.wrap (x998 + 1))), (11, nB (w719.drew)), (10, nI x709), (9, nB w171), (6, nS g727 L77 c90), (5, nP z24 0), (0, nI x5)] := Fr.re hF1178 (by kernel_rfl)
         clear hF1178
         have hS1181 := hS1132.drop.pick7.pick7.pick7.pick4.pick4.pick7.pick6.pick7
         clear hS1132
         exact thenN ⟨k999, Nat.lt_succ_self _, IntKind.i64.wrap (x998 + 1), hF1180, hS1181, hm1176⟩
        rw [hc1140] at hF1138
        rw [hc1140] at hm1122
        have hm1182 := ifF hm1122; clear hm1122
        refine ev_condF hF1138 rfl rfl ?_
        refine wp_skip ?_
        have hF1183 := hF1138.keep [0, 5, 6, 9, 10, 11, 12, 13, 14, 15]
        clear hF1138
        refine thenN (wp_seq (wp_region_lit ?_))
        refine ev_runs 3 hF1183 (l' := [(108, .bool (x1120 != 0)), (107, .bool (x1120 != 0)), (106, nI x1120), (15, nI (-1)), (14, nI x1120), (13, nB (w1001.drew)), (12, nI x998), (11, nB (w719.drew)), (10, nI x709), (9, nB w171), (6, nS g727 L77 c90), (5, nP z24 0), (0, nI x5)]) (w' := w1130) (by kernel_rfl) ?_
        intro a1185 hF1184; clear hF1183
        cases hc1186 : (x1120 != 0)
        case true =>
         rw [hc1186] at hF1184
         rw [hc1186] at hm1182
         have hm1187 := ifT hm1182; clear hm1182
         refine ev_runK 5 hF1184 [0, 5, 6, 9, 10, 11, 12, 109, 110, 111, 112, 113] (l' := [(113, .bool true), (112, .tuple #[]), (111, .tuple #[]), (110, .tuple #[]), (109, .tuple #[]), (12, nI x998), (11, nB (w719.drew)), (10, nI x709), (9, nB w171), (6, nS g727 L77 c90), (5, nP z24 0), (0, nI x5)]) (w' := w1130) (by kernel_rfl) ?_
         intro a1189 hF1188; clear hF1184
         refine wpList_nil ?_
         have hS1190 := hS1132.drop
         clear hS1132
         refine thenN ?_
         refine ev_condT hF1188 rfl rfl ?_
         refine wp_seq (wp_region_lit ?_)
         refine ev_runK 1 hF1188 [4] (l' := [(4, .bool false)]) (w' := w1130) (by kernel_rfl) ?_
         intro a1192 hF1191; clear hF1188
         refine wpList_nil ?_
         have hS1193 := hS1190.drop.drop.drop.drop.drop.drop.drop.drop
         clear hS1190
         refine thenN ?_
         refine wp_ret ?_
         refine blockR ?_
         refine thenR (thenR ?_)
         refine blockR ?_
         refine thenR ?_
         obtain rfl := Option.some.inj hm1187
         refine ev_ret hF1191 [4] (.bool false) rfl rfl rfl ?_
         exact ⟨rfl, hS1193⟩
        rw [hc1186] at hF1184
        rw [hc1186] at hm1182
        have hm1195 := ifF hm1182; clear hm1182
        refine ev_runs 1 hF1184 (l' := [(109, nP ((w1001.drew).heap.size) 3), (108, .bool false), (107, .bool false), (106, nI x1120), (15, nI (-1)), (14, nI x1120), (13, nB (w1001.drew)), (12, nI x998), (11, nB (w719.drew)), (10, nI x709), (9, nB w171), (6, nS g727 L77 c90), (5, nP z24 0), (0, nI x5)]) (w' := w1130) (by kernel_rfl) ?_
        intro a1197 hF1196; clear hF1184
        refine ev_one (nI (q1119.next)) w1130 hF1196 (by kernel_rfl) rfl (by kernel_rfl) (run_loadV rfl rfl (run_loadS rfl rfl (hS1132.cell 0 rfl 3 rfl))) rfl ?_
        intro a1199 hF1198; clear hF1196
        refine ev_runK 3 hF1198 [0, 5, 6, 9, 10, 11, 12, 109, 110, 111, 112, 113] (l' := [(113, .bool (q1119.next != (-1))), (112, .bool (q1119.next != (-1))), (111, nI (-1)), (110, nI (q1119.next)), (109, nP ((w1001.drew).heap.size) 3), (12, nI x998), (11, nB (w719.drew)), (10, nI x709), (9, nB w171), (6, nS g727 L77 c90), (5, nP z24 0), (0, nI x5)]) (w' := w1130) (by kernel_rfl) ?_
        intro a1201 hF1200; clear hF1198
        refine wpList_nil (thenN ?_)
        cases hc1202 : (q1119.next != (-1))
        case true =>
         rw [hc1202] at hF1200
         rw [hc1202] at hm1195
         have hm1203 := ifT hm1195; clear hm1195
         refine ev_condT hF1200 rfl rfl ?_
         refine wp_seq (wp_region_lit ?_)
         refine ev_runK 1 hF1200 [4] (l' := [(4, .bool false)]) (w' := w1130) (by kernel_rfl) ?_
         intro a1205 hF1204; clear hF1200
         refine wpList_nil ?_
         have hS1206 := hS1132.drop.drop.drop.drop.drop.drop.drop.drop.drop
         clear hS1132
         refine thenN ?_
         refine wp_ret ?_
         refine blockR ?_
         refine thenR (thenR ?_)
         refine blockR ?_
         refine thenR ?_
         obtain rfl := Option.some.inj hm1203
         refine ev_ret hF1204 [4] (.bool false) rfl rfl rfl ?_
         exact ⟨rfl, hS1206⟩
        rw [hc1202] at hF1200
        rw [hc1202] at hm1195
        have hm1208 := ifF hm1195; clear hm1195
        refine ev_condF hF1200 rfl rfl ?_
        refine wp_skip ?_
        have hF1209 := hF1200.keep [0, 5, 6, 9, 10, 11, 12, 109, 110, 111, 112]
        clear hF1200
        refine blockN ?_
        refine thenN (wp_region_lit ?_)
        refine ev_runK 3 hF1209 [0, 5, 6, 9, 10, 11, 12, 109, 110, 111, 112] (l' := [(12, nI (IntKind.i64.wrap (x998 + 1))), (112, .bool false), (111, nI (-1)), (110, nI (q1119.next)), (109, nP ((w1001.drew).heap.size) 3), (11, nB (w719.drew)), (10, nI x709), (9, nB w171), (6, nS g727 L77 c90), (5, nP z24 0), (0, nI x5)]) (w' := w1130) (by kernel_rfl) ?_
        intro a1211 hF1210; clear hF1209
        refine wpList_nil ?_
        have hF1212 : Fr 121 a1211 [(12, nI (IntKind.i64.wrap (x998 + 1))), (11, nB (w719.drew)), (10, nI x709), (9, nB w171), (6, nS g727 L77 c90), (5, nP z24 0), (0, nI x5)] := Fr.re hF1210 (by kernel_rfl)
        clear hF1210
        have hS1213 := hS1132.drop.pick7.pick7.pick7.pick4.pick4.pick7.pick6.pick7
        clear hS1132
        exact thenN ⟨k999, Nat.lt_succ_self _, IntKind.i64.wrap (x998 + 1), hF1212, hS1213, hm1208⟩
     rw [hc1008] at hF1006
     rw [hc1008] at hm1005
     have hm1214 := ifF hm1005; clear hm1005
     refine ev_condF hF1006 rfl rfl ?_
     refine wp_exit ?_
     refine thenE ?_
     refine thenE ?_
     refine blockE ?_
     refine thenN (wp_seq (wp_region_lit ?_))
     refine ev_runs 3 hF1006 (l' := [(116, .bool (x709 == 0)), (115, .bool (x709 == 0)), (114, nI x709), (82, .bool false), (12, nI x998), (11, nB (w719.drew)), (10, nI x709), (9, nB w171), (6, nS g727 L77 c90), (5, nP z24 0), (0, nI x5)]) (w' := w1001) (by kernel_rfl) ?_
     intro a1216 hF1215; clear hF1006
     cases hc1217 : (x709 == 0)
     case true =>
      rw [hc1217] at hF1215
      rw [hc1217] at hm1214
      have hm1218 := ifT hm1214; clear hm1214
      refine ev_one (.agg #[nI (q708.cap), nI (q708.closed), nI (q708.count), nI (q708.start), nI (q708.buf), nI (q708.th), nI (q708.tt), nI (q708.sh), nI (q708.st)]) w1001 hF1215 (by kernel_rfl) rfl (by kernel_rfl) (run_loadV rfl rfl (run_loadA (cs := [nI (q708.cap), nI (q708.closed), nI (q708.count), nI (q708.start), nI (q708.buf), nI (q708.th), nI (q708.tt), nI (q708.sh), nI (q708.st)]) rfl rfl (by kernel_rfl) (blk_cells hS1003 2 rfl rfl))) rfl ?_
      intro a1220 hF1219; clear hF1215
      refine ev_one (.agg #[nI 0, nI 0, nI 0, nI 0, nI (-1), nI (atI L77 (0 : Int)), nI (atI L77 (IntKind.i64.wrap (x5 - 1))), nI (-1), nI (-1)]) w1001 hF1219 (by kernel_rfl) rfl (by kernel_rfl) (run_loadV rfl rfl (run_loadA (cs := [nI 0, nI 0, nI 0, nI 0, nI (-1), nI (atI L77 (0 : Int)), nI (atI L77 (IntKind.i64.wrap (x5 - 1))), nI (-1), nI (-1)]) rfl rfl (by kernel_rfl) (blk_cells hS1003 0 rfl rfl))) rfl ?_
      intro a1222 hF1221; clear hF1219
      refine ev_one (.bool ((q708.cap == (0 : Int)) && ((q708.closed == (0 : Int)) && ((q708.count == (0 : Int)) && ((q708.start == (0 : Int)) && ((q708.buf == (-1 : Int)) && ((q708.th == (atI L77 (0 : Int))) && ((q708.tt == (atI L77 (IntKind.i64.wrap (x5 - 1)))) && ((q708.sh == (-1 : Int)) && ((q708.st == (-1 : Int)) && (true))))))))))) w1001 hF1221 (by kernel_rfl) rfl (by kernel_rfl) (run_eqS rfl rfl rfl (by kernel_rfl) rfl (by kernel_rfl) (eqf_int (by kernel_rfl) rfl rfl rfl (eqf_int (by kernel_rfl) rfl rfl rfl (eqf_int (by kernel_rfl) rfl rfl rfl (eqf_int (by kernel_rfl) rfl rfl rfl (eqf_int (by kernel_rfl) rfl rfl rfl (eqf_int (by kernel_rfl) rfl rfl rfl (eqf_int (by kernel_rfl) rfl rfl rfl (eqf_int (by kernel_rfl) rfl rfl rfl (eqf_int (by kernel_rfl) rfl rfl rfl eqf_nil)))))))))) rfl ?_
      intro a1224 hF1223; clear hF1221
      refine ev_runK 2 hF1223 [4] (l' := [(4, .bool ((q708.cap == (0 : Int)) && ((q708.closed == (0 : Int)) && ((q708.count == (0 : Int)) && ((q708.start == (0 : Int)) && ((q708.buf == (-1 : Int)) && ((q708.th == (atI L77 (0 : Int))) && ((q708.tt == (atI L77 (IntKind.i64.wrap (x5 - 1)))) && ((q708.sh == (-1 : Int)) && ((q708.st == (-1 : Int)) && (true)))))))))))]) (w' := w1001) (by kernel_rfl) ?_
      intro a1226 hF1225; clear hF1223
      refine wpList_nil ?_
      have hS1227 := hS1003.drop.drop.drop.drop.drop.drop.drop.drop
      clear hS1003
      refine thenN ?_
      refine wp_ret ?_
      obtain rfl := Option.some.inj hm1218
      refine ev_ret hF1225 [4] (.bool ((q708.cap == (0 : Int)) && ((q708.closed == (0 : Int)) && ((q708.count == (0 : Int)) && ((q708.start == (0 : Int)) && ((q708.buf == (-1 : Int)) && ((q708.th == (atI L77 (0 : Int))) && ((q708.tt == (atI L77 (IntKind.i64.wrap (x5 - 1)))) && ((q708.sh == (-1 : Int)) && ((q708.st == (-1 : Int)) && (true))))))))))) rfl rfl rfl ?_
      exact ⟨rfl, hS1227⟩
     rw [hc1217] at hF1215
     rw [hc1217] at hm1214
     have hm1229 := ifF hm1214; clear hm1214
     refine ev_runK 5 hF1215 [4] (l' := [(4, .bool false)]) (w' := w1001) (by kernel_rfl) ?_
     intro a1231 hF1230; clear hF1215
     refine wpList_nil ?_
     have hS1232 := hS1003.drop.drop.drop.drop.drop.drop.drop.drop
     clear hS1003
     refine thenN ?_
     refine wp_ret ?_
     obtain rfl := Option.some.inj hm1229
     refine ev_ret hF1230 [4] (.bool false) rfl rfl rfl ?_
     exact ⟨rfl, hS1232⟩
 · skip
   have hS1234 : St w0 F0 (BlkP ((w84.drew).heap.size) 37 #[nI 0, nI 0, nI 0, nI 0, nI 0, nI 0, nI 0, nI 0, nI 0] :: BlkP z24 52 #[nP z25 0, nP z27 0, .slice p39 L16.length c40, .slice p43 L17.length c44] :: RowP (.slice p89 L77.length c90) L77 :: HeapP z25 z26 s79 :: RHeapP z27 z28 z29 z30 z31 s80 :: RowP (.slice p39 L16.length c40) L16 :: RowP (.slice p43 L17.length c44) L17 :: ps) ((w84.drew).alloc (.cells #[nI 0, nI 0, nI 0, nI 0, nI 0, nI 0, nI 0, nI 0, nI 0] 37)) := St.new hS162 #[nI 0, nI 0, nI 0, nI 0, nI 0, nI 0, nI 0, nI 0, nI 0] 37
   clear hS162
   refine op_step 10 #[true, true, true, true, true, false, false, false, false, false, true, false, false] (nB (w84.drew)) ((w84.drew).alloc (.cells #[nI 0, nI 0, nI 0, nI 0, nI 0, nI 0, nI 0, nI 0, nI 0] 37)) hF163 rfl (by kernel_rfl) rfl (by kernel_rfl) (by kernel_rfl) rfl ⟨_, hS1234.pick1⟩ (by kernel_rfl) ?_
   intro a1236 hF1235; clear hF163
   have hS1237 := hS1234.pick6.pick6.pick6.pick6.pick5
   clear hS1234
   refine any_call 5 #[true, true, true, true, true, true, false, false, false, false, true, false, false] 27 #[nP z24 0, nI 0] hF1235 rfl (by kernel_rfl) rfl rfl (by kernel_rfl) rfl (by kernel_rfl) (fun w => by kernel_rfl) (by kernel_rfl) ?_
   obtain ⟨x1238, s1239, s1240, hx1241, hm1242⟩ := bind3E hm160; clear hm160
   refine (law13_ch.ok hS1237 hx1241).mono ?_
   rintro _ w1243 ⟨rfl, hS1245⟩; clear hS1237
   refine ⟨⟨_, hS1245⟩, ?_⟩
   intro a1244 hF1246; clear hF1235
   have hS1247 := hS1245.pick1
   clear hS1245
   refine any_call 6 #[true, true, true, true, true, true, true, false, false, false, true, false, false] 18 #[nP z25 0, nI x1238] hF1246 rfl (by kernel_rfl) rfl rfl (by kernel_rfl) rfl (by kernel_rfl) (fun w => by kernel_rfl) (by kernel_rfl) ?_
   obtain ⟨q1248, x1249, hx1250, hm1251⟩ := bind2E hm1242; clear hm1242
   refine (p_Chan hS1247 hx1250).mono ?_
   rintro _ w1252 ⟨rfl, hS1254⟩; clear hS1247
   refine ⟨⟨_, hS1254.pick1⟩, ?_⟩
   intro a1253 hF1255; clear hF1246
   refine any_many 3 [(7, some (.tuple #[.agg #[nI (q1248.cap), nI (q1248.closed), nI (q1248.count), nI (q1248.start), nI (q1248.buf), nI (q1248.th), nI (q1248.tt), nI (q1248.sh), nI (q1248.st)], nI x1249])), (8, some (.agg #[nI (q1248.cap), nI (q1248.closed), nI (q1248.count), nI (q1248.start), nI (q1248.buf), nI (q1248.th), nI (q1248.tt), nI (q1248.sh), nI (q1248.st)])), (9, some (nI x1249))] [0, 1, 5, 6, 9, 10, 59, 60, 109, 110, 111, 112, 117, 118, 119] #[true, true, true, true, true, true, true, true, true, true, true, false, false] (by rfl) hF1255 (by kernel_rfl) (by kernel_rfl) (by exact ⟨fun wS hw => by kernel_rfl, fun wS hw => by kernel_rfl, fun wS hw => by kernel_rfl, trivial⟩) (fun _ _ _ _ _ h => h) ⟨_, hS1254.pick1⟩ rfl ?_
   intro a1257 hF1256; clear hF1255
   refine any_one 11 (by kernel_rfl) ?_
   have hS1258 := hS1254.pick5
   clear hS1254
   refine op_store 11 #[true, true, true, true, true, true, true, true, true, true, true, true, false] (.agg #[nI (q1248.cap), nI (q1248.closed), nI (q1248.count), nI (q1248.start), nI (q1248.buf), nI (q1248.th), nI (q1248.tt), nI (q1248.sh), nI (q1248.st)]) #[nI (q1248.cap), nI (q1248.closed), nI (q1248.count), nI (q1248.start), nI (q1248.buf), nI (q1248.th), nI (q1248.tt), nI (q1248.sh), nI (q1248.st)] hF1256 rfl (by kernel_rfl) rfl rfl rfl rfl (by kernel_rfl) hS1258 (by kernel_rfl) (by kernel_rfl) (by kernel_rfl) rfl (by kernel_rfl) ?_
   intro w1259 a1260 hS1261 hF1262; clear hF1256 hS1258
   refine ⟨⟨_, hS1261.pick2⟩, ?_⟩
   refine any_many 1 [(12, some (nI x1249))] [0, 1, 5, 6, 9, 10, 109, 110, 111, 112, 117, 118, 119] #[true, true, true, true, true, true, true, true, true, true, true, true, true] (by rfl) hF1262 (by kernel_rfl) (by kernel_rfl) (by exact ⟨fun wS hw => by kernel_rfl, trivial⟩) (fun _ _ _ _ _ h => h) ⟨_, hS1261.pick2⟩ rfl ?_
   intro a1264 hF1263; clear hF1262
   refine any_done (by kernel_rfl) ?_
   refine thenN (wp_seq ?_)
   -- draws
   obtain ⟨hc1265, hm1266⟩ := ifTE hm1251; clear hm1251
   obtain ⟨g1267, rfl⟩ := hp91.resolve_left (by have := inR_spec hc1265; omega)
   obtain ⟨hc1268, hm1269⟩ := ifTE hm1266; clear hm1266
   have hS1270 := hS1261.pick6
   clear hS1261
   have hS1271 := hS1270.drew; clear hS1270
   refine any_start (fun wS => ∃ qs, St w0 F0 (RowP (nS g1267 L77 c90) L77 :: qs) wS) 11 #[false, false, false, false, false, false, false, false, false, false, false] (by kernel_rfl) (by kernel_rfl) (by kernel_rfl) ?_
   refine any_many 9 [(0, some (nS g1267 L77 c90)), (1, some (nP g1267 ((0 : Int).toNat))), (2, some (nI (atI L77 (0 : Int)))), (3, some (nS g1267 L77 c90)), (4, some (nI x5)), (5, some (nI (IntKind.i64.wrap (x5 - 1)))), (6, some (nP g1267 ((IntKind.i64.wrap (x5 - 1)).toNat))), (7, some (nI (atI L77 (IntKind.i64.wrap (x5 - 1))))), (8, some (.agg #[nI 0, nI 0, nI 0, nI 0, nI (-1), nI (atI L77 (0 : Int)), nI (atI L77 (IntKind.i64.wrap (x5 - 1))), nI (-1), nI (-1)]))] [0, 1, 5, 6, 9, 10, 11, 69, 109, 110, 111, 112, 117, 118, 119] #[true, true, true, true, true, true, true, true, true, false, false] (by rfl) hF1263 (by kernel_rfl) (by kernel_rfl) (by exact ⟨fun wS hw => by kernel_rfl, fun wS hw => run_idx rfl rfl rfl rfl rfl (inR_spec hc1265).1 (inR_spec hc1265).2 _, fun wS hw => run_load1 rfl rfl rfl (hw.elim fun qs hw => hw.atI 0 rfl hc1265), fun wS hw => by kernel_rfl, fun wS hw => by kernel_rfl, fun wS hw => by kernel_rfl, fun wS hw => run_idx rfl rfl rfl rfl rfl (inR_spec hc1268).1 (inR_spec hc1268).2 _, fun wS hw => run_load1 rfl rfl rfl (hw.elim fun qs hw => hw.atI 0 rfl hc1268), fun wS hw => by kernel_rfl, trivial⟩) (fun _ _ _ _ _ h => h) ⟨_, hS1271⟩ rfl ?_
   intro a1273 hF1272; clear hF1263
   refine any_one 9 (by kernel_rfl) ?_
   have hS1274 : St w0 F0 (BlkP ((w1259.drew).heap.size) 37 #[nI 0, nI 0, nI 0, nI 0, nI 0, nI 0, nI 0, nI 0, nI 0] :: RowP (nS g1267 L77 c90) L77 :: BlkP ((w84.drew).heap.size) 37 #[nI (q1248.cap), nI (q1248.closed), nI (q1248.count), nI (q1248.start), nI (q1248.buf), nI (q1248.th), nI (q1248.tt), nI (q1248.sh), nI (q1248.st)] :: HeapP z25 z26 s1239 :: BlkP z24 52 #[nP z25 0, nP z27 0, .slice p39 L16.length c40, .slice p43 L17.length c44] :: RHeapP z27 z28 z29 z30 z31 s1240 :: RowP (.slice p39 L16.length c40) L16 :: RowP (.slice p43 L17.length c44) L17 :: ps) ((w1259.drew).alloc (.cells #[nI 0, nI 0, nI 0, nI 0, nI 0, nI 0, nI 0, nI 0, nI 0] 37)) := St.new hS1271 #[nI 0, nI 0, nI 0, nI 0, nI 0, nI 0, nI 0, nI 0, nI 0] 37
   clear hS1271
   refine op_step 9 #[true, true, true, true, true, true, true, true, true, true, false] (nB (w1259.drew)) ((w1259.drew).alloc (.cells #[nI 0, nI 0, nI 0, nI 0, nI 0, nI 0, nI 0, nI 0, nI 0] 37)) hF1272 rfl (by kernel_rfl) rfl (by kernel_rfl) (by kernel_rfl) rfl ⟨_, hS1274.pick1⟩ (by kernel_rfl) ?_
   intro a1276 hF1275; clear hF1272
   refine any_one 10 (by kernel_rfl) ?_
   refine op_store 10 #[true, true, true, true, true, true, true, true, true, true, true] (.agg #[nI 0, nI 0, nI 0, nI 0, nI (-1), nI (atI L77 (0 : Int)), nI (atI L77 (IntKind.i64.wrap (x5 - 1))), nI (-1), nI (-1)]) #[nI 0, nI 0, nI 0, nI 0, nI (-1), nI (atI L77 (0 : Int)), nI (atI L77 (IntKind.i64.wrap (x5 - 1))), nI (-1), nI (-1)] hF1275 rfl (by kernel_rfl) rfl rfl rfl rfl (by kernel_rfl) hS1274 (by kernel_rfl) (by kernel_rfl) (by kernel_rfl) rfl (by kernel_rfl) ?_
   intro w1277 a1278 hS1279 hF1280; clear hF1275 hS1274
   refine ⟨⟨_, hS1279.pick1⟩, ?_⟩
   refine any_done (by kernel_rfl) ?_
   have hF1281 := hF1280.keep [0, 1, 5, 6, 9, 10, 11]
   clear hF1280
   refine thenN (wp_seq (wp_seq (wp_region_lit ?_)))
   refine ev_runK 1 hF1281 [0, 5, 6, 9, 10, 11, 70] (l' := [(70, .bool (i1)), (11, nB (w1259.drew)), (10, nI x1249), (9, nB (w84.drew)), (6, nS g1267 L77 c90), (5, nP z24 0), (0, nI x5)]) (w' := w1277) (by kernel_rfl) ?_
   intro a1283 hF1282; clear hF1281
   refine wpList_nil (thenN ?_)
   cases hc1284 : (i1)
   case true =>
    rw [hc1284] at hF1282
    rw [hc1284] at hm1269
    have hm1285 := ifT hm1269; clear hm1269
    refine ev_condT hF1282 rfl rfl ?_
    -- draws
    have hS1286 := hS1279.pick1
    clear hS1279
    have hS1287 := hS1286.drew; clear hS1286
    refine any_start (fun wS => ∃ qs, St w0 F0 (RowP (nS g1267 L77 c90) L77 :: qs) wS) 10 #[false, false, false, false, false, false, false, false, false, false] (by kernel_rfl) (by kernel_rfl) (by kernel_rfl) ?_
    refine any_many 9 [(0, some (nS g1267 L77 c90)), (1, some (nP g1267 ((0 : Int).toNat))), (2, some (nI (atI L77 (0 : Int)))), (3, some (nS g1267 L77 c90)), (4, some (nI x5)), (5, some (nI (IntKind.i64.wrap (x5 - 1)))), (6, some (nP g1267 ((IntKind.i64.wrap (x5 - 1)).toNat))), (7, some (nI (atI L77 (IntKind.i64.wrap (x5 - 1))))), (8, some (.agg #[nI 0, nI 0, nI 0, nI 0, nI (-1), nI (-1), nI (-1), nI (atI L77 (0 : Int)), nI (atI L77 (IntKind.i64.wrap (x5 - 1)))]))] [0, 5, 6, 9, 10, 11, 79, 109, 110, 111, 112, 117, 118, 119] #[true, true, true, true, true, true, true, true, true, false] (by rfl) hF1282 (by kernel_rfl) (by kernel_rfl) (by exact ⟨fun wS hw => by kernel_rfl, fun wS hw => run_idx rfl rfl rfl rfl rfl (inR_spec hc1265).1 (inR_spec hc1265).2 _, fun wS hw => run_load1 rfl rfl rfl (hw.elim fun qs hw => hw.atI 0 rfl hc1265), fun wS hw => by kernel_rfl, fun wS hw => by kernel_rfl, fun wS hw => by kernel_rfl, fun wS hw => run_idx rfl rfl rfl rfl rfl (inR_spec hc1268).1 (inR_spec hc1268).2 _, fun wS hw => run_load1 rfl rfl rfl (hw.elim fun qs hw => hw.atI 0 rfl hc1268), fun wS hw => by kernel_rfl, trivial⟩) (fun _ _ _ _ _ h => h) ⟨_, hS1287⟩ rfl ?_
    intro a1289 hF1288; clear hF1282
    refine any_one 9 (by kernel_rfl) ?_
    have hS1290 := hS1287.pick1
    clear hS1287
    refine op_store 9 #[true, true, true, true, true, true, true, true, true, true] (.agg #[nI 0, nI 0, nI 0, nI 0, nI (-1), nI (-1), nI (-1), nI (atI L77 (0 : Int)), nI (atI L77 (IntKind.i64.wrap (x5 - 1)))]) #[nI 0, nI 0, nI 0, nI 0, nI (-1), nI (-1), nI (-1), nI (atI L77 (0 : Int)), nI (atI L77 (IntKind.i64.wrap (x5 - 1)))] hF1288 rfl (by kernel_rfl) rfl rfl rfl rfl (by kernel_rfl) hS1290 (by kernel_rfl) (by kernel_rfl) (by kernel_rfl) rfl (by kernel_rfl) ?_
    intro w1291 a1292 hS1293 hF1294; clear hF1288 hS1290
    refine ⟨⟨_, hS1293.pick1⟩, ?_⟩
    refine any_done (by kernel_rfl) ?_
    have hF1295 := hF1294.keep [0, 5, 6, 9, 10, 11]
    clear hF1294
    refine thenN (wp_seq (wp_seq (wp_region_lit ?_)))
    refine ev_runs 1 hF1295 (l' := [(12, nI 0), (11, nB (w1259.drew)), (10, nI x1249), (9, nB (w84.drew)), (6, nS g1267 L77 c90), (5, nP z24 0), (0, nI x5)]) (w' := w1291) (by kernel_rfl) ?_
    intro a1297 hF1296; clear hF1295
    refine wpList_nil (thenN ?_)
    refine wp_block ?_
    refine wp_loop_ghost (fun kI aI wI => ∃ (x1298 : Int), Fr 121 aI [(12, nI x1298), (11, nB (w1259.drew)), (10, nI x1249), (9, nB (w84.drew)), (6, nS g1267 L77 c90), (5, nP z24 0), (0, nI x5)] ∧ St w0 F0 (BlkP ((w1259.drew).heap.size) 37 #[nI 0, nI 0, nI 0, nI 0, nI (-1), nI (-1), nI (-1), nI (atI L77 (0 : Int)), nI (atI L77 (IntKind.i64.wrap (x5 - 1)))] :: RowP (nS g1267 L77 c90) L77 :: BlkP ((w84.drew).heap.size) 37 #[nI (q1248.cap), nI (q1248.closed), nI (q1248.count), nI (q1248.start), nI (q1248.buf), nI (q1248.th), nI (q1248.tt), nI (q1248.sh), nI (q1248.st)] :: HeapP z25 z26 s1239 :: BlkP z24 52 #[nP z25 0, nP z27 0, .slice p39 L16.length c40, .slice p43 L17.length c44] :: RHeapP z27 z28 z29 z30 z31 s1240 :: RowP (.slice p39 L16.length c40) L16 :: RowP (.slice p43 L17.length c44) L17 :: ps) wI ∧ ListEnds.l2 x5 L77 s1239 q1248 x1249 kI x1298 = some r0) k ⟨0, hF1296, hS1293, hm1285⟩ ?_
    rintro k1299 a1300 w1301 ⟨x1298, hF1302, hS1303, hm1304⟩
    clear hF1296 hS1293 hm1285
    rcases k1299 with _ | k1299
    · cases hm1304
    have hm1305 : ListEnds.l2b x5 L77 s1239 q1248 x1249 (ListEnds.l2 x5 L77 s1239 q1248 x1249 k1299) x1298 = some r0 := hm1304
    clear hm1304
    unfold ListEnds.l2b at hm1305
    refine wp_seq (wp_seq (wp_region_lit ?_))
    refine ev_runK 3 hF1302 [0, 5, 6, 9, 10, 11, 12, 82] (l' := [(82, .bool (decide (x1298 < x5))), (12, nI x1298), (11, nB (w1259.drew)), (10, nI x1249), (9, nB (w84.drew)), (6, nS g1267 L77 c90), (5, nP z24 0), (0, nI x5)]) (w' := w1301) (by kernel_rfl) ?_
    intro a1307 hF1306; clear hF1302
    refine wpList_nil (thenN ?_)
    cases hc1308 : (decide (x1298 < x5))
    case true =>
     rw [hc1308] at hF1306
     rw [hc1308] at hm1305
     have hm1309 := ifT hm1305; clear hm1305
     refine ev_condT hF1306 rfl rfl ?_
     refine wp_skip ?_
     have hF1310 := hF1306.keep [0, 5, 6, 9, 10, 11, 12]
     clear hF1306
     refine thenN (wp_seq ?_)
     refine wp_block ?_
     refine wp_seq ?_
     -- draws
     obtain ⟨hc1311, hm1312⟩ := ifTE hm1309; clear hm1309
     have hS1313 := hS1303.pick1.pick4
     clear hS1303
     have hS1314 := hS1313.drew; clear hS1313
     refine any_start (fun wS => ∃ qs, St w0 F0 (BlkP z24 52 #[nP z25 0, nP z27 0, .slice p39 L16.length c40, .slice p43 L17.length c44] :: RowP (nS g1267 L77 c90) L77 :: qs) wS) 15 #[false, false, false, false, false, false, false, false, false, false, false, false, false, false, false] (by kernel_rfl) (by kernel_rfl) (by kernel_rfl) ?_
     refine any_many 8 [(0, some (nP z24 0)), (1, some (nP z24 0)), (2, some (nP z24 0)), (3, some (nP z25 0)), (4, some (nS g1267 L77 c90)), (5, some (nI x1298)), (6, some (nP g1267 (x1298.toNat))), (7, some (nI (atI L77 x1298)))] [0, 5, 6, 9, 10, 11, 12, 13, 14, 85, 89, 93, 94, 95, 96, 109, 110, 111, 112, 117, 118, 119] #[true, true, true, true, true, true, true, true, false, false, false, false, false, false, false] (by rfl) hF1310 (by kernel_rfl) (by kernel_rfl) (by exact ⟨fun wS hw => by kernel_rfl, fun wS hw => by kernel_rfl, fun wS hw => by kernel_rfl, fun wS hw => hw.elim fun qs hw => run_loadV rfl rfl (run_loadS rfl rfl (hw.cell 0 rfl 0 rfl)), fun wS hw => by kernel_rfl, fun wS hw => by kernel_rfl, fun wS hw => run_idx rfl rfl rfl rfl rfl (inR_spec hc1311).1 (inR_spec hc1311).2 _, fun wS hw => run_load1 rfl rfl rfl (hw.elim fun qs hw => hw.atI 1 rfl hc1311), trivial⟩) (fun _ _ _ _ _ h => h) ⟨_, hS1314⟩ rfl ?_
     intro a1316 hF1315; clear hF1310
     refine any_two 8 12 (by kernel_rfl) ?_ ?_
     · skip
       have hS1317 := hS1314.pick4
       clear hS1314
       refine op_call 8 #[true, true, true, true, true, true, true, true, true, false, false, false, false, false, false] 29 #[nP z25 0, nI (atI L77 x1298)] hF1315 rfl rfl rfl (by kernel_rfl) rfl (by kernel_rfl) (fun w => by kernel_rfl) (by kernel_rfl) ?_
       obtain ⟨q1318, x1319, hx1320, hm1321⟩ := bind2E hm1312; clear hm1312
       refine (p_Sudog hS1317 hx1320).mono ?_
       rintro _ w1322 ⟨rfl, hS1324⟩; clear hS1317
       refine ⟨⟨_, hS1324.pick2.pick2⟩, ?_⟩
       intro a1323 hF1325; clear hF1315
       refine any_many 3 [(9, some (.tuple #[.agg #[nI (q1318.gor), nI (q1318.chan), nI (q1318.value), nI (q1318.next), nI (q1318.to), nI (q1318.reg), nI (q1318.more)], nI x1319])), (10, some (.agg #[nI (q1318.gor), nI (q1318.chan), nI (q1318.value), nI (q1318.next), nI (q1318.to), nI (q1318.reg), nI (q1318.more)])), (11, some (nI x1319))] [0, 5, 6, 9, 10, 11, 12, 13, 14, 95, 96, 109, 110, 111, 112, 117, 118, 119] #[true, true, true, true, true, true, true, true, true, true, true, true, false, false, false] (by rfl) hF1325 (by kernel_rfl) (by kernel_rfl) (by exact ⟨fun wS hw => by kernel_rfl, fun wS hw => by kernel_rfl, fun wS hw => by kernel_rfl, trivial⟩) (fun _ _ _ _ _ h => h) ⟨_, hS1324.pick2.pick2⟩ rfl ?_
       intro a1327 hF1326; clear hF1325
       refine any_one 12 (by kernel_rfl) ?_
       have hS1328 : St w0 F0 (BlkP (w1322.heap.size) 54 #[nI 0, nI 0, nI 0, nI 0, nI 0, nI 0, nI 0] :: HeapP z25 z26 s1239 :: BlkP z24 52 #[nP z25 0, nP z27 0, .slice p39 L16.length c40, .slice p43 L17.length c44] :: RowP (nS g1267 L77 c90) L77 :: BlkP ((w1259.drew).heap.size) 37 #[nI 0, nI 0, nI 0, nI 0, nI (-1), nI (-1), nI (-1), nI (atI L77 (0 : Int)), nI (atI L77 (IntKind.i64.wrap (x5 - 1)))] :: BlkP ((w84.drew).heap.size) 37 #[nI (q1248.cap), nI (q1248.closed), nI (q1248.count), nI (q1248.start), nI (q1248.buf), nI (q1248.th), nI (q1248.tt), nI (q1248.sh), nI (q1248.st)] :: RHeapP z27 z28 z29 z30 z31 s1240 :: RowP (.slice p39 L16.length c40) L16 :: RowP (.slice p43 L17.length c44) L17 :: ps) (w1322.alloc (.cells #[nI 0, nI 0, nI 0, nI 0, nI 0, nI 0, nI 0] 54)) := St.new hS1324 #[nI 0, nI 0, nI 0, nI 0, nI 0, nI 0, nI 0] 54
       clear hS1324
       refine op_step 12 #[true, true, true, true, true, true, true, true, true, true, true, true, true, false, false] (nB w1322) (w1322.alloc (.cells #[nI 0, nI 0, nI 0, nI 0, nI 0, nI 0, nI 0] 54)) hF1326 rfl (by kernel_rfl) rfl (by kernel_rfl) (by kernel_rfl) rfl ⟨_, hS1328.pick3.pick3⟩ (by kernel_rfl) ?_
       intro a1330 hF1329; clear hF1326
       refine any_one 13 (by kernel_rfl) ?_
       refine op_store 13 #[true, true, true, true, true, true, true, true, true, true, true, true, true, true, false] (.agg #[nI (q1318.gor), nI (q1318.chan), nI (q1318.value), nI (q1318.next), nI (q1318.to), nI (q1318.reg), nI (q1318.more)]) #[nI (q1318.gor), nI (q1318.chan), nI (q1318.value), nI (q1318.next), nI (q1318.to), nI (q1318.reg), nI (q1318.more)] hF1329 rfl (by kernel_rfl) rfl rfl rfl rfl (by kernel_rfl) hS1328 (by kernel_rfl) (by kernel_rfl) (by kernel_rfl) rfl (by kernel_rfl) ?_
       intro w1331 a1332 hS1333 hF1334; clear hF1329 hS1328
       refine ⟨⟨_, hS1333.pick3.pick3⟩, ?_⟩
       refine any_many 1 [(14, some (nI x1319))] [0, 5, 6, 9, 10, 11, 12, 13, 14, 109, 110, 111, 112, 117, 118, 119] #[true, true, true, true, true, true, true, true, true, true, true, true, true, true, true] (by rfl) hF1334 (by kernel_rfl) (by kernel_rfl) (by exact ⟨fun wS hw => by kernel_rfl, trivial⟩) (fun _ _ _ _ _ h => h) ⟨_, hS1333.pick3.pick3⟩ rfl ?_
       intro a1336 hF1335; clear hF1334
       refine any_done (by kernel_rfl) ?_
       refine thenN (wp_seq (wp_region_lit ?_))
       refine ev_runs 1 hF1335 (l' := [(15, nI (-1)), (14, nI x1319), (13, nB w1322), (12, nI x1298), (11, nB (w1259.drew)), (10, nI x1249), (9, nB (w84.drew)), (6, nS g1267 L77 c90), (5, nP z24 0), (0, nI x5)]) (w' := w1331) (by kernel_rfl) ?_
       intro a1338 hF1337; clear hF1335
       refine wpList_nil (thenN (wp_seq (wp_seq (wp_region_lit ?_))))
       refine ev_runK 4 hF1337 [0, 5, 6, 9, 10, 11, 12, 13, 14, 15, 100] (l' := [(100, .bool (decide ((IntKind.i64.wrap (x1298 + 1)) < x5))), (15, nI (-1)), (14, nI x1319), (13, nB w1322), (12, nI x1298), (11, nB (w1259.drew)), (10, nI x1249), (9, nB (w84.drew)), (6, nS g1267 L77 c90), (5, nP z24 0), (0, nI x5)]) (w' := w1331) (by kernel_rfl) ?_
       intro a1340 hF1339; clear hF1337
       refine wpList_nil (thenN ?_)
       cases hc1341 : (decide ((IntKind.i64.wrap (x1298 + 1)) < x5))
       case true =>
        rw [hc1341] at hF1339
        rw [hc1341] at hm1321
        have hm1342 := ifT hm1321; clear hm1321
        refine ev_condT hF1339 rfl rfl ?_
        refine wp_region_lit ?_
        refine ev_runs 3 hF1339 (l' := [(103, nI (IntKind.i64.wrap (x1298 + 1))), (102, nI x1298), (101, nS g1267 L77 c90), (100, .bool true), (15, nI (-1)), (14, nI x1319), (13, nB w1322), (12, nI x1298), (11, nB (w1259.drew)), (10, nI x1249), (9, nB (w84.drew)), (6, nS g1267 L77 c90), (5, nP z24 0), (0, nI x5)]) (w' := w1331) (by kernel_rfl) ?_
        intro a1344 hF1343; clear hF1339
        obtain ⟨hc1345, hm1346⟩ := ifTE hm1342; clear hm1342
        refine ev_one (nP g1267 ((IntKind.i64.wrap (x1298 + 1)).toNat)) w1331 hF1343 (by kernel_rfl) rfl (by kernel_rfl) (run_idx rfl rfl rfl rfl rfl (inR_spec hc1345).1 (inR_spec hc1345).2 _) rfl ?_
        intro a1348 hF1347; clear hF1343
        refine ev_one (nI (atI L77 (IntKind.i64.wrap (x1298 + 1)))) w1331 hF1347 (by kernel_rfl) rfl (by kernel_rfl) (run_load1 rfl rfl rfl (hS1333.atI 3 rfl hc1345)) rfl ?_
        intro a1350 hF1349; clear hF1347
        refine ev_runK 1 hF1349 [0, 5, 6, 9, 10, 11, 12, 13, 14, 15] (l' := [(15, nI (atI L77 (IntKind.i64.wrap (x1298 + 1)))), (14, nI x1319), (13, nB w1322), (12, nI x1298), (11, nB (w1259.drew)), (10, nI x1249), (9, nB (w84.drew)), (6, nS g1267 L77 c90), (5, nP z24 0), (0, nI x5)]) (w' := w1331) (by kernel_rfl) ?_
        intro a1352 hF1351; clear hF1349
        refine wpList_nil (thenN (wp_seq (wp_region_lit ?_)))
        refine ev_runs 3 hF1351 (l' := [(108, .bool (x1319 != 0)), (107, .bool (x1319 != 0)), (106, nI x1319), (15, nI (atI L77 (IntKind.i64.wrap (x1298 + 1)))), (14, nI x1319), (13, nB w1322), (12, nI x1298), (11, nB (w1259.drew)), (10, nI x1249), (9, nB (w84.drew)), (6, nS g1267 L77 c90), (5, nP z24 0), (0, nI x5)]) (w' := w1331) (by kernel_rfl) ?_
        intro a1354 hF1353; clear hF1351
        cases hc1355 : (x1319 != 0)
        case true =>
         rw [hc1355] at hF1353
         rw [hc1355] at hm1346
         have hm1356 := ifT hm1346; clear hm1346
         refine ev_runK 5 hF1353 [0, 5, 6, 9, 10, 11, 12, 109, 110, 111, 112, 113] (l' := [(113, .bool true), (112, .tuple #[]), (111, .tuple #[]), (110, .tuple #[]), (109, .tuple #[]), (12, nI x1298), (11, nB (w1259.drew)), (10, nI x1249), (9, nB (w84.drew)), (6, nS g1267 L77 c90), (5, nP z24 0), (0, nI x5)]) (w' := w1331) (by kernel_rfl) ?_
         intro a1358 hF1357; clear hF1353
         refine wpList_nil ?_
         have hS1359 := hS1333.drop
         clear hS1333
         refine thenN ?_
         refine ev_condT hF1357 rfl rfl ?_
         refine wp_seq (wp_region_lit ?_)
         refine ev_runK 1 hF1357 [4] (l' := [(4, .bool false)]) (w' := w1331) (by kernel_rfl) ?_
         intro a1361 hF1360; clear hF1357
         refine wpList_nil ?_
         have hS1362 := hS1359.drop.drop.drop.drop.drop.drop.drop.drop
         clear hS1359
         refine thenN ?_
         refine wp_ret ?_
         refine blockR ?_
         refine thenR (thenR ?_)
         refine blockR ?_
         refine thenR ?_
         obtain rfl := Option.some.inj hm1356
         refine ev_ret hF1360 [4] (.bool false) rfl rfl rfl ?_
         exact ⟨rfl, hS1362⟩
        rw [hc1355] at hF1353
        rw [hc1355] at hm1346
        have hm1364 := ifF hm1346; clear hm1346
        refine ev_runs 1 hF1353 (l' := [(109, nP (w1322.heap.size) 3), (108, .bool false), (107, .bool false), (106, nI x1319), (15, nI (atI L77 (IntKind.i64.wrap (x1298 + 1)))), (14, nI x1319), (13, nB w1322), (12, nI x1298), (11, nB (w1259.drew)), (10, nI x1249), (9, nB (w84.drew)), (6, nS g1267 L77 c90), (5, nP z24 0), (0, nI x5)]) (w' := w1331) (by kernel_rfl) ?_
        intro a1366 hF1365; clear hF1353
        refine ev_one (nI (q1318.next)) w1331 hF1365 (by kernel_rfl) rfl (by kernel_rfl) (run_loadV rfl rfl (run_loadS rfl rfl (hS1333.cell 0 rfl 3 rfl))) rfl ?_
        intro a1368 hF1367; clear hF1365
        refine ev_runK 3 hF1367 [0, 5, 6, 9, 10, 11, 12, 109, 110, 111, 112, 113] (l' := [(113, .bool (q1318.next != (atI L77 (IntKind.i64.wrap (x1298 + 1))))), (112, .bool (q1318.next != (atI L77 (IntKind.i64.wrap (x1298 + 1))))), (111, nI (atI L77 (IntKind.i64.wrap (x1298 + 1)))), (110, nI (q1318.next)), (109, nP (w1322.heap.size) 3), (12, nI x1298), (11, nB (w1259.drew)), (10, nI x1249), (9, nB (w84.drew)), (6, nS g1267 L77 c90), (5, nP z24 0), (0, nI x5)]) (w' := w1331) (by kernel_rfl) ?_
        intro a1370 hF1369; clear hF1367
        refine wpList_nil (thenN ?_)
        cases hc1371 : (q1318.next != (atI L77 (IntKind.i64.wrap (x1298 + 1))))
        case true =>
         rw [hc1371] at hF1369
         rw [hc1371] at hm1364
         have hm1372 := ifT hm1364; clear hm1364
         refine ev_condT hF1369 rfl rfl ?_
         refine wp_seq (wp_region_lit ?_)
         refine ev_runK 1 hF1369 [4] (l' := [(4, .bool false)]) (w' := w1331) (by kernel_rfl) ?_
         intro a1374 hF1373; clear hF1369
         refine wpList_nil ?_
         have hS1375 := hS1333.drop.drop.drop.drop.drop.drop.drop.drop.drop
         clear hS1333
         refine thenN ?_
         refine wp_ret ?_
         refine blockR ?_
         refine thenR (thenR ?_)
         refine blockR ?_
         refine thenR ?_
         obtain rfl := Option.some.inj hm1372
         refine ev_ret hF1373 [4] (.bool false) rfl rfl rfl ?_
         exact ⟨rfl, hS1375⟩
        rw [hc1371] at hF1369
        rw [hc1371] at hm1364
        have hm1377 := ifF hm1364; clear hm1364
        refine ev_condF hF1369 rfl rfl ?_
        refine wp_skip ?_
        have hF1378 := hF1369.keep [0, 5, 6, 9, 10, 11, 12, 109, 110, 111, 112]
        clear hF1369
        refine blockN ?_
        refine thenN (wp_region_lit ?_)
        refine ev_runK 3 hF1378 [0, 5, 6, 9, 10, 11, 12, 109, 110, 111, 112] (l' := [(12, nI (IntKind.i64.wrap (x1298 + 1))), (112, .bool false), (111, nI (atI L77 (IntKind.i64.wrap (x1298 + 1)))), (110, nI (q1318.next)), (109, nP (w1322.heap.size) 3), (11, nB (w1259.drew)), (10, nI x1249), (9, nB (w84.drew)), (6, nS g1267 L77 c90), (5, nP z24 0), (0, nI x5)]) (w' := w1331) (by kernel_rfl) ?_
        intro a1380 hF1379; clear hF1378
        refine wpList_nil ?_
        have hF1381 : Fr 121 a1380 [(12, nI (IntKind.i64.wrap (x1298 + 1))), (11, nB (w1259.drew)), (10, nI x1249), (9, nB (w84.drew)), (6, nS g1267 L77 c90), (5, nP z24 0), (0, nI x5)] := Fr.re hF1379 (by kernel_rfl)
        clear hF1379
        have hS1382 := hS1333.drop.pick7.pick7.pick7.pick4.pick4.pick7.pick6.pick7
        clear hS1333
        exact thenN ⟨k1299, Nat.lt_succ_self _, IntKind.i64.wrap (x1298 + 1), hF1381, hS1382, hm1377⟩
       rw [hc1341] at hF1339
       rw [hc1341] at hm1321
       have hm1383 := ifF hm1321; clear hm1321
       refine ev_condF hF1339 rfl rfl ?_
       refine wp_skip ?_
       have hF1384 := hF1339.keep [0, 5, 6, 9, 10, 11, 12, 13, 14, 15]
       clear hF1339
       refine thenN (wp_seq (wp_region_lit ?_))
       refine ev_runs 3 hF1384 (l' := [(108, .bool (x1319 != 0)), (107, .bool (x1319 != 0)), (106, nI x1319), (15, nI (-1)), (14, nI x1319), (13, nB w1322), (12, nI x1298), (11, nB (w1259.drew)), (10, nI x1249), (9, nB (w84.drew)), (6, nS g1267 L77 c90), (5, nP z24 0), (0, nI x5)]) (w' := w1331) (by kernel_rfl) ?_
       intro a1386 hF1385; clear hF1384
       cases hc1387 : (x1319 != 0)
       case true =>
        rw [hc1387] at hF1385
        rw [hc1387] at hm1383
        have hm1388 := ifT hm1383; clear hm1383
        refine ev_runK 5 hF1385 [0, 5, 6, 9, 10, 11, 12, 109, 110, 111, 112, 113] (l' := [(113, .bool true), (112, .tuple #[]), (111, .tuple #[]), (110, .tuple #[]), (109, .tuple #[]), (12, nI x1298), (11, nB (w1259.drew)), (10, nI x1249), (9, nB (w84.drew)), (6, nS g1267 L77 c90), (5, nP z24 0), (0, nI x5)]) (w' := w1331) (by kernel_rfl) ?_
        intro a1390 hF1389; clear hF1385
        refine wpList_nil ?_
        have hS1391 := hS1333.drop
        clear hS1333
        refine thenN ?_
        refine ev_condT hF1389 rfl rfl ?_
        refine wp_seq (wp_region_lit ?_)
        refine ev_runK 1 hF1389 [4] (l' := [(4, .bool false)]) (w' := w1331) (by kernel_rfl) ?_
        intro a1393 hF1392; clear hF1389
        refine wpList_nil ?_
        have hS1394 := hS1391.drop.drop.drop.drop.drop.drop.drop.drop
        clear hS1391
        refine thenN ?_
        refine wp_ret ?_
        refine blockR ?_
        refine thenR (thenR ?_)
        refine blockR ?_
        refine thenR ?_
        obtain rfl := Option.some.inj hm1388
        refine ev_ret hF1392 [4] (.bool false) rfl rfl rfl ?_
        exact ⟨rfl, hS1394⟩
       rw [hc1387] at hF1385
       rw [hc1387] at hm1383
       have hm1396 := ifF hm1383; clear hm1383
       refine ev_runs 1 hF1385 (l' := [(109, nP (w1322.heap.size) 3), (108, .bool false), (107, .bool false), (106, nI x1319), (15, nI (-1)), (14, nI x1319), (13, nB w1322), (12, nI x1298), (11, nB (w1259.drew)), (10, nI x1249), (9, nB (w84.drew)), (6, nS g1267 L77 c90), (5, nP z24 0), (0, nI x5)]) (w' := w1331) (by kernel_rfl) ?_
       intro a1398 hF1397; clear hF1385
       refine ev_one (nI (q1318.next)) w1331 hF1397 (by kernel_rfl) rfl (by kernel_rfl) (run_loadV rfl rfl (run_loadS rfl rfl (hS1333.cell 0 rfl 3 rfl))) rfl ?_
       intro a1400 hF1399; clear hF1397
       refine ev_runK 3 hF1399 [0, 5, 6, 9, 10, 11, 12, 109, 110, 111, 112, 113] (l' := [(113, .bool (q1318.next != (-1))), (112, .bool (q1318.next != (-1))), (111, nI (-1)), (110, nI (q1318.next)), (109, nP (w1322.heap.size) 3), (12, nI x1298), (11, nB (w1259.drew)), (10, nI x1249), (9, nB (w84.drew)), (6, nS g1267 L77 c90), (5, nP z24 0), (0, nI x5)]) (w' := w1331) (by kernel_rfl) ?_
       intro a1402 hF1401; clear hF1399
       refine wpList_nil (thenN ?_)
       cases hc1403 : (q1318.next != (-1))
       case true =>
        rw [hc1403] at hF1401
        rw [hc1403] at hm1396
        have hm1404 := ifT hm1396; clear hm1396
        refine ev_condT hF1401 rfl rfl ?_
        refine wp_seq (wp_region_lit ?_)
        refine ev_runK 1 hF1401 [4] (l' := [(4, .bool false)]) (w' := w1331) (by kernel_rfl) ?_
        intro a1406 hF1405; clear hF1401
        refine wpList_nil ?_
        have hS1407 := hS1333.drop.drop.drop.drop.drop.drop.drop.drop.drop
        clear hS1333
        refine thenN ?_
        refine wp_ret ?_
        refine blockR ?_
        refine thenR (thenR ?_)
        refine blockR ?_
        refine thenR ?_
        obtain rfl := Option.some.inj hm1404
        refine ev_ret hF1405 [4] (.bool false) rfl rfl rfl ?_
        exact ⟨rfl, hS1407⟩
       rw [hc1403] at hF1401
       rw [hc1403] at hm1396
       have hm1409 := ifF hm1396; clear hm1396
       refine ev_condF hF1401 rfl rfl ?_
       refine wp_skip ?_
       have hF1410 := hF1401.keep [0, 5, 6, 9, 10, 11, 12, 109, 110, 111, 112]
       clear hF1401
       refine blockN ?_
       refine thenN (wp_region_lit ?_)
       refine ev_runK 3 hF1410 [0, 5, 6, 9, 10, 11, 12, 109, 110, 111, 112] (l' := [(12, nI (IntKind.i64.wrap (x1298 + 1))), (112, .bool false), (111, nI (-1)), (110, nI (q1318.next)), (109, nP (w1322.heap.size) 3), (11, nB (w1259.drew)), (10, nI x1249), (9, nB (w84.drew)), (6, nS g1267 L77 c90), (5, nP z24 0), (0, nI x5)]) (w' := w1331) (by kernel_rfl) ?_
       intro a1412 hF1411; clear hF1410
       refine wpList_nil ?_
       have hF1413 : Fr 121 a1412 [(12, nI (IntKind.i64.wrap (x1298 + 1))), (11, nB (w1259.drew)), (10, nI x1249), (9, nB (w84.drew)), (6, nS g1267 L77 c90), (5, nP z24 0), (0, nI x5)] := Fr.re hF1411 (by kernel_rfl)
       clear hF1411
       have hS1414 := hS1333.drop.pick7.pick7.pick7.pick4.pick4.pick7.pick6.pick7
       clear hS1333
       exact thenN ⟨k1299, Nat.lt_succ_self _, IntKind.i64.wrap (x1298 + 1), hF1413, hS1414, hm1409⟩
     · skip
       have hS1415 : St w0 F0 (BlkP ((w1301.drew).heap.size) 54 #[nI 0, nI 0, nI 0, nI 0, nI 0, nI 0, nI 0] :: BlkP z24 52 #[nP z25 0, nP z27 0, .slice p39 L16.length c40, .slice p43 L17.length c44] :: RowP (nS g1267 L77 c90) L77 :: BlkP ((w1259.drew).heap.size) 37 #[nI 0, nI 0, nI 0, nI 0, nI (-1), nI (-1), nI (-1), nI (atI L77 (0 : Int)), nI (atI L77 (IntKind.i64.wrap (x5 - 1)))] :: BlkP ((w84.drew).heap.size) 37 #[nI (q1248.cap), nI (q1248.closed), nI (q1248.count), nI (q1248.start), nI (q1248.buf), nI (q1248.th), nI (q1248.tt), nI (q1248.sh), nI (q1248.st)] :: HeapP z25 z26 s1239 :: RHeapP z27 z28 z29 z30 z31 s1240 :: RowP (.slice p39 L16.length c40) L16 :: RowP (.slice p43 L17.length c44) L17 :: ps) ((w1301.drew).alloc (.cells #[nI 0, nI 0, nI 0, nI 0, nI 0, nI 0, nI 0] 54)) := St.new hS1314 #[nI 0, nI 0, nI 0, nI 0, nI 0, nI 0, nI 0] 54
       clear hS1314
       refine op_step 12 #[true, true, true, true, true, true, true, true, false, false, false, false, true, false, false] (nB (w1301.drew)) ((w1301.drew).alloc (.cells #[nI 0, nI 0, nI 0, nI 0, nI 0, nI 0, nI 0] 54)) hF1315 rfl (by kernel_rfl) rfl (by kernel_rfl) (by kernel_rfl) rfl ⟨_, hS1415.pick2.pick2⟩ (by kernel_rfl) ?_
       intro a1417 hF1416; clear hF1315
       have hS1418 := hS1415.pick5
       clear hS1415
       refine any_call 8 #[true, true, true, true, true, true, true, true, true, false, false, false, true, false, false] 29 #[nP z25 0, nI (atI L77 x1298)] hF1416 rfl (by kernel_rfl) rfl rfl (by kernel_rfl) rfl (by kernel_rfl) (fun w => by kernel_rfl) (by kernel_rfl) ?_
       obtain ⟨q1419, x1420, hx1421, hm1422⟩ := bind2E hm1312; clear hm1312
       refine (p_Sudog hS1418 hx1421).mono ?_
       rintro _ w1423 ⟨rfl, hS1425⟩; clear hS1418
       refine ⟨⟨_, hS1425.pick3.pick3⟩, ?_⟩
       intro a1424 hF1426; clear hF1416
       refine any_many 3 [(9, some (.tuple #[.agg #[nI (q1419.gor), nI (q1419.chan), nI (q1419.value), nI (q1419.next), nI (q1419.to), nI (q1419.reg), nI (q1419.more)], nI x1420])), (10, some (.agg #[nI (q1419.gor), nI (q1419.chan), nI (q1419.value), nI (q1419.next), nI (q1419.to), nI (q1419.reg), nI (q1419.more)])), (11, some (nI x1420))] [0, 5, 6, 9, 10, 11, 12, 13, 14, 95, 96, 109, 110, 111, 112, 117, 118, 119] #[true, true, true, true, true, true, true, true, true, true, true, true, true, false, false] (by rfl) hF1426 (by kernel_rfl) (by kernel_rfl) (by exact ⟨fun wS hw => by kernel_rfl, fun wS hw => by kernel_rfl, fun wS hw => by kernel_rfl, trivial⟩) (fun _ _ _ _ _ h => h) ⟨_, hS1425.pick3.pick3⟩ rfl ?_
       intro a1428 hF1427; clear hF1426
       refine any_one 13 (by kernel_rfl) ?_
       have hS1429 := hS1425.pick1
       clear hS1425
       refine op_store 13 #[true, true, true, true, true, true, true, true, true, true, true, true, true, true, false] (.agg #[nI (q1419.gor), nI (q1419.chan), nI (q1419.value), nI (q1419.next), nI (q1419.to), nI (q1419.reg), nI (q1419.more)]) #[nI (q1419.gor), nI (q1419.chan), nI (q1419.value), nI (q1419.next), nI (q1419.to), nI (q1419.reg), nI (q1419.more)] hF1427 rfl (by kernel_rfl) rfl rfl rfl rfl (by kernel_rfl) hS1429 (by kernel_rfl) (by kernel_rfl) (by kernel_rfl) rfl (by kernel_rfl) ?_
       intro w1430 a1431 hS1432 hF1433; clear hF1427 hS1429
       refine ⟨⟨_, hS1432.pick3.pick3⟩, ?_⟩
       refine any_many 1 [(14, some (nI x1420))] [0, 5, 6, 9, 10, 11, 12, 13, 14, 109, 110, 111, 112, 117, 118, 119] #[true, true, true, true, true, true, true, true, true, true, true, true, true, true, true] (by rfl) hF1433 (by kernel_rfl) (by kernel_rfl) (by exact ⟨fun wS hw => by kernel_rfl, trivial⟩) (fun _ _ _ _ _ h => h) ⟨_, hS1432.pick3.pick3⟩ rfl ?_
       intro a1435 hF1434; clear hF1433
       refine any_done (by kernel_rfl) ?_
       refine thenN (wp_seq (wp_region_lit ?_))
       refine ev_runs 1 hF1434 (l' := [(15, nI (-1)), (14, nI x1420), (13, nB (w1301.drew)), (12, nI x1298), (11, nB (w1259.drew)), (10, nI x1249), (9, nB (w84.drew)), (6, nS g1267 L77 c90), (5, nP z24 0), (0, nI x5)]) (w' := w1430) (by kernel_rfl) ?_
       intro a1437 hF1436; clear hF1434
       refine wpList_nil (thenN (wp_seq (wp_seq (wp_region_lit ?_))))
       refine ev_runK 4 hF1436 [0, 5, 6, 9, 10, 11, 12, 13, 14, 15, 100] (l' := [(100, .bool (decide ((IntKind.i64.wrap (x1298 + 1)) < x5))), (15, nI (-1)), (14, nI x1420), (13, nB (w1301.drew)), (12, nI x1298), (11, nB (w1259.drew)), (10, nI x1249), (9, nB (w84.drew)), (6, nS g1267 L77 c90), (5, nP z24 0), (0, nI x5)]) (w' := w1430) (by kernel_rfl) ?_
       intro a1439 hF1438; clear hF1436
       refine wpList_nil (thenN ?_)
       cases hc1440 : (decide ((IntKind.i64.wrap (x1298 + 1)) < x5))
       case true =>
        rw [hc1440] at hF1438
        rw [hc1440] at hm1422
        have hm1441 := ifT hm1422; clear hm1422
        refine ev_condT hF1438 rfl rfl ?_
        refine wp_region_lit ?_
        refine ev_runs 3 hF1438 (l' := [(103, nI (IntKind.i64.wrap (x1298 + 1))), (102, nI x1298), (101, nS g1267 L77 c90), (100, .bool true), (15, nI (-1)), (14, nI x1420), (13, nB (w1301.drew)), (12, nI x1298), (11, nB (w1259.drew)), (10, nI x1249), (9, nB (w84.drew)), (6, nS g1267 L77 c90), (5, nP z24 0), (0, nI x5)]) (w' := w1430) (by kernel_rfl) ?_
        intro a1443 hF1442; clear hF1438
        obtain ⟨hc1444, hm1445⟩ := ifTE hm1441; clear hm1441
        refine ev_one (nP g1267 ((IntKind.i64.wrap (x1298 + 1)).toNat)) w1430 hF1442 (by kernel_rfl) rfl (by kernel_rfl) (run_idx rfl rfl rfl rfl rfl (inR_spec hc1444).1 (inR_spec hc1444).2 _) rfl ?_
        intro a1447 hF1446; clear hF1442
        refine ev_one (nI (atI L77 (IntKind.i64.wrap (x1298 + 1)))) w1430 hF1446 (by kernel_rfl) rfl (by kernel_rfl) (run_load1 rfl rfl rfl (hS1432.atI 3 rfl hc1444)) rfl ?_
        intro a1449 hF1448; clear hF1446
        refine ev_runK 1 hF1448 [0, 5, 6, 9, 10, 11, 12, 13, 14, 15] (l' := [(15, nI (atI L77 (IntKind.i64.wrap (x1298 + 1)))), (14, nI x1420), (13, nB (w1301.drew)), (12, nI x1298), (11, nB (w1259.drew)), (10, nI x1249), (9, nB (w84.drew)), (6, nS g1267 L77 c90), (5, nP z24 0), (0, nI x5)]) (w' := w1430) (by kernel_rfl) ?_
        intro a1451 hF1450; clear hF1448
        refine wpList_nil (thenN (wp_seq (wp_region_lit ?_)))
        refine ev_runs 3 hF1450 (l' := [(108, .bool (x1420 != 0)), (107, .bool (x1420 != 0)), (106, nI x1420), (15, nI (atI L77 (IntKind.i64.wrap (x1298 + 1)))), (14, nI x1420), (13, nB (w1301.drew)), (12, nI x1298), (11, nB (w1259.drew)), (10, nI x1249), (9, nB (w84.drew)), (6, nS g1267 L77 c90), (5, nP z24 0), (0, nI x5)]) (w' := w1430) (by kernel_rfl) ?_
        intro a1453 hF1452; clear hF1450
        cases hc1454 : (x1420 != 0)
        case true =>
         rw [hc1454] at hF1452
         rw [hc1454] at hm1445
         have hm1455 := ifT hm1445; clear hm1445
         refine ev_runK 5 hF1452 [0, 5, 6, 9, 10, 11, 12, 109, 110, 111, 112, 113] (l' := [(113, .bool true), (112, .tuple #[]), (111, .tuple #[]), (110, .tuple #[]), (109, .tuple #[]), (12, nI x1298), (11, nB (w1259.drew)), (10, nI x1249), (9, nB (w84.drew)), (6, nS g1267 L77 c90), (5, nP z24 0), (0, nI x5)]) (w' := w1430) (by kernel_rfl) ?_
         intro a1457 hF1456; clear hF1452
         refine wpList_nil ?_
         have hS1458 := hS1432.drop
         clear hS1432
         refine thenN ?_
         refine ev_condT hF1456 rfl rfl ?_
         refine wp_seq (wp_region_lit ?_)
         refine ev_runK 1 hF1456 [4] (l' := [(4, .bool false)]) (w' := w1430) (by kernel_rfl) ?_
         intro a1460 hF1459; clear hF1456
         refine wpList_nil ?_
         have hS1461 := hS1458.drop.drop.drop.drop.drop.drop.drop.drop
         clear hS1458
         refine thenN ?_
         refine wp_ret ?_
         refine blockR ?_
         refine thenR (thenR ?_)
         refine blockR ?_
         refine thenR ?_
         obtain rfl := Option.some.inj hm1455
         refine ev_ret hF1459 [4] (.bool false) rfl rfl rfl ?_
         exact ⟨rfl, hS1461⟩
        rw [hc1454] at hF1452
        rw [hc1454] at hm1445
        have hm1463 := ifF hm1445; clear hm1445
        refine ev_runs 1 hF1452 (l' := [(109, nP ((w1301.drew).heap.size) 3), (108, .bool false), (107, .bool false), (106, nI x1420), (15, nI (atI L77 (IntKind.i64.wrap (x1298 + 1)))), (14, nI x1420), (13, nB (w1301.drew)), (12, nI x1298), (11, nB (w1259.drew)), (10, nI x1249), (9, nB (w84.drew)), (6, nS g1267 L77 c90), (5, nP z24 0), (0, nI x5)]) (w' := w1430) (by kernel_rfl) ?_
        intro a1465 hF1464; clear hF1452
        refine ev_one (nI (q1419.next)) w1430 hF1464 (by kernel_rfl) rfl (by kernel_rfl) (run_loadV rfl rfl (run_loadS rfl rfl (hS1432.cell 0 rfl 3 rfl))) rfl ?_
        intro a1467 hF1466; clear hF1464
        refine ev_runK 3 hF1466 [0, 5, 6, 9, 10, 11, 12, 109, 110, 111, 112, 113] (l' := [(113, .bool (q1419.next != (atI L77 (IntKind.i64.wrap (x1298 + 1))))), (112, .bool (q1419.next != (atI L77 (IntKind.i64.wrap (x1298 + 1))))), (111, nI (atI L77 (IntKind.i64.wrap (x1298 + 1)))), (110, nI (q1419.next)), (109, nP ((w1301.drew).heap.size) 3), (12, nI x1298), (11, nB (w1259.drew)), (10, nI x1249), (9, nB (w84.drew)), (6, nS g1267 L77 c90), (5, nP z24 0), (0, nI x5)]) (w' := w1430) (by kernel_rfl) ?_
        intro a1469 hF1468; clear hF1466
        refine wpList_nil (thenN ?_)
        cases hc1470 : (q1419.next != (atI L77 (IntKind.i64.wrap (x1298 + 1))))
        case true =>
         rw [hc1470] at hF1468
         rw [hc1470] at hm1463
         have hm1471 := ifT hm1463; clear hm1463
         refine ev_condT hF1468 rfl rfl ?_
         refine wp_seq (wp_region_lit ?_)
         refine ev_runK 1 hF1468 [4] (l' := [(4, .bool false)]) (w' := w1430) (by kernel_rfl) ?_
         intro a1473 hF1472; clear hF1468
         refine wpList_nil ?_
         have hS1474 := hS1432.drop.drop.drop.drop.drop.drop.drop.drop.drop
         clear hS1432
         refine thenN ?_
         refine wp_ret ?_
         refine blockR ?_
         refine thenR (thenR ?_)
         refine blockR ?_
         refine thenR ?_
         obtain rfl := Option.some.inj hm1471
         refine ev_ret hF1472 [4] (.bool false) rfl rfl rfl ?_
         exact ⟨rfl, hS1474⟩
        rw [hc1470] at hF1468
        rw [hc1470] at hm1463
        have hm1476 := ifF hm1463; clear hm1463
        refine ev_condF hF1468 rfl rfl ?_
        refine wp_skip ?_
        have hF1477 := hF1468.keep [0, 5, 6, 9, 10, 11, 12, 109, 110, 111, 112]
        clear hF1468
        refine blockN ?_
        refine thenN (wp_region_lit ?_)
        refine ev_runK 3 hF1477 [0, 5, 6, 9, 10, 11, 12, 109, 110, 111, 112] (l' := [(12, nI (IntKind.i64.wrap (x1298 + 1))), (112, .bool false), (111, nI (atI L77 (IntKind.i64.wrap (x1298 + 1)))), (110, nI (q1419.next)), (109, nP ((w1301.drew).heap.size) 3), (11, nB (w1259.drew)), (10, nI x1249), (9, nB (w84.drew)), (6, nS g1267 L77 c90), (5, nP z24 0), (0, nI x5)]) (w' := w1430) (by kernel_rfl) ?_
        intro a1479 hF1478; clear hF1477
        refine wpList_nil ?_
        have hF1480 : Fr 121 a1479 [(12, nI (IntKind.i64.wrap (x1298 + 1))), (11, nB (w1259.drew)), (10, nI x1249), (9, nB (w84.drew)), (6, nS g1267 L77 c90), (5, nP z24 0), (0, nI x5)] := Fr.re hF1478 (by kernel_rfl)
        clear hF1478
        have hS1481 := hS1432.drop.pick7.pick7.pick7.pick4.pick4.pick7.pick6.pick7
        clear hS1432
        exact thenN ⟨k1299, Nat.lt_succ_self _, IntKind.i64.wrap (x1298 + 1), hF1480, hS1481, hm1476⟩
       rw [hc1440] at hF1438
       rw [hc1440] at hm1422
       have hm1482 := ifF hm1422; clear hm1422
       refine ev_condF hF1438 rfl rfl ?_
       refine wp_skip ?_
       have hF1483 := hF1438.keep [0, 5, 6, 9, 10, 11, 12, 13, 14, 15]
       clear hF1438
       refine thenN (wp_seq (wp_region_lit ?_))
       refine ev_runs 3 hF1483 (l' := [(108, .bool (x1420 != 0)), (107, .bool (x1420 != 0)), (106, nI x1420), (15, nI (-1)), (14, nI x1420), (13, nB (w1301.drew)), (12, nI x1298), (11, nB (w1259.drew)), (10, nI x1249), (9, nB (w84.drew)), (6, nS g1267 L77 c90), (5, nP z24 0), (0, nI x5)]) (w' := w1430) (by kernel_rfl) ?_
       intro a1485 hF1484; clear hF1483
       cases hc1486 : (x1420 != 0)
       case true =>
        rw [hc1486] at hF1484
        rw [hc1486] at hm1482
        have hm1487 := ifT hm1482; clear hm1482
        refine ev_runK 5 hF1484 [0, 5, 6, 9, 10, 11, 12, 109, 110, 111, 112, 113] (l' := [(113, .bool true), (112, .tuple #[]), (111, .tuple #[]), (110, .tuple #[]), (109, .tuple #[]), (12, nI x1298), (11, nB (w1259.drew)), (10, nI x1249), (9, nB (w84.drew)), (6, nS g1267 L77 c90), (5, nP z24 0), (0, nI x5)]) (w' := w1430) (by kernel_rfl) ?_
        intro a1489 hF1488; clear hF1484
        refine wpList_nil ?_
        have hS1490 := hS1432.drop
        clear hS1432
        refine thenN ?_
        refine ev_condT hF1488 rfl rfl ?_
        refine wp_seq (wp_region_lit ?_)
        refine ev_runK 1 hF1488 [4] (l' := [(4, .bool false)]) (w' := w1430) (by kernel_rfl) ?_
        intro a1492 hF1491; clear hF1488
        refine wpList_nil ?_
        have hS1493 := hS1490.drop.drop.drop.drop.drop.drop.drop.drop
        clear hS1490
        refine thenN ?_
        refine wp_ret ?_
        refine blockR ?_
        refine thenR (thenR ?_)
        refine blockR ?_
        refine thenR ?_
        obtain rfl := Option.some.inj hm1487
        refine ev_ret hF1491 [4] (.bool false) rfl rfl rfl ?_
        exact ⟨rfl, hS1493⟩
       rw [hc1486] at hF1484
       rw [hc1486] at hm1482
       have hm1495 := ifF hm1482; clear hm1482
       refine ev_runs 1 hF1484 (l' := [(109, nP ((w1301.drew).heap.size) 3), (108, .bool false), (107, .bool false), (106, nI x1420), (15, nI (-1)), (14, nI x1420), (13, nB (w1301.drew)), (12, nI x1298), (11, nB (w1259.drew)), (10, nI x1249), (9, nB (w84.drew)), (6, nS g1267 L77 c90), (5, nP z24 0), (0, nI x5)]) (w' := w1430) (by kernel_rfl) ?_
       intro a1497 hF1496; clear hF1484
       refine ev_one (nI (q1419.next)) w1430 hF1496 (by kernel_rfl) rfl (by kernel_rfl) (run_loadV rfl rfl (run_loadS rfl rfl (hS1432.cell 0 rfl 3 rfl))) rfl ?_
       intro a1499 hF1498; clear hF1496
       refine ev_runK 3 hF1498 [0, 5, 6, 9, 10, 11, 12, 109, 110, 111, 112, 113] (l' := [(113, .bool (q1419.next != (-1))), (112, .bool (q1419.next != (-1))), (111, nI (-1)), (110, nI (q1419.next)), (109, nP ((w1301.drew).heap.size) 3), (12, nI x1298), (11, nB (w1259.drew)), (10, nI x1249), (9, nB (w84.drew)), (6, nS g1267 L77 c90), (5, nP z24 0), (0, nI x5)]) (w' := w1430) (by kernel_rfl) ?_
       intro a1501 hF1500; clear hF1498
       refine wpList_nil (thenN ?_)
       cases hc1502 : (q1419.next != (-1))
       case true =>
        rw [hc1502] at hF1500
        rw [hc1502] at hm1495
        have hm1503 := ifT hm1495; clear hm1495
        refine ev_condT hF1500 rfl rfl ?_
        refine wp_seq (wp_region_lit ?_)
        refine ev_runK 1 hF1500 [4] (l' := [(4, .bool false)]) (w' := w1430) (by kernel_rfl) ?_
        intro a1505 hF1504; clear hF1500
        refine wpList_nil ?_
        have hS1506 := hS1432.drop.drop.drop.drop.drop.drop.drop.drop.drop
        clear hS1432
        refine thenN ?_
        refine wp_ret ?_
        refine blockR ?_
        refine thenR (thenR ?_)
        refine blockR ?_
        refine thenR ?_
        obtain rfl := Option.some.inj hm1503
        refine ev_ret hF1504 [4] (.bool false) rfl rfl rfl ?_
        exact ⟨rfl, hS1506⟩
       rw [hc1502] at hF1500
       rw [hc1502] at hm1495
       have hm1508 := ifF hm1495; clear hm1495
       refine ev_condF hF1500 rfl rfl ?_
       refine wp_skip ?_
       have hF1509 := hF1500.keep [0, 5, 6, 9, 10, 11, 12, 109, 110, 111, 112]
       clear hF1500
       refine blockN ?_
       refine thenN (wp_region_lit ?_)
       refine ev_runK 3 hF1509 [0, 5, 6, 9, 10, 11, 12, 109, 110, 111, 112] (l' := [(12, nI (IntKind.i64.wrap (x1298 + 1))), (112, .bool false), (111, nI (-1)), (110, nI (q1419.next)), (109, nP ((w1301.drew).heap.size) 3), (11, nB (w1259.drew)), (10, nI x1249), (9, nB (w84.drew)), (6, nS g1267 L77 c90), (5, nP z24 0), (0, nI x5)]) (w' := w1430) (by kernel_rfl) ?_
       intro a1511 hF1510; clear hF1509
       refine wpList_nil ?_
       have hF1512 : Fr 121 a1511 [(12, nI (IntKind.i64.wrap (x1298 + 1))), (11, nB (w1259.drew)), (10, nI x1249), (9, nB (w84.drew)), (6, nS g1267 L77 c90), (5, nP z24 0), (0, nI x5)] := Fr.re hF1510 (by kernel_rfl)
       clear hF1510
       have hS1513 := hS1432.drop.pick7.pick7.pick7.pick4.pick4.pick7.pick6.pick7
       clear hS1432
       exact thenN ⟨k1299, Nat.lt_succ_self _, IntKind.i64.wrap (x1298 + 1), hF1512, hS1513, hm1508⟩
    rw [hc1308] at hF1306
    rw [hc1308] at hm1305
    have hm1514 := ifF hm1305; clear hm1305
    refine ev_condF hF1306 rfl rfl ?_
    refine wp_exit ?_
    refine thenE ?_
    refine thenE ?_
    refine blockE ?_
    refine thenN (wp_seq (wp_region_lit ?_))
    refine ev_runs 3 hF1306 (l' := [(116, .bool (x1249 == 0)), (115, .bool (x1249 == 0)), (114, nI x1249), (82, .bool false), (12, nI x1298), (11, nB (w1259.drew)), (10, nI x1249), (9, nB (w84.drew)), (6, nS g1267 L77 c90), (5, nP z24 0), (0, nI x5)]) (w' := w1301) (by kernel_rfl) ?_
    intro a1516 hF1515; clear hF1306
    cases hc1517 : (x1249 == 0)
    case true =>
     rw [hc1517] at hF1515
     rw [hc1517] at hm1514
     have hm1518 := ifT hm1514; clear hm1514
     refine ev_one (.agg #[nI (q1248.cap), nI (q1248.closed), nI (q1248.count), nI (q1248.start), nI (q1248.buf), nI (q1248.th), nI (q1248.tt), nI (q1248.sh), nI (q1248.st)]) w1301 hF1515 (by kernel_rfl) rfl (by kernel_rfl) (run_loadV rfl rfl (run_loadA (cs := [nI (q1248.cap), nI (q1248.closed), nI (q1248.count), nI (q1248.start), nI (q1248.buf), nI (q1248.th), nI (q1248.tt), nI (q1248.sh), nI (q1248.st)]) rfl rfl (by kernel_rfl) (blk_cells hS1303 2 rfl rfl))) rfl ?_
     intro a1520 hF1519; clear hF1515
     refine ev_one (.agg #[nI 0, nI 0, nI 0, nI 0, nI (-1), nI (-1), nI (-1), nI (atI L77 (0 : Int)), nI (atI L77 (IntKind.i64.wrap (x5 - 1)))]) w1301 hF1519 (by kernel_rfl) rfl (by kernel_rfl) (run_loadV rfl rfl (run_loadA (cs := [nI 0, nI 0, nI 0, nI 0, nI (-1), nI (-1), nI (-1), nI (atI L77 (0 : Int)), nI (atI L77 (IntKind.i64.wrap (x5 - 1)))]) rfl rfl (by kernel_rfl) (blk_cells hS1303 0 rfl rfl))) rfl ?_
     intro a1522 hF1521; clear hF1519
     refine ev_one (.bool ((q1248.cap == (0 : Int)) && ((q1248.closed == (0 : Int)) && ((q1248.count == (0 : Int)) && ((q1248.start == (0 : Int)) && ((q1248.buf == (-1 : Int)) && ((q1248.th == (-1 : Int)) && ((q1248.tt == (-1 : Int)) && ((q1248.sh == (atI L77 (0 : Int))) && ((q1248.st == (atI L77 (IntKind.i64.wrap (x5 - 1)))) && (true))))))))))) w1301 hF1521 (by kernel_rfl) rfl (by kernel_rfl) (run_eqS rfl rfl rfl (by kernel_rfl) rfl (by kernel_rfl) (eqf_int (by kernel_rfl) rfl rfl rfl (eqf_int (by kernel_rfl) rfl rfl rfl (eqf_int (by kernel_rfl) rfl rfl rfl (eqf_int (by kernel_rfl) rfl rfl rfl (eqf_int (by kernel_rfl) rfl rfl rfl (eqf_int (by kernel_rfl) rfl rfl rfl (eqf_int (by kernel_rfl) rfl rfl rfl (eqf_int (by kernel_rfl) rfl rfl rfl (eqf_int (by kernel_rfl) rfl rfl rfl eqf_nil)))))))))) rfl ?_
     intro a1524 hF1523; clear hF1521
     refine ev_runK 2 hF1523 [4] (l' := [(4, .bool ((q1248.cap == (0 : Int)) && ((q1248.closed == (0 : Int)) && ((q1248.count == (0 : Int)) && ((q1248.start == (0 : Int)) && ((q1248.buf == (-1 : Int)) && ((q1248.th == (-1 : Int)) && ((q1248.tt == (-1 : Int)) && ((q1248.sh == (atI L77 (0 : Int))) && ((q1248.st == (atI L77 (IntKind.i64.wrap (x5 - 1)))) && (true)))))))))))]) (w' := w1301) (by kernel_rfl) ?_
     intro a1526 hF1525; clear hF1523
     refine wpList_nil ?_
     have hS1527 := hS1303.drop.drop.drop.drop.drop.drop.drop.drop
     clear hS1303
     refine thenN ?_
     refine wp_ret ?_
     obtain rfl := Option.some.inj hm1518
     refine ev_ret hF1525 [4] (.bool ((q1248.cap == (0 : Int)) && ((q1248.closed == (0 : Int)) && ((q1248.count == (0 : Int)) && ((q1248.start == (0 : Int)) && ((q1248.buf == (-1 : Int)) && ((q1248.th == (-1 : Int)) && ((q1248.tt == (-1 : Int)) && ((q1248.sh == (atI L77 (0 : Int))) && ((q1248.st == (atI L77 (IntKind.i64.wrap (x5 - 1)))) && (true))))))))))) rfl rfl rfl ?_
     exact ⟨rfl, hS1527⟩
    rw [hc1517] at hF1515
    rw [hc1517] at hm1514
    have hm1529 := ifF hm1514; clear hm1514
    refine ev_runK 5 hF1515 [4] (l' := [(4, .bool false)]) (w' := w1301) (by kernel_rfl) ?_
    intro a1531 hF1530; clear hF1515
    refine wpList_nil ?_
    have hS1532 := hS1303.drop.drop.drop.drop.drop.drop.drop.drop
    clear hS1303
    refine thenN ?_
    refine wp_ret ?_
    obtain rfl := Option.some.inj hm1529
    refine ev_ret hF1530 [4] (.bool false) rfl rfl rfl ?_
    exact ⟨rfl, hS1532⟩
   rw [hc1284] at hF1282
   rw [hc1284] at hm1269
   have hm1534 := ifF hm1269; clear hm1269
   refine ev_condF hF1282 rfl rfl ?_
   refine wp_skip ?_
   have hF1535 := hF1282.keep [0, 5, 6, 9, 10, 11]
   clear hF1282
   refine thenN (wp_seq (wp_seq (wp_region_lit ?_)))
   refine ev_runs 1 hF1535 (l' := [(12, nI 0), (11, nB (w1259.drew)), (10, nI x1249), (9, nB (w84.drew)), (6, nS g1267 L77 c90), (5, nP z24 0), (0, nI x5)]) (w' := w1277) (by kernel_rfl) ?_
   intro a1537 hF1536; clear hF1535
   refine wpList_nil (thenN ?_)
   refine wp_block ?_
   refine wp_loop_ghost (fun kI aI wI => ∃ (x1538 : Int), Fr 121 aI [(12, nI x1538), (11, nB (w1259.drew)), (10, nI x1249), (9, nB (w84.drew)), (6, nS g1267 L77 c90), (5, nP z24 0), (0, nI x5)] ∧ St w0 F0 (BlkP ((w1259.drew).heap.size) 37 #[nI 0, nI 0, nI 0, nI 0, nI (-1), nI (atI L77 (0 : Int)), nI (atI L77 (IntKind.i64.wrap (x5 - 1))), nI (-1), nI (-1)] :: RowP (nS g1267 L77 c90) L77 :: BlkP ((w84.drew).heap.size) 37 #[nI (q1248.cap), nI (q1248.closed), nI (q1248.count), nI (q1248.start), nI (q1248.buf), nI (q1248.th), nI (q1248.tt), nI (q1248.sh), nI (q1248.st)] :: HeapP z25 z26 s1239 :: BlkP z24 52 #[nP z25 0, nP z27 0, .slice p39 L16.length c40, .slice p43 L17.length c44] :: RHeapP z27 z28 z29 z30 z31 s1240 :: RowP (.slice p39 L16.length c40) L16 :: RowP (.slice p43 L17.length c44) L17 :: ps) wI ∧ ListEnds.l3 x5 L77 s1239 q1248 x1249 kI x1538 = some r0) k ⟨0, hF1536, hS1279, hm1534⟩ ?_
   rintro k1539 a1540 w1541 ⟨x1538, hF1542, hS1543, hm1544⟩
   clear hF1536 hS1279 hm1534
   rcases k1539 with _ | k1539
   · cases hm1544
   have hm1545 : ListEnds.l3b x5 L77 s1239 q1248 x1249 (ListEnds.l3 x5 L77 s1239 q1248 x1249 k1539) x1538 = some r0 := hm1544
   clear hm1544
   unfold ListEnds.l3b at hm1545
   refine wp_seq (wp_seq (wp_region_lit ?_))
   refine ev_runK 3 hF1542 [0, 5, 6, 9, 10, 11, 12, 82] (l' := [(82, .bool (decide (x1538 < x5))), (12, nI x1538), (11, nB (w1259.drew)), (10, nI x1249), (9, nB (w84.drew)), (6, nS g1267 L77 c90), (5, nP z24 0), (0, nI x5)]) (w' := w1541) (by kernel_rfl) ?_
   intro a1547 hF1546; clear hF1542
   refine wpList_nil (thenN ?_)
   cases hc1548 : (decide (x1538 < x5))
   case true =>
    rw [hc1548] at hF1546
    rw [hc1548] at hm1545
    have hm1549 := ifT hm1545; clear hm1545
    refine ev_condT hF1546 rfl rfl ?_
    refine wp_skip ?_
    have hF1550 := hF1546.keep [0, 5, 6, 9, 10, 11, 12]
    clear hF1546
    refine thenN (wp_seq ?_)
    refine wp_block ?_
    refine wp_seq ?_
    -- draws
    obtain ⟨hc1551, hm1552⟩ := ifTE hm1549; clear hm1549
    have hS1553 := hS1543.pick1.pick4
    clear hS1543
    have hS1554 := hS1553.drew; clear hS1553
    refine any_start (fun wS => ∃ qs, St w0 F0 (BlkP z24 52 #[nP z25 0, nP z27 0, .slice p39 L16.length c40, .slice p43 L17.length c44] :: RowP (nS g1267 L77 c90) L77 :: qs) wS) 15 #[false, false, false, false, false, false, false, false, false, false, false, false, false, false, false] (by kernel_rfl) (by kernel_rfl) (by kernel_rfl) ?_
    refine any_many 8 [(0, some (nP z24 0)), (1, some (nP z24 0)), (2, some (nP z24 0)), (3, some (nP z25 0)), (4, some (nS g1267 L77 c90)), (5, some (nI x1538)), (6, some (nP g1267 (x1538.toNat))), (7, some (nI (atI L77 x1538)))] [0, 5, 6, 9, 10, 11, 12, 13, 14, 85, 89, 93, 94, 95, 96, 109, 110, 111, 112, 117, 118, 119] #[true, true, true, true, true, true, true, true, false, false, false, false, false, false, false] (by rfl) hF1550 (by kernel_rfl) (by kernel_rfl) (by exact ⟨fun wS hw => by kernel_rfl, fun wS hw => by kernel_rfl, fun wS hw => by kernel_rfl, fun wS hw => hw.elim fun qs hw => run_loadV rfl rfl (run_loadS rfl rfl (hw.cell 0 rfl 0 rfl)), fun wS hw => by kernel_rfl, fun wS hw => by kernel_rfl, fun wS hw => run_idx rfl rfl rfl rfl rfl (inR_spec hc1551).1 (inR_spec hc1551).2 _, fun wS hw => run_load1 rfl rfl rfl (hw.elim fun qs hw => hw.atI 1 rfl hc1551), trivial⟩) (fun _ _ _ _ _ h => h) ⟨_, hS1554⟩ rfl ?_
    intro a1556 hF1555; clear hF1550
    refine any_two 8 12 (by kernel_rfl) ?_ ?_
    · skip
      have hS1557 := hS1554.pick4
      clear hS1554
      refine op_call 8 #[true, true, true, true, true, true, true, true, true, false, false, false, false, false, false] 29 #[nP z25 0, nI (atI L77 x1538)] hF1555 rfl rfl rfl (by kernel_rfl) rfl (by kernel_rfl) (fun w => by kernel_rfl) (by kernel_rfl) ?_
      obtain ⟨q1558, x1559, hx1560, hm1561⟩ := bind2E hm1552; clear hm1552
      refine (p_Sudog hS1557 hx1560).mono ?_
      rintro _ w1562 ⟨rfl, hS1564⟩; clear hS1557
      refine ⟨⟨_, hS1564.pick2.pick2⟩, ?_⟩
      intro a1563 hF1565; clear hF1555
      refine any_many 3 [(9, some (.tuple #[.agg #[nI (q1558.gor), nI (q1558.chan), nI (q1558.value), nI (q1558.next), nI (q1558.to), nI (q1558.reg), nI (q1558.more)], nI x1559])), (10, some (.agg #[nI (q1558.gor), nI (q1558.chan), nI (q1558.value), nI (q1558.next), nI (q1558.to), nI (q1558.reg), nI (q1558.more)])), (11, some (nI x1559))] [0, 5, 6, 9, 10, 11, 12, 13, 14, 95, 96, 109, 110, 111, 112, 117, 118, 119] #[true, true, true, true, true, true, true, true, true, true, true, true, false, false, false] (by rfl) hF1565 (by kernel_rfl) (by kernel_rfl) (by exact ⟨fun wS hw => by kernel_rfl, fun wS hw => by kernel_rfl, fun wS hw => by kernel_rfl, trivial⟩) (fun _ _ _ _ _ h => h) ⟨_, hS1564.pick2.pick2⟩ rfl ?_
      intro a1567 hF1566; clear hF1565
      refine any_one 12 (by kernel_rfl) ?_
      have hS1568 : St w0 F0 (BlkP (w1562.heap.size) 54 #[nI 0, nI 0, nI 0, nI 0, nI 0, nI 0, nI 0] :: HeapP z25 z26 s1239 :: BlkP z24 52 #[nP z25 0, nP z27 0, .slice p39 L16.length c40, .slice p43 L17.length c44] :: RowP (nS g1267 L77 c90) L77 :: BlkP ((w1259.drew).heap.size) 37 #[nI 0, nI 0, nI 0, nI 0, nI (-1), nI (atI L77 (0 : Int)), nI (atI L77 (IntKind.i64.wrap (x5 - 1))), nI (-1), nI (-1)] :: BlkP ((w84.drew).heap.size) 37 #[nI (q1248.cap), nI (q1248.closed), nI (q1248.count), nI (q1248.start), nI (q1248.buf), nI (q1248.th), nI (q1248.tt), nI (q1248.sh), nI (q1248.st)] :: RHeapP z27 z28 z29 z30 z31 s1240 :: RowP (.slice p39 L16.length c40) L16 :: RowP (.slice p43 L17.length c44) L17 :: ps) (w1562.alloc (.cells #[nI 0, nI 0, nI 0, nI 0, nI 0, nI 0, nI 0] 54)) := St.new hS1564 #[nI 0, nI 0, nI 0, nI 0, nI 0, nI 0, nI 0] 54
      clear hS1564
      refine op_step 12 #[true, true, true, true, true, true, true, true, true, true, true, true, true, false, false] (nB w1562) (w1562.alloc (.cells #[nI 0, nI 0, nI 0, nI 0, nI 0, nI 0, nI 0] 54)) hF1566 rfl (by kernel_rfl) rfl (by kernel_rfl) (by kernel_rfl) rfl ⟨_, hS1568.pick3.pick3⟩ (by kernel_rfl) ?_
      intro a1570 hF1569; clear hF1566
      refine any_one 13 (by kernel_rfl) ?_
      refine op_store 13 #[true, true, true, true, true, true, true, true, true, true, true, true, true, true, false] (.agg #[nI (q1558.gor), nI (q1558.chan), nI (q1558.value), nI (q1558.next), nI (q1558.to), nI (q1558.reg), nI (q1558.more)]) #[nI (q1558.gor), nI (q1558.chan), nI (q1558.value), nI (q1558.next), nI (q1558.to), nI (q1558.reg), nI (q1558.more)] hF1569 rfl (by kernel_rfl) rfl rfl rfl rfl (by kernel_rfl) hS1568 (by kernel_rfl) (by kernel_rfl) (by kernel_rfl) rfl (by kernel_rfl) ?_
      intro w1571 a1572 hS1573 hF1574; clear hF1569 hS1568
      refine ⟨⟨_, hS1573.pick3.pick3⟩, ?_⟩
      refine any_many 1 [(14, some (nI x1559))] [0, 5, 6, 9, 10, 11, 12, 13, 14, 109, 110, 111, 112, 117, 118, 119] #[true, true, true, true, true, true, true, true, true, true, true, true, true, true, true] (by rfl) hF1574 (by kernel_rfl) (by kernel_rfl) (by exact ⟨fun wS hw => by kernel_rfl, trivial⟩) (fun _ _ _ _ _ h => h) ⟨_, hS1573.pick3.pick3⟩ rfl ?_
      intro a1576 hF1575; clear hF1574
      refine any_done (by kernel_rfl) ?_
      refine thenN (wp_seq (wp_region_lit ?_))
      refine ev_runs 1 hF1575 (l' := [(15, nI (-1)), (14, nI x1559), (13, nB w1562), (12, nI x1538), (11, nB (w1259.drew)), (10, nI x1249), (9, nB (w84.drew)), (6, nS g1267 L77 c90), (5, nP z24 0), (0, nI x5)]) (w' := w1571) (by kernel_rfl) ?_
      intro a1578 hF1577; clear hF1575
      refine wpList_nil (thenN (wp_seq (wp_seq (wp_region_lit ?_))))
      refine ev_runK 4 hF1577 [0, 5, 6, 9, 10, 11, 12, 13, 14, 15, 100] (l' := [(100, .bool (decide ((IntKind.i64.wrap (x1538 + 1)) < x5))), (15, nI (-1)), (14, nI x1559), (13, nB w1562), (12, nI x1538), (11, nB (w1259.drew)), (10, nI x1249), (9, nB (w84.drew)), (6, nS g1267 L77 c90), (5, nP z24 0), (0, nI x5)]) (w' := w1571) (by kernel_rfl) ?_
      intro a1580 hF1579; clear hF1577
      refine wpList_nil (thenN ?_)
      cases hc1581 : (decide ((IntKind.i64.wrap (x1538 + 1)) < x5))
      case true =>
       rw [hc1581] at hF1579
       rw [hc1581] at hm1561
       have hm1582 := ifT hm1561; clear hm1561
       refine ev_condT hF1579 rfl rfl ?_
       refine wp_region_lit ?_
       refine ev_runs 3 hF1579 (l' := [(103, nI (IntKind.i64.wrap (x1538 + 1))), (102, nI x1538), (101, nS g1267 L77 c90), (100, .bool true), (15, nI (-1)), (14, nI x1559), (13, nB w1562), (12, nI x1538), (11, nB (w1259.drew)), (10, nI x1249), (9, nB (w84.drew)), (6, nS g1267 L77 c90), (5, nP z24 0), (0, nI x5)]) (w' := w1571) (by kernel_rfl) ?_
       intro a1584 hF1583; clear hF1579
       obtain ⟨hc1585, hm1586⟩ := ifTE hm1582; clear hm1582
       refine ev_one (nP g1267 ((IntKind.i64.wrap (x1538 + 1)).toNat)) w1571 hF1583 (by kernel_rfl) rfl (by kernel_rfl) (run_idx rfl rfl rfl rfl rfl (inR_spec hc1585).1 (inR_spec hc1585).2 _) rfl ?_
       intro a1588 hF1587; clear hF1583
       refine ev_one (nI (atI L77 (IntKind.i64.wrap (x1538 + 1)))) w1571 hF1587 (by kernel_rfl) rfl (by kernel_rfl) (run_load1 rfl rfl rfl (hS1573.atI 3 rfl hc1585)) rfl ?_
       intro a1590 hF1589; clear hF1587
       refine ev_runK 1 hF1589 [0, 5, 6, 9, 10, 11, 12, 13, 14, 15] (l' := [(15, nI (atI L77 (IntKind.i64.wrap (x1538 + 1)))), (14, nI x1559), (13, nB w1562), (12, nI x1538), (11, nB (w1259.drew)), (10, nI x1249), (9, nB (w84.drew)), (6, nS g1267 L77 c90), (5, nP z24 0), (0, nI x5)]) (w' := w1571) (by kernel_rfl) ?_
       intro a1592 hF1591; clear hF1589
       refine wpList_nil (thenN (wp_seq (wp_region_lit ?_)))
       refine ev_runs 3 hF1591 (l' := [(108, .bool (x1559 != 0)), (107, .bool (x1559 != 0)), (106, nI x1559), (15, nI (atI L77 (IntKind.i64.wrap (x1538 + 1)))), (14, nI x1559), (13, nB w1562), (12, nI x1538), (11, nB (w1259.drew)), (10, nI x1249), (9, nB (w84.drew)), (6, nS g1267 L77 c90), (5, nP z24 0), (0, nI x5)]) (w' := w1571) (by kernel_rfl) ?_
       intro a1594 hF1593; clear hF1591
       cases hc1595 : (x1559 != 0)
       case true =>
        rw [hc1595] at hF1593
        rw [hc1595] at hm1586
        have hm1596 := ifT hm1586; clear hm1586
        refine ev_runK 5 hF1593 [0, 5, 6, 9, 10, 11, 12, 109, 110, 111, 112, 113] (l' := [(113, .bool true), (112, .tuple #[]), (111, .tuple #[]), (110, .tuple #[]), (109, .tuple #[]), (12, nI x1538), (11, nB (w1259.drew)), (10, nI x1249), (9, nB (w84.drew)), (6, nS g1267 L77 c90), (5, nP z24 0), (0, nI x5)]) (w' := w1571) (by kernel_rfl) ?_
        intro a1598 hF1597; clear hF1593
        refine wpList_nil ?_
        have hS1599 := hS1573.drop
        clear hS1573
        refine thenN ?_
        refine ev_condT hF1597 rfl rfl ?_
        refine wp_seq (wp_region_lit ?_)
        refine ev_runK 1 hF1597 [4] (l' := [(4, .bool false)]) (w' := w1571) (by kernel_rfl) ?_
        intro a1601 hF1600; clear hF1597
        refine wpList_nil ?_
        have hS1602 := hS1599.drop.drop.drop.drop.drop.drop.drop.drop
        clear hS1599
        refine thenN ?_
        refine wp_ret ?_
        refine blockR ?_
        refine thenR (thenR ?_)
        refine blockR ?_
        refine thenR ?_
        obtain rfl := Option.some.inj hm1596
        refine ev_ret hF1600 [4] (.bool false) rfl rfl rfl ?_
        exact ⟨rfl, hS1602⟩
       rw [hc1595] at hF1593
       rw [hc1595] at hm1586
       have hm1604 := ifF hm1586; clear hm1586
       refine ev_runs 1 hF1593 (l' := [(109, nP (w1562.heap.size) 3), (108, .bool false), (107, .bool false), (106, nI x1559), (15, nI (atI L77 (IntKind.i64.wrap (x1538 + 1)))), (14, nI x1559), (13, nB w1562), (12, nI x1538), (11, nB (w1259.drew)), (10, nI x1249), (9, nB (w84.drew)), (6, nS g1267 L77 c90), (5, nP z24 0), (0, nI x5)]) (w' := w1571) (by kernel_rfl) ?_
       intro a1606 hF1605; clear hF1593
       refine ev_one (nI (q1558.next)) w1571 hF1605 (by kernel_rfl) rfl (by kernel_rfl) (run_loadV rfl rfl (run_loadS rfl rfl (hS1573.cell 0 rfl 3 rfl))) rfl ?_
       intro a1608 hF1607; clear hF1605
       refine ev_runK 3 hF1607 [0, 5, 6, 9, 10, 11, 12, 109, 110, 111, 112, 113] (l' := [(113, .bool (q1558.next != (atI L77 (IntKind.i64.wrap (x1538 + 1))))), (112, .bool (q1558.next != (atI L77 (IntKind.i64.wrap (x1538 + 1))))), (111, nI (atI L77 (IntKind.i64.wrap (x1538 + 1)))), (110, nI (q1558.next)), (109, nP (w1562.heap.size) 3), (12, nI x1538), (11, nB (w1259.drew)), (10, nI x1249), (9, nB (w84.drew)), (6, nS g1267 L77 c90), (5, nP z24 0), (0, nI x5)]) (w' := w1571) (by kernel_rfl) ?_
       intro a1610 hF1609; clear hF1607
       refine wpList_nil (thenN ?_)
       cases hc1611 : (q1558.next != (atI L77 (IntKind.i64.wrap (x1538 + 1))))
       case true =>
        rw [hc1611] at hF1609
        rw [hc1611] at hm1604
        have hm1612 := ifT hm1604; clear hm1604
        refine ev_condT hF1609 rfl rfl ?_
        refine wp_seq (wp_region_lit ?_)
        refine ev_runK 1 hF1609 [4] (l' := [(4, .bool false)]) (w' := w1571) (by kernel_rfl) ?_
        intro a1614 hF1613; clear hF1609
        refine wpList_nil ?_
        have hS1615 := hS1573.drop.drop.drop.drop.drop.drop.drop.drop.drop
        clear hS1573
        refine thenN ?_
        refine wp_ret ?_
        refine blockR ?_
        refine thenR (thenR ?_)
        refine blockR ?_
        refine thenR ?_
        obtain rfl := Option.some.inj hm1612
        refine ev_ret hF1613 [4] (.bool false) rfl rfl rfl ?_
        exact ⟨rfl, hS1615⟩
       rw [hc1611] at hF1609
       rw [hc1611] at hm1604
       have hm1617 := ifF hm1604; clear hm1604
       refine ev_condF hF1609 rfl rfl ?_
       refine wp_skip ?_
       have hF1618 := hF1609.keep [0, 5, 6, 9, 10, 11, 12, 109, 110, 111, 112]
       clear hF1609
       refine blockN ?_
       refine thenN (wp_region_lit ?_)
       refine ev_runK 3 hF1618 [0, 5, 6, 9, 10, 11, 12, 109, 110, 111, 112] (l' := [(12, nI (IntKind.i64.wrap (x1538 + 1))), (112, .bool false), (111, nI (atI L77 (IntKind.i64.wrap (x1538 + 1)))), (110, nI (q1558.next)), (109, nP (w1562.heap.size) 3), (11, nB (w1259.drew)), (10, nI x1249), (9, nB (w84.drew)), (6, nS g1267 L77 c90), (5, nP z24 0), (0, nI x5)]) (w' := w1571) (by kernel_rfl) ?_
       intro a1620 hF1619; clear hF1618
       refine wpList_nil ?_
       have hF1621 : Fr 121 a1620 [(12, nI (IntKind.i64.wrap (x1538 + 1))), (11, nB (w1259.drew)), (10, nI x1249), (9, nB (w84.drew)), (6, nS g1267 L77 c90), (5, nP z24 0), (0, nI x5)] := Fr.re hF1619 (by kernel_rfl)
       clear hF1619
       have hS1622 := hS1573.drop.pick7.pick7.pick7.pick4.pick4.pick7.pick6.pick7
       clear hS1573
       exact thenN ⟨k1539, Nat.lt_succ_self _, IntKind.i64.wrap (x1538 + 1), hF1621, hS1622, hm1617⟩
      rw [hc1581] at hF1579
      rw [hc1581] at hm1561
      have hm1623 := ifF hm1561; clear hm1561
      refine ev_condF hF1579 rfl rfl ?_
      refine wp_skip ?_
      have hF1624 := hF1579.keep [0, 5, 6, 9, 10, 11, 12, 13, 14, 15]
      clear hF1579
      refine thenN (wp_seq (wp_region_lit ?_))
      refine ev_runs 3 hF1624 (l' := [(108, .bool (x1559 != 0)), (107, .bool (x1559 != 0)), (106, nI x1559), (15, nI (-1)), (14, nI x1559), (13, nB w1562), (12, nI x1538), (11, nB (w1259.drew)), (10, nI x1249), (9, nB (w84.drew)), (6, nS g1267 L77 c90), (5, nP z24 0), (0, nI x5)]) (w' := w1571) (by kernel_rfl) ?_
      intro a1626 hF1625; clear hF1624
      cases hc1627 : (x1559 != 0)
      case true =>
       rw [hc1627] at hF1625
       rw [hc1627] at hm1623
       have hm1628 := ifT hm1623; clear hm1623
       refine ev_runK 5 hF1625 [0, 5, 6, 9, 10, 11, 12, 109, 110, 111, 112, 113] (l' := [(113, .bool true), (112, .tuple #[]), (111, .tuple #[]), (110, .tuple #[]), (109, .tuple #[]), (12, nI x1538), (11, nB (w1259.drew)), (10, nI x1249), (9, nB (w84.drew)), (6, nS g1267 L77 c90), (5, nP z24 0), (0, nI x5)]) (w' := w1571) (by kernel_rfl) ?_
       intro a1630 hF1629; clear hF1625
       refine wpList_nil ?_
       have hS1631 := hS1573.drop
       clear hS1573
       refine thenN ?_
       refine ev_condT hF1629 rfl rfl ?_
       refine wp_seq (wp_region_lit ?_)
       refine ev_runK 1 hF1629 [4] (l' := [(4, .bool false)]) (w' := w1571) (by kernel_rfl) ?_
       intro a1633 hF1632; clear hF1629
       refine wpList_nil ?_
       have hS1634 := hS1631.drop.drop.drop.drop.drop.drop.drop.drop
       clear hS1631
       refine thenN ?_
       refine wp_ret ?_
       refine blockR ?_
       refine thenR (thenR ?_)
       refine blockR ?_
       refine thenR ?_
       obtain rfl := Option.some.inj hm1628
       refine ev_ret hF1632 [4] (.bool false) rfl rfl rfl ?_
       exact ⟨rfl, hS1634⟩
      rw [hc1627] at hF1625
      rw [hc1627] at hm1623
      have hm1636 := ifF hm1623; clear hm1623
      refine ev_runs 1 hF1625 (l' := [(109, nP (w1562.heap.size) 3), (108, .bool false), (107, .bool false), (106, nI x1559), (15, nI (-1)), (14, nI x1559), (13, nB w1562), (12, nI x1538), (11, nB (w1259.drew)), (10, nI x1249), (9, nB (w84.drew)), (6, nS g1267 L77 c90), (5, nP z24 0), (0, nI x5)]) (w' := w1571) (by kernel_rfl) ?_
      intro a1638 hF1637; clear hF1625
      refine ev_one (nI (q1558.next)) w1571 hF1637 (by kernel_rfl) rfl (by kernel_rfl) (run_loadV rfl rfl (run_loadS rfl rfl (hS1573.cell 0 rfl 3 rfl))) rfl ?_
      intro a1640 hF1639; clear hF1637
      refine ev_runK 3 hF1639 [0, 5, 6, 9, 10, 11, 12, 109, 110, 111, 112, 113] (l' := [(113, .bool (q1558.next != (-1))), (112, .bool (q1558.next != (-1))), (111, nI (-1)), (110, nI (q1558.next)), (109, nP (w1562.heap.size) 3), (12, nI x1538), (11, nB (w1259.drew)), (10, nI x1249), (9, nB (w84.drew)), (6, nS g1267 L77 c90), (5, nP z24 0), (0, nI x5)]) (w' := w1571) (by kernel_rfl) ?_
      intro a1642 hF1641; clear hF1639
      refine wpList_nil (thenN ?_)
      cases hc1643 : (q1558.next != (-1))
      case true =>
       rw [hc1643] at hF1641
       rw [hc1643] at hm1636
       have hm1644 := ifT hm1636; clear hm1636
       refine ev_condT hF1641 rfl rfl ?_
       refine wp_seq (wp_region_lit ?_)
       refine ev_runK 1 hF1641 [4] (l' := [(4, .bool false)]) (w' := w1571) (by kernel_rfl) ?_
       intro a1646 hF1645; clear hF1641
       refine wpList_nil ?_
       have hS1647 := hS1573.drop.drop.drop.drop.drop.drop.drop.drop.drop
       clear hS1573
       refine thenN ?_
       refine wp_ret ?_
       refine blockR ?_
       refine thenR (thenR ?_)
       refine blockR ?_
       refine thenR ?_
       obtain rfl := Option.some.inj hm1644
       refine ev_ret hF1645 [4] (.bool false) rfl rfl rfl ?_
       exact ⟨rfl, hS1647⟩
      rw [hc1643] at hF1641
      rw [hc1643] at hm1636
      have hm1649 := ifF hm1636; clear hm1636
      refine ev_condF hF1641 rfl rfl ?_
      refine wp_skip ?_
      have hF1650 := hF1641.keep [0, 5, 6, 9, 10, 11, 12, 109, 110, 111, 112]
      clear hF1641
      refine blockN ?_
      refine thenN (wp_region_lit ?_)
      refine ev_runK 3 hF1650 [0, 5, 6, 9, 10, 11, 12, 109, 110, 111, 112] (l' := [(12, nI (IntKind.i64.wrap (x1538 + 1))), (112, .bool false), (111, nI (-1)), (110, nI (q1558.next)), (109, nP (w1562.heap.size) 3), (11, nB (w1259.drew)), (10, nI x1249), (9, nB (w84.drew)), (6, nS g1267 L77 c90), (5, nP z24 0), (0, nI x5)]) (w' := w1571) (by kernel_rfl) ?_
      intro a1652 hF1651; clear hF1650
      refine wpList_nil ?_
      have hF1653 : Fr 121 a1652 [(12, nI (IntKind.i64.wrap (x1538 + 1))), (11, nB (w1259.drew)), (10, nI x1249), (9, nB (w84.drew)), (6, nS g1267 L77 c90), (5, nP z24 0), (0, nI x5)] := Fr.re hF1651 (by kernel_rfl)
      clear hF1651
      have hS1654 := hS1573.drop.pick7.pick7.pick7.pick4.pick4.pick7.pick6.pick7
      clear hS1573
      exact thenN ⟨k1539, Nat.lt_succ_self _, IntKind.i64.wrap (x1538 + 1), hF1653, hS1654, hm1649⟩
    · skip
      have hS1655 : St w0 F0 (BlkP ((w1541.drew).heap.size) 54 #[nI 0, nI 0, nI 0, nI 0, nI 0, nI 0, nI 0] :: BlkP z24 52 #[nP z25 0, nP z27 0, .slice p39 L16.length c40, .slice p43 L17.length c44] :: RowP (nS g1267 L77 c90) L77 :: BlkP ((w1259.drew).heap.size) 37 #[nI 0, nI 0, nI 0, nI 0, nI (-1), nI (atI L77 (0 : Int)), nI (atI L77 (IntKind.i64.wrap (x5 - 1))), nI (-1), nI (-1)] :: BlkP ((w84.drew).heap.size) 37 #[nI (q1248.cap), nI (q1248.closed), nI (q1248.count), nI (q1248.start), nI (q1248.buf), nI (q1248.th), nI (q1248.tt), nI (q1248.sh), nI (q1248.st)] :: HeapP z25 z26 s1239 :: RHeapP z27 z28 z29 z30 z31 s1240 :: RowP (.slice p39 L16.length c40) L16 :: RowP (.slice p43 L17.length c44) L17 :: ps) ((w1541.drew).alloc (.cells #[nI 0, nI 0, nI 0, nI 0, nI 0, nI 0, nI 0] 54)) := St.new hS1554 #[nI 0, nI 0, nI 0, nI 0, nI 0, nI 0, nI 0] 54
      clear hS1554
      refine op_step 12 #[true, true, true, true, true, true, true, true, false, false, false, false, true, false, false] (nB (w1541.drew)) ((w1541.drew).alloc (.cells #[nI 0, nI 0, nI 0, nI 0, nI 0, nI 0, nI 0] 54)) hF1555 rfl (by kernel_rfl) rfl (by kernel_rfl) (by kernel_rfl) rfl ⟨_, hS1655.pick2.pick2⟩ (by kernel_rfl) ?_
      intro a1657 hF1656; clear hF1555
      have hS1658 := hS1655.pick5
      clear hS1655
      refine any_call 8 #[true, true, true, true, true, true, true, true, true, false, false, false, true, false, false] 29 #[nP z25 0, nI (atI L77 x1538)] hF1656 rfl (by kernel_rfl) rfl rfl (by kernel_rfl) rfl (by kernel_rfl) (fun w => by kernel_rfl) (by kernel_rfl) ?_
      obtain ⟨q1659, x1660, hx1661, hm1662⟩ := bind2E hm1552; clear hm1552
      refine (p_Sudog hS1658 hx1661).mono ?_
      rintro _ w1663 ⟨rfl, hS1665⟩; clear hS1658
      refine ⟨⟨_, hS1665.pick3.pick3⟩, ?_⟩
      intro a1664 hF1666; clear hF1656
      refine any_many 3 [(9, some (.tuple #[.agg #[nI (q1659.gor), nI (q1659.chan), nI (q1659.value), nI (q1659.next), nI (q1659.to), nI (q1659.reg), nI (q1659.more)], nI x1660])), (10, some (.agg #[nI (q1659.gor), nI (q1659.chan), nI (q1659.value), nI (q1659.next), nI (q1659.to), nI (q1659.reg), nI (q1659.more)])), (11, some (nI x1660))] [0, 5, 6, 9, 10, 11, 12, 13, 14, 95, 96, 109, 110, 111, 112, 117, 118, 119] #[true, true, true, true, true, true, true, true, true, true, true, true, true, false, false] (by rfl) hF1666 (by kernel_rfl) (by kernel_rfl) (by exact ⟨fun wS hw => by kernel_rfl, fun wS hw => by kernel_rfl, fun wS hw => by kernel_rfl, trivial⟩) (fun _ _ _ _ _ h => h) ⟨_, hS1665.pick3.pick3⟩ rfl ?_
      intro a1668 hF1667; clear hF1666
      refine any_one 13 (by kernel_rfl) ?_
      have hS1669 := hS1665.pick1
      clear hS1665
      refine op_store 13 #[true, true, true, true, true, true, true, true, true, true, true, true, true, true, false] (.agg #[nI (q1659.gor), nI (q1659.chan), nI (q1659.value), nI (q1659.next), nI (q1659.to), nI (q1659.reg), nI (q1659.more)]) #[nI (q1659.gor), nI (q1659.chan), nI (q1659.value), nI (q1659.next), nI (q1659.to), nI (q1659.reg), nI (q1659.more)] hF1667 rfl (by kernel_rfl) rfl rfl rfl rfl (by kernel_rfl) hS1669 (by kernel_rfl) (by kernel_rfl) (by kernel_rfl) rfl (by kernel_rfl) ?_
      intro w1670 a1671 hS1672 hF1673; clear hF1667 hS1669
      refine ⟨⟨_, hS1672.pick3.pick3⟩, ?_⟩
      refine any_many 1 [(14, some (nI x1660))] [0, 5, 6, 9, 10, 11, 12, 13, 14, 109, 110, 111, 112, 117, 118, 119] #[true, true, true, true, true, true, true, true, true, true, true, true, true, true, true] (by rfl) hF1673 (by kernel_rfl) (by kernel_rfl) (by exact ⟨fun wS hw => by kernel_rfl, trivial⟩) (fun _ _ _ _ _ h => h) ⟨_, hS1672.pick3.pick3⟩ rfl ?_
      intro a1675 hF1674; clear hF1673
      refine any_done (by kernel_rfl) ?_
      refine thenN (wp_seq (wp_region_lit ?_))
      refine ev_runs 1 hF1674 (l' := [(15, nI (-1)), (14, nI x1660), (13, nB (w1541.drew)), (12, nI x1538), (11, nB (w1259.drew)), (10, nI x1249), (9, nB (w84.drew)), (6, nS g1267 L77 c90), (5, nP z24 0), (0, nI x5)]) (w' := w1670) (by kernel_rfl) ?_
      intro a1677 hF1676; clear hF1674
      refine wpList_nil (thenN (wp_seq (wp_seq (wp_region_lit ?_))))
      refine ev_runK 4 hF1676 [0, 5, 6, 9, 10, 11, 12, 13, 14, 15, 100] (l' := [(100, .bool (decide ((IntKind.i64.wrap (x1538 + 1)) < x5))), (15, nI (-1)), (14, nI x1660), (13, nB (w1541.drew)), (12, nI x1538), (11, nB (w1259.drew)), (10, nI x1249), (9, nB (w84.drew)), (6, nS g1267 L77 c90), (5, nP z24 0), (0, nI x5)]) (w' := w1670) (by kernel_rfl) ?_
      intro a1679 hF1678; clear hF1676
      refine wpList_nil (thenN ?_)
      cases hc1680 : (decide ((IntKind.i64.wrap (x1538 + 1)) < x5))
      case true =>
       rw [hc1680] at hF1678
       rw [hc1680] at hm1662
       have hm1681 := ifT hm1662; clear hm1662
       refine ev_condT hF1678 rfl rfl ?_
       refine wp_region_lit ?_
       refine ev_runs 3 hF1678 (l' := [(103, nI (IntKind.i64.wrap (x1538 + 1))), (102, nI x1538), (101, nS g1267 L77 c90), (100, .bool true), (15, nI (-1)), (14, nI x1660), (13, nB (w1541.drew)), (12, nI x1538), (11, nB (w1259.drew)), (10, nI x1249), (9, nB (w84.drew)), (6, nS g1267 L77 c90), (5, nP z24 0), (0, nI x5)]) (w' := w1670) (by kernel_rfl) ?_
       intro a1683 hF1682; clear hF1678
       obtain ⟨hc1684, hm1685⟩ := ifTE hm1681; clear hm1681
       refine ev_one (nP g1267 ((IntKind.i64.wrap (x1538 + 1)).toNat)) w1670 hF1682 (by kernel_rfl) rfl (by kernel_rfl) (run_idx rfl rfl rfl rfl rfl (inR_spec hc1684).1 (inR_spec hc1684).2 _) rfl ?_
       intro a1687 hF1686; clear hF1682
       refine ev_one (nI (atI L77 (IntKind.i64.wrap (x1538 + 1)))) w1670 hF1686 (by kernel_rfl) rfl (by kernel_rfl) (run_load1 rfl rfl rfl (hS1672.atI 3 rfl hc1684)) rfl ?_
       intro a1689 hF1688; clear hF1686
       refine ev_runK 1 hF1688 [0, 5, 6, 9, 10, 11, 12, 13, 14, 15] (l' := [(15, nI (atI L77 (IntKind.i64.wrap (x1538 + 1)))), (14, nI x1660), (13, nB (w1541.drew)), (12, nI x1538), (11, nB (w1259.drew)), (10, nI x1249), (9, nB (w84.drew)), (6, nS g1267 L77 c90), (5, nP z24 0), (0, nI x5)]) (w' := w1670) (by kernel_rfl) ?_
       intro a1691 hF1690; clear hF1688
       refine wpList_nil (thenN (wp_seq (wp_region_lit ?_)))
       refine ev_runs 3 hF1690 (l' := [(108, .bool (x1660 != 0)), (107, .bool (x1660 != 0)), (106, nI x1660), (15, nI (atI L77 (IntKind.i64.wrap (x1538 + 1)))), (14, nI x1660), (13, nB (w1541.drew)), (12, nI x1538), (11, nB (w1259.drew)), (10, nI x1249), (9, nB (w84.drew)), (6, nS g1267 L77 c90), (5, nP z24 0), (0, nI x5)]) (w' := w1670) (by kernel_rfl) ?_
       intro a1693 hF1692; clear hF1690
       cases hc1694 : (x1660 != 0)
       case true =>
        rw [hc1694] at hF1692
        rw [hc1694] at hm1685
        have hm1695 := ifT hm1685; clear hm1685
        refine ev_runK 5 hF1692 [0, 5, 6, 9, 10, 11, 12, 109, 110, 111, 112, 113] (l' := [(113, .bool true), (112, .tuple #[]), (111, .tuple #[]), (110, .tuple #[]), (109, .tuple #[]), (12, nI x1538), (11, nB (w1259.drew)), (10, nI x1249), (9, nB (w84.drew)), (6, nS g1267 L77 c90), (5, nP z24 0), (0, nI x5)]) (w' := w1670) (by kernel_rfl) ?_
        intro a1697 hF1696; clear hF1692
        refine wpList_nil ?_
        have hS1698 := hS1672.drop
        clear hS1672
        refine thenN ?_
        refine ev_condT hF1696 rfl rfl ?_
        refine wp_seq (wp_region_lit ?_)
        refine ev_runK 1 hF1696 [4] (l' := [(4, .bool false)]) (w' := w1670) (by kernel_rfl) ?_
        intro a1700 hF1699; clear hF1696
        refine wpList_nil ?_
        have hS1701 := hS1698.drop.drop.drop.drop.drop.drop.drop.drop
        clear hS1698
        refine thenN ?_
        refine wp_ret ?_
        refine blockR ?_
        refine thenR (thenR ?_)
        refine blockR ?_
        refine thenR ?_
        obtain rfl := Option.some.inj hm1695
        refine ev_ret hF1699 [4] (.bool false) rfl rfl rfl ?_
        exact ⟨rfl, hS1701⟩
       rw [hc1694] at hF1692
       rw [hc1694] at hm1685
       have hm1703 := ifF hm1685; clear hm1685
       refine ev_runs 1 hF1692 (l' := [(109, nP ((w1541.drew).heap.size) 3), (108, .bool false), (107, .bool false), (106, nI x1660), (15, nI (atI L77 (IntKind.i64.wrap (x1538 + 1)))), (14, nI x1660), (13, nB (w1541.drew)), (12, nI x1538), (11, nB (w1259.drew)), (10, nI x1249), (9, nB (w84.drew)), (6, nS g1267 L77 c90), (5, nP z24 0), (0, nI x5)]) (w' := w1670) (by kernel_rfl) ?_
       intro a1705 hF1704; clear hF1692
       refine ev_one (nI (q1659.next)) w1670 hF1704 (by kernel_rfl) rfl (by kernel_rfl) (run_loadV rfl rfl (run_loadS rfl rfl (hS1672.cell 0 rfl 3 rfl))) rfl ?_
       intro a1707 hF1706; clear hF1704
       refine ev_runK 3 hF1706 [0, 5, 6, 9, 10, 11, 12, 109, 110, 111, 112, 113] (l' := [(113, .bool (q1659.next != (atI L77 (IntKind.i64.wrap (x1538 + 1))))), (112, .bool (q1659.next != (atI L77 (IntKind.i64.wrap (x1538 + 1))))), (111, nI (atI L77 (IntKind.i64.wrap (x1538 + 1)))), (110, nI (q1659.next)), (109, nP ((w1541.drew).heap.size) 3), (12, nI x1538), (11, nB (w1259.drew)), (10, nI x1249), (9, nB (w84.drew)), (6, nS g1267 L77 c90), (5, nP z24 0), (0, nI x5)]) (w' := w1670) (by kernel_rfl) ?_
       intro a1709 hF1708; clear hF1706
       refine wpList_nil (thenN ?_)
       cases hc1710 : (q1659.next != (atI L77 (IntKind.i64.wrap (x1538 + 1))))
       case true =>
        rw [hc1710] at hF1708
        rw [hc1710] at hm1703
        have hm1711 := ifT hm1703; clear hm1703
        refine ev_condT hF1708 rfl rfl ?_
        refine wp_seq (wp_region_lit ?_)
        refine ev_runK 1 hF1708 [4] (l' := [(4, .bool false)]) (w' := w1670) (by kernel_rfl) ?_
        intro a1713 hF1712; clear hF1708
        refine wpList_nil ?_
        have hS1714 := hS1672.drop.drop.drop.drop.drop.drop.drop.drop.drop
        clear hS1672
        refine thenN ?_
        refine wp_ret ?_
        refine blockR ?_
        refine thenR (thenR ?_)
        refine blockR ?_
        refine thenR ?_
        obtain rfl := Option.some.inj hm1711
        refine ev_ret hF1712 [4] (.bool false) rfl rfl rfl ?_
        exact ⟨rfl, hS1714⟩
       rw [hc1710] at hF1708
       rw [hc1710] at hm1703
       have hm1716 := ifF hm1703; clear hm1703
       refine ev_condF hF1708 rfl rfl ?_
       refine wp_skip ?_
       have hF1717 := hF1708.keep [0, 5, 6, 9, 10, 11, 12, 109, 110, 111, 112]
       clear hF1708
       refine blockN ?_
       refine thenN (wp_region_lit ?_)
       refine ev_runK 3 hF1717 [0, 5, 6, 9, 10, 11, 12, 109, 110, 111, 112] (l' := [(12, nI (IntKind.i64.wrap (x1538 + 1))), (112, .bool false), (111, nI (atI L77 (IntKind.i64.wrap (x1538 + 1)))), (110, nI (q1659.next)), (109, nP ((w1541.drew).heap.size) 3), (11, nB (w1259.drew)), (10, nI x1249), (9, nB (w84.drew)), (6, nS g1267 L77 c90), (5, nP z24 0), (0, nI x5)]) (w' := w1670) (by kernel_rfl) ?_
       intro a1719 hF1718; clear hF1717
       refine wpList_nil ?_
       have hF1720 : Fr 121 a1719 [(12, nI (IntKind.i64.wrap (x1538 + 1))), (11, nB (w1259.drew)), (10, nI x1249), (9, nB (w84.drew)), (6, nS g1267 L77 c90), (5, nP z24 0), (0, nI x5)] := Fr.re hF1718 (by kernel_rfl)
       clear hF1718
       have hS1721 := hS1672.drop.pick7.pick7.pick7.pick4.pick4.pick7.pick6.pick7
       clear hS1672
       exact thenN ⟨k1539, Nat.lt_succ_self _, IntKind.i64.wrap (x1538 + 1), hF1720, hS1721, hm1716⟩
      rw [hc1680] at hF1678
      rw [hc1680] at hm1662
      have hm1722 := ifF hm1662; clear hm1662
      refine ev_condF hF1678 rfl rfl ?_
      refine wp_skip ?_
      have hF1723 := hF1678.keep [0, 5, 6, 9, 10, 11, 12, 13, 14, 15]
      clear hF1678
      refine thenN (wp_seq (wp_region_lit ?_))
      refine ev_runs 3 hF1723 (l' := [(108, .bool (x1660 != 0)), (107, .bool (x1660 != 0)), (106, nI x1660), (15, nI (-1)), (14, nI x1660), (13, nB (w1541.drew)), (12, nI x1538), (11, nB (w1259.drew)), (10, nI x1249), (9, nB (w84.drew)), (6, nS g1267 L77 c90), (5, nP z24 0), (0, nI x5)]) (w' := w1670) (by kernel_rfl) ?_
      intro a1725 hF1724; clear hF1723
      cases hc1726 : (x1660 != 0)
      case true =>
       rw [hc1726] at hF1724
       rw [hc1726] at hm1722
       have hm1727 := ifT hm1722; clear hm1722
       refine ev_runK 5 hF1724 [0, 5, 6, 9, 10, 11, 12, 109, 110, 111, 112, 113] (l' := [(113, .bool true), (112, .tuple #[]), (111, .tuple #[]), (110, .tuple #[]), (109, .tuple #[]), (12, nI x1538), (11, nB (w1259.drew)), (10, nI x1249), (9, nB (w84.drew)), (6, nS g1267 L77 c90), (5, nP z24 0), (0, nI x5)]) (w' := w1670) (by kernel_rfl) ?_
       intro a1729 hF1728; clear hF1724
       refine wpList_nil ?_
       have hS1730 := hS1672.drop
       clear hS1672
       refine thenN ?_
       refine ev_condT hF1728 rfl rfl ?_
       refine wp_seq (wp_region_lit ?_)
       refine ev_runK 1 hF1728 [4] (l' := [(4, .bool false)]) (w' := w1670) (by kernel_rfl) ?_
       intro a1732 hF1731; clear hF1728
       refine wpList_nil ?_
       have hS1733 := hS1730.drop.drop.drop.drop.drop.drop.drop.drop
       clear hS1730
       refine thenN ?_
       refine wp_ret ?_
       refine blockR ?_
       refine thenR (thenR ?_)
       refine blockR ?_
       refine thenR ?_
       obtain rfl := Option.some.inj hm1727
       refine ev_ret hF1731 [4] (.bool false) rfl rfl rfl ?_
       exact ⟨rfl, hS1733⟩
      rw [hc1726] at hF1724
      rw [hc1726] at hm1722
      have hm1735 := ifF hm1722; clear hm1722
      refine ev_runs 1 hF1724 (l' := [(109, nP ((w1541.drew).heap.size) 3), (108, .bool false), (107, .bool false), (106, nI x1660), (15, nI (-1)), (14, nI x1660), (13, nB (w1541.drew)), (12, nI x1538), (11, nB (w1259.drew)), (10, nI x1249), (9, nB (w84.drew)), (6, nS g1267 L77 c90), (5, nP z24 0), (0, nI x5)]) (w' := w1670) (by kernel_rfl) ?_
      intro a1737 hF1736; clear hF1724
      refine ev_one (nI (q1659.next)) w1670 hF1736 (by kernel_rfl) rfl (by kernel_rfl) (run_loadV rfl rfl (run_loadS rfl rfl (hS1672.cell 0 rfl 3 rfl))) rfl ?_
      intro a1739 hF1738; clear hF1736
      refine ev_runK 3 hF1738 [0, 5, 6, 9, 10, 11, 12, 109, 110, 111, 112, 113] (l' := [(113, .bool (q1659.next != (-1))), (112, .bool (q1659.next != (-1))), (111, nI (-1)), (110, nI (q1659.next)), (109, nP ((w1541.drew).heap.size) 3), (12, nI x1538), (11, nB (w1259.drew)), (10, nI x1249), (9, nB (w84.drew)), (6, nS g1267 L77 c90), (5, nP z24 0), (0, nI x5)]) (w' := w1670) (by kernel_rfl) ?_
      intro a1741 hF1740; clear hF1738
      refine wpList_nil (thenN ?_)
      cases hc1742 : (q1659.next != (-1))
      case true =>
       rw [hc1742] at hF1740
       rw [hc1742] at hm1735
       have hm1743 := ifT hm1735; clear hm1735
       refine ev_condT hF1740 rfl rfl ?_
       refine wp_seq (wp_region_lit ?_)
       refine ev_runK 1 hF1740 [4] (l' := [(4, .bool false)]) (w' := w1670) (by kernel_rfl) ?_
       intro a1745 hF1744; clear hF1740
       refine wpList_nil ?_
       have hS1746 := hS1672.drop.drop.drop.drop.drop.drop.drop.drop.drop
       clear hS1672
       refine thenN ?_
       refine wp_ret ?_
       refine blockR ?_
       refine thenR (thenR ?_)
       refine blockR ?_
       refine thenR ?_
       obtain rfl := Option.some.inj hm1743
       refine ev_ret hF1744 [4] (.bool false) rfl rfl rfl ?_
       exact ⟨rfl, hS1746⟩
      rw [hc1742] at hF1740
      rw [hc1742] at hm1735
      have hm1748 := ifF hm1735; clear hm1735
      refine ev_condF hF1740 rfl rfl ?_
      refine wp_skip ?_
      have hF1749 := hF1740.keep [0, 5, 6, 9, 10, 11, 12, 109, 110, 111, 112]
      clear hF1740
      refine blockN ?_
      refine thenN (wp_region_lit ?_)
      refine ev_runK 3 hF1749 [0, 5, 6, 9, 10, 11, 12, 109, 110, 111, 112] (l' := [(12, nI (IntKind.i64.wrap (x1538 + 1))), (112, .bool false), (111, nI (-1)), (110, nI (q1659.next)), (109, nP ((w1541.drew).heap.size) 3), (11, nB (w1259.drew)), (10, nI x1249), (9, nB (w84.drew)), (6, nS g1267 L77 c90), (5, nP z24 0), (0, nI x5)]) (w' := w1670) (by kernel_rfl) ?_
      intro a1751 hF1750; clear hF1749
      refine wpList_nil ?_
      have hF1752 : Fr 121 a1751 [(12, nI (IntKind.i64.wrap (x1538 + 1))), (11, nB (w1259.drew)), (10, nI x1249), (9, nB (w84.drew)), (6, nS g1267 L77 c90), (5, nP z24 0), (0, nI x5)] := Fr.re hF1750 (by kernel_rfl)
      clear hF1750
      have hS1753 := hS1672.drop.pick7.pick7.pick7.pick4.pick4.pick7.pick6.pick7
      clear hS1672
      exact thenN ⟨k1539, Nat.lt_succ_self _, IntKind.i64.wrap (x1538 + 1), hF1752, hS1753, hm1748⟩
   rw [hc1548] at hF1546
   rw [hc1548] at hm1545
   have hm1754 := ifF hm1545; clear hm1545
   refine ev_condF hF1546 rfl rfl ?_
   refine wp_exit ?_
   refine thenE ?_
   refine thenE ?_
   refine blockE ?_
   refine thenN (wp_seq (wp_region_lit ?_))
   refine ev_runs 3 hF1546 (l' := [(116, .bool (x1249 == 0)), (115, .bool (x1249 == 0)), (114, nI x1249), (82, .bool false), (12, nI x1538), (11, nB (w1259.drew)), (10, nI x1249), (9, nB (w84.drew)), (6, nS g1267 L77 c90), (5, nP z24 0), (0, nI x5)]) (w' := w1541) (by kernel_rfl) ?_
   intro a1756 hF1755; clear hF1546
   cases hc1757 : (x1249 == 0)
   case true =>
    rw [hc1757] at hF1755
    rw [hc1757] at hm1754
    have hm1758 := ifT hm1754; clear hm1754
    refine ev_one (.agg #[nI (q1248.cap), nI (q1248.closed), nI (q1248.count), nI (q1248.start), nI (q1248.buf), nI (q1248.th), nI (q1248.tt), nI (q1248.sh), nI (q1248.st)]) w1541 hF1755 (by kernel_rfl) rfl (by kernel_rfl) (run_loadV rfl rfl (run_loadA (cs := [nI (q1248.cap), nI (q1248.closed), nI (q1248.count), nI (q1248.start), nI (q1248.buf), nI (q1248.th), nI (q1248.tt), nI (q1248.sh), nI (q1248.st)]) rfl rfl (by kernel_rfl) (blk_cells hS1543 2 rfl rfl))) rfl ?_
    intro a1760 hF1759; clear hF1755
    refine ev_one (.agg #[nI 0, nI 0, nI 0, nI 0, nI (-1), nI (atI L77 (0 : Int)), nI (atI L77 (IntKind.i64.wrap (x5 - 1))), nI (-1), nI (-1)]) w1541 hF1759 (by kernel_rfl) rfl (by kernel_rfl) (run_loadV rfl rfl (run_loadA (cs := [nI 0, nI 0, nI 0, nI 0, nI (-1), nI (atI L77 (0 : Int)), nI (atI L77 (IntKind.i64.wrap (x5 - 1))), nI (-1), nI (-1)]) rfl rfl (by kernel_rfl) (blk_cells hS1543 0 rfl rfl))) rfl ?_
    intro a1762 hF1761; clear hF1759
    refine ev_one (.bool ((q1248.cap == (0 : Int)) && ((q1248.closed == (0 : Int)) && ((q1248.count == (0 : Int)) && ((q1248.start == (0 : Int)) && ((q1248.buf == (-1 : Int)) && ((q1248.th == (atI L77 (0 : Int))) && ((q1248.tt == (atI L77 (IntKind.i64.wrap (x5 - 1)))) && ((q1248.sh == (-1 : Int)) && ((q1248.st == (-1 : Int)) && (true))))))))))) w1541 hF1761 (by kernel_rfl) rfl (by kernel_rfl) (run_eqS rfl rfl rfl (by kernel_rfl) rfl (by kernel_rfl) (eqf_int (by kernel_rfl) rfl rfl rfl (eqf_int (by kernel_rfl) rfl rfl rfl (eqf_int (by kernel_rfl) rfl rfl rfl (eqf_int (by kernel_rfl) rfl rfl rfl (eqf_int (by kernel_rfl) rfl rfl rfl (eqf_int (by kernel_rfl) rfl rfl rfl (eqf_int (by kernel_rfl) rfl rfl rfl (eqf_int (by kernel_rfl) rfl rfl rfl (eqf_int (by kernel_rfl) rfl rfl rfl eqf_nil)))))))))) rfl ?_
    intro a1764 hF1763; clear hF1761
    refine ev_runK 2 hF1763 [4] (l' := [(4, .bool ((q1248.cap == (0 : Int)) && ((q1248.closed == (0 : Int)) && ((q1248.count == (0 : Int)) && ((q1248.start == (0 : Int)) && ((q1248.buf == (-1 : Int)) && ((q1248.th == (atI L77 (0 : Int))) && ((q1248.tt == (atI L77 (IntKind.i64.wrap (x5 - 1)))) && ((q1248.sh == (-1 : Int)) && ((q1248.st == (-1 : Int)) && (true)))))))))))]) (w' := w1541) (by kernel_rfl) ?_
    intro a1766 hF1765; clear hF1763
    refine wpList_nil ?_
    have hS1767 := hS1543.drop.drop.drop.drop.drop.drop.drop.drop
    clear hS1543
    refine thenN ?_
    refine wp_ret ?_
    obtain rfl := Option.some.inj hm1758
    refine ev_ret hF1765 [4] (.bool ((q1248.cap == (0 : Int)) && ((q1248.closed == (0 : Int)) && ((q1248.count == (0 : Int)) && ((q1248.start == (0 : Int)) && ((q1248.buf == (-1 : Int)) && ((q1248.th == (atI L77 (0 : Int))) && ((q1248.tt == (atI L77 (IntKind.i64.wrap (x5 - 1)))) && ((q1248.sh == (-1 : Int)) && ((q1248.st == (-1 : Int)) && (true))))))))))) rfl rfl rfl ?_
    exact ⟨rfl, hS1767⟩
   rw [hc1757] at hF1755
   rw [hc1757] at hm1754
   have hm1769 := ifF hm1754; clear hm1754
   refine ev_runK 5 hF1755 [4] (l' := [(4, .bool false)]) (w' := w1541) (by kernel_rfl) ?_
   intro a1771 hF1770; clear hF1755
   refine wpList_nil ?_
   have hS1772 := hS1543.drop.drop.drop.drop.drop.drop.drop.drop
   clear hS1543
   refine thenN ?_
   refine wp_ret ?_
   obtain rfl := Option.some.inj hm1769
   refine ev_ret hF1770 [4] (.bool false) rfl rfl rfl ?_
   exact ⟨rfl, hS1772⟩

end Go.Proofs.YtaihdiccmaincaaGreat
