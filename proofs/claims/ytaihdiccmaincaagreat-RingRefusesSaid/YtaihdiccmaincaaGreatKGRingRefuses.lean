/- GRingRefuses -/
import Derived.Test.YtaihdiccmaincaaGreatKG12
import Derived.Test.YtaihdiccmaincaaGreatKGView
import Derived.Deep.LoopGhost
import Derived.KernelRfl
/- The walks of GRingRefuses, printed by gen/walk.py. -/
namespace Go.Proofs.YtaihdiccmaincaaGreat
open Go.RowKit
set_option linter.unusedVariables false

def RingRefuses.j3 (y248 : Bool) : Option (Bool) := some (y248)
def RingRefuses.j2 (i1 : Int) (i2 : Int) (k : Nat) (L9 : List Int) (L10 : List Int) (x78 : Int) (x91 : Int) (x102 : Int) (x115 : Int) (x114 : Int) (x119 : Int) (x120 : Int) (x121 : Int) (x122 : Int) (s131 : HSt) (s132 : HSt) (x133 : Int) (x134 : Int) (x135 : Int) (x136 : Int) (x137 : Int) (x138 : Int) (x139 : Int) (x140 : Int) (x141 : Int) : Option (Bool) := bind3 (law12_ch.m k s131 s132 L9 L10 0) fun x179 s180 s181 => bind2 (pPutChan x179 (⟨x114, x115, Int.tmod i1 5, Int.tmod i2 5, x137, x119, x120, x121, x122⟩ : Ch) s180) fun x189 s190 => bind3 (law12_ch.m k s190 s181 L9 L10 0) fun x203 s204 s205 => bind3 (ring_Take.m k s204 x203) fun x213 x214 s215 => bind3 (law12_ch.m k s215 s205 L9 L10 0) fun x228 s229 s230 => bind2 (ring_Put.m k s229 x228 1) fun x238 s239 => (if (x78 == 10) then (if (x91 == 2) then (if (x102 == 2) then bind3 (law12_gor.m k s239 s230 L9 L10 0) fun x273 s274 s275 => bind2 (ring_Put.m k s274 x273 1) fun x283 s284 => (if (x283 == 10) then (if (x214 == 8) then (if (x238 == 9) then bind3 (law12_ch.m k s284 s275 L9 L10 0) fun x306 s307 s308 => bind2 (ring_All.m k s307 x306) fun L316 s317 => (if ((L316.length : Int) == 0) then bind1 (ring_AllN.m k 0) fun L334 => RingRefuses.j3 ((L334.length : Int) == 0) else RingRefuses.j3 false) else RingRefuses.j3 false) else RingRefuses.j3 false) else RingRefuses.j3 false) else RingRefuses.j3 false) else RingRefuses.j3 false) else RingRefuses.j3 false)
def RingRefuses.j1 (i1 : Int) (i2 : Int) (k : Nat) (L9 : List Int) (L10 : List Int) (x78 : Int) (x91 : Int) (x102 : Int) (s112 : HSt) (s113 : HSt) (x114 : Int) (x115 : Int) (x116 : Int) (x117 : Int) (x118 : Int) (x119 : Int) (x120 : Int) (x121 : Int) (x122 : Int) : Option (Bool) := bind3 (law12_ch.m k s112 s113 L9 L10 1) fun x383 s384 s385 => bind2 (pChan x383 s384) fun q393 x394 => RingRefuses.j2 i1 i2 k L9 L10 x78 x91 x102 x115 x114 x119 x120 x121 x122 s384 s385 q393.cap q393.closed q393.count q393.start q393.buf q393.th q393.tt q393.sh q393.st
def RingRefuses.m (k : Nat) (i0 : Int) (i1 : Int) (i2 : Int) : Option (Bool) := bind4 (law12_made.m k [2, 3] 1) fun s7 s8 L9 L10 => bind1 (law12_awake.m k ) fun y43 => (if (!(y43)) then some (false) else bind3 (law12_gor.m k s7 s8 L9 L10 0) fun x67 s68 s69 => bind3 (ring_Take.m k s68 x67) fun x77 x78 s79 => bind2 (ring_TakeN.m k i0) fun x90 x91 => bind1 (ring_PutN.m k i0 1) fun x102 => bind3 (law12_ch.m k s79 s69 L9 L10 0) fun x468 s469 s470 => bind2 (pChan x468 s469) fun q478 x479 => RingRefuses.j1 i1 i2 k L9 L10 x78 x91 x102 s469 s470 q478.cap q478.closed q478.count q478.start q478.buf q478.th q478.tt q478.sh q478.st)
set_option maxRecDepth 100000 in
set_option maxHeartbeats 40000000 in
theorem RingRefuses.ok {w0 w : World} {F0 : List Nat} {ps : List Piece} {k : Nat} {i0 : Int} {i1 : Int} {i2 : Int} {r0 : Bool} (hS : St w0 F0 (ps) w) (hm : RingRefuses.m k i0 i1 i2 = some r0) :
    Calls Tryz.prog 4 #[nI i0, nI i1, nI i2] w fun e w' => e = .returned (.bool r0) ∧ St w0 F0 (ps) w' := by
 refine ev_enterL 143 [nI i0, nI i1, nI i2] Tryz.func4 rfl rfl (by simp) ?_
 intro a hF
 have hF0 : Fr 143 a [(0, nI i0), (1, nI i1), (2, nI i2)] := hF; clear hF
 unfold RingRefuses.m at hm
 refine wp_seq (wp_region_lit ?_)
 refine ev_runK 1 hF0 [0, 1, 2] (l' := [(0, nI i0), (1, nI i1), (2, nI i2)]) (w' := w) (by kernel_rfl) ?_
 intro a2 hF1; clear hF0
 refine wpList_nil (thenN (wp_seq (wp_region_lit ?_)))
 refine ev_runs 1 hF1 (l' := [(20, .slice (some ⟨w.heap.size, 0, none⟩) 2 2), (0, nI i0), (1, nI i1), (2, nI i2)]) (w' := w.alloc (.cells #[nI 2, nI 3] 3)) (by kernel_rfl) ?_
 intro a4 hF3; clear hF1
 have hS6 : St w0 F0 (RowP (.slice (some ⟨w.heap.size, 0, none⟩) 2 2) [2, 3] :: ps) (w.alloc (.cells #[nI 2, nI 3] 3)) := St.lit hS [2, 3] (by unfold maxLen; simp)
 refine ev_call 13 #[.slice (some ⟨w.heap.size, 0, none⟩) 2 2, nI 1] hF3 rfl rfl (by kernel_rfl) rfl (by kernel_rfl) (fun w => by kernel_rfl) ?_
 obtain ⟨s7, s8, L9, L10, hx11, hm12⟩ := bind4E hm; clear hm
 refine (law12_made.ok hS6 hx11).mono ?_
 rintro _ w13 ⟨z17, z18, z19, z20, z21, z22, z23, z24, z25, z26, rfl, hS15⟩ a14 hF16; clear hF3 hS6
 obtain ⟨hl35, p32, c33, rfl, hp34⟩ := St.shape hS15 4 rfl
 obtain ⟨hl39, p36, c37, rfl, hp38⟩ := St.shape hS15 5 rfl
 refine ev_runK 1 hF16 [0, 1, 2, 7] (l' := [(7, nP z17 0), (0, nI i0), (1, nI i1), (2, nI i2)]) (w' := w13) (by kernel_rfl) ?_
 intro a41 hF40; clear hF16
 refine wpList_nil ?_
 have hS42 := hS15.drop
 clear hS15
 refine thenN (wp_seq (wp_seq (wp_region_lit ?_)))
 refine ev_call 14 #[] hF40 rfl rfl (by kernel_rfl) rfl (by kernel_rfl) (fun w => by kernel_rfl) ?_
 obtain ⟨y43, hx44, hm45⟩ := bind1E hm12; clear hm12
 refine (law12_awake.ok hS42 hx44).mono ?_
 rintro _ w46 ⟨rfl, hS48⟩ a47 hF49; clear hF40 hS42
 refine ev_runs 2 hF49 (l' := [(24, .bool (!(y43))), (23, .bool (!(y43))), (22, .bool (y43)), (7, nP z17 0), (0, nI i0), (1, nI i1), (2, nI i2)]) (w' := w46) (by kernel_rfl) ?_
 intro a51 hF50; clear hF49
 cases hc52 : (!(y43)) with
 | true =>
  rw [hc52] at hF50
  rw [hc52] at hm45
  have hm53 := ifT hm45; clear hm45
  refine ev_runK 3 hF50 [0, 1, 2, 7, 27] (l' := [(27, .bool true), (7, nP z17 0), (0, nI i0), (1, nI i1), (2, nI i2)]) (w' := w46) (by kernel_rfl) ?_
  intro a55 hF54; clear hF50
  refine wpList_nil (thenN ?_)
  refine ev_condT hF54 rfl rfl ?_
  refine wp_seq (wp_region_lit ?_)
  refine ev_runK 1 hF54 [6] (l' := [(6, .bool false)]) (w' := w46) (by kernel_rfl) ?_
  intro a57 hF56; clear hF54
  refine wpList_nil ?_
  have hS58 := hS48.drop.drop.drop.drop.drop
  clear hS48
  refine thenN ?_
  refine wp_ret ?_
  refine thenR ?_
  obtain rfl := Option.some.inj hm53
  refine ev_ret hF56 [6] (.bool false) rfl rfl rfl ?_
  exact ⟨rfl, hS58⟩
 | false =>
  rw [hc52] at hF50
  rw [hc52] at hm45
  have hm60 := ifF hm45; clear hm45
  refine ev_runK 3 hF50 [0, 1, 2, 7, 27] (l' := [(27, .bool false), (7, nP z17 0), (0, nI i0), (1, nI i1), (2, nI i2)]) (w' := w46) (by kernel_rfl) ?_
  intro a62 hF61; clear hF50
  refine wpList_nil (thenN ?_)
  refine ev_condF hF61 rfl rfl ?_
  refine wp_skip ?_
  have hF63 := hF61.keep [0, 1, 2, 7]
  clear hF61
  refine thenN (wp_seq ?_)
  -- draws
  have hS64 := hS48.drew; clear hS48
  refine any_start (fun wS => ∃ qs, St w0 F0 (BlkP z17 32 #[nP z18 0, nP z20 0, .slice p32 L9.length c33, .slice p36 L10.length c37] :: qs) wS) 12 #[false, false, false, false, false, false, false, false, false, false, false, false] (by kernel_rfl) (by kernel_rfl) (by kernel_rfl) ?_
  refine any_many 5 [(0, some (nP z17 0)), (1, some (nP z17 0)), (2, some (nP z17 0)), (3, some (nP z18 0)), (4, some (nP z17 0))] [0, 1, 2, 7, 9, 28, 32, 33, 34, 35, 36, 37] #[true, true, true, true, true, false, false, false, false, false, false, false] (by rfl) hF63 (by kernel_rfl) (by kernel_rfl) (by exact (And.intro (fun wS hw => by kernel_rfl) (And.intro (fun wS hw => by kernel_rfl) (And.intro (fun wS hw => by kernel_rfl) (And.intro (fun wS hw => hw.elim fun qs hw => run_loadV rfl rfl (run_loadS rfl rfl (hw.cell 0 rfl 0 rfl))) (And.intro (fun wS hw => by kernel_rfl) trivial)))))) (fun _ _ _ _ _ h => h) ⟨_, hS64⟩ (l' := [(33, nP z17 0), (32, nP z18 0), (7, nP z17 0), (0, nI i0), (1, nI i1), (2, nI i2)]) (by kernel_rfl) ?_
  intro a66 hF65; clear hF63
  refine any_call 5 #[true, true, true, true, true, true, false, false, false, false, false, false] 21 #[nP z17 0, nI 0] hF65 rfl (by kernel_rfl) rfl rfl (by kernel_rfl) rfl (by kernel_rfl) (fun w => by kernel_rfl) (by kernel_rfl) ?_
  obtain ⟨x67, s68, s69, hx70, hm71⟩ := bind3E hm60; clear hm60
  refine (law12_gor.ok hS64 hx70).mono ?_
  rintro _ w72 ⟨rfl, hS74⟩; clear hS64
  refine ⟨⟨_, hS74⟩, ?_⟩
  intro a73 hF75; clear hF65
  have hS76 := hS74.pick1
  clear hS74
  refine any_call 6 #[true, true, true, true, true, true, true, false, false, false, false, false] 17 #[nP z18 0, nI x67] hF75 rfl (by kernel_rfl) rfl rfl (by kernel_rfl) rfl (by kernel_rfl) (fun w => by kernel_rfl) (by kernel_rfl) ?_
  obtain ⟨x77, x78, s79, hx80, hm81⟩ := bind3E hm71; clear hm71
  refine (ring_Take.ok hS76 hx80).mono ?_
  rintro _ w82 ⟨rfl, hS84⟩; clear hS76
  refine ⟨⟨_, hS84.pick1⟩, ?_⟩
  intro a83 hF85; clear hF75
  refine any_many 5 [(7, some (.tuple #[nI x77, nI x78])), (8, some (nI x77)), (9, some (nI x78)), (10, some (nI x77)), (11, some (nI x78))] [0, 1, 2, 7, 9] #[true, true, true, true, true, true, true, true, true, true, true, true] (by rfl) hF85 (by kernel_rfl) (by kernel_rfl) (by exact (And.intro (fun wS hw => by kernel_rfl) (And.intro (fun wS hw => by kernel_rfl) (And.intro (fun wS hw => by kernel_rfl) (And.intro (fun wS hw => by kernel_rfl) (And.intro (fun wS hw => by kernel_rfl) trivial)))))) (fun _ _ _ _ _ h => h) ⟨_, hS84.pick1⟩ (l' := [(9, nI x78), (7, nP z17 0), (0, nI i0), (1, nI i1), (2, nI i2)]) (by kernel_rfl) ?_
  intro a87 hF86; clear hF85
  refine any_done (by kernel_rfl) ?_
  refine thenN (wp_seq (wp_region_lit ?_))
  refine ev_runs 1 hF86 (l' := [(39, nI i0), (9, nI x78), (7, nP z17 0), (0, nI i0), (1, nI i1), (2, nI i2)]) (w' := w82) (by kernel_rfl) ?_
  intro a89 hF88; clear hF86
  refine ev_call 17 #[.pointer none, nI i0] hF88 rfl rfl (by kernel_rfl) rfl (by kernel_rfl) (fun w => by kernel_rfl) ?_
  obtain ⟨x90, x91, hx92, hm93⟩ := bind2E hm81; clear hm81
  refine (ring_TakeN.ok hS84 hx92).mono ?_
  rintro _ w94 ⟨rfl, hS96⟩ a95 hF97; clear hF88 hS84
  refine ev_runK 5 hF97 [0, 1, 2, 7, 9, 11] (l' := [(11, nI x91), (9, nI x78), (7, nP z17 0), (0, nI i0), (1, nI i1), (2, nI i2)]) (w' := w94) (by kernel_rfl) ?_
  intro a99 hF98; clear hF97
  refine wpList_nil (thenN (wp_seq (wp_region_lit ?_)))
  refine ev_runs 1 hF98 (l' := [(43, nI i0), (11, nI x91), (9, nI x78), (7, nP z17 0), (0, nI i0), (1, nI i1), (2, nI i2)]) (w' := w94) (by kernel_rfl) ?_
  intro a101 hF100; clear hF98
  refine ev_call 15 #[.pointer none, nI i0, nI 1] hF100 rfl rfl (by kernel_rfl) rfl (by kernel_rfl) (fun w => by kernel_rfl) ?_
  obtain ⟨x102, hx103, hm104⟩ := bind1E hm93; clear hm93
  refine (ring_PutN.ok hS96 hx103).mono ?_
  rintro _ w105 ⟨rfl, hS107⟩ a106 hF108; clear hF100 hS96
  refine ev_runK 1 hF108 [1, 2, 7, 9, 11, 12] (l' := [(12, nI x102), (11, nI x91), (9, nI x78), (7, nP z17 0), (1, nI i1), (2, nI i2)]) (w' := w105) (by kernel_rfl) ?_
  intro a110 hF109; clear hF108
  refine wpList_nil (thenN (wp_seq ?_))
  refine thenJ (fun aI wI => ∃ (g111 : Nat) (s112 : HSt) (s113 : HSt) (x114 : Int) (x115 : Int) (x116 : Int) (x117 : Int) (x118 : Int) (x119 : Int) (x120 : Int) (x121 : Int) (x122 : Int), Fr 143 aI [(13, nP g111 0), (12, nI x102), (11, nI x91), (9, nI x78), (7, nP z17 0), (1, nI i1), (2, nI i2)] ∧ St w0 F0 (BlkP g111 37 #[nI x114, nI x115, nI x116, nI x117, nI x118, nI x119, nI x120, nI x121, nI x122] :: HeapP z18 z19 s112 :: BlkP z17 32 #[nP z18 0, nP z20 0, .slice p32 L9.length c33, .slice p36 L10.length c37] :: RHeapP z20 z21 z22 z23 z24 s113 :: RowP (.slice p32 L9.length c33) L9 :: RowP (.slice p36 L10.length c37) L10 :: ps) wI ∧ RingRefuses.j1 i1 i2 k L9 L10 x78 x91 x102 s112 s113 x114 x115 x116 x117 x118 x119 x120 x121 x122 = some r0) ?_ ?_
  rotate_left
  · rintro a124 w125 ⟨g111, s112, s113, x114, x115, x116, x117, x118, x119, x120, x121, x122, hF126, hS127, hm128⟩
    clear hF109 hS107 hm104
    unfold RingRefuses.j1 at hm128
    refine wp_seq ?_
    refine thenJ (fun aI wI => ∃ (g130 : Nat) (s131 : HSt) (s132 : HSt) (x133 : Int) (x134 : Int) (x135 : Int) (x136 : Int) (x137 : Int) (x138 : Int) (x139 : Int) (x140 : Int) (x141 : Int), Fr 143 aI [(15, nP g130 0), (13, nP g111 0), (12, nI x102), (11, nI x91), (9, nI x78), (7, nP z17 0), (1, nI i1), (2, nI i2)] ∧ St w0 F0 (BlkP g130 37 #[nI x133, nI x134, nI x135, nI x136, nI x137, nI x138, nI x139, nI x140, nI x141] :: HeapP z18 z19 s131 :: BlkP z17 32 #[nP z18 0, nP z20 0, .slice p32 L9.length c33, .slice p36 L10.length c37] :: RHeapP z20 z21 z22 z23 z24 s132 :: RowP (.slice p32 L9.length c33) L9 :: RowP (.slice p36 L10.length c37) L10 :: BlkP g111 37 #[nI x114, nI x115, nI x116, nI x117, nI x118, nI x119, nI x120, nI x121, nI x122] :: ps) wI ∧ RingRefuses.j2 i1 i2 k L9 L10 x78 x91 x102 x115 x114 x119 x120 x121 x122 s131 s132 x133 x134 x135 x136 x137 x138 x139 x140 x141 = some r0) ?_ ?_
    rotate_left
    · rintro a143 w144 ⟨g130, s131, s132, x133, x134, x135, x136, x137, x138, x139, x140, x141, hF145, hS146, hm147⟩
      clear hF126 hS127 hm128
      unfold RingRefuses.j2 at hm147
      refine wp_seq (wp_region_lit ?_)
      refine ev_runs 1 hF145 (l' := [(65, nP g130 4), (15, nP g130 0), (13, nP g111 0), (12, nI x102), (11, nI x91), (9, nI x78), (7, nP z17 0), (1, nI i1), (2, nI i2)]) (w' := w144) (by kernel_rfl) ?_
      intro a150 hF149; clear hF145
      refine ev_one (nI x137) w144 hF149 (by kernel_rfl) rfl (by kernel_rfl) (run_loadV rfl rfl (run_loadS rfl rfl (hS146.cell 0 rfl 4 rfl))) (l' := [(66, nI x137), (65, nP g130 4), (15, nP g130 0), (13, nP g111 0), (12, nI x102), (11, nI x91), (9, nI x78), (7, nP z17 0), (1, nI i1), (2, nI i2)]) (by kernel_rfl) ?_
      intro a152 hF151; clear hF149
      refine ev_runs 5 hF151 (l' := [(71, nP g111 4), (70, nI (Int.tmod i2 5)), (69, nI i2), (68, nI (Int.tmod i1 5)), (67, nI i1), (66, nI x137), (65, nP g130 4), (15, nP g130 0), (13, nP g111 0), (12, nI x102), (11, nI x91), (9, nI x78), (7, nP z17 0), (1, nI i1), (2, nI i2)]) (w' := w144) (by kernel_rfl) ?_
      intro a154 hF153; clear hF151
      have hS155 := hS146.pick6
      clear hS146
      refine ev_store (nI x137) #[nI x114, nI x115, nI x116, nI x117, nI x137, nI x119, nI x120, nI x121, nI x122] hF153 (by kernel_rfl) rfl rfl rfl rfl (by kernel_rfl) hS155 (by kernel_rfl) (by kernel_rfl) (by kernel_rfl) (l' := [(71, nP g111 4), (70, nI (Int.tmod i2 5)), (69, nI i2), (68, nI (Int.tmod i1 5)), (67, nI i1), (66, nI x137), (65, nP g130 4), (15, nP g130 0), (13, nP g111 0), (12, nI x102), (11, nI x91), (9, nI x78), (7, nP z17 0), (1, nI i1), (2, nI i2)]) (by kernel_rfl) ?_
      intro w156 a157 hS158 hF159; clear hF153 hS155
      refine ev_runs 1 hF159 (l' := [(72, nP g111 2), (71, nP g111 4), (70, nI (Int.tmod i2 5)), (69, nI i2), (68, nI (Int.tmod i1 5)), (67, nI i1), (66, nI x137), (65, nP g130 4), (15, nP g130 0), (13, nP g111 0), (12, nI x102), (11, nI x91), (9, nI x78), (7, nP z17 0), (1, nI i1), (2, nI i2)]) (w' := w156) (by kernel_rfl) ?_
      intro a161 hF160; clear hF159
      refine ev_store (nI (Int.tmod i1 5)) #[nI x114, nI x115, nI (Int.tmod i1 5), nI x117, nI x137, nI x119, nI x120, nI x121, nI x122] hF160 (by kernel_rfl) rfl rfl rfl rfl (by kernel_rfl) hS158 (by kernel_rfl) (by kernel_rfl) (by kernel_rfl) (l' := [(72, nP g111 2), (71, nP g111 4), (70, nI (Int.tmod i2 5)), (69, nI i2), (68, nI (Int.tmod i1 5)), (67, nI i1), (66, nI x137), (65, nP g130 4), (15, nP g130 0), (13, nP g111 0), (12, nI x102), (11, nI x91), (9, nI x78), (7, nP z17 0), (1, nI i1), (2, nI i2)]) (by kernel_rfl) ?_
      intro w162 a163 hS164 hF165; clear hF160 hS158
      refine ev_runs 1 hF165 (l' := [(73, nP g111 3), (72, nP g111 2), (71, nP g111 4), (70, nI (Int.tmod i2 5)), (69, nI i2), (68, nI (Int.tmod i1 5)), (67, nI i1), (66, nI x137), (65, nP g130 4), (15, nP g130 0), (13, nP g111 0), (12, nI x102), (11, nI x91), (9, nI x78), (7, nP z17 0), (1, nI i1), (2, nI i2)]) (w' := w162) (by kernel_rfl) ?_
      intro a167 hF166; clear hF165
      refine ev_store (nI (Int.tmod i2 5)) #[nI x114, nI x115, nI (Int.tmod i1 5), nI (Int.tmod i2 5), nI x137, nI x119, nI x120, nI x121, nI x122] hF166 (by kernel_rfl) rfl rfl rfl rfl (by kernel_rfl) hS164 (by kernel_rfl) (by kernel_rfl) (by kernel_rfl) (l' := [(73, nP g111 3), (72, nP g111 2), (71, nP g111 4), (70, nI (Int.tmod i2 5)), (69, nI i2), (68, nI (Int.tmod i1 5)), (67, nI i1), (66, nI x137), (65, nP g130 4), (15, nP g130 0), (13, nP g111 0), (12, nI x102), (11, nI x91), (9, nI x78), (7, nP z17 0), (1, nI i1), (2, nI i2)]) (by kernel_rfl) ?_
      intro w168 a169 hS170 hF171; clear hF166 hS164
      refine wpList_nil ?_
      have hF172 := hF171.keep [7, 9, 11, 12, 13]
      clear hF171
      have hS173 := hS170.pick1.drop
      clear hS170
      refine thenN (wp_seq ?_)
      -- draws
      have hS174 := hS173.pick2
      clear hS173
      have hS175 := hS174.drew; clear hS174
      refine any_start (fun wS => ∃ qs, St w0 F0 (BlkP z17 32 #[nP z18 0, nP z20 0, .slice p32 L9.length c33, .slice p36 L10.length c37] :: BlkP g111 37 #[nI x114, nI x115, nI (Int.tmod i1 5), nI (Int.tmod i2 5), nI x137, nI x119, nI x120, nI x121, nI x122] :: qs) wS) 8 #[false, false, false, false, false, false, false, false] (by kernel_rfl) (by kernel_rfl) (by kernel_rfl) ?_
      refine any_many 6 [(0, some (nP z17 0)), (1, some (nP z17 0)), (2, some (nP z17 0)), (3, some (nP z18 0)), (4, some (nP z17 0)), (6, some (.agg #[nI x114, nI x115, nI (Int.tmod i1 5), nI (Int.tmod i2 5), nI x137, nI x119, nI x120, nI x121, nI x122]))] [7, 9, 11, 12, 77, 78, 79, 80] #[true, true, true, true, true, false, true, false] (by rfl) hF172 (by kernel_rfl) (by kernel_rfl) (by exact (And.intro (fun wS hw => by kernel_rfl) (And.intro (fun wS hw => by kernel_rfl) (And.intro (fun wS hw => by kernel_rfl) (And.intro (fun wS hw => hw.elim fun qs hw => run_loadV rfl rfl (run_loadS rfl rfl (hw.cell 0 rfl 0 rfl))) (And.intro (fun wS hw => by kernel_rfl) (And.intro (fun wS hw => hw.elim fun qs hw => run_loadV rfl rfl (run_loadA (cs := [nI x114, nI x115, nI (Int.tmod i1 5), nI (Int.tmod i2 5), nI x137, nI x119, nI x120, nI x121, nI x122]) rfl rfl (by kernel_rfl) (blk_cells hw 1 rfl rfl))) trivial))))))) (fun _ _ _ _ _ h => h) ⟨_, hS175⟩ (l' := [(80, .agg #[nI x114, nI x115, nI (Int.tmod i1 5), nI (Int.tmod i2 5), nI x137, nI x119, nI x120, nI x121, nI x122]), (78, nP z17 0), (77, nP z18 0), (12, nI x102), (11, nI x91), (9, nI x78), (7, nP z17 0)]) (by kernel_rfl) ?_
      intro a177 hF176; clear hF172
      have hS178 := hS175.pick5.pick5.pick5.pick5.pick4
      clear hS175
      refine any_call 5 #[true, true, true, true, true, true, true, false] 16 #[nP z17 0, nI 0] hF176 rfl (by kernel_rfl) rfl rfl (by kernel_rfl) rfl (by kernel_rfl) (fun w => by kernel_rfl) (by kernel_rfl) ?_
      obtain ⟨x179, s180, s181, hx182, hm183⟩ := bind3E hm147; clear hm147
      refine (law12_ch.ok hS178 hx182).mono ?_
      rintro _ w184 ⟨rfl, hS186⟩; clear hS178
      refine ⟨⟨_, hS186.pick5.pick1⟩, ?_⟩
      intro a185 hF187; clear hF176
      have hS188 := hS186.pick1
      clear hS186
      refine any_call 7 #[true, true, true, true, true, true, true, true] 22 #[nP z18 0, nI x179, .agg #[nI x114, nI x115, nI (Int.tmod i1 5), nI (Int.tmod i2 5), nI x137, nI x119, nI x120, nI x121, nI x122]] hF187 rfl (by kernel_rfl) rfl rfl (by kernel_rfl) rfl (by kernel_rfl) (fun w => by kernel_rfl) (by kernel_rfl) ?_
      obtain ⟨x189, s190, hx191, hm192⟩ := bind2E hm183; clear hm183
      refine (p_PutChan hS188 hx191).mono ?_
      rintro _ w193 ⟨rfl, hS195⟩; clear hS188
      refine ⟨⟨_, hS195.pick5.pick2⟩, ?_⟩
      intro a194 hF196; clear hF187
      refine any_done (by kernel_rfl) ?_
      have hF197 := hF196.keep [7, 9, 11, 12]
      clear hF196
      have hS198 := hS195.pick5.drop
      clear hS195
      refine thenN (wp_seq ?_)
      -- draws
      have hS199 := hS198.pick1
      clear hS198
      have hS200 := hS199.drew; clear hS199
      refine any_start (fun wS => ∃ qs, St w0 F0 (BlkP z17 32 #[nP z18 0, nP z20 0, .slice p32 L9.length c33, .slice p36 L10.length c37] :: qs) wS) 12 #[false, false, false, false, false, false, false, false, false, false, false, false] (by kernel_rfl) (by kernel_rfl) (by kernel_rfl) ?_
      refine any_many 5 [(0, some (nP z17 0)), (1, some (nP z17 0)), (2, some (nP z17 0)), (3, some (nP z18 0)), (4, some (nP z17 0))] [7, 9, 11, 12, 18, 82, 86, 87, 88, 89, 90, 91] #[true, true, true, true, true, false, false, false, false, false, false, false] (by rfl) hF197 (by kernel_rfl) (by kernel_rfl) (by exact (And.intro (fun wS hw => by kernel_rfl) (And.intro (fun wS hw => by kernel_rfl) (And.intro (fun wS hw => by kernel_rfl) (And.intro (fun wS hw => hw.elim fun qs hw => run_loadV rfl rfl (run_loadS rfl rfl (hw.cell 0 rfl 0 rfl))) (And.intro (fun wS hw => by kernel_rfl) trivial)))))) (fun _ _ _ _ _ h => h) ⟨_, hS200⟩ (l' := [(87, nP z17 0), (86, nP z18 0), (12, nI x102), (11, nI x91), (9, nI x78), (7, nP z17 0)]) (by kernel_rfl) ?_
      intro a202 hF201; clear hF197
      refine any_call 5 #[true, true, true, true, true, true, false, false, false, false, false, false] 16 #[nP z17 0, nI 0] hF201 rfl (by kernel_rfl) rfl rfl (by kernel_rfl) rfl (by kernel_rfl) (fun w => by kernel_rfl) (by kernel_rfl) ?_
      obtain ⟨x203, s204, s205, hx206, hm207⟩ := bind3E hm192; clear hm192
      refine (law12_ch.ok hS200 hx206).mono ?_
      rintro _ w208 ⟨rfl, hS210⟩; clear hS200
      refine ⟨⟨_, hS210⟩, ?_⟩
      intro a209 hF211; clear hF201
      have hS212 := hS210.pick1
      clear hS210
      refine any_call 6 #[true, true, true, true, true, true, true, false, false, false, false, false] 17 #[nP z18 0, nI x203] hF211 rfl (by kernel_rfl) rfl rfl (by kernel_rfl) rfl (by kernel_rfl) (fun w => by kernel_rfl) (by kernel_rfl) ?_
      obtain ⟨x213, x214, s215, hx216, hm217⟩ := bind3E hm207; clear hm207
      refine (ring_Take.ok hS212 hx216).mono ?_
      rintro _ w218 ⟨rfl, hS220⟩; clear hS212
      refine ⟨⟨_, hS220.pick1⟩, ?_⟩
      intro a219 hF221; clear hF211
      refine any_many 5 [(7, some (.tuple #[nI x213, nI x214])), (8, some (nI x213)), (9, some (nI x214)), (10, some (nI x213)), (11, some (nI x214))] [7, 9, 11, 12, 18] #[true, true, true, true, true, true, true, true, true, true, true, true] (by rfl) hF221 (by kernel_rfl) (by kernel_rfl) (by exact (And.intro (fun wS hw => by kernel_rfl) (And.intro (fun wS hw => by kernel_rfl) (And.intro (fun wS hw => by kernel_rfl) (And.intro (fun wS hw => by kernel_rfl) (And.intro (fun wS hw => by kernel_rfl) trivial)))))) (fun _ _ _ _ _ h => h) ⟨_, hS220.pick1⟩ (l' := [(18, nI x214), (12, nI x102), (11, nI x91), (9, nI x78), (7, nP z17 0)]) (by kernel_rfl) ?_
      intro a223 hF222; clear hF221
      refine any_done (by kernel_rfl) ?_
      refine thenN (wp_seq ?_)
      -- draws
      have hS224 := hS220.pick1
      clear hS220
      have hS225 := hS224.drew; clear hS224
      refine any_start (fun wS => ∃ qs, St w0 F0 (BlkP z17 32 #[nP z18 0, nP z20 0, .slice p32 L9.length c33, .slice p36 L10.length c37] :: qs) wS) 8 #[false, false, false, false, false, false, false, false] (by kernel_rfl) (by kernel_rfl) (by kernel_rfl) ?_
      refine any_many 5 [(0, some (nP z17 0)), (1, some (nP z17 0)), (2, some (nP z17 0)), (3, some (nP z18 0)), (4, some (nP z17 0))] [7, 9, 11, 12, 18, 19, 95, 96, 97, 98] #[true, true, true, true, true, false, false, false] (by rfl) hF222 (by kernel_rfl) (by kernel_rfl) (by exact (And.intro (fun wS hw => by kernel_rfl) (And.intro (fun wS hw => by kernel_rfl) (And.intro (fun wS hw => by kernel_rfl) (And.intro (fun wS hw => hw.elim fun qs hw => run_loadV rfl rfl (run_loadS rfl rfl (hw.cell 0 rfl 0 rfl))) (And.intro (fun wS hw => by kernel_rfl) trivial)))))) (fun _ _ _ _ _ h => h) ⟨_, hS225⟩ (l' := [(96, nP z17 0), (95, nP z18 0), (18, nI x214), (12, nI x102), (11, nI x91), (9, nI x78), (7, nP z17 0)]) (by kernel_rfl) ?_
      intro a227 hF226; clear hF222
      refine any_call 5 #[true, true, true, true, true, true, false, false] 16 #[nP z17 0, nI 0] hF226 rfl (by kernel_rfl) rfl rfl (by kernel_rfl) rfl (by kernel_rfl) (fun w => by kernel_rfl) (by kernel_rfl) ?_
      obtain ⟨x228, s229, s230, hx231, hm232⟩ := bind3E hm217; clear hm217
      refine (law12_ch.ok hS225 hx231).mono ?_
      rintro _ w233 ⟨rfl, hS235⟩; clear hS225
      refine ⟨⟨_, hS235⟩, ?_⟩
      intro a234 hF236; clear hF226
      have hS237 := hS235.pick1
      clear hS235
      refine any_call 6 #[true, true, true, true, true, true, true, false] 15 #[nP z18 0, nI x228, nI 1] hF236 rfl (by kernel_rfl) rfl rfl (by kernel_rfl) rfl (by kernel_rfl) (fun w => by kernel_rfl) (by kernel_rfl) ?_
      obtain ⟨x238, s239, hx240, hm241⟩ := bind2E hm232; clear hm232
      refine (ring_Put.ok hS237 hx240).mono ?_
      rintro _ w242 ⟨rfl, hS244⟩; clear hS237
      refine ⟨⟨_, hS244.pick1⟩, ?_⟩
      intro a243 hF245; clear hF236
      refine any_many 1 [(7, some (nI x238))] [7, 9, 11, 12, 18, 19] #[true, true, true, true, true, true, true, true] (by rfl) hF245 (by kernel_rfl) (by kernel_rfl) (by exact (And.intro (fun wS hw => by kernel_rfl) trivial)) (fun _ _ _ _ _ h => h) ⟨_, hS244.pick1⟩ (l' := [(19, nI x238), (18, nI x214), (12, nI x102), (11, nI x91), (9, nI x78), (7, nP z17 0)]) (by kernel_rfl) ?_
      intro a247 hF246; clear hF245
      refine any_done (by kernel_rfl) ?_
      refine thenN (wp_seq ?_)
      refine thenJ (fun aI wI => ∃ (y248 : Bool), Fr 143 aI [(6, .bool (y248))] ∧ St w0 F0 (ps) wI ∧ RingRefuses.j3 y248 = some r0) ?_ ?_
      rotate_left
      · rintro a250 w251 ⟨y248, hF252, hS253, hm254⟩
        clear hF246 hS244 hm241
        unfold RingRefuses.j3 at hm254
        refine wp_ret ?_
        obtain rfl := Option.some.inj hm254
        refine ev_ret hF252 [6] (.bool (y248)) rfl rfl rfl ?_
        exact ⟨rfl, hS253⟩
      · skip
        -- draws
        have hS257 := hS244.pick1
        clear hS244
        have hS258 := hS257.drew; clear hS257
        refine any_start (fun wS => ∃ qs, St w0 F0 (BlkP z17 32 #[nP z18 0, nP z20 0, .slice p32 L9.length c33, .slice p36 L10.length c37] :: qs) wS) 45 #[false, false, false, false, false, false, false, false, false, false, false, false, false, false, false, false, false, false, false, false, false, false, false, false, false, false, false, false, false, false, false, false, false, false, false, false, false, false, false, false, false, false, false, false, false] (by kernel_rfl) (by kernel_rfl) (by kernel_rfl) ?_
        refine any_many 3 [(0, some (nI x78)), (1, some (.bool (x78 == 10))), (2, some (.bool (x78 == 10)))] [6, 7, 11, 12, 18, 19, 101, 102, 103, 104, 105, 106, 107, 108, 109, 110, 111, 112, 113, 114, 115, 116, 117, 118, 119, 120, 121, 122, 123, 124, 125, 126, 127, 128, 129, 130, 131, 132, 133, 134, 135, 136, 137, 138, 139, 140, 141, 142] #[true, true, true, false, false, false, false, false, false, false, false, false, false, false, false, false, false, false, false, false, false, false, false, false, false, false, false, false, false, false, false, false, false, false, false, false, false, false, false, false, false, false, false, false, false] (by rfl) hF246 (by kernel_rfl) (by kernel_rfl) (by exact (And.intro (fun wS hw => by kernel_rfl) (And.intro (fun wS hw => by kernel_rfl) (And.intro (fun wS hw => by kernel_rfl) trivial)))) (fun _ _ _ _ _ h => h) ⟨_, hS258⟩ (l' := [(101, .bool (x78 == 10)), (19, nI x238), (18, nI x214), (12, nI x102), (11, nI x91), (7, nP z17 0)]) (by kernel_rfl) ?_
        intro a260 hF259; clear hF246
        cases hc261 : (x78 == 10) with
        | true =>
         rw [hc261] at hF259
         rw [hc261] at hm241
         have hm262 := ifT hm241; clear hm241
         refine any_many 4 [(3, some (nI x91)), (4, some (.bool (x91 == 2))), (5, some (.bool (x91 == 2))), (6, some (.bool (x91 == 2)))] [6, 7, 12, 18, 19, 105, 106, 107, 108, 109, 110, 111, 112, 113, 114, 115, 116, 117, 118, 119, 120, 121, 122, 123, 124, 125, 126, 127, 128, 129, 130, 131, 132, 133, 134, 135, 136, 137, 138, 139, 140, 141, 142] #[true, true, true, true, true, true, true, false, false, false, false, false, false, false, false, false, false, false, false, false, false, false, false, false, false, false, false, false, false, false, false, false, false, false, false, false, false, false, false, false, false, false, false, false, false] (by rfl) hF259 (by kernel_rfl) (by kernel_rfl) (by exact (And.intro (fun wS hw => by kernel_rfl) (And.intro (fun wS hw => by kernel_rfl) (And.intro (fun wS hw => by kernel_rfl) (And.intro (fun wS hw => by kernel_rfl) trivial))))) (fun _ _ _ _ _ h => h) ⟨_, hS258⟩ (l' := [(105, .bool (x91 == 2)), (19, nI x238), (18, nI x214), (12, nI x102), (7, nP z17 0)]) (by kernel_rfl) ?_
         intro a264 hF263; clear hF259
         cases hc265 : (x91 == 2) with
         | true =>
          rw [hc265] at hF263
          rw [hc265] at hm262
          have hm266 := ifT hm262; clear hm262
          refine any_many 4 [(7, some (nI x102)), (8, some (.bool (x102 == 2))), (9, some (.bool (x102 == 2))), (10, some (.bool (x102 == 2)))] [6, 7, 18, 19, 109, 110, 111, 112, 113, 114, 115, 116, 117, 118, 119, 120, 121, 122, 123, 124, 125, 126, 127, 128, 129, 130, 131, 132, 133, 134, 135, 136, 137, 138, 139, 140, 141, 142] #[true, true, true, true, true, true, true, true, true, true, true, false, false, false, false, false, false, false, false, false, false, false, false, false, false, false, false, false, false, false, false, false, false, false, false, false, false, false, false, false, false, false, false, false, false] (by rfl) hF263 (by kernel_rfl) (by kernel_rfl) (by exact (And.intro (fun wS hw => by kernel_rfl) (And.intro (fun wS hw => by kernel_rfl) (And.intro (fun wS hw => by kernel_rfl) (And.intro (fun wS hw => by kernel_rfl) trivial))))) (fun _ _ _ _ _ h => h) ⟨_, hS258⟩ (l' := [(109, .bool (x102 == 2)), (19, nI x238), (18, nI x214), (7, nP z17 0)]) (by kernel_rfl) ?_
          intro a268 hF267; clear hF263
          cases hc269 : (x102 == 2) with
          | true =>
           rw [hc269] at hF267
           rw [hc269] at hm266
           have hm270 := ifT hm266; clear hm266
           refine any_many 5 [(11, some (nP z17 0)), (12, some (nP z17 0)), (13, some (nP z17 0)), (14, some (nP z18 0)), (15, some (nP z17 0))] [6, 7, 18, 19, 109, 113, 114, 115, 116, 117, 118, 119, 120, 121, 122, 123, 124, 125, 126, 127, 128, 129, 130, 131, 132, 133, 134, 135, 136, 137, 138, 139, 140, 141, 142] #[true, true, true, true, true, true, true, true, true, true, true, true, true, true, true, true, false, false, false, false, false, false, false, false, false, false, false, false, false, false, false, false, false, false, false, false, false, false, false, false, false, false, false, false, false] (by rfl) hF267 (by kernel_rfl) (by kernel_rfl) (by exact (And.intro (fun wS hw => by kernel_rfl) (And.intro (fun wS hw => by kernel_rfl) (And.intro (fun wS hw => by kernel_rfl) (And.intro (fun wS hw => hw.elim fun qs hw => run_loadV rfl rfl (run_loadS rfl rfl (hw.cell 0 rfl 0 rfl))) (And.intro (fun wS hw => by kernel_rfl) trivial)))))) (fun _ _ _ _ _ h => h) ⟨_, hS258⟩ (l' := [(114, nP z17 0), (113, nP z18 0), (109, .bool true), (19, nI x238), (18, nI x214), (7, nP z17 0)]) (by kernel_rfl) ?_
           intro a272 hF271; clear hF267
           refine any_call 16 #[true, true, true, true, true, true, true, true, true, true, true, true, true, true, true, true, true, false, false, false, false, false, false, false, false, false, false, false, false, false, false, false, false, false, false, false, false, false, false, false, false, false, false, false, false] 21 #[nP z17 0, nI 0] hF271 rfl (by kernel_rfl) rfl rfl (by kernel_rfl) rfl (by kernel_rfl) (fun w => by kernel_rfl) (by kernel_rfl) ?_
           obtain ⟨x273, s274, s275, hx276, hm277⟩ := bind3E hm270; clear hm270
           refine (law12_gor.ok hS258 hx276).mono ?_
           rintro _ w278 ⟨rfl, hS280⟩; clear hS258
           refine ⟨⟨_, hS280⟩, ?_⟩
           intro a279 hF281; clear hF271
           have hS282 := hS280.pick1
           clear hS280
           refine any_call 17 #[true, true, true, true, true, true, true, true, true, true, true, true, true, true, true, true, true, true, false, false, false, false, false, false, false, false, false, false, false, false, false, false, false, false, false, false, false, false, false, false, false, false, false, false, false] 15 #[nP z18 0, nI x273, nI 1] hF281 rfl (by kernel_rfl) rfl rfl (by kernel_rfl) rfl (by kernel_rfl) (fun w => by kernel_rfl) (by kernel_rfl) ?_
           obtain ⟨x283, s284, hx285, hm286⟩ := bind2E hm277; clear hm277
           refine (ring_Put.ok hS282 hx285).mono ?_
           rintro _ w287 ⟨rfl, hS289⟩; clear hS282
           refine ⟨⟨_, hS289.pick1⟩, ?_⟩
           intro a288 hF290; clear hF281
           refine any_many 3 [(18, some (.bool (x283 == 10))), (19, some (.bool (x283 == 10))), (20, some (.bool (x283 == 10)))] [6, 7, 18, 19, 119, 120, 121, 122, 123, 124, 125, 126, 127, 128, 129, 130, 131, 132, 133, 134, 135, 136, 137, 138, 139, 140, 141, 142] #[true, true, true, true, true, true, true, true, true, true, true, true, true, true, true, true, true, true, true, true, true, false, false, false, false, false, false, false, false, false, false, false, false, false, false, false, false, false, false, false, false, false, false, false, false] (by rfl) hF290 (by kernel_rfl) (by kernel_rfl) (by exact (And.intro (fun wS hw => by kernel_rfl) (And.intro (fun wS hw => by kernel_rfl) (And.intro (fun wS hw => by kernel_rfl) trivial)))) (fun _ _ _ _ _ h => h) ⟨_, hS289.pick1⟩ (l' := [(119, .bool (x283 == 10)), (19, nI x238), (18, nI x214), (7, nP z17 0)]) (by kernel_rfl) ?_
           intro a292 hF291; clear hF290
           cases hc293 : (x283 == 10) with
           | true =>
            rw [hc293] at hF291
            rw [hc293] at hm286
            have hm294 := ifT hm286; clear hm286
            refine any_many 4 [(21, some (nI x214)), (22, some (.bool (x214 == 8))), (23, some (.bool (x214 == 8))), (24, some (.bool (x214 == 8)))] [6, 7, 19, 123, 124, 125, 126, 127, 128, 129, 130, 131, 132, 133, 134, 135, 136, 137, 138, 139, 140, 141, 142] #[true, true, true, true, true, true, true, true, true, true, true, true, true, true, true, true, true, true, true, true, true, true, true, true, true, false, false, false, false, false, false, false, false, false, false, false, false, false, false, false, false, false, false, false, false] (by rfl) hF291 (by kernel_rfl) (by kernel_rfl) (by exact (And.intro (fun wS hw => by kernel_rfl) (And.intro (fun wS hw => by kernel_rfl) (And.intro (fun wS hw => by kernel_rfl) (And.intro (fun wS hw => by kernel_rfl) trivial))))) (fun _ _ _ _ _ h => h) ⟨_, hS289.pick1⟩ (l' := [(123, .bool (x214 == 8)), (19, nI x238), (7, nP z17 0)]) (by kernel_rfl) ?_
            intro a296 hF295; clear hF291
            cases hc297 : (x214 == 8) with
            | true =>
             rw [hc297] at hF295
             rw [hc297] at hm294
             have hm298 := ifT hm294; clear hm294
             refine any_many 4 [(25, some (nI x238)), (26, some (.bool (x238 == 9))), (27, some (.bool (x238 == 9))), (28, some (.bool (x238 == 9)))] [6, 7, 127, 128, 129, 130, 131, 132, 133, 134, 135, 136, 137, 138, 139, 140, 141, 142] #[true, true, true, true, true, true, true, true, true, true, true, true, true, true, true, true, true, true, true, true, true, true, true, true, true, true, true, true, true, false, false, false, false, false, false, false, false, false, false, false, false, false, false, false, false] (by rfl) hF295 (by kernel_rfl) (by kernel_rfl) (by exact (And.intro (fun wS hw => by kernel_rfl) (And.intro (fun wS hw => by kernel_rfl) (And.intro (fun wS hw => by kernel_rfl) (And.intro (fun wS hw => by kernel_rfl) trivial))))) (fun _ _ _ _ _ h => h) ⟨_, hS289.pick1⟩ (l' := [(127, .bool (x238 == 9)), (7, nP z17 0)]) (by kernel_rfl) ?_
             intro a300 hF299; clear hF295
             cases hc301 : (x238 == 9) with
             | true =>
              rw [hc301] at hF299
              rw [hc301] at hm298
              have hm302 := ifT hm298; clear hm298
              refine any_many 5 [(29, some (nP z17 0)), (30, some (nP z17 0)), (31, some (nP z17 0)), (32, some (nP z18 0)), (33, some (nP z17 0))] [6, 127, 131, 132, 133, 134, 135, 136, 137, 138, 139, 140, 141, 142] #[true, true, true, true, true, true, true, true, true, true, true, true, true, true, true, true, true, true, true, true, true, true, true, true, true, true, true, true, true, true, true, true, true, true, false, false, false, false, false, false, false, false, false, false, false] (by rfl) hF299 (by kernel_rfl) (by kernel_rfl) (by exact (And.intro (fun wS hw => by kernel_rfl) (And.intro (fun wS hw => by kernel_rfl) (And.intro (fun wS hw => by kernel_rfl) (And.intro (fun wS hw => hw.elim fun qs hw => run_loadV rfl rfl (run_loadS rfl rfl (hw.cell 0 rfl 0 rfl))) (And.intro (fun wS hw => by kernel_rfl) trivial)))))) (fun _ _ _ _ _ h => h) ⟨_, hS289.pick1⟩ (l' := [(132, nP z17 0), (131, nP z18 0), (127, .bool true)]) (by kernel_rfl) ?_
              intro a304 hF303; clear hF299
              have hS305 := hS289.pick4.pick4.pick4.pick3.pick4
              clear hS289
              refine any_call 34 #[true, true, true, true, true, true, true, true, true, true, true, true, true, true, true, true, true, true, true, true, true, true, true, true, true, true, true, true, true, true, true, true, true, true, true, false, false, false, false, false, false, false, false, false, false] 16 #[nP z17 0, nI 0] hF303 rfl (by kernel_rfl) rfl rfl (by kernel_rfl) rfl (by kernel_rfl) (fun w => by kernel_rfl) (by kernel_rfl) ?_
              obtain ⟨x306, s307, s308, hx309, hm310⟩ := bind3E hm302; clear hm302
              refine (law12_ch.ok hS305 hx309).mono ?_
              rintro _ w311 ⟨rfl, hS313⟩; clear hS305
              refine ⟨⟨_, hS313⟩, ?_⟩
              intro a312 hF314; clear hF303
              have hS315 := hS313.pick1
              clear hS313
              refine any_call 35 #[true, true, true, true, true, true, true, true, true, true, true, true, true, true, true, true, true, true, true, true, true, true, true, true, true, true, true, true, true, true, true, true, true, true, true, true, false, false, false, false, false, false, false, false, false] 20 #[nP z18 0, nI x306] hF314 rfl (by kernel_rfl) rfl rfl (by kernel_rfl) rfl (by kernel_rfl) (fun w => by kernel_rfl) (by kernel_rfl) ?_
              obtain ⟨L316, s317, hx318, hm319⟩ := bind2E hm310; clear hm310
              refine (ring_All.ok hS315 hx318).mono ?_
              rintro _ w320 ⟨z324, rfl, hS322⟩; clear hS315
              obtain ⟨hl329, p326, c327, rfl, hp328⟩ := St.shape hS322 1 rfl
              refine ⟨⟨_, hS322.pick2⟩, ?_⟩
              intro a321 hF323; clear hF314
              refine any_many 4 [(36, some (nI ((L316.length : Int)))), (37, some (.bool ((L316.length : Int) == 0))), (38, some (.bool ((L316.length : Int) == 0))), (39, some (.bool ((L316.length : Int) == 0)))] [6, 138, 139, 140, 141, 142] #[true, true, true, true, true, true, true, true, true, true, true, true, true, true, true, true, true, true, true, true, true, true, true, true, true, true, true, true, true, true, true, true, true, true, true, true, true, true, true, true, false, false, false, false, false] (by rfl) hF323 (by kernel_rfl) (by kernel_rfl) (by exact (And.intro (fun wS hw => by kernel_rfl) (And.intro (fun wS hw => by kernel_rfl) (And.intro (fun wS hw => by kernel_rfl) (And.intro (fun wS hw => by kernel_rfl) trivial))))) (fun _ _ _ _ _ h => h) ⟨_, hS322.pick2⟩ (l' := [(138, .bool ((L316.length : Int) == 0))]) (by kernel_rfl) ?_
              intro a331 hF330; clear hF323
              cases hc332 : ((L316.length : Int) == 0) with
              | true =>
               rw [hc332] at hF330
               rw [hc332] at hm319
               have hm333 := ifT hm319; clear hm319
               refine any_call 40 #[true, true, true, true, true, true, true, true, true, true, true, true, true, true, true, true, true, true, true, true, true, true, true, true, true, true, true, true, true, true, true, true, true, true, true, true, true, true, true, true, true, false, false, false, false] 20 #[.pointer none, nI 0] hF330 rfl (by kernel_rfl) rfl rfl (by kernel_rfl) rfl (by kernel_rfl) (fun w => by kernel_rfl) (by kernel_rfl) ?_
               obtain ⟨L334, hx335, hm336⟩ := bind1E hm333; clear hm333
               refine (ring_AllN.ok hS322 hx335).mono ?_
               rintro _ w337 ⟨z341, rfl, hS339⟩; clear hS322
               obtain ⟨hl346, p343, c344, rfl, hp345⟩ := St.shape hS339 0 rfl
               refine ⟨⟨_, hS339.pick3⟩, ?_⟩
               intro a338 hF340; clear hF330
               refine any_many 4 [(41, some (nI ((L334.length : Int)))), (42, some (.bool ((L334.length : Int) == 0))), (43, some (.bool ((L334.length : Int) == 0))), (44, some (.bool ((L334.length : Int) == 0)))] [6] #[true, true, true, true, true, true, true, true, true, true, true, true, true, true, true, true, true, true, true, true, true, true, true, true, true, true, true, true, true, true, true, true, true, true, true, true, true, true, true, true, true, true, true, true, true] (by rfl) hF340 (by kernel_rfl) (by kernel_rfl) (by exact (And.intro (fun wS hw => by kernel_rfl) (And.intro (fun wS hw => by kernel_rfl) (And.intro (fun wS hw => by kernel_rfl) (And.intro (fun wS hw => by kernel_rfl) trivial))))) (fun _ _ _ _ _ h => h) ⟨_, hS339.pick3⟩ (l' := [(6, .bool ((L334.length : Int) == 0))]) (by kernel_rfl) ?_
               intro a348 hF347; clear hF340
               refine any_done (by kernel_rfl) ?_
               have hS349 := hS339.drop.drop.drop.drop.drop.drop.drop
               clear hS339
               exact thenN ⟨(L334.length : Int) == 0, hF347, hS349, hm336⟩
              | false =>
               rw [hc332] at hF330
               rw [hc332] at hm319
               have hm350 := ifF hm319; clear hm319
               refine any_many 5 [(40, none), (41, none), (42, none), (43, some (.bool false)), (44, some (.bool false))] [6] #[true, true, true, true, true, true, true, true, true, true, true, true, true, true, true, true, true, true, true, true, true, true, true, true, true, true, true, true, true, true, true, true, true, true, true, true, true, true, true, true, true, true, true, true, true] (by rfl) hF330 (by kernel_rfl) (by kernel_rfl) (by exact (And.intro trivial (And.intro trivial (And.intro trivial (And.intro (fun wS hw => by kernel_rfl) (And.intro (fun wS hw => by kernel_rfl) trivial)))))) (fun _ _ _ _ _ h => h) ⟨_, hS322.pick2⟩ (l' := [(6, .bool false)]) (by kernel_rfl) ?_
               intro a352 hF351; clear hF330
               refine any_done (by kernel_rfl) ?_
               have hS353 := hS322.drop.drop.drop.drop.drop.drop
               clear hS322
               exact thenN ⟨false, hF351, hS353, hm350⟩
             | false =>
              rw [hc301] at hF299
              rw [hc301] at hm298
              have hm354 := ifF hm298; clear hm298
              refine any_many 16 [(29, none), (30, none), (31, none), (32, none), (33, none), (34, none), (35, none), (36, none), (37, none), (38, some (.bool false)), (39, some (.bool false)), (40, none), (41, none), (42, none), (43, some (.bool false)), (44, some (.bool false))] [6] #[true, true, true, true, true, true, true, true, true, true, true, true, true, true, true, true, true, true, true, true, true, true, true, true, true, true, true, true, true, true, true, true, true, true, true, true, true, true, true, true, true, true, true, true, true] (by rfl) hF299 (by kernel_rfl) (by kernel_rfl) (by exact (And.intro trivial (And.intro trivial (And.intro trivial (And.intro trivial (And.intro trivial (And.intro trivial (And.intro trivial (And.intro trivial (And.intro trivial (And.intro (fun wS hw => by kernel_rfl) (And.intro (fun wS hw => by kernel_rfl) (And.intro trivial (And.intro trivial (And.intro trivial (And.intro (fun wS hw => by kernel_rfl) (And.intro (fun wS hw => by kernel_rfl) trivial))))))))))))))))) (fun _ _ _ _ _ h => h) ⟨_, hS289.pick1⟩ (l' := [(6, .bool false)]) (by kernel_rfl) ?_
              intro a356 hF355; clear hF299
              refine any_done (by kernel_rfl) ?_
              have hS357 := hS289.drop.drop.drop.drop.drop
              clear hS289
              exact thenN ⟨false, hF355, hS357, hm354⟩
            | false =>
             rw [hc297] at hF295
             rw [hc297] at hm294
             have hm358 := ifF hm294; clear hm294
             refine any_many 20 [(25, none), (26, none), (27, some (.bool false)), (28, some (.bool false)), (29, none), (30, none), (31, none), (32, none), (33, none), (34, none), (35, none), (36, none), (37, none), (38, some (.bool false)), (39, some (.bool false)), (40, none), (41, none), (42, none), (43, some (.bool false)), (44, some (.bool false))] [6] #[true, true, true, true, true, true, true, true, true, true, true, true, true, true, true, true, true, true, true, true, true, true, true, true, true, true, true, true, true, true, true, true, true, true, true, true, true, true, true, true, true, true, true, true, true] (by rfl) hF295 (by kernel_rfl) (by kernel_rfl) (by exact (And.intro trivial (And.intro trivial (And.intro (fun wS hw => by kernel_rfl) (And.intro (fun wS hw => by kernel_rfl) (And.intro trivial (And.intro trivial (And.intro trivial (And.intro trivial (And.intro trivial (And.intro trivial (And.intro trivial (And.intro trivial (And.intro trivial (And.intro (fun wS hw => by kernel_rfl) (And.intro (fun wS hw => by kernel_rfl) (And.intro trivial (And.intro trivial (And.intro trivial (And.intro (fun wS hw => by kernel_rfl) (And.intro (fun wS hw => by kernel_rfl) trivial))))))))))))))))))))) (fun _ _ _ _ _ h => h) ⟨_, hS289.pick1⟩ (l' := [(6, .bool false)]) (by kernel_rfl) ?_
             intro a360 hF359; clear hF295
             refine any_done (by kernel_rfl) ?_
             have hS361 := hS289.drop.drop.drop.drop.drop
             clear hS289
             exact thenN ⟨false, hF359, hS361, hm358⟩
           | false =>
            rw [hc293] at hF291
            rw [hc293] at hm286
            have hm362 := ifF hm286; clear hm286
            refine any_many 24 [(21, none), (22, none), (23, some (.bool false)), (24, some (.bool false)), (25, none), (26, none), (27, some (.bool false)), (28, some (.bool false)), (29, none), (30, none), (31, none), (32, none), (33, none), (34, none), (35, none), (36, none), (37, none), (38, some (.bool false)), (39, some (.bool false)), (40, none), (41, none), (42, none), (43, some (.bool false)), (44, some (.bool false))] [6] #[true, true, true, true, true, true, true, true, true, true, true, true, true, true, true, true, true, true, true, true, true, true, true, true, true, true, true, true, true, true, true, true, true, true, true, true, true, true, true, true, true, true, true, true, true] (by rfl) hF291 (by kernel_rfl) (by kernel_rfl) (by exact (And.intro trivial (And.intro trivial (And.intro (fun wS hw => by kernel_rfl) (And.intro (fun wS hw => by kernel_rfl) (And.intro trivial (And.intro trivial (And.intro (fun wS hw => by kernel_rfl) (And.intro (fun wS hw => by kernel_rfl) (And.intro trivial (And.intro trivial (And.intro trivial (And.intro trivial (And.intro trivial (And.intro trivial (And.intro trivial (And.intro trivial (And.intro trivial (And.intro (fun wS hw => by kernel_rfl) (And.intro (fun wS hw => by kernel_rfl) (And.intro trivial (And.intro trivial (And.intro trivial (And.intro (fun wS hw => by kernel_rfl) (And.intro (fun wS hw => by kernel_rfl) trivial))))))))))))))))))))))))) (fun _ _ _ _ _ h => h) ⟨_, hS289.pick1⟩ (l' := [(6, .bool false)]) (by kernel_rfl) ?_
            intro a364 hF363; clear hF291
            refine any_done (by kernel_rfl) ?_
            have hS365 := hS289.drop.drop.drop.drop.drop
            clear hS289
            exact thenN ⟨false, hF363, hS365, hm362⟩
          | false =>
           rw [hc269] at hF267
           rw [hc269] at hm266
           have hm366 := ifF hm266; clear hm266
           refine any_many 34 [(11, none), (12, none), (13, none), (14, none), (15, none), (16, none), (17, none), (18, none), (19, some (.bool false)), (20, some (.bool false)), (21, none), (22, none), (23, some (.bool false)), (24, some (.bool false)), (25, none), (26, none), (27, some (.bool false)), (28, some (.bool false)), (29, none), (30, none), (31, none), (32, none), (33, none), (34, none), (35, none), (36, none), (37, none), (38, some (.bool false)), (39, some (.bool false)), (40, none), (41, none), (42, none), (43, some (.bool false)), (44, some (.bool false))] [6] #[true, true, true, true, true, true, true, true, true, true, true, true, true, true, true, true, true, true, true, true, true, true, true, true, true, true, true, true, true, true, true, true, true, true, true, true, true, true, true, true, true, true, true, true, true] (by rfl) hF267 (by kernel_rfl) (by kernel_rfl) (by exact (And.intro trivial (And.intro trivial (And.intro trivial (And.intro trivial (And.intro trivial (And.intro trivial (And.intro trivial (And.intro trivial (And.intro (fun wS hw => by kernel_rfl) (And.intro (fun wS hw => by kernel_rfl) (And.intro trivial (And.intro trivial (And.intro (fun wS hw => by kernel_rfl) (And.intro (fun wS hw => by kernel_rfl) (And.intro trivial (And.intro trivial (And.intro (fun wS hw => by kernel_rfl) (And.intro (fun wS hw => by kernel_rfl) (And.intro trivial (And.intro trivial (And.intro trivial (And.intro trivial (And.intro trivial (And.intro trivial (And.intro trivial (And.intro trivial (And.intro trivial (And.intro (fun wS hw => by kernel_rfl) (And.intro (fun wS hw => by kernel_rfl) (And.intro trivial (And.intro trivial (And.intro trivial (And.intro (fun wS hw => by kernel_rfl) (And.intro (fun wS hw => by kernel_rfl) trivial))))))))))))))))))))))))))))))))))) (fun _ _ _ _ _ h => h) ⟨_, hS258⟩ (l' := [(6, .bool false)]) (by kernel_rfl) ?_
           intro a368 hF367; clear hF267
           refine any_done (by kernel_rfl) ?_
           have hS369 := hS258.drop.drop.drop.drop.drop
           clear hS258
           exact thenN ⟨false, hF367, hS369, hm366⟩
         | false =>
          rw [hc265] at hF263
          rw [hc265] at hm262
          have hm370 := ifF hm262; clear hm262
          refine any_many 38 [(7, none), (8, none), (9, some (.bool false)), (10, some (.bool false)), (11, none), (12, none), (13, none), (14, none), (15, none), (16, none), (17, none), (18, none), (19, some (.bool false)), (20, some (.bool false)), (21, none), (22, none), (23, some (.bool false)), (24, some (.bool false)), (25, none), (26, none), (27, some (.bool false)), (28, some (.bool false)), (29, none), (30, none), (31, none), (32, none), (33, none), (34, none), (35, none), (36, none), (37, none), (38, some (.bool false)), (39, some (.bool false)), (40, none), (41, none), (42, none), (43, some (.bool false)), (44, some (.bool false))] [6] #[true, true, true, true, true, true, true, true, true, true, true, true, true, true, true, true, true, true, true, true, true, true, true, true, true, true, true, true, true, true, true, true, true, true, true, true, true, true, true, true, true, true, true, true, true] (by rfl) hF263 (by kernel_rfl) (by kernel_rfl) (by exact (And.intro trivial (And.intro trivial (And.intro (fun wS hw => by kernel_rfl) (And.intro (fun wS hw => by kernel_rfl) (And.intro trivial (And.intro trivial (And.intro trivial (And.intro trivial (And.intro trivial (And.intro trivial (And.intro trivial (And.intro trivial (And.intro (fun wS hw => by kernel_rfl) (And.intro (fun wS hw => by kernel_rfl) (And.intro trivial (And.intro trivial (And.intro (fun wS hw => by kernel_rfl) (And.intro (fun wS hw => by kernel_rfl) (And.intro trivial (And.intro trivial (And.intro (fun wS hw => by kernel_rfl) (And.intro (fun wS hw => by kernel_rfl) (And.intro trivial (And.intro trivial (And.intro trivial (And.intro trivial (And.intro trivial (And.intro trivial (And.intro trivial (And.intro trivial (And.intro trivial (And.intro (fun wS hw => by kernel_rfl) (And.intro (fun wS hw => by kernel_rfl) (And.intro trivial (And.intro trivial (And.intro trivial (And.intro (fun wS hw => by kernel_rfl) (And.intro (fun wS hw => by kernel_rfl) trivial))))))))))))))))))))))))))))))))))))))) (fun _ _ _ _ _ h => h) ⟨_, hS258⟩ (l' := [(6, .bool false)]) (by kernel_rfl) ?_
          intro a372 hF371; clear hF263
          refine any_done (by kernel_rfl) ?_
          have hS373 := hS258.drop.drop.drop.drop.drop
          clear hS258
          exact thenN ⟨false, hF371, hS373, hm370⟩
        | false =>
         rw [hc261] at hF259
         rw [hc261] at hm241
         have hm374 := ifF hm241; clear hm241
         refine any_many 42 [(3, none), (4, none), (5, some (.bool false)), (6, some (.bool false)), (7, none), (8, none), (9, some (.bool false)), (10, some (.bool false)), (11, none), (12, none), (13, none), (14, none), (15, none), (16, none), (17, none), (18, none), (19, some (.bool false)), (20, some (.bool false)), (21, none), (22, none), (23, some (.bool false)), (24, some (.bool false)), (25, none), (26, none), (27, some (.bool false)), (28, some (.bool false)), (29, none), (30, none), (31, none), (32, none), (33, none), (34, none), (35, none), (36, none), (37, none), (38, some (.bool false)), (39, some (.bool false)), (40, none), (41, none), (42, none), (43, some (.bool false)), (44, some (.bool false))] [6] #[true, true, true, true, true, true, true, true, true, true, true, true, true, true, true, true, true, true, true, true, true, true, true, true, true, true, true, true, true, true, true, true, true, true, true, true, true, true, true, true, true, true, true, true, true] (by rfl) hF259 (by kernel_rfl) (by kernel_rfl) (by exact (And.intro trivial (And.intro trivial (And.intro (fun wS hw => by kernel_rfl) (And.intro (fun wS hw => by kernel_rfl) (And.intro trivial (And.intro trivial (And.intro (fun wS hw => by kernel_rfl) (And.intro (fun wS hw => by kernel_rfl) (And.intro trivial (And.intro trivial (And.intro trivial (And.intro trivial (And.intro trivial (And.intro trivial (And.intro trivial (And.intro trivial (And.intro (fun wS hw => by kernel_rfl) (And.intro (fun wS hw => by kernel_rfl) (And.intro trivial (And.intro trivial (And.intro (fun wS hw => by kernel_rfl) (And.intro (fun wS hw => by kernel_rfl) (And.intro trivial (And.intro trivial (And.intro (fun wS hw => by kernel_rfl) (And.intro (fun wS hw => by kernel_rfl) (And.intro trivial (And.intro trivial (And.intro trivial (And.intro trivial (And.intro trivial (And.intro trivial (And.intro trivial (And.intro trivial (And.intro trivial (And.intro (fun wS hw => by kernel_rfl) (And.intro (fun wS hw => by kernel_rfl) (And.intro trivial (And.intro trivial (And.intro trivial (And.intro (fun wS hw => by kernel_rfl) (And.intro (fun wS hw => by kernel_rfl) trivial))))))))))))))))))))))))))))))))))))))))))) (fun _ _ _ _ _ h => h) ⟨_, hS258⟩ (l' := [(6, .bool false)]) (by kernel_rfl) ?_
         intro a376 hF375; clear hF259
         refine any_done (by kernel_rfl) ?_
         have hS377 := hS258.drop.drop.drop.drop.drop
         clear hS258
         exact thenN ⟨false, hF375, hS377, hm374⟩
    · skip
      -- draws
      have hS378 := hS127.pick2
      clear hS127
      have hS379 := hS378.drew; clear hS378
      refine any_start (fun wS => ∃ qs, St w0 F0 (BlkP z17 32 #[nP z18 0, nP z20 0, .slice p32 L9.length c33, .slice p36 L10.length c37] :: qs) wS) 13 #[false, false, false, false, false, false, false, false, false, false, false, false, false] (by kernel_rfl) (by kernel_rfl) (by kernel_rfl) ?_
      refine any_many 5 [(0, some (nP z17 0)), (1, some (nP z17 0)), (2, some (nP z17 0)), (3, some (nP z18 0)), (4, some (nP z17 0))] [1, 2, 7, 9, 11, 12, 13, 15, 55, 59, 60, 61, 62, 63, 64] #[true, true, true, true, true, false, false, false, false, false, false, false, false] (by rfl) hF126 (by kernel_rfl) (by kernel_rfl) (by exact (And.intro (fun wS hw => by kernel_rfl) (And.intro (fun wS hw => by kernel_rfl) (And.intro (fun wS hw => by kernel_rfl) (And.intro (fun wS hw => hw.elim fun qs hw => run_loadV rfl rfl (run_loadS rfl rfl (hw.cell 0 rfl 0 rfl))) (And.intro (fun wS hw => by kernel_rfl) trivial)))))) (fun _ _ _ _ _ h => h) ⟨_, hS379⟩ (l' := [(60, nP z17 0), (59, nP z18 0), (13, nP g111 0), (12, nI x102), (11, nI x91), (9, nI x78), (7, nP z17 0), (1, nI i1), (2, nI i2)]) (by kernel_rfl) ?_
      intro a381 hF380; clear hF126
      refine any_two 5 10 (by kernel_rfl) ?_ ?_
      · skip
        have hS382 := hS379.pick5.pick5.pick5.pick5.pick4
        clear hS379
        refine op_call 5 #[true, true, true, true, true, true, false, false, false, false, false, false, false] 16 #[nP z17 0, nI 1] hF380 rfl rfl rfl (by kernel_rfl) rfl (by kernel_rfl) (fun w => by kernel_rfl) (by kernel_rfl) ?_
        obtain ⟨x383, s384, s385, hx386, hm387⟩ := bind3E hm128; clear hm128
        refine (law12_ch.ok hS382 hx386).mono ?_
        rintro _ w388 ⟨rfl, hS390⟩; clear hS382
        refine ⟨⟨_, hS390⟩, ?_⟩
        intro a389 hF391; clear hF380
        refine any_two 6 10 (by kernel_rfl) ?_ ?_
        · skip
          have hS392 := hS390.pick1
          clear hS390
          refine op_call 6 #[true, true, true, true, true, true, true, false, false, false, false, false, false] 18 #[nP z18 0, nI x383] hF391 rfl rfl rfl (by kernel_rfl) rfl (by kernel_rfl) (fun w => by kernel_rfl) (by kernel_rfl) ?_
          obtain ⟨q393, x394, hx395, hm396⟩ := bind2E hm387; clear hm387
          refine (p_Chan hS392 hx395).mono ?_
          rintro _ w397 ⟨rfl, hS399⟩; clear hS392
          refine ⟨⟨_, hS399.pick1⟩, ?_⟩
          intro a398 hF400; clear hF391
          refine any_many 3 [(7, some (.tuple #[.agg #[nI (q393.cap), nI (q393.closed), nI (q393.count), nI (q393.start), nI (q393.buf), nI (q393.th), nI (q393.tt), nI (q393.sh), nI (q393.st)], nI x394])), (8, some (.agg #[nI (q393.cap), nI (q393.closed), nI (q393.count), nI (q393.start), nI (q393.buf), nI (q393.th), nI (q393.tt), nI (q393.sh), nI (q393.st)])), (9, some (nI x394))] [1, 2, 7, 9, 11, 12, 13, 15, 63, 64] #[true, true, true, true, true, true, true, true, true, true, false, false, false] (by rfl) hF400 (by kernel_rfl) (by kernel_rfl) (by exact (And.intro (fun wS hw => by kernel_rfl) (And.intro (fun wS hw => by kernel_rfl) (And.intro (fun wS hw => by kernel_rfl) trivial)))) (fun _ _ _ _ _ h => h) ⟨_, hS399.pick1⟩ (l' := [(64, nI x394), (63, .agg #[nI (q393.cap), nI (q393.closed), nI (q393.count), nI (q393.start), nI (q393.buf), nI (q393.th), nI (q393.tt), nI (q393.sh), nI (q393.st)]), (13, nP g111 0), (12, nI x102), (11, nI x91), (9, nI x78), (7, nP z17 0), (1, nI i1), (2, nI i2)]) (by kernel_rfl) ?_
          intro a402 hF401; clear hF400
          refine any_one 10 (by kernel_rfl) ?_
          have hS403 : St w0 F0 (BlkP (w397.heap.size) 37 #[nI 0, nI 0, nI 0, nI 0, nI 0, nI 0, nI 0, nI 0, nI 0] :: HeapP z18 z19 s384 :: BlkP z17 32 #[nP z18 0, nP z20 0, .slice p32 L9.length c33, .slice p36 L10.length c37] :: RHeapP z20 z21 z22 z23 z24 s385 :: RowP (.slice p32 L9.length c33) L9 :: RowP (.slice p36 L10.length c37) L10 :: BlkP g111 37 #[nI x114, nI x115, nI x116, nI x117, nI x118, nI x119, nI x120, nI x121, nI x122] :: ps) (w397.alloc (.cells #[nI 0, nI 0, nI 0, nI 0, nI 0, nI 0, nI 0, nI 0, nI 0] 37)) := St.new hS399 #[nI 0, nI 0, nI 0, nI 0, nI 0, nI 0, nI 0, nI 0, nI 0] 37
          clear hS399
          refine op_step 10 #[true, true, true, true, true, true, true, true, true, true, true, false, false] (nP (w397.heap.size) 0) (w397.alloc (.cells #[nI 0, nI 0, nI 0, nI 0, nI 0, nI 0, nI 0, nI 0, nI 0] 37)) hF401 rfl (by kernel_rfl) rfl (by kernel_rfl) (by kernel_rfl) (l' := [(15, nP (w397.heap.size) 0), (64, nI x394), (63, .agg #[nI (q393.cap), nI (q393.closed), nI (q393.count), nI (q393.start), nI (q393.buf), nI (q393.th), nI (q393.tt), nI (q393.sh), nI (q393.st)]), (13, nP g111 0), (12, nI x102), (11, nI x91), (9, nI x78), (7, nP z17 0), (1, nI i1), (2, nI i2)]) (by kernel_rfl) ⟨_, hS403.pick2⟩ (by kernel_rfl) ?_
          intro a405 hF404; clear hF401
          refine any_one 11 (by kernel_rfl) ?_
          refine op_store 11 #[true, true, true, true, true, true, true, true, true, true, true, true, false] (.agg #[nI (q393.cap), nI (q393.closed), nI (q393.count), nI (q393.start), nI (q393.buf), nI (q393.th), nI (q393.tt), nI (q393.sh), nI (q393.st)]) #[nI (q393.cap), nI (q393.closed), nI (q393.count), nI (q393.start), nI (q393.buf), nI (q393.th), nI (q393.tt), nI (q393.sh), nI (q393.st)] hF404 rfl (by kernel_rfl) rfl rfl rfl rfl (by kernel_rfl) hS403 (by kernel_rfl) (by kernel_rfl) (by kernel_rfl) (l' := [(15, nP (w397.heap.size) 0), (64, nI x394), (63, .agg #[nI (q393.cap), nI (q393.closed), nI (q393.count), nI (q393.start), nI (q393.buf), nI (q393.th), nI (q393.tt), nI (q393.sh), nI (q393.st)]), (13, nP g111 0), (12, nI x102), (11, nI x91), (9, nI x78), (7, nP z17 0), (1, nI i1), (2, nI i2)]) (by kernel_rfl) (by kernel_rfl) ?_
          intro w406 a407 hS408 hF409; clear hF404 hS403
          refine ⟨⟨_, hS408.pick2⟩, ?_⟩
          refine any_many 1 [(12, some (nI x394))] [1, 2, 7, 9, 11, 12, 13, 15] #[true, true, true, true, true, true, true, true, true, true, true, true, true] (by rfl) hF409 (by kernel_rfl) (by kernel_rfl) (by exact (And.intro (fun wS hw => by kernel_rfl) trivial)) (fun _ _ _ _ _ h => h) ⟨_, hS408.pick2⟩ (l' := [(15, nP (w397.heap.size) 0), (13, nP g111 0), (12, nI x102), (11, nI x91), (9, nI x78), (7, nP z17 0), (1, nI i1), (2, nI i2)]) (by kernel_rfl) ?_
          intro a411 hF410; clear hF409
          refine any_done (by kernel_rfl) ?_
          exact thenN ⟨(w397.heap.size), s384, s385, q393.cap, q393.closed, q393.count, q393.start, q393.buf, q393.th, q393.tt, q393.sh, q393.st, hF410, hS408, hm396⟩
        · skip
          have hS412 : St w0 F0 (BlkP (w388.heap.size) 37 #[nI 0, nI 0, nI 0, nI 0, nI 0, nI 0, nI 0, nI 0, nI 0] :: BlkP z17 32 #[nP z18 0, nP z20 0, .slice p32 L9.length c33, .slice p36 L10.length c37] :: HeapP z18 z19 s384 :: RHeapP z20 z21 z22 z23 z24 s385 :: RowP (.slice p32 L9.length c33) L9 :: RowP (.slice p36 L10.length c37) L10 :: BlkP g111 37 #[nI x114, nI x115, nI x116, nI x117, nI x118, nI x119, nI x120, nI x121, nI x122] :: ps) (w388.alloc (.cells #[nI 0, nI 0, nI 0, nI 0, nI 0, nI 0, nI 0, nI 0, nI 0] 37)) := St.new hS390 #[nI 0, nI 0, nI 0, nI 0, nI 0, nI 0, nI 0, nI 0, nI 0] 37
          clear hS390
          refine op_step 10 #[true, true, true, true, true, true, false, false, false, false, true, false, false] (nP (w388.heap.size) 0) (w388.alloc (.cells #[nI 0, nI 0, nI 0, nI 0, nI 0, nI 0, nI 0, nI 0, nI 0] 37)) hF391 rfl (by kernel_rfl) rfl (by kernel_rfl) (by kernel_rfl) (l' := [(15, nP (w388.heap.size) 0), (61, nI x383), (60, nP z17 0), (59, nP z18 0), (13, nP g111 0), (12, nI x102), (11, nI x91), (9, nI x78), (7, nP z17 0), (1, nI i1), (2, nI i2)]) (by kernel_rfl) ⟨_, hS412.pick1⟩ (by kernel_rfl) ?_
          intro a414 hF413; clear hF391
          have hS415 := hS412.pick2
          clear hS412
          refine any_call 6 #[true, true, true, true, true, true, true, false, false, false, true, false, false] 18 #[nP z18 0, nI x383] hF413 rfl (by kernel_rfl) rfl rfl (by kernel_rfl) rfl (by kernel_rfl) (fun w => by kernel_rfl) (by kernel_rfl) ?_
          obtain ⟨q416, x417, hx418, hm419⟩ := bind2E hm387; clear hm387
          refine (p_Chan hS415 hx418).mono ?_
          rintro _ w420 ⟨rfl, hS422⟩; clear hS415
          refine ⟨⟨_, hS422.pick2⟩, ?_⟩
          intro a421 hF423; clear hF413
          refine any_many 3 [(7, some (.tuple #[.agg #[nI (q416.cap), nI (q416.closed), nI (q416.count), nI (q416.start), nI (q416.buf), nI (q416.th), nI (q416.tt), nI (q416.sh), nI (q416.st)], nI x417])), (8, some (.agg #[nI (q416.cap), nI (q416.closed), nI (q416.count), nI (q416.start), nI (q416.buf), nI (q416.th), nI (q416.tt), nI (q416.sh), nI (q416.st)])), (9, some (nI x417))] [1, 2, 7, 9, 11, 12, 13, 15, 63, 64] #[true, true, true, true, true, true, true, true, true, true, true, false, false] (by rfl) hF423 (by kernel_rfl) (by kernel_rfl) (by exact (And.intro (fun wS hw => by kernel_rfl) (And.intro (fun wS hw => by kernel_rfl) (And.intro (fun wS hw => by kernel_rfl) trivial)))) (fun _ _ _ _ _ h => h) ⟨_, hS422.pick2⟩ (l' := [(64, nI x417), (63, .agg #[nI (q416.cap), nI (q416.closed), nI (q416.count), nI (q416.start), nI (q416.buf), nI (q416.th), nI (q416.tt), nI (q416.sh), nI (q416.st)]), (15, nP (w388.heap.size) 0), (13, nP g111 0), (12, nI x102), (11, nI x91), (9, nI x78), (7, nP z17 0), (1, nI i1), (2, nI i2)]) (by kernel_rfl) ?_
          intro a425 hF424; clear hF423
          refine any_one 11 (by kernel_rfl) ?_
          have hS426 := hS422.pick1
          clear hS422
          refine op_store 11 #[true, true, true, true, true, true, true, true, true, true, true, true, false] (.agg #[nI (q416.cap), nI (q416.closed), nI (q416.count), nI (q416.start), nI (q416.buf), nI (q416.th), nI (q416.tt), nI (q416.sh), nI (q416.st)]) #[nI (q416.cap), nI (q416.closed), nI (q416.count), nI (q416.start), nI (q416.buf), nI (q416.th), nI (q416.tt), nI (q416.sh), nI (q416.st)] hF424 rfl (by kernel_rfl) rfl rfl rfl rfl (by kernel_rfl) hS426 (by kernel_rfl) (by kernel_rfl) (by kernel_rfl) (l' := [(64, nI x417), (63, .agg #[nI (q416.cap), nI (q416.closed), nI (q416.count), nI (q416.start), nI (q416.buf), nI (q416.th), nI (q416.tt), nI (q416.sh), nI (q416.st)]), (15, nP (w388.heap.size) 0), (13, nP g111 0), (12, nI x102), (11, nI x91), (9, nI x78), (7, nP z17 0), (1, nI i1), (2, nI i2)]) (by kernel_rfl) (by kernel_rfl) ?_
          intro w427 a428 hS429 hF430; clear hF424 hS426
          refine ⟨⟨_, hS429.pick2⟩, ?_⟩
          refine any_many 1 [(12, some (nI x417))] [1, 2, 7, 9, 11, 12, 13, 15] #[true, true, true, true, true, true, true, true, true, true, true, true, true] (by rfl) hF430 (by kernel_rfl) (by kernel_rfl) (by exact (And.intro (fun wS hw => by kernel_rfl) trivial)) (fun _ _ _ _ _ h => h) ⟨_, hS429.pick2⟩ (l' := [(15, nP (w388.heap.size) 0), (13, nP g111 0), (12, nI x102), (11, nI x91), (9, nI x78), (7, nP z17 0), (1, nI i1), (2, nI i2)]) (by kernel_rfl) ?_
          intro a432 hF431; clear hF430
          refine any_done (by kernel_rfl) ?_
          exact thenN ⟨(w388.heap.size), s384, s385, q416.cap, q416.closed, q416.count, q416.start, q416.buf, q416.th, q416.tt, q416.sh, q416.st, hF431, hS429, hm419⟩
      · skip
        have hS433 : St w0 F0 (BlkP ((w125.drew).heap.size) 37 #[nI 0, nI 0, nI 0, nI 0, nI 0, nI 0, nI 0, nI 0, nI 0] :: BlkP z17 32 #[nP z18 0, nP z20 0, .slice p32 L9.length c33, .slice p36 L10.length c37] :: BlkP g111 37 #[nI x114, nI x115, nI x116, nI x117, nI x118, nI x119, nI x120, nI x121, nI x122] :: HeapP z18 z19 s112 :: RHeapP z20 z21 z22 z23 z24 s113 :: RowP (.slice p32 L9.length c33) L9 :: RowP (.slice p36 L10.length c37) L10 :: ps) ((w125.drew).alloc (.cells #[nI 0, nI 0, nI 0, nI 0, nI 0, nI 0, nI 0, nI 0, nI 0] 37)) := St.new hS379 #[nI 0, nI 0, nI 0, nI 0, nI 0, nI 0, nI 0, nI 0, nI 0] 37
        clear hS379
        refine op_step 10 #[true, true, true, true, true, false, false, false, false, false, true, false, false] (nP ((w125.drew).heap.size) 0) ((w125.drew).alloc (.cells #[nI 0, nI 0, nI 0, nI 0, nI 0, nI 0, nI 0, nI 0, nI 0] 37)) hF380 rfl (by kernel_rfl) rfl (by kernel_rfl) (by kernel_rfl) (l' := [(15, nP ((w125.drew).heap.size) 0), (60, nP z17 0), (59, nP z18 0), (13, nP g111 0), (12, nI x102), (11, nI x91), (9, nI x78), (7, nP z17 0), (1, nI i1), (2, nI i2)]) (by kernel_rfl) ⟨_, hS433.pick1⟩ (by kernel_rfl) ?_
        intro a435 hF434; clear hF380
        have hS436 := hS433.pick6.pick6.pick6.pick6.pick5
        clear hS433
        refine any_call 5 #[true, true, true, true, true, true, false, false, false, false, true, false, false] 16 #[nP z17 0, nI 1] hF434 rfl (by kernel_rfl) rfl rfl (by kernel_rfl) rfl (by kernel_rfl) (fun w => by kernel_rfl) (by kernel_rfl) ?_
        obtain ⟨x437, s438, s439, hx440, hm441⟩ := bind3E hm128; clear hm128
        refine (law12_ch.ok hS436 hx440).mono ?_
        rintro _ w442 ⟨rfl, hS444⟩; clear hS436
        refine ⟨⟨_, hS444⟩, ?_⟩
        intro a443 hF445; clear hF434
        have hS446 := hS444.pick1
        clear hS444
        refine any_call 6 #[true, true, true, true, true, true, true, false, false, false, true, false, false] 18 #[nP z18 0, nI x437] hF445 rfl (by kernel_rfl) rfl rfl (by kernel_rfl) rfl (by kernel_rfl) (fun w => by kernel_rfl) (by kernel_rfl) ?_
        obtain ⟨q447, x448, hx449, hm450⟩ := bind2E hm441; clear hm441
        refine (p_Chan hS446 hx449).mono ?_
        rintro _ w451 ⟨rfl, hS453⟩; clear hS446
        refine ⟨⟨_, hS453.pick1⟩, ?_⟩
        intro a452 hF454; clear hF445
        refine any_many 3 [(7, some (.tuple #[.agg #[nI (q447.cap), nI (q447.closed), nI (q447.count), nI (q447.start), nI (q447.buf), nI (q447.th), nI (q447.tt), nI (q447.sh), nI (q447.st)], nI x448])), (8, some (.agg #[nI (q447.cap), nI (q447.closed), nI (q447.count), nI (q447.start), nI (q447.buf), nI (q447.th), nI (q447.tt), nI (q447.sh), nI (q447.st)])), (9, some (nI x448))] [1, 2, 7, 9, 11, 12, 13, 15, 63, 64] #[true, true, true, true, true, true, true, true, true, true, true, false, false] (by rfl) hF454 (by kernel_rfl) (by kernel_rfl) (by exact (And.intro (fun wS hw => by kernel_rfl) (And.intro (fun wS hw => by kernel_rfl) (And.intro (fun wS hw => by kernel_rfl) trivial)))) (fun _ _ _ _ _ h => h) ⟨_, hS453.pick1⟩ (l' := [(64, nI x448), (63, .agg #[nI (q447.cap), nI (q447.closed), nI (q447.count), nI (q447.start), nI (q447.buf), nI (q447.th), nI (q447.tt), nI (q447.sh), nI (q447.st)]), (15, nP ((w125.drew).heap.size) 0), (13, nP g111 0), (12, nI x102), (11, nI x91), (9, nI x78), (7, nP z17 0), (1, nI i1), (2, nI i2)]) (by kernel_rfl) ?_
        intro a456 hF455; clear hF454
        refine any_one 11 (by kernel_rfl) ?_
        have hS457 := hS453.pick5
        clear hS453
        refine op_store 11 #[true, true, true, true, true, true, true, true, true, true, true, true, false] (.agg #[nI (q447.cap), nI (q447.closed), nI (q447.count), nI (q447.start), nI (q447.buf), nI (q447.th), nI (q447.tt), nI (q447.sh), nI (q447.st)]) #[nI (q447.cap), nI (q447.closed), nI (q447.count), nI (q447.start), nI (q447.buf), nI (q447.th), nI (q447.tt), nI (q447.sh), nI (q447.st)] hF455 rfl (by kernel_rfl) rfl rfl rfl rfl (by kernel_rfl) hS457 (by kernel_rfl) (by kernel_rfl) (by kernel_rfl) (l' := [(64, nI x448), (63, .agg #[nI (q447.cap), nI (q447.closed), nI (q447.count), nI (q447.start), nI (q447.buf), nI (q447.th), nI (q447.tt), nI (q447.sh), nI (q447.st)]), (15, nP ((w125.drew).heap.size) 0), (13, nP g111 0), (12, nI x102), (11, nI x91), (9, nI x78), (7, nP z17 0), (1, nI i1), (2, nI i2)]) (by kernel_rfl) (by kernel_rfl) ?_
        intro w458 a459 hS460 hF461; clear hF455 hS457
        refine ⟨⟨_, hS460.pick2⟩, ?_⟩
        refine any_many 1 [(12, some (nI x448))] [1, 2, 7, 9, 11, 12, 13, 15] #[true, true, true, true, true, true, true, true, true, true, true, true, true] (by rfl) hF461 (by kernel_rfl) (by kernel_rfl) (by exact (And.intro (fun wS hw => by kernel_rfl) trivial)) (fun _ _ _ _ _ h => h) ⟨_, hS460.pick2⟩ (l' := [(15, nP ((w125.drew).heap.size) 0), (13, nP g111 0), (12, nI x102), (11, nI x91), (9, nI x78), (7, nP z17 0), (1, nI i1), (2, nI i2)]) (by kernel_rfl) ?_
        intro a463 hF462; clear hF461
        refine any_done (by kernel_rfl) ?_
        exact thenN ⟨((w125.drew).heap.size), s438, s439, q447.cap, q447.closed, q447.count, q447.start, q447.buf, q447.th, q447.tt, q447.sh, q447.st, hF462, hS460, hm450⟩
  · skip
    -- draws
    have hS464 := hS107.pick1
    clear hS107
    have hS465 := hS464.drew; clear hS464
    refine any_start (fun wS => ∃ qs, St w0 F0 (BlkP z17 32 #[nP z18 0, nP z20 0, .slice p32 L9.length c33, .slice p36 L10.length c37] :: qs) wS) 13 #[false, false, false, false, false, false, false, false, false, false, false, false, false] (by kernel_rfl) (by kernel_rfl) (by kernel_rfl) ?_
    refine any_many 5 [(0, some (nP z17 0)), (1, some (nP z17 0)), (2, some (nP z17 0)), (3, some (nP z18 0)), (4, some (nP z17 0))] [1, 2, 7, 9, 11, 12, 13, 45, 49, 50, 51, 52, 53, 54] #[true, true, true, true, true, false, false, false, false, false, false, false, false] (by rfl) hF109 (by kernel_rfl) (by kernel_rfl) (by exact (And.intro (fun wS hw => by kernel_rfl) (And.intro (fun wS hw => by kernel_rfl) (And.intro (fun wS hw => by kernel_rfl) (And.intro (fun wS hw => hw.elim fun qs hw => run_loadV rfl rfl (run_loadS rfl rfl (hw.cell 0 rfl 0 rfl))) (And.intro (fun wS hw => by kernel_rfl) trivial)))))) (fun _ _ _ _ _ h => h) ⟨_, hS465⟩ (l' := [(50, nP z17 0), (49, nP z18 0), (12, nI x102), (11, nI x91), (9, nI x78), (7, nP z17 0), (1, nI i1), (2, nI i2)]) (by kernel_rfl) ?_
    intro a467 hF466; clear hF109
    refine any_two 5 10 (by kernel_rfl) ?_ ?_
    · skip
      refine op_call 5 #[true, true, true, true, true, true, false, false, false, false, false, false, false] 16 #[nP z17 0, nI 0] hF466 rfl rfl rfl (by kernel_rfl) rfl (by kernel_rfl) (fun w => by kernel_rfl) (by kernel_rfl) ?_
      obtain ⟨x468, s469, s470, hx471, hm472⟩ := bind3E hm104; clear hm104
      refine (law12_ch.ok hS465 hx471).mono ?_
      rintro _ w473 ⟨rfl, hS475⟩; clear hS465
      refine ⟨⟨_, hS475⟩, ?_⟩
      intro a474 hF476; clear hF466
      refine any_two 6 10 (by kernel_rfl) ?_ ?_
      · skip
        have hS477 := hS475.pick1
        clear hS475
        refine op_call 6 #[true, true, true, true, true, true, true, false, false, false, false, false, false] 18 #[nP z18 0, nI x468] hF476 rfl rfl rfl (by kernel_rfl) rfl (by kernel_rfl) (fun w => by kernel_rfl) (by kernel_rfl) ?_
        obtain ⟨q478, x479, hx480, hm481⟩ := bind2E hm472; clear hm472
        refine (p_Chan hS477 hx480).mono ?_
        rintro _ w482 ⟨rfl, hS484⟩; clear hS477
        refine ⟨⟨_, hS484.pick1⟩, ?_⟩
        intro a483 hF485; clear hF476
        refine any_many 3 [(7, some (.tuple #[.agg #[nI (q478.cap), nI (q478.closed), nI (q478.count), nI (q478.start), nI (q478.buf), nI (q478.th), nI (q478.tt), nI (q478.sh), nI (q478.st)], nI x479])), (8, some (.agg #[nI (q478.cap), nI (q478.closed), nI (q478.count), nI (q478.start), nI (q478.buf), nI (q478.th), nI (q478.tt), nI (q478.sh), nI (q478.st)])), (9, some (nI x479))] [1, 2, 7, 9, 11, 12, 13, 53, 54] #[true, true, true, true, true, true, true, true, true, true, false, false, false] (by rfl) hF485 (by kernel_rfl) (by kernel_rfl) (by exact (And.intro (fun wS hw => by kernel_rfl) (And.intro (fun wS hw => by kernel_rfl) (And.intro (fun wS hw => by kernel_rfl) trivial)))) (fun _ _ _ _ _ h => h) ⟨_, hS484.pick1⟩ (l' := [(54, nI x479), (53, .agg #[nI (q478.cap), nI (q478.closed), nI (q478.count), nI (q478.start), nI (q478.buf), nI (q478.th), nI (q478.tt), nI (q478.sh), nI (q478.st)]), (12, nI x102), (11, nI x91), (9, nI x78), (7, nP z17 0), (1, nI i1), (2, nI i2)]) (by kernel_rfl) ?_
        intro a487 hF486; clear hF485
        refine any_one 10 (by kernel_rfl) ?_
        have hS488 : St w0 F0 (BlkP (w482.heap.size) 37 #[nI 0, nI 0, nI 0, nI 0, nI 0, nI 0, nI 0, nI 0, nI 0] :: HeapP z18 z19 s469 :: BlkP z17 32 #[nP z18 0, nP z20 0, .slice p32 L9.length c33, .slice p36 L10.length c37] :: RHeapP z20 z21 z22 z23 z24 s470 :: RowP (.slice p32 L9.length c33) L9 :: RowP (.slice p36 L10.length c37) L10 :: ps) (w482.alloc (.cells #[nI 0, nI 0, nI 0, nI 0, nI 0, nI 0, nI 0, nI 0, nI 0] 37)) := St.new hS484 #[nI 0, nI 0, nI 0, nI 0, nI 0, nI 0, nI 0, nI 0, nI 0] 37
        clear hS484
        refine op_step 10 #[true, true, true, true, true, true, true, true, true, true, true, false, false] (nP (w482.heap.size) 0) (w482.alloc (.cells #[nI 0, nI 0, nI 0, nI 0, nI 0, nI 0, nI 0, nI 0, nI 0] 37)) hF486 rfl (by kernel_rfl) rfl (by kernel_rfl) (by kernel_rfl) (l' := [(13, nP (w482.heap.size) 0), (54, nI x479), (53, .agg #[nI (q478.cap), nI (q478.closed), nI (q478.count), nI (q478.start), nI (q478.buf), nI (q478.th), nI (q478.tt), nI (q478.sh), nI (q478.st)]), (12, nI x102), (11, nI x91), (9, nI x78), (7, nP z17 0), (1, nI i1), (2, nI i2)]) (by kernel_rfl) ⟨_, hS488.pick2⟩ (by kernel_rfl) ?_
        intro a490 hF489; clear hF486
        refine any_one 11 (by kernel_rfl) ?_
        refine op_store 11 #[true, true, true, true, true, true, true, true, true, true, true, true, false] (.agg #[nI (q478.cap), nI (q478.closed), nI (q478.count), nI (q478.start), nI (q478.buf), nI (q478.th), nI (q478.tt), nI (q478.sh), nI (q478.st)]) #[nI (q478.cap), nI (q478.closed), nI (q478.count), nI (q478.start), nI (q478.buf), nI (q478.th), nI (q478.tt), nI (q478.sh), nI (q478.st)] hF489 rfl (by kernel_rfl) rfl rfl rfl rfl (by kernel_rfl) hS488 (by kernel_rfl) (by kernel_rfl) (by kernel_rfl) (l' := [(13, nP (w482.heap.size) 0), (54, nI x479), (53, .agg #[nI (q478.cap), nI (q478.closed), nI (q478.count), nI (q478.start), nI (q478.buf), nI (q478.th), nI (q478.tt), nI (q478.sh), nI (q478.st)]), (12, nI x102), (11, nI x91), (9, nI x78), (7, nP z17 0), (1, nI i1), (2, nI i2)]) (by kernel_rfl) (by kernel_rfl) ?_
        intro w491 a492 hS493 hF494; clear hF489 hS488
        refine ⟨⟨_, hS493.pick2⟩, ?_⟩
        refine any_many 1 [(12, some (nI x479))] [1, 2, 7, 9, 11, 12, 13] #[true, true, true, true, true, true, true, true, true, true, true, true, true] (by rfl) hF494 (by kernel_rfl) (by kernel_rfl) (by exact (And.intro (fun wS hw => by kernel_rfl) trivial)) (fun _ _ _ _ _ h => h) ⟨_, hS493.pick2⟩ (l' := [(13, nP (w482.heap.size) 0), (12, nI x102), (11, nI x91), (9, nI x78), (7, nP z17 0), (1, nI i1), (2, nI i2)]) (by kernel_rfl) ?_
        intro a496 hF495; clear hF494
        refine any_done (by kernel_rfl) ?_
        exact thenN ⟨(w482.heap.size), s469, s470, q478.cap, q478.closed, q478.count, q478.start, q478.buf, q478.th, q478.tt, q478.sh, q478.st, hF495, hS493, hm481⟩
      · skip
        have hS497 : St w0 F0 (BlkP (w473.heap.size) 37 #[nI 0, nI 0, nI 0, nI 0, nI 0, nI 0, nI 0, nI 0, nI 0] :: BlkP z17 32 #[nP z18 0, nP z20 0, .slice p32 L9.length c33, .slice p36 L10.length c37] :: HeapP z18 z19 s469 :: RHeapP z20 z21 z22 z23 z24 s470 :: RowP (.slice p32 L9.length c33) L9 :: RowP (.slice p36 L10.length c37) L10 :: ps) (w473.alloc (.cells #[nI 0, nI 0, nI 0, nI 0, nI 0, nI 0, nI 0, nI 0, nI 0] 37)) := St.new hS475 #[nI 0, nI 0, nI 0, nI 0, nI 0, nI 0, nI 0, nI 0, nI 0] 37
        clear hS475
        refine op_step 10 #[true, true, true, true, true, true, false, false, false, false, true, false, false] (nP (w473.heap.size) 0) (w473.alloc (.cells #[nI 0, nI 0, nI 0, nI 0, nI 0, nI 0, nI 0, nI 0, nI 0] 37)) hF476 rfl (by kernel_rfl) rfl (by kernel_rfl) (by kernel_rfl) (l' := [(13, nP (w473.heap.size) 0), (51, nI x468), (50, nP z17 0), (49, nP z18 0), (12, nI x102), (11, nI x91), (9, nI x78), (7, nP z17 0), (1, nI i1), (2, nI i2)]) (by kernel_rfl) ⟨_, hS497.pick1⟩ (by kernel_rfl) ?_
        intro a499 hF498; clear hF476
        have hS500 := hS497.pick2
        clear hS497
        refine any_call 6 #[true, true, true, true, true, true, true, false, false, false, true, false, false] 18 #[nP z18 0, nI x468] hF498 rfl (by kernel_rfl) rfl rfl (by kernel_rfl) rfl (by kernel_rfl) (fun w => by kernel_rfl) (by kernel_rfl) ?_
        obtain ⟨q501, x502, hx503, hm504⟩ := bind2E hm472; clear hm472
        refine (p_Chan hS500 hx503).mono ?_
        rintro _ w505 ⟨rfl, hS507⟩; clear hS500
        refine ⟨⟨_, hS507.pick2⟩, ?_⟩
        intro a506 hF508; clear hF498
        refine any_many 3 [(7, some (.tuple #[.agg #[nI (q501.cap), nI (q501.closed), nI (q501.count), nI (q501.start), nI (q501.buf), nI (q501.th), nI (q501.tt), nI (q501.sh), nI (q501.st)], nI x502])), (8, some (.agg #[nI (q501.cap), nI (q501.closed), nI (q501.count), nI (q501.start), nI (q501.buf), nI (q501.th), nI (q501.tt), nI (q501.sh), nI (q501.st)])), (9, some (nI x502))] [1, 2, 7, 9, 11, 12, 13, 53, 54] #[true, true, true, true, true, true, true, true, true, true, true, false, false] (by rfl) hF508 (by kernel_rfl) (by kernel_rfl) (by exact (And.intro (fun wS hw => by kernel_rfl) (And.intro (fun wS hw => by kernel_rfl) (And.intro (fun wS hw => by kernel_rfl) trivial)))) (fun _ _ _ _ _ h => h) ⟨_, hS507.pick2⟩ (l' := [(54, nI x502), (53, .agg #[nI (q501.cap), nI (q501.closed), nI (q501.count), nI (q501.start), nI (q501.buf), nI (q501.th), nI (q501.tt), nI (q501.sh), nI (q501.st)]), (13, nP (w473.heap.size) 0), (12, nI x102), (11, nI x91), (9, nI x78), (7, nP z17 0), (1, nI i1), (2, nI i2)]) (by kernel_rfl) ?_
        intro a510 hF509; clear hF508
        refine any_one 11 (by kernel_rfl) ?_
        have hS511 := hS507.pick1
        clear hS507
        refine op_store 11 #[true, true, true, true, true, true, true, true, true, true, true, true, false] (.agg #[nI (q501.cap), nI (q501.closed), nI (q501.count), nI (q501.start), nI (q501.buf), nI (q501.th), nI (q501.tt), nI (q501.sh), nI (q501.st)]) #[nI (q501.cap), nI (q501.closed), nI (q501.count), nI (q501.start), nI (q501.buf), nI (q501.th), nI (q501.tt), nI (q501.sh), nI (q501.st)] hF509 rfl (by kernel_rfl) rfl rfl rfl rfl (by kernel_rfl) hS511 (by kernel_rfl) (by kernel_rfl) (by kernel_rfl) (l' := [(54, nI x502), (53, .agg #[nI (q501.cap), nI (q501.closed), nI (q501.count), nI (q501.start), nI (q501.buf), nI (q501.th), nI (q501.tt), nI (q501.sh), nI (q501.st)]), (13, nP (w473.heap.size) 0), (12, nI x102), (11, nI x91), (9, nI x78), (7, nP z17 0), (1, nI i1), (2, nI i2)]) (by kernel_rfl) (by kernel_rfl) ?_
        intro w512 a513 hS514 hF515; clear hF509 hS511
        refine ⟨⟨_, hS514.pick2⟩, ?_⟩
        refine any_many 1 [(12, some (nI x502))] [1, 2, 7, 9, 11, 12, 13] #[true, true, true, true, true, true, true, true, true, true, true, true, true] (by rfl) hF515 (by kernel_rfl) (by kernel_rfl) (by exact (And.intro (fun wS hw => by kernel_rfl) trivial)) (fun _ _ _ _ _ h => h) ⟨_, hS514.pick2⟩ (l' := [(13, nP (w473.heap.size) 0), (12, nI x102), (11, nI x91), (9, nI x78), (7, nP z17 0), (1, nI i1), (2, nI i2)]) (by kernel_rfl) ?_
        intro a517 hF516; clear hF515
        refine any_done (by kernel_rfl) ?_
        exact thenN ⟨(w473.heap.size), s469, s470, q501.cap, q501.closed, q501.count, q501.start, q501.buf, q501.th, q501.tt, q501.sh, q501.st, hF516, hS514, hm504⟩
    · skip
      have hS518 : St w0 F0 (BlkP ((w105.drew).heap.size) 37 #[nI 0, nI 0, nI 0, nI 0, nI 0, nI 0, nI 0, nI 0, nI 0] :: BlkP z17 32 #[nP z18 0, nP z20 0, .slice p32 L9.length c33, .slice p36 L10.length c37] :: HeapP z18 z19 s79 :: RHeapP z20 z21 z22 z23 z24 s69 :: RowP (.slice p32 L9.length c33) L9 :: RowP (.slice p36 L10.length c37) L10 :: ps) ((w105.drew).alloc (.cells #[nI 0, nI 0, nI 0, nI 0, nI 0, nI 0, nI 0, nI 0, nI 0] 37)) := St.new hS465 #[nI 0, nI 0, nI 0, nI 0, nI 0, nI 0, nI 0, nI 0, nI 0] 37
      clear hS465
      refine op_step 10 #[true, true, true, true, true, false, false, false, false, false, true, false, false] (nP ((w105.drew).heap.size) 0) ((w105.drew).alloc (.cells #[nI 0, nI 0, nI 0, nI 0, nI 0, nI 0, nI 0, nI 0, nI 0] 37)) hF466 rfl (by kernel_rfl) rfl (by kernel_rfl) (by kernel_rfl) (l' := [(13, nP ((w105.drew).heap.size) 0), (50, nP z17 0), (49, nP z18 0), (12, nI x102), (11, nI x91), (9, nI x78), (7, nP z17 0), (1, nI i1), (2, nI i2)]) (by kernel_rfl) ⟨_, hS518.pick1⟩ (by kernel_rfl) ?_
      intro a520 hF519; clear hF466
      have hS521 := hS518.pick5.pick5.pick5.pick5.pick5
      clear hS518
      refine any_call 5 #[true, true, true, true, true, true, false, false, false, false, true, false, false] 16 #[nP z17 0, nI 0] hF519 rfl (by kernel_rfl) rfl rfl (by kernel_rfl) rfl (by kernel_rfl) (fun w => by kernel_rfl) (by kernel_rfl) ?_
      obtain ⟨x522, s523, s524, hx525, hm526⟩ := bind3E hm104; clear hm104
      refine (law12_ch.ok hS521 hx525).mono ?_
      rintro _ w527 ⟨rfl, hS529⟩; clear hS521
      refine ⟨⟨_, hS529⟩, ?_⟩
      intro a528 hF530; clear hF519
      have hS531 := hS529.pick1
      clear hS529
      refine any_call 6 #[true, true, true, true, true, true, true, false, false, false, true, false, false] 18 #[nP z18 0, nI x522] hF530 rfl (by kernel_rfl) rfl rfl (by kernel_rfl) rfl (by kernel_rfl) (fun w => by kernel_rfl) (by kernel_rfl) ?_
      obtain ⟨q532, x533, hx534, hm535⟩ := bind2E hm526; clear hm526
      refine (p_Chan hS531 hx534).mono ?_
      rintro _ w536 ⟨rfl, hS538⟩; clear hS531
      refine ⟨⟨_, hS538.pick1⟩, ?_⟩
      intro a537 hF539; clear hF530
      refine any_many 3 [(7, some (.tuple #[.agg #[nI (q532.cap), nI (q532.closed), nI (q532.count), nI (q532.start), nI (q532.buf), nI (q532.th), nI (q532.tt), nI (q532.sh), nI (q532.st)], nI x533])), (8, some (.agg #[nI (q532.cap), nI (q532.closed), nI (q532.count), nI (q532.start), nI (q532.buf), nI (q532.th), nI (q532.tt), nI (q532.sh), nI (q532.st)])), (9, some (nI x533))] [1, 2, 7, 9, 11, 12, 13, 53, 54] #[true, true, true, true, true, true, true, true, true, true, true, false, false] (by rfl) hF539 (by kernel_rfl) (by kernel_rfl) (by exact (And.intro (fun wS hw => by kernel_rfl) (And.intro (fun wS hw => by kernel_rfl) (And.intro (fun wS hw => by kernel_rfl) trivial)))) (fun _ _ _ _ _ h => h) ⟨_, hS538.pick1⟩ (l' := [(54, nI x533), (53, .agg #[nI (q532.cap), nI (q532.closed), nI (q532.count), nI (q532.start), nI (q532.buf), nI (q532.th), nI (q532.tt), nI (q532.sh), nI (q532.st)]), (13, nP ((w105.drew).heap.size) 0), (12, nI x102), (11, nI x91), (9, nI x78), (7, nP z17 0), (1, nI i1), (2, nI i2)]) (by kernel_rfl) ?_
      intro a541 hF540; clear hF539
      refine any_one 11 (by kernel_rfl) ?_
      have hS542 := hS538.pick5
      clear hS538
      refine op_store 11 #[true, true, true, true, true, true, true, true, true, true, true, true, false] (.agg #[nI (q532.cap), nI (q532.closed), nI (q532.count), nI (q532.start), nI (q532.buf), nI (q532.th), nI (q532.tt), nI (q532.sh), nI (q532.st)]) #[nI (q532.cap), nI (q532.closed), nI (q532.count), nI (q532.start), nI (q532.buf), nI (q532.th), nI (q532.tt), nI (q532.sh), nI (q532.st)] hF540 rfl (by kernel_rfl) rfl rfl rfl rfl (by kernel_rfl) hS542 (by kernel_rfl) (by kernel_rfl) (by kernel_rfl) (l' := [(54, nI x533), (53, .agg #[nI (q532.cap), nI (q532.closed), nI (q532.count), nI (q532.start), nI (q532.buf), nI (q532.th), nI (q532.tt), nI (q532.sh), nI (q532.st)]), (13, nP ((w105.drew).heap.size) 0), (12, nI x102), (11, nI x91), (9, nI x78), (7, nP z17 0), (1, nI i1), (2, nI i2)]) (by kernel_rfl) (by kernel_rfl) ?_
      intro w543 a544 hS545 hF546; clear hF540 hS542
      refine ⟨⟨_, hS545.pick2⟩, ?_⟩
      refine any_many 1 [(12, some (nI x533))] [1, 2, 7, 9, 11, 12, 13] #[true, true, true, true, true, true, true, true, true, true, true, true, true] (by rfl) hF546 (by kernel_rfl) (by kernel_rfl) (by exact (And.intro (fun wS hw => by kernel_rfl) trivial)) (fun _ _ _ _ _ h => h) ⟨_, hS545.pick2⟩ (l' := [(13, nP ((w105.drew).heap.size) 0), (12, nI x102), (11, nI x91), (9, nI x78), (7, nP z17 0), (1, nI i1), (2, nI i2)]) (by kernel_rfl) ?_
      intro a548 hF547; clear hF546
      refine any_done (by kernel_rfl) ?_
      exact thenN ⟨((w105.drew).heap.size), s523, s524, q532.cap, q532.closed, q532.count, q532.start, q532.buf, q532.th, q532.tt, q532.sh, q532.st, hF547, hS545, hm535⟩

end Go.Proofs.YtaihdiccmaincaaGreat
