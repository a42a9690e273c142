/- G18 GChooseElse -/
import Derived.Test.YtjdlnmbfomojdaaGreatKG18b
import Derived.Test.YtjdlnmbfomojdaaGreatKGChoose
import Derived.Deep.LoopGhost
import Derived.KernelRfl
namespace Go.Proofs.YtjdlnmbfomojdaaGreat
open Go.RowKit
set_option linter.unusedVariables false
def law18_awake.j1 (y84:Bool):Option (Bool):=some (y84)
def law18_awake.m (k:Nat):Option (Bool):=bind4 (law18_made.m k [1] 1) fun s7 s8 L9 L10=>bind3 (law18_ch.m k s7 s8 L9 L10 0) fun x59 s60 s61=>bind2 (choose_Pick.m k s60 (⟨0,0,0,0,IntKind.i64.wrap ((IntKind.i64.wrap (2 * x59))+1),0,0,0,0,0⟩:Gr) [(⟨2,1,0,0⟩:Cs),(⟨1,1,0,0⟩:Cs),(⟨3,0,0,0⟩:Cs)] 0) fun x101 s102=>(if (x101 == 1) then (if (leR (1:Int) [(⟨2,1,0,0⟩:Cs),(⟨1,1,0,0⟩:Cs),(⟨3,0,0,0⟩:Cs)].length) then bind2 (choose_Pick.m k s102 (⟨0,0,0,0,IntKind.i64.wrap ((IntKind.i64.wrap (2 * x59))+1),0,0,0,0,0⟩:Gr) (([(⟨2,1,0,0⟩:Cs),(⟨1,1,0,0⟩:Cs),(⟨3,0,0,0⟩:Cs)].take (1:Int).toNat)) 0) fun x126 s127=>(if (x126 == (-1)) then bind1 (choose_Waits.m k (⟨0,0,0,0,IntKind.i64.wrap ((IntKind.i64.wrap (2 * x59))+1),0,0,0,0,0⟩:Gr) [(⟨2,1,0,0⟩:Cs),(⟨1,1,0,0⟩:Cs),(⟨3,0,0,0⟩:Cs)]) fun L144=>bind1 (help_Plain.m k L144 [0,1]) fun y162=>law18_awake.j1 y162 else law18_awake.j1 false) else none) else law18_awake.j1 false)
set_option maxRecDepth 100000 in
set_option maxHeartbeats 1500000 in
theorem law18_awake.ok {w0 w:World} {F0:List Nat} {ps:List Piece} {k:Nat}  {r0:Bool} (hS:St w0 F0 (ps) w) (hm:law18_awake.m k=some r0) :
    Calls Tryz.prog 5 #[] w fun e w'=>e=.returned (.bool r0)∧St w0 F0 (ps) w':=by
 refine ev_enterL 45 [] Tryz.func5 rfl rfl (by simp) ?_
 intro a hF
 have hF0:Fr 45 a []:=hF; clear hF
 unfold law18_awake.m at hm
 refine wp_seq (wp_region_lit ?_)
 refine ev_runK 1 hF0 [] (l':=[]) (w':=w) (by kernel_rfl) ?_
 intro a2 hF1; clear hF0
 refine wpList_nil (thenN (wp_seq (wp_region_lit ?_)))
 refine ev_runs 1 hF1 (l':=[(4,.slice (some ⟨w.heap.size,0,none⟩) 1 1)]) (w':=w.alloc (.cells #[nI 1] 3)) (by kernel_rfl) ?_
 intro a4 hF3; clear hF1
 have hS6:St w0 F0 (RowP (.slice (some ⟨w.heap.size,0,none⟩) 1 1) [1]::ps) (w.alloc (.cells #[nI 1] 3)):=St.lit hS [1] (by unfold maxLen; simp)
 refine ev_call 4 #[.slice (some ⟨w.heap.size,0,none⟩) 1 1,nI 1] hF3 rfl rfl (by kernel_rfl) rfl (by kernel_rfl) (fun w=>by kernel_rfl) ?_
 obtain ⟨s7,s8,L9,L10,hx11,hm12⟩:=bind4E hm; clear hm
 refine (law18_made.ok hS6 hx11).mono ?_
 rintro _ w13 ⟨z17,z18,z19,z20,z21,z22,z23,z24,z25,z26,rfl,hS15⟩ a14 hF16; clear hF3 hS6
 have hS32:St w0 F0 (RowP (.slice (some ⟨w.heap.size,0,none⟩) 1 1) [1]::BlkP z17 38 #[nP z18 0,nP z20 0,z25,z26]::HeapP z18 z19 s7::RHeapP z20 z21 z22 z23 z24 s8::RowP (z25) L9::RowP (z26) L10::ps) w13:=hS15
 clear hS15
 obtain ⟨hl36,p33,c34,rfl,hp35⟩:=St.shape hS32 4 rfl
 obtain ⟨hl40,p37,c38,rfl,hp39⟩:=St.shape hS32 5 rfl
 refine ev_runK 1 hF16 [1] (l':=[(1,nP z17 0)]) (w':=w13) (by kernel_rfl) ?_
 intro a42 hF41; clear hF16
 refine wpList_nil ?_
 have hS43:=hS32.drop
 clear hS32
 refine thenN (wp_seq (wp_seq (wp_region_lit ?_)))
 refine ev_runK 2 hF41 [1,7] (l':=[(7,.bool false),(1,nP z17 0)]) (w':=w13) (by kernel_rfl) ?_
 intro a45 hF44; clear hF41
 refine wpList_nil (thenN ?_)
 refine ev_condF hF44 rfl rfl ?_
 refine wp_skip ?_
 have hF46:=hF44.keep [1]
 clear hF44
 refine thenN (wp_seq (wp_region_lit ?_))
 refine ev_runs 2 hF46 (l':=[(2,nB w13),(8,.agg #[nI 0,nI 0,nI 0,nI 0,nI 0,nI 0,nI 0,nI 0,nI 0,nI 0]),(1,nP z17 0)]) (w':=w13.alloc (.cells #[nI 0,nI 0,nI 0,nI 0,nI 0,nI 0,nI 0,nI 0,nI 0,nI 0] 29)) (by kernel_rfl) ?_
 intro a48 hF47; clear hF46
 have hS50:St w0 F0 (BlkP (w13.heap.size) 29 #[nI 0,nI 0,nI 0,nI 0,nI 0,nI 0,nI 0,nI 0,nI 0,nI 0]::BlkP z17 38 #[nP z18 0,nP z20 0,.slice p33 L9.length c34,.slice p37 L10.length c38]::HeapP z18 z19 s7::RHeapP z20 z21 z22 z23 z24 s8::RowP (.slice p33 L9.length c34) L9::RowP (.slice p37 L10.length c38) L10::ps) (w13.alloc (.cells #[nI 0,nI 0,nI 0,nI 0,nI 0,nI 0,nI 0,nI 0,nI 0,nI 0] 29)):=St.new hS43 #[nI 0,nI 0,nI 0,nI 0,nI 0,nI 0,nI 0,nI 0,nI 0,nI 0] 29
 clear hS43
 refine ev_store (.agg #[nI 0,nI 0,nI 0,nI 0,nI 0,nI 0,nI 0,nI 0,nI 0,nI 0]) #[nI 0,nI 0,nI 0,nI 0,nI 0,nI 0,nI 0,nI 0,nI 0,nI 0] hF47 (by kernel_rfl) rfl rfl rfl rfl (by kernel_rfl) hS50 (by kernel_rfl) (by kernel_rfl) (by kernel_rfl) (l':=[(2,nB w13),(8,.agg #[nI 0,nI 0,nI 0,nI 0,nI 0,nI 0,nI 0,nI 0,nI 0,nI 0]),(1,nP z17 0)]) (by kernel_rfl) ?_
 intro w51 a52 hS53 hF54; clear hF47 hS50
 refine wpList_nil ?_
 have hF55:=hF54.keep [1,2]
 clear hF54
 refine thenN (wp_seq (wp_region_lit ?_))
 refine ev_runs 1 hF55 (l':=[(9,nP z17 0),(2,nB w13),(1,nP z17 0)]) (w':=w51) (by kernel_rfl) ?_
 intro a57 hF56; clear hF55
 have hS58:=hS53.pick5.pick5.pick5.pick5.pick5
 clear hS53
 refine ev_call 6 #[nP z17 0,nI 0] hF56 rfl rfl (by kernel_rfl) rfl (by kernel_rfl) (fun w=>by kernel_rfl) ?_
 obtain ⟨x59,s60,s61,hx62,hm63⟩:=bind3E hm12; clear hm12
 refine (law18_ch.ok hS58 hx62).mono ?_
 rintro _ w64 ⟨rfl,hS66⟩ a65 hF67; clear hF56 hS58
 refine ev_runs 3 hF67 (l':=[(13,nP (w13.heap.size) 3),(12,nI (IntKind.i64.wrap ((IntKind.i64.wrap (2 * x59))+1))),(11,nI (IntKind.i64.wrap (2 * x59))),(10,nI x59),(9,nP z17 0),(2,nB w13),(1,nP z17 0)]) (w':=w64) (by kernel_rfl) ?_
 intro a69 hF68; clear hF67
 refine ev_one (nP (w13.heap.size) 4) w64 hF68 (by kernel_rfl) rfl (by kernel_rfl) (run_idxA (q:=1) rfl rfl rfl rfl rfl (by decide) (by decide) (by kernel_rfl) _) (l':=[(14,nP (w13.heap.size) 4),(13,nP (w13.heap.size) 3),(12,nI (IntKind.i64.wrap ((IntKind.i64.wrap (2 * x59))+1))),(11,nI (IntKind.i64.wrap (2 * x59))),(10,nI x59),(9,nP z17 0),(2,nB w13),(1,nP z17 0)]) (by kernel_rfl) ?_
 intro a71 hF70; clear hF68
 have hS72:=hS66.pick5
 clear hS66
 refine ev_store (nI (IntKind.i64.wrap ((IntKind.i64.wrap (2 * x59))+1))) #[nI 0,nI 0,nI 0,nI 0,nI (IntKind.i64.wrap ((IntKind.i64.wrap (2 * x59))+1)),nI 0,nI 0,nI 0,nI 0,nI 0] hF70 (by kernel_rfl) rfl rfl rfl rfl (by kernel_rfl) hS72 (by kernel_rfl) (by kernel_rfl) (by kernel_rfl) (l':=[(14,nP (w13.heap.size) 4),(13,nP (w13.heap.size) 3),(12,nI (IntKind.i64.wrap ((IntKind.i64.wrap (2 * x59))+1))),(11,nI (IntKind.i64.wrap (2 * x59))),(10,nI x59),(9,nP z17 0),(2,nB w13),(1,nP z17 0)]) (by kernel_rfl) ?_
 intro w73 a74 hS75 hF76; clear hF70 hS72
 refine wpList_nil ?_
 have hF77:=hF76.keep [1,2]
 clear hF76
 refine thenN (wp_seq (wp_region_lit ?_))
 refine ev_runs 4 hF77 (l':=[(18,.slice (some ⟨w73.heap.size,0,none⟩) 3 3),(17,.agg #[nI 3,nI 0,nI 0,nI 0]),(16,.agg #[nI 1,nI 1,nI 0,nI 0]),(15,.agg #[nI 2,nI 1,nI 0,nI 0]),(2,nB w13),(1,nP z17 0)]) (w':=w73.alloc (.cells #[nI 2,nI 1,nI 0,nI 0,nI 1,nI 1,nI 0,nI 0,nI 3,nI 0,nI 0,nI 0] 33)) (by kernel_rfl) ?_
 intro a80 hF79; clear hF77
 have hS81:St w0 F0 (RowX kCs (.slice (some ⟨w73.heap.size,0,none⟩) 3 3) [(⟨2,1,0,0⟩:Cs),(⟨1,1,0,0⟩:Cs),(⟨3,0,0,0⟩:Cs)]::BlkP (w13.heap.size) 29 #[nI 0,nI 0,nI 0,nI 0,nI (IntKind.i64.wrap ((IntKind.i64.wrap (2 * x59))+1)),nI 0,nI 0,nI 0,nI 0,nI 0]::BlkP z17 38 #[nP z18 0,nP z20 0,.slice p33 L9.length c34,.slice p37 L10.length c38]::HeapP z18 z19 s60::RHeapP z20 z21 z22 z23 z24 s61::RowP (.slice p33 L9.length c34) L9::RowP (.slice p37 L10.length c38) L10::ps) (w73.alloc (.cells #[nI 2,nI 1,nI 0,nI 0,nI 1,nI 1,nI 0,nI 0,nI 3,nI 0,nI 0,nI 0] 33)):=St.litX kCs hS75 [(⟨2,1,0,0⟩:Cs),(⟨1,1,0,0⟩:Cs),(⟨3,0,0,0⟩:Cs)] (by unfold maxLen; simp)
 clear hS75
 refine ev_runK 1 hF79 [1,2,3] (l':=[(3,.slice (some ⟨w73.heap.size,0,none⟩) 3 3),(2,nB w13),(1,nP z17 0)]) (w':=w73.alloc (.cells #[nI 2,nI 1,nI 0,nI 0,nI 1,nI 1,nI 0,nI 0,nI 3,nI 0,nI 0,nI 0] 33)) (by kernel_rfl) ?_
 intro a83 hF82; clear hF79
 refine wpList_nil (thenN (wp_seq ?_))
 refine joinQ (fun aI wI=>∃ (y84:Bool),Fr 45 aI [(0,.bool (y84))]∧St w0 F0 (ps) wI∧law18_awake.j1 y84=some r0) ?_ ?_
 rotate_left
 · rintro a86 w87 ⟨y84,hF88,hS89,hm90⟩
   clear hF82 hS81 hm63
   unfold law18_awake.j1 at hm90
   refine thenN ?_
   refine wp_ret ?_
   obtain rfl:=Option.some.inj hm90
   refine ev_ret hF88 [0] (.bool (y84)) rfl rfl rfl ?_
   exact ⟨rfl,hS89⟩
 · skip
   have hS93:=hS81.pick1.pick2
   clear hS81
   have hS94:=hS93.drew; clear hS93
   refine any_start (fun wS=>∃ qs,St w0 F0 (BlkP z17 38 #[nP z18 0,nP z20 0,.slice p33 L9.length c34,.slice p37 L10.length c38]::BlkP (w13.heap.size) 29 #[nI 0,nI 0,nI 0,nI 0,nI (IntKind.i64.wrap ((IntKind.i64.wrap (2 * x59))+1)),nI 0,nI 0,nI 0,nI 0,nI 0]::qs) wS) 27 #[false,false,false,false,false,false,false,false,false,false,false,false,false,false,false,false,false,false,false,false,false,false,false,false,false,false,false] (by kernel_rfl) (by kernel_rfl) (by kernel_rfl) ?_
   refine any_many 6 [(0,some (nP z17 0)),(1,some (nP z17 0)),(2,some (nP z17 0)),(3,some (nP z18 0)),(4,some (.agg #[nI 0,nI 0,nI 0,nI 0,nI (IntKind.i64.wrap ((IntKind.i64.wrap (2 * x59))+1)),nI 0,nI 0,nI 0,nI 0,nI 0])),(5,some (.slice (some ⟨w73.heap.size,0,none⟩) 3 3))] [0,1,2,3,22,23,24,25,26,27,28,29,30,31,32,33,34,35,36,37,38,39,40,41,42,43,44] #[true,true,true,true,true,true,false,false,false,false,false,false,false,false,false,false,false,false,false,false,false,false,false,false,false,false,false] (by rfl) hF82 (by kernel_rfl) (by kernel_rfl) (by exact ⟨fun wS hw=>by kernel_rfl,fun wS hw=>by kernel_rfl,fun wS hw=>by kernel_rfl,fun wS hw=>hw.elim fun qs hw=>run_loadV rfl rfl (run_loadS rfl rfl (hw.cell 0 rfl 0 rfl)),fun wS hw=>hw.elim fun qs hw=>run_loadV rfl rfl (run_loadA (cs:=[nI 0,nI 0,nI 0,nI 0,nI (IntKind.i64.wrap ((IntKind.i64.wrap (2 * x59))+1)),nI 0,nI 0,nI 0,nI 0,nI 0]) rfl rfl (by kernel_rfl) (blk_cells hw 1 rfl rfl)),fun wS hw=>by kernel_rfl,trivial⟩) (fun _ _ _ _ _ h=>h) ⟨_,hS94⟩ (l':=[(24,.slice (some ⟨w73.heap.size,0,none⟩) 3 3),(23,.agg #[nI 0,nI 0,nI 0,nI 0,nI (IntKind.i64.wrap ((IntKind.i64.wrap (2 * x59))+1)),nI 0,nI 0,nI 0,nI 0,nI 0]),(22,nP z18 0),(3,.slice (some ⟨w73.heap.size,0,none⟩) 3 3),(2,nB w13),(1,nP z17 0)]) (by kernel_rfl) ?_
   intro a96 hF95; clear hF82
   have hS97:=hS94.pick2
   clear hS94
   obtain ⟨o98,hS99⟩:=St.toY hS97; clear hS97
   have hS100:=hS99.pick3
   clear hS99
   refine any_call 6 #[true,true,true,true,true,true,true,false,false,false,false,false,false,false,false,false,false,false,false,false,false,false,false,false,false,false,false] 8 #[nP z18 0,.agg #[nI 0,nI 0,nI 0,nI 0,nI (IntKind.i64.wrap ((IntKind.i64.wrap (2 * x59))+1)),nI 0,nI 0,nI 0,nI 0,nI 0],.slice (some ⟨w73.heap.size,0,none⟩) 3 3,nI 0] hF95 rfl (by kernel_rfl) rfl rfl (by kernel_rfl) rfl (by kernel_rfl) (fun w=>by kernel_rfl) (by kernel_rfl) ?_
   obtain ⟨x101,s102,hx103,hm104⟩:=bind2E hm63; clear hm63
   refine (choose_Pick.ok hS100 hx103).mono ?_
   rintro _ w105 ⟨rfl,hS107⟩; clear hS100
   have hS109:=hS107.pick1
   clear hS107
   have hS110:=St.ofY hS109; clear hS109
   refine ⟨⟨_,hS110.pick3.pick3⟩,?_⟩
   intro a106 hF108; clear hF95
   refine any_many 2 [(7,some (.bool (x101 == 1))),(8,some (.bool (x101 == 1)))] [0,1,2,3,27,28,29,30,31,32,33,34,35,36,37,38,39,40,41,42,43,44] #[true,true,true,true,true,true,true,true,true,false,false,false,false,false,false,false,false,false,false,false,false,false,false,false,false,false,false] (by rfl) hF108 (by kernel_rfl) (by kernel_rfl) (by exact ⟨fun wS hw=>by kernel_rfl,fun wS hw=>by kernel_rfl,trivial⟩) (fun _ _ _ _ _ h=>h) ⟨_,hS110.pick3.pick3⟩ (l':=[(27,.bool (x101 == 1)),(3,.slice (some ⟨w73.heap.size,0,none⟩) 3 3),(2,nB w13),(1,nP z17 0)]) (by kernel_rfl) ?_
   intro a112 hF111; clear hF108
   cases hc113:(x101 == 1)
   case true =>
    rw [hc113] at hF111
    have hm114:=ifYes hc113 hm104; clear hm104
    refine any_many 6 [(9,some (nP z17 0)),(10,some (nP z17 0)),(11,some (nP z17 0)),(12,some (nP z18 0)),(13,some (.agg #[nI 0,nI 0,nI 0,nI 0,nI (IntKind.i64.wrap ((IntKind.i64.wrap (2 * x59))+1)),nI 0,nI 0,nI 0,nI 0,nI 0])),(14,some (.slice (some ⟨w73.heap.size,0,none⟩) 3 3))] [0,2,3,27,31,32,33,34,35,36,37,38,39,40,41,42,43,44] #[true,true,true,true,true,true,true,true,true,true,true,true,true,true,true,false,false,false,false,false,false,false,false,false,false,false,false] (by rfl) hF111 (by kernel_rfl) (by kernel_rfl) (by exact ⟨fun wS hw=>by kernel_rfl,fun wS hw=>by kernel_rfl,fun wS hw=>by kernel_rfl,fun wS hw=>hw.elim fun qs hw=>run_loadV rfl rfl (run_loadS rfl rfl (hw.cell 0 rfl 0 rfl)),fun wS hw=>hw.elim fun qs hw=>run_loadV rfl rfl (run_loadA (cs:=[nI 0,nI 0,nI 0,nI 0,nI (IntKind.i64.wrap ((IntKind.i64.wrap (2 * x59))+1)),nI 0,nI 0,nI 0,nI 0,nI 0]) rfl rfl (by kernel_rfl) (blk_cells hw 1 rfl rfl)),fun wS hw=>by kernel_rfl,trivial⟩) (fun _ _ _ _ _ h=>h) ⟨_,hS110.pick3.pick3⟩ (l':=[(33,.slice (some ⟨w73.heap.size,0,none⟩) 3 3),(32,.agg #[nI 0,nI 0,nI 0,nI 0,nI (IntKind.i64.wrap ((IntKind.i64.wrap (2 * x59))+1)),nI 0,nI 0,nI 0,nI 0,nI 0]),(31,nP z18 0),(27,.bool true),(3,.slice (some ⟨w73.heap.size,0,none⟩) 3 3),(2,nB w13)]) (by kernel_rfl) ?_
    intro a116 hF115; clear hF111
    obtain ⟨hc117,hm118⟩:=ifTE hm114; clear hm114
    have hc119:=St.capX hS110 0 rfl
    refine any_many 1 [(15,some (.slice (some ⟨w73.heap.size,0,none⟩) (1:Int).toNat 3))] [0,2,3,27,31,32,34,35,36,37,38,39,40,41,42,43,44] #[true,true,true,true,true,true,true,true,true,true,true,true,true,true,true,true,false,false,false,false,false,false,false,false,false,false,false] (by rfl) hF115 (by kernel_rfl) (by kernel_rfl) (by exact ⟨fun wS hw=>run_sliceHiX (sz:=4) rfl rfl (by kernel_rfl) rfl rfl (leR_spec hc117).1 (by have:=leR_spec hc117; have:=hc119; omega) _,trivial⟩) (fun _ _ _ _ _ h=>h) ⟨_,hS110.pick3.pick3⟩ (l':=[(34,.slice (some ⟨w73.heap.size,0,none⟩) (1:Int).toNat 3),(32,.agg #[nI 0,nI 0,nI 0,nI 0,nI (IntKind.i64.wrap ((IntKind.i64.wrap (2 * x59))+1)),nI 0,nI 0,nI 0,nI 0,nI 0]),(31,nP z18 0),(27,.bool true),(3,.slice (some ⟨w73.heap.size,0,none⟩) 3 3),(2,nB w13)]) (by kernel_rfl) ?_
    intro a121 hF120; clear hF115
    obtain ⟨o122,hS123,hb124⟩:=St.cutY hS110 (leR_nat hc117); clear hS110
    have hS125:=hS123.pick1
    clear hS123
    refine any_call 16 #[true,true,true,true,true,true,true,true,true,true,true,true,true,true,true,true,true,false,false,false,false,false,false,false,false,false,false] 8 #[nP z18 0,.agg #[nI 0,nI 0,nI 0,nI 0,nI (IntKind.i64.wrap ((IntKind.i64.wrap (2 * x59))+1)),nI 0,nI 0,nI 0,nI 0,nI 0],.slice (some ⟨w73.heap.size,0,none⟩) (1:Int).toNat 3,nI 0] hF120 rfl (by kernel_rfl) rfl rfl (by kernel_rfl) rfl (by kernel_rfl) (fun w=>by kernel_rfl) (by kernel_rfl) ?_
    obtain ⟨x126,s127,hx128,hm129⟩:=bind2E hm118; clear hm118
    refine (choose_Pick.ok hS125 hx128).mono ?_
    rintro _ w130 ⟨rfl,hS132⟩; clear hS125
    have hS134:=hS132.pick1
    clear hS132
    have hS135:=hb124 hS134; clear hS134
    refine ⟨⟨_,hS135.pick3.pick3⟩,?_⟩
    intro a131 hF133; clear hF120
    refine any_many 3 [(17,some (.bool (x126 == (-1)))),(18,some (.bool (x126 == (-1)))),(19,some (.bool (x126 == (-1))))] [0,2,3,38,39,40,41,42,43,44] #[true,true,true,true,true,true,true,true,true,true,true,true,true,true,true,true,true,true,true,true,false,false,false,false,false,false,false] (by rfl) hF133 (by kernel_rfl) (by kernel_rfl) (by exact ⟨fun wS hw=>by kernel_rfl,fun wS hw=>by kernel_rfl,fun wS hw=>by kernel_rfl,trivial⟩) (fun _ _ _ _ _ h=>h) ⟨_,hS135.pick3.pick3⟩ (l':=[(38,.bool (x126 == (-1))),(3,.slice (some ⟨w73.heap.size,0,none⟩) 3 3),(2,nB w13)]) (by kernel_rfl) ?_
    intro a137 hF136; clear hF133
    cases hc138:(x126 == (-1))
    case true =>
     rw [hc138] at hF136
     have hm139:=ifYes hc138 hm129; clear hm129
     refine any_many 2 [(20,some (.agg #[nI 0,nI 0,nI 0,nI 0,nI (IntKind.i64.wrap ((IntKind.i64.wrap (2 * x59))+1)),nI 0,nI 0,nI 0,nI 0,nI 0])),(21,some (.slice (some ⟨w73.heap.size,0,none⟩) 3 3))] [0,38,39,40,41,42,43,44] #[true,true,true,true,true,true,true,true,true,true,true,true,true,true,true,true,true,true,true,true,true,true,false,false,false,false,false] (by rfl) hF136 (by kernel_rfl) (by kernel_rfl) (by exact ⟨fun wS hw=>hw.elim fun qs hw=>run_loadV rfl rfl (run_loadA (cs:=[nI 0,nI 0,nI 0,nI 0,nI (IntKind.i64.wrap ((IntKind.i64.wrap (2 * x59))+1)),nI 0,nI 0,nI 0,nI 0,nI 0]) rfl rfl (by kernel_rfl) (blk_cells hw 1 rfl rfl)),fun wS hw=>by kernel_rfl,trivial⟩) (fun _ _ _ _ _ h=>h) ⟨_,hS135.pick3.pick3⟩ (l':=[(40,.slice (some ⟨w73.heap.size,0,none⟩) 3 3),(39,.agg #[nI 0,nI 0,nI 0,nI 0,nI (IntKind.i64.wrap ((IntKind.i64.wrap (2 * x59))+1)),nI 0,nI 0,nI 0,nI 0,nI 0]),(38,.bool true)]) (by kernel_rfl) ?_
     intro a141 hF140; clear hF136
     refine any_two 22 23 (by kernel_rfl) ?_ ?_
     · skip
       obtain ⟨o142,hS143⟩:=St.toY hS135; clear hS135
       refine op_call 22 #[true,true,true,true,true,true,true,true,true,true,true,true,true,true,true,true,true,true,true,true,true,true,true,false,false,false,false] 9 #[.agg #[nI 0,nI 0,nI 0,nI 0,nI (IntKind.i64.wrap ((IntKind.i64.wrap (2 * x59))+1)),nI 0,nI 0,nI 0,nI 0,nI 0],.slice (some ⟨w73.heap.size,0,none⟩) 3 3] hF140 rfl rfl rfl (by kernel_rfl) rfl (by kernel_rfl) (fun w=>by kernel_rfl) (by kernel_rfl) ?_
       obtain ⟨L144,hx145,hm146⟩:=bind1E hm139; clear hm139
       refine (choose_Waits.ok hS143 hx145).mono ?_
       rintro _ w147 ⟨z151,rfl,hS149⟩; clear hS143
       have hS153:=St.ofY hS149; clear hS149
       obtain ⟨hl157,p154,c155,rfl,hp156⟩:=St.shape hS153 1 rfl
       refine ⟨⟨_,hS153.pick4.pick4⟩,?_⟩
       intro a148 hF150; clear hF140
       refine any_one 23 (by kernel_rfl) ?_
       have hS158:St w0 F0 (RowP (.slice (some ⟨w147.heap.size,0,none⟩) 2 2) [0,1]::RowX kCs (.slice (some ⟨w73.heap.size,0,none⟩) 3 3) [(⟨2,1,0,0⟩:Cs),(⟨1,1,0,0⟩:Cs),(⟨3,0,0,0⟩:Cs)]::RowP (.slice p154 L144.length c155) L144::HeapP z18 z19 s127::BlkP z17 38 #[nP z18 0,nP z20 0,.slice p33 L9.length c34,.slice p37 L10.length c38]::BlkP (w13.heap.size) 29 #[nI 0,nI 0,nI 0,nI 0,nI (IntKind.i64.wrap ((IntKind.i64.wrap (2 * x59))+1)),nI 0,nI 0,nI 0,nI 0,nI 0]::RHeapP z20 z21 z22 z23 z24 s61::RowP (.slice p33 L9.length c34) L9::RowP (.slice p37 L10.length c38) L10::ps) (w147.alloc (.cells #[nI 0,nI 1] 3)):=St.lit hS153 [0,1] (by unfold maxLen; simp)
       clear hS153
       refine op_step 23 #[true,true,true,true,true,true,true,true,true,true,true,true,true,true,true,true,true,true,true,true,true,true,true,true,false,false,false] (.slice (some ⟨w147.heap.size,0,none⟩) 2 2) (w147.alloc (.cells #[nI 0,nI 1] 3)) hF150 rfl (by kernel_rfl) rfl (by kernel_rfl) (by kernel_rfl) (l':=[(42,.slice (some ⟨w147.heap.size,0,none⟩) 2 2),(41,.slice p154 L144.length c155),(40,.slice (some ⟨w73.heap.size,0,none⟩) 3 3),(39,.agg #[nI 0,nI 0,nI 0,nI 0,nI (IntKind.i64.wrap ((IntKind.i64.wrap (2 * x59))+1)),nI 0,nI 0,nI 0,nI 0,nI 0]),(38,.bool true)]) (by kernel_rfl) ⟨_,hS158.pick5.pick5⟩ (by kernel_rfl) ?_
       intro a160 hF159; clear hF150
       have hS161:=hS158.pick2
       clear hS158
       refine any_call 24 #[true,true,true,true,true,true,true,true,true,true,true,true,true,true,true,true,true,true,true,true,true,true,true,true,true,false,false] 18 #[.slice p154 L144.length c155,.slice (some ⟨w147.heap.size,0,none⟩) 2 2] hF159 rfl (by kernel_rfl) rfl rfl (by kernel_rfl) rfl (by kernel_rfl) (fun w=>by kernel_rfl) (by kernel_rfl) ?_
       obtain ⟨y162,hx163,hm164⟩:=bind1E hm146; clear hm146
       refine (help_Plain.ok hS161 hx163).mono ?_
       rintro _ w165 ⟨rfl,hS167⟩; clear hS161
       refine ⟨⟨_,hS167.pick5.pick5⟩,?_⟩
       intro a166 hF168; clear hF159
       refine any_many 2 [(25,some (.bool (y162))),(26,some (.bool (y162)))] [0] #[true,true,true,true,true,true,true,true,true,true,true,true,true,true,true,true,true,true,true,true,true,true,true,true,true,true,true] (by rfl) hF168 (by kernel_rfl) (by kernel_rfl) (by exact ⟨fun wS hw=>by kernel_rfl,fun wS hw=>by kernel_rfl,trivial⟩) (fun _ _ _ _ _ h=>h) ⟨_,hS167.pick5.pick5⟩ (l':=[(0,.bool (y162))]) (by kernel_rfl) ?_
       intro a170 hF169; clear hF168
       refine any_done (by kernel_rfl) ?_
       have hS171:=hS167.drop.drop.drop.drop.drop.drop.drop.drop.drop
       clear hS167
       exact thenN ⟨y162,hF169,hS171,hm164⟩
     · skip
       have hS172:St w0 F0 (RowP (.slice (some ⟨w130.heap.size,0,none⟩) 2 2) [0,1]::RowX kCs (.slice (some ⟨w73.heap.size,0,none⟩) 3 3) [(⟨2,1,0,0⟩:Cs),(⟨1,1,0,0⟩:Cs),(⟨3,0,0,0⟩:Cs)]::HeapP z18 z19 s127::BlkP z17 38 #[nP z18 0,nP z20 0,.slice p33 L9.length c34,.slice p37 L10.length c38]::BlkP (w13.heap.size) 29 #[nI 0,nI 0,nI 0,nI 0,nI (IntKind.i64.wrap ((IntKind.i64.wrap (2 * x59))+1)),nI 0,nI 0,nI 0,nI 0,nI 0]::RHeapP z20 z21 z22 z23 z24 s61::RowP (.slice p33 L9.length c34) L9::RowP (.slice p37 L10.length c38) L10::ps) (w130.alloc (.cells #[nI 0,nI 1] 3)):=St.lit hS135 [0,1] (by unfold maxLen; simp)
       clear hS135
       refine op_step 23 #[true,true,true,true,true,true,true,true,true,true,true,true,true,true,true,true,true,true,true,true,true,true,false,true,false,false,false] (.slice (some ⟨w130.heap.size,0,none⟩) 2 2) (w130.alloc (.cells #[nI 0,nI 1] 3)) hF140 rfl (by kernel_rfl) rfl (by kernel_rfl) (by kernel_rfl) (l':=[(42,.slice (some ⟨w130.heap.size,0,none⟩) 2 2),(40,.slice (some ⟨w73.heap.size,0,none⟩) 3 3),(39,.agg #[nI 0,nI 0,nI 0,nI 0,nI (IntKind.i64.wrap ((IntKind.i64.wrap (2 * x59))+1)),nI 0,nI 0,nI 0,nI 0,nI 0]),(38,.bool true)]) (by kernel_rfl) ⟨_,hS172.pick4.pick4⟩ (by kernel_rfl) ?_
       intro a174 hF173; clear hF140
       have hS175:=hS172.pick1
       clear hS172
       obtain ⟨o176,hS177⟩:=St.toY hS175; clear hS175
       refine any_call 22 #[true,true,true,true,true,true,true,true,true,true,true,true,true,true,true,true,true,true,true,true,true,true,true,true,false,false,false] 9 #[.agg #[nI 0,nI 0,nI 0,nI 0,nI (IntKind.i64.wrap ((IntKind.i64.wrap (2 * x59))+1)),nI 0,nI 0,nI 0,nI 0,nI 0],.slice (some ⟨w73.heap.size,0,none⟩) 3 3] hF173 rfl (by kernel_rfl) rfl rfl (by kernel_rfl) rfl (by kernel_rfl) (fun w=>by kernel_rfl) (by kernel_rfl) ?_
       obtain ⟨L178,hx179,hm180⟩:=bind1E hm139; clear hm139
       refine (choose_Waits.ok hS177 hx179).mono ?_
       rintro _ w181 ⟨z185,rfl,hS183⟩; clear hS177
       have hS187:=St.ofY hS183; clear hS183
       obtain ⟨hl191,p188,c189,rfl,hp190⟩:=St.shape hS187 1 rfl
       refine ⟨⟨_,hS187.pick5.pick5⟩,?_⟩
       intro a182 hF184; clear hF173
       have hS192:=hS187.pick2.pick2
       clear hS187
       refine any_call 24 #[true,true,true,true,true,true,true,true,true,true,true,true,true,true,true,true,true,true,true,true,true,true,true,true,true,false,false] 18 #[.slice p188 L178.length c189,.slice (some ⟨w130.heap.size,0,none⟩) 2 2] hF184 rfl (by kernel_rfl) rfl rfl (by kernel_rfl) rfl (by kernel_rfl) (fun w=>by kernel_rfl) (by kernel_rfl) ?_
       obtain ⟨y193,hx194,hm195⟩:=bind1E hm180; clear hm180
       refine (help_Plain.ok hS192 hx194).mono ?_
       rintro _ w196 ⟨rfl,hS198⟩; clear hS192
       refine ⟨⟨_,hS198.pick5.pick5⟩,?_⟩
       intro a197 hF199; clear hF184
       refine any_many 2 [(25,some (.bool (y193))),(26,some (.bool (y193)))] [0] #[true,true,true,true,true,true,true,true,true,true,true,true,true,true,true,true,true,true,true,true,true,true,true,true,true,true,true] (by rfl) hF199 (by kernel_rfl) (by kernel_rfl) (by exact ⟨fun wS hw=>by kernel_rfl,fun wS hw=>by kernel_rfl,trivial⟩) (fun _ _ _ _ _ h=>h) ⟨_,hS198.pick5.pick5⟩ (l':=[(0,.bool (y193))]) (by kernel_rfl) ?_
       intro a201 hF200; clear hF199
       refine any_done (by kernel_rfl) ?_
       have hS202:=hS198.drop.drop.drop.drop.drop.drop.drop.drop.drop
       clear hS198
       exact thenN ⟨y193,hF200,hS202,hm195⟩
    rw [hc138] at hF136
    have hm203:=ifNot hc138 hm129; clear hm129
    refine any_many 7 [(20,none),(21,none),(22,none),(23,none),(24,none),(25,some (.bool false)),(26,some (.bool false))] [0] #[true,true,true,true,true,true,true,true,true,true,true,true,true,true,true,true,true,true,true,true,true,true,true,true,true,true,true] (by rfl) hF136 (by kernel_rfl) (by kernel_rfl) (by exact (And.intro trivial (And.intro trivial (And.intro trivial (And.intro trivial (And.intro trivial (And.intro (fun wS hw=>by kernel_rfl) (And.intro (fun wS hw=>by kernel_rfl) trivial)))))))) (fun _ _ _ _ _ h=>h) ⟨_,hS135.pick3.pick3⟩ (l':=[(0,.bool false)]) (by kernel_rfl) ?_
    intro a205 hF204; clear hF136
    refine any_done (by kernel_rfl) ?_
    have hS206:=hS135.drop.drop.drop.drop.drop.drop.drop
    clear hS135
    exact thenN ⟨false,hF204,hS206,hm203⟩
   rw [hc113] at hF111
   have hm207:=ifNot hc113 hm104; clear hm104
   refine any_many 18 [(9,none),(10,none),(11,none),(12,none),(13,none),(14,none),(15,none),(16,none),(17,none),(18,some (.bool false)),(19,some (.bool false)),(20,none),(21,none),(22,none),(23,none),(24,none),(25,some (.bool false)),(26,some (.bool false))] [0] #[true,true,true,true,true,true,true,true,true,true,true,true,true,true,true,true,true,true,true,true,true,true,true,true,true,true,true] (by rfl) hF111 (by kernel_rfl) (by kernel_rfl) (by exact (And.intro trivial (And.intro trivial (And.intro trivial (And.intro trivial (And.intro trivial (And.intro trivial (And.intro trivial (And.intro trivial (And.intro trivial (And.intro (fun wS hw=>by kernel_rfl) (And.intro (fun wS hw=>by kernel_rfl) (And.intro trivial (And.intro trivial (And.intro trivial (And.intro trivial (And.intro trivial (And.intro (fun wS hw=>by kernel_rfl) (And.intro (fun wS hw=>by kernel_rfl) trivial))))))))))))))))))) (fun _ _ _ _ _ h=>h) ⟨_,hS110.pick3.pick3⟩ (l':=[(0,.bool false)]) (by kernel_rfl) ?_
   intro a209 hF208; clear hF111
   refine any_done (by kernel_rfl) ?_
   have hS210:=hS110.drop.drop.drop.drop.drop.drop.drop
   clear hS110
   exact thenN ⟨false,hF208,hS210,hm207⟩
end Go.Proofs.YtjdlnmbfomojdaaGreat
namespace Go.Proofs.YtjdlnmbfomojdaaGreat
open Go.RowKit
set_option linter.unusedVariables false
def ChooseElse.j5 (y239:Bool):Option (Bool):=some (y239)
def ChooseElse.j4 (i0:Int) (k:Nat) (x46:Int) (x74:Int) (x85:Int) (L126:List Cs) (x179:Int) (x195:Int) (s207:HSt) (x208:Int):Option (Bool):=bind2 (choose_Pick.m k s207 (⟨0,0,0,0,IntKind.i64.wrap ((IntKind.i64.wrap (2 * x74))+1),IntKind.i64.wrap ((IntKind.i64.wrap (2 * x85))+1),8,0,0,0⟩:Gr) [(⟨1,3,0,0⟩:Cs)] i0) fun x226 s227=>(if (x179 == x46) then (if (x195 == (-1)) then (if (x208 == x46) then (if (x226 == 0) then bind1 (choose_Waits.m k (⟨0,0,0,0,IntKind.i64.wrap ((IntKind.i64.wrap (2 * x74))+1),IntKind.i64.wrap ((IntKind.i64.wrap (2 * x85))+1),8,0,0,0⟩:Gr) L126) fun L271=>ChooseElse.j5 ((L271.length:Int) == (IntKind.i64.wrap (Int.tdiv x46 2))) else ChooseElse.j5 false) else ChooseElse.j5 false) else ChooseElse.j5 false) else ChooseElse.j5 false)
def ChooseElse.j3 (i0:Int) (k:Nat) (x46:Int) (x74:Int) (x85:Int) (L126:List Cs) (s178:HSt) (x179:Int):Option (Bool):=bind2 (choose_Pick.m k s178 (⟨0,0,0,0,IntKind.i64.wrap ((IntKind.i64.wrap (2 * x74))+1),IntKind.i64.wrap ((IntKind.i64.wrap (2 * x85))+1),8,0,0,0⟩:Gr) L126 i0) fun x195 s196=>bind1 (appX [] L126) fun L310=>bind1 (appX L310 [(⟨2,2,0,0⟩:Cs),(⟨3,0,0,0⟩:Cs)]) fun L327=>bind2 (choose_Pick.m k s196 (⟨0,0,0,0,IntKind.i64.wrap ((IntKind.i64.wrap (2 * x74))+1),IntKind.i64.wrap ((IntKind.i64.wrap (2 * x85))+1),8,0,0,0⟩:Gr) L327 i0) fun x343 s344=>ChooseElse.j4 i0 k x46 x74 x85 L126 x179 x195 s344 x343
def ChooseElse.l2b (i0:Int) (k:Nat) (x46:Int) (x74:Int) (x85:Int) (s86:HSt) (rec131:List Cs→Int→Option (Bool)) (L126:List Cs) (x128:Int):Option (Bool):=(if (decide (x128<x46)) then bind1 (appX L126 [(⟨IntKind.i64.wrap (1+(Int.tmod x128 2)),Int.tmod x128 2,0,0⟩:Cs)]) fun L150=>rec131 L150 (IntKind.i64.wrap (x128+1)) else bind1 (appX [] L126) fun L410=>bind1 (appX L410 [(⟨3,0,0,0⟩:Cs)]) fun L427=>bind2 (choose_Pick.m k s86 (⟨0,0,0,0,IntKind.i64.wrap ((IntKind.i64.wrap (2 * x74))+1),IntKind.i64.wrap ((IntKind.i64.wrap (2 * x85))+1),8,0,0,0⟩:Gr) L427 i0) fun x443 s444=>ChooseElse.j3 i0 k x46 x74 x85 L126 s444 x443)
def ChooseElse.l2 (i0:Int) (k:Nat) (x46:Int) (x74:Int) (x85:Int) (s86:HSt):Nat→List Cs→Int→Option (Bool)
  | 0=>fun _ _=>none
  | kI+1=>ChooseElse.l2b i0 k x46 x74 x85 s86 (ChooseElse.l2 i0 k x46 x74 x85 s86 kI)
def ChooseElse.j1 (i0:Int) (k:Nat) (s7:HSt) (s8:HSt) (L9:List Int) (L10:List Int) (x46:Int) (y51:Bool):Option (Bool):=(if (y51) then some (false) else bind3 (law18_ch.m k s7 s8 L9 L10 0) fun x74 s75 s76=>bind3 (law18_gor.m k s75 s76 L9 L10 0) fun x85 s86 s87=>ChooseElse.l2 i0 k x46 x74 x85 s86 k [] 0)
def ChooseElse.m (k:Nat) (i0:Int) (i1:Int):Option (Bool):=bind4 (law18_made.m k [0] 1) fun s7 s8 L9 L10=>bind1 (some (IntKind.i64.wrap (Int.tmod (IntKind.u64.wrap i1) 4))) fun x46=>bind1 (law18_awake.m k ) fun y504=>(if (!(y504)) then ChooseElse.j1 i0 k s7 s8 L9 L10 x46 true else ChooseElse.j1 i0 k s7 s8 L9 L10 x46 false)
set_option maxRecDepth 100000 in
set_option maxHeartbeats 40000000 in
theorem ChooseElse.ok {w0 w:World} {F0:List Nat} {ps:List Piece} {k:Nat} {i0:Int} {i1:Int} {r0:Bool} (hS:St w0 F0 (ps) w) (hm:ChooseElse.m k i0 i1=some r0) :
    Calls Tryz.prog 3 #[nI i0,nI i1] w fun e w'=>e=.returned (.bool r0)∧St w0 F0 (ps) w':=by
 refine ev_enterL 122 [nI i0,nI i1] Tryz.func3 rfl rfl (by simp) ?_
 intro a hF
 have hF0:Fr 122 a [(0,nI i0),(1,nI i1)]:=hF; clear hF
 unfold ChooseElse.m at hm
 refine wp_seq (wp_region_lit ?_)
 refine ev_runK 1 hF0 [0,1] (l':=[(0,nI i0),(1,nI i1)]) (w':=w) (by kernel_rfl) ?_
 intro a2 hF1; clear hF0
 refine wpList_nil (thenN (wp_seq (wp_region_lit ?_)))
 refine ev_runs 1 hF1 (l':=[(14,.slice (some ⟨w.heap.size,0,none⟩) 1 1),(0,nI i0),(1,nI i1)]) (w':=w.alloc (.cells #[nI 0] 3)) (by kernel_rfl) ?_
 intro a4 hF3; clear hF1
 have hS6:St w0 F0 (RowP (.slice (some ⟨w.heap.size,0,none⟩) 1 1) [0]::ps) (w.alloc (.cells #[nI 0] 3)):=St.lit hS [0] (by unfold maxLen; simp)
 refine ev_call 4 #[.slice (some ⟨w.heap.size,0,none⟩) 1 1,nI 1] hF3 rfl rfl (by kernel_rfl) rfl (by kernel_rfl) (fun w=>by kernel_rfl) ?_
 obtain ⟨s7,s8,L9,L10,hx11,hm12⟩:=bind4E hm; clear hm
 refine (law18_made.ok hS6 hx11).mono ?_
 rintro _ w13 ⟨z17,z18,z19,z20,z21,z22,z23,z24,z25,z26,rfl,hS15⟩ a14 hF16; clear hF3 hS6
 have hS32:St w0 F0 (RowP (.slice (some ⟨w.heap.size,0,none⟩) 1 1) [0]::BlkP z17 38 #[nP z18 0,nP z20 0,z25,z26]::HeapP z18 z19 s7::RHeapP z20 z21 z22 z23 z24 s8::RowP (z25) L9::RowP (z26) L10::ps) w13:=hS15
 clear hS15
 obtain ⟨hl36,p33,c34,rfl,hp35⟩:=St.shape hS32 4 rfl
 obtain ⟨hl40,p37,c38,rfl,hp39⟩:=St.shape hS32 5 rfl
 refine ev_runK 1 hF16 [0,1,5] (l':=[(5,nP z17 0),(0,nI i0),(1,nI i1)]) (w':=w13) (by kernel_rfl) ?_
 intro a42 hF41; clear hF16
 refine wpList_nil ?_
 have hS43:=hS32.drop
 clear hS32
 refine thenN (wp_seq (wp_region_lit ?_))
 refine ev_runs 5 hF41 (l':=[(1,nI (IntKind.i64.wrap (Int.tmod (IntKind.u64.wrap i1) 4))),(19,nI (IntKind.i64.wrap (Int.tmod (IntKind.u64.wrap i1) 4))),(18,.int .u64 (Int.tmod (IntKind.u64.wrap i1) 4)),(17,.int .u64 (IntKind.u64.wrap i1)),(16,nI i1),(5,nP z17 0),(0,nI i0)]) (w':=w13) (by kernel_rfl) ?_
 intro a45 hF44; clear hF41
 obtain ⟨x46,hx47,hm48⟩:=bind1E hm12; clear hm12
 have hF49:=hF44; rw [Option.some.inj hx47] at hF49; clear hF44
 refine wpList_nil ?_
 have hF50:=hF49.keep [0,1,5]
 clear hF49
 refine thenN (wp_seq (wp_seq ?_))
 refine joinQ (fun aI wI=>∃ (y51:Bool),Fr 122 aI [(25,.bool (y51)),(1,nI x46),(5,nP z17 0),(0,nI i0)]∧St w0 F0 (BlkP z17 38 #[nP z18 0,nP z20 0,.slice p33 L9.length c34,.slice p37 L10.length c38]::HeapP z18 z19 s7::RHeapP z20 z21 z22 z23 z24 s8::RowP (.slice p33 L9.length c34) L9::RowP (.slice p37 L10.length c38) L10::ps) wI∧ChooseElse.j1 i0 k s7 s8 L9 L10 x46 y51=some r0) ?_ ?_
 rotate_left
 · rintro a53 w54 ⟨y51,hF55,hS56,hm57⟩
   clear hF50 hS43 hm48
   unfold ChooseElse.j1 at hm57
   refine thenN ?_
   cases hc59:(y51)
   case true =>
    rw [hc59] at hF55
    have hm60:=ifYes hc59 hm57; clear hm57
    refine ev_condT hF55 rfl rfl ?_
    refine wp_seq (wp_region_lit ?_)
    refine ev_runK 1 hF55 [4] (l':=[(4,.bool false)]) (w':=w54) (by kernel_rfl) ?_
    intro a62 hF61; clear hF55
    refine wpList_nil ?_
    have hS63:=hS56.drop.drop.drop.drop.drop
    clear hS56
    refine thenN ?_
    refine wp_ret ?_
    refine thenR ?_
    obtain rfl:=Option.some.inj hm60
    refine ev_ret hF61 [4] (.bool false) rfl rfl rfl ?_
    exact ⟨rfl,hS63⟩
   rw [hc59] at hF55
   have hm65:=ifNot hc59 hm57; clear hm57
   refine ev_condF hF55 rfl rfl ?_
   refine wp_skip ?_
   have hF66:=hF55.keep [0,1,5]
   clear hF55
   refine thenN (wp_seq (wp_region_lit ?_))
   refine ev_runs 1 hF66 (l':=[(6,nB w54),(1,nI x46),(5,nP z17 0),(0,nI i0)]) (w':=w54.alloc (.cells #[nI 0,nI 0,nI 0,nI 0,nI 0,nI 0,nI 0,nI 0,nI 0,nI 0] 29)) (by kernel_rfl) ?_
   intro a68 hF67; clear hF66
   have hS70:St w0 F0 (BlkP (w54.heap.size) 29 #[nI 0,nI 0,nI 0,nI 0,nI 0,nI 0,nI 0,nI 0,nI 0,nI 0]::BlkP z17 38 #[nP z18 0,nP z20 0,.slice p33 L9.length c34,.slice p37 L10.length c38]::HeapP z18 z19 s7::RHeapP z20 z21 z22 z23 z24 s8::RowP (.slice p33 L9.length c34) L9::RowP (.slice p37 L10.length c38) L10::ps) (w54.alloc (.cells #[nI 0,nI 0,nI 0,nI 0,nI 0,nI 0,nI 0,nI 0,nI 0,nI 0] 29)):=St.new hS56 #[nI 0,nI 0,nI 0,nI 0,nI 0,nI 0,nI 0,nI 0,nI 0,nI 0] 29
   clear hS56
   refine wpList_nil (thenN (wp_seq (wp_region_lit ?_)))
   refine ev_runs 1 hF67 (l':=[(26,nP z17 0),(6,nB w54),(1,nI x46),(5,nP z17 0),(0,nI i0)]) (w':=w54.alloc (.cells #[nI 0,nI 0,nI 0,nI 0,nI 0,nI 0,nI 0,nI 0,nI 0,nI 0] 29)) (by kernel_rfl) ?_
   intro a72 hF71; clear hF67
   have hS73:=hS70.pick5.pick5.pick5.pick5.pick5
   clear hS70
   refine ev_call 6 #[nP z17 0,nI 0] hF71 rfl rfl (by kernel_rfl) rfl (by kernel_rfl) (fun w=>by kernel_rfl) ?_
   obtain ⟨x74,s75,s76,hx77,hm78⟩:=bind3E hm65; clear hm65
   refine (law18_ch.ok hS73 hx77).mono ?_
   rintro _ w79 ⟨rfl,hS81⟩ a80 hF82; clear hF71 hS73
   refine ev_runs 3 hF82 (l':=[(30,nP z17 0),(29,nI (IntKind.i64.wrap ((IntKind.i64.wrap (2 * x74))+1))),(28,nI (IntKind.i64.wrap (2 * x74))),(27,nI x74),(26,nP z17 0),(6,nB w54),(1,nI x46),(5,nP z17 0),(0,nI i0)]) (w':=w79) (by kernel_rfl) ?_
   intro a84 hF83; clear hF82
   refine ev_call 7 #[nP z17 0,nI 0] hF83 rfl rfl (by kernel_rfl) rfl (by kernel_rfl) (fun w=>by kernel_rfl) ?_
   obtain ⟨x85,s86,s87,hx88,hm89⟩:=bind3E hm78; clear hm78
   refine (law18_gor.ok hS81 hx88).mono ?_
   rintro _ w90 ⟨rfl,hS92⟩ a91 hF93; clear hF83 hS81
   refine ev_runs 3 hF93 (l':=[(34,nP (w54.heap.size) 3),(33,nI (IntKind.i64.wrap ((IntKind.i64.wrap (2 * x85))+1))),(32,nI (IntKind.i64.wrap (2 * x85))),(31,nI x85),(30,nP z17 0),(29,nI (IntKind.i64.wrap ((IntKind.i64.wrap (2 * x74))+1))),(28,nI (IntKind.i64.wrap (2 * x74))),(27,nI x74),(26,nP z17 0),(6,nB w54),(1,nI x46),(5,nP z17 0),(0,nI i0)]) (w':=w90) (by kernel_rfl) ?_
   intro a95 hF94; clear hF93
   refine ev_one (nP (w54.heap.size) 4) w90 hF94 (by kernel_rfl) rfl (by kernel_rfl) (run_idxA (q:=1) rfl rfl rfl rfl rfl (by decide) (by decide) (by kernel_rfl) _) (l':=[(35,nP (w54.heap.size) 4),(34,nP (w54.heap.size) 3),(33,nI (IntKind.i64.wrap ((IntKind.i64.wrap (2 * x85))+1))),(32,nI (IntKind.i64.wrap (2 * x85))),(31,nI x85),(30,nP z17 0),(29,nI (IntKind.i64.wrap ((IntKind.i64.wrap (2 * x74))+1))),(28,nI (IntKind.i64.wrap (2 * x74))),(27,nI x74),(26,nP z17 0),(6,nB w54),(1,nI x46),(5,nP z17 0),(0,nI i0)]) (by kernel_rfl) ?_
   intro a97 hF96; clear hF94
   have hS98:=hS92.pick5
   clear hS92
   refine ev_store (nI (IntKind.i64.wrap ((IntKind.i64.wrap (2 * x74))+1))) #[nI 0,nI 0,nI 0,nI 0,nI (IntKind.i64.wrap ((IntKind.i64.wrap (2 * x74))+1)),nI 0,nI 0,nI 0,nI 0,nI 0] hF96 (by kernel_rfl) rfl rfl rfl rfl (by kernel_rfl) hS98 (by kernel_rfl) (by kernel_rfl) (by kernel_rfl) (l':=[(35,nP (w54.heap.size) 4),(34,nP (w54.heap.size) 3),(33,nI (IntKind.i64.wrap ((IntKind.i64.wrap (2 * x85))+1))),(32,nI (IntKind.i64.wrap (2 * x85))),(31,nI x85),(30,nP z17 0),(29,nI (IntKind.i64.wrap ((IntKind.i64.wrap (2 * x74))+1))),(28,nI (IntKind.i64.wrap (2 * x74))),(27,nI x74),(26,nP z17 0),(6,nB w54),(1,nI x46),(5,nP z17 0),(0,nI i0)]) (by kernel_rfl) ?_
   intro w99 a100 hS101 hF102; clear hF96 hS98
   refine ev_runs 1 hF102 (l':=[(36,nP (w54.heap.size) 3),(35,nP (w54.heap.size) 4),(34,nP (w54.heap.size) 3),(33,nI (IntKind.i64.wrap ((IntKind.i64.wrap (2 * x85))+1))),(32,nI (IntKind.i64.wrap (2 * x85))),(31,nI x85),(30,nP z17 0),(29,nI (IntKind.i64.wrap ((IntKind.i64.wrap (2 * x74))+1))),(28,nI (IntKind.i64.wrap (2 * x74))),(27,nI x74),(26,nP z17 0),(6,nB w54),(1,nI x46),(5,nP z17 0),(0,nI i0)]) (w':=w99) (by kernel_rfl) ?_
   intro a104 hF103; clear hF102
   refine ev_one (nP (w54.heap.size) 5) w99 hF103 (by kernel_rfl) rfl (by kernel_rfl) (run_idxA (q:=2) rfl rfl rfl rfl rfl (by decide) (by decide) (by kernel_rfl) _) (l':=[(37,nP (w54.heap.size) 5),(36,nP (w54.heap.size) 3),(35,nP (w54.heap.size) 4),(34,nP (w54.heap.size) 3),(33,nI (IntKind.i64.wrap ((IntKind.i64.wrap (2 * x85))+1))),(32,nI (IntKind.i64.wrap (2 * x85))),(31,nI x85),(30,nP z17 0),(29,nI (IntKind.i64.wrap ((IntKind.i64.wrap (2 * x74))+1))),(28,nI (IntKind.i64.wrap (2 * x74))),(27,nI x74),(26,nP z17 0),(6,nB w54),(1,nI x46),(5,nP z17 0),(0,nI i0)]) (by kernel_rfl) ?_
   intro a106 hF105; clear hF103
   refine ev_store (nI (IntKind.i64.wrap ((IntKind.i64.wrap (2 * x85))+1))) #[nI 0,nI 0,nI 0,nI 0,nI (IntKind.i64.wrap ((IntKind.i64.wrap (2 * x74))+1)),nI (IntKind.i64.wrap ((IntKind.i64.wrap (2 * x85))+1)),nI 0,nI 0,nI 0,nI 0] hF105 (by kernel_rfl) rfl rfl rfl rfl (by kernel_rfl) hS101 (by kernel_rfl) (by kernel_rfl) (by kernel_rfl) (l':=[(37,nP (w54.heap.size) 5),(36,nP (w54.heap.size) 3),(35,nP (w54.heap.size) 4),(34,nP (w54.heap.size) 3),(33,nI (IntKind.i64.wrap ((IntKind.i64.wrap (2 * x85))+1))),(32,nI (IntKind.i64.wrap (2 * x85))),(31,nI x85),(30,nP z17 0),(29,nI (IntKind.i64.wrap ((IntKind.i64.wrap (2 * x74))+1))),(28,nI (IntKind.i64.wrap (2 * x74))),(27,nI x74),(26,nP z17 0),(6,nB w54),(1,nI x46),(5,nP z17 0),(0,nI i0)]) (by kernel_rfl) ?_
   intro w107 a108 hS109 hF110; clear hF105 hS101
   refine ev_runs 1 hF110 (l':=[(38,nP (w54.heap.size) 3),(37,nP (w54.heap.size) 5),(36,nP (w54.heap.size) 3),(35,nP (w54.heap.size) 4),(34,nP (w54.heap.size) 3),(33,nI (IntKind.i64.wrap ((IntKind.i64.wrap (2 * x85))+1))),(32,nI (IntKind.i64.wrap (2 * x85))),(31,nI x85),(30,nP z17 0),(29,nI (IntKind.i64.wrap ((IntKind.i64.wrap (2 * x74))+1))),(28,nI (IntKind.i64.wrap (2 * x74))),(27,nI x74),(26,nP z17 0),(6,nB w54),(1,nI x46),(5,nP z17 0),(0,nI i0)]) (w':=w107) (by kernel_rfl) ?_
   intro a112 hF111; clear hF110
   refine ev_one (nP (w54.heap.size) 6) w107 hF111 (by kernel_rfl) rfl (by kernel_rfl) (run_idxA (q:=3) rfl rfl rfl rfl rfl (by decide) (by decide) (by kernel_rfl) _) (l':=[(39,nP (w54.heap.size) 6),(38,nP (w54.heap.size) 3),(37,nP (w54.heap.size) 5),(36,nP (w54.heap.size) 3),(35,nP (w54.heap.size) 4),(34,nP (w54.heap.size) 3),(33,nI (IntKind.i64.wrap ((IntKind.i64.wrap (2 * x85))+1))),(32,nI (IntKind.i64.wrap (2 * x85))),(31,nI x85),(30,nP z17 0),(29,nI (IntKind.i64.wrap ((IntKind.i64.wrap (2 * x74))+1))),(28,nI (IntKind.i64.wrap (2 * x74))),(27,nI x74),(26,nP z17 0),(6,nB w54),(1,nI x46),(5,nP z17 0),(0,nI i0)]) (by kernel_rfl) ?_
   intro a114 hF113; clear hF111
   refine ev_store (nI 8) #[nI 0,nI 0,nI 0,nI 0,nI (IntKind.i64.wrap ((IntKind.i64.wrap (2 * x74))+1)),nI (IntKind.i64.wrap ((IntKind.i64.wrap (2 * x85))+1)),nI 8,nI 0,nI 0,nI 0] hF113 (by kernel_rfl) rfl rfl rfl rfl (by kernel_rfl) hS109 (by kernel_rfl) (by kernel_rfl) (by kernel_rfl) (l':=[(39,nP (w54.heap.size) 6),(38,nP (w54.heap.size) 3),(37,nP (w54.heap.size) 5),(36,nP (w54.heap.size) 3),(35,nP (w54.heap.size) 4),(34,nP (w54.heap.size) 3),(33,nI (IntKind.i64.wrap ((IntKind.i64.wrap (2 * x85))+1))),(32,nI (IntKind.i64.wrap (2 * x85))),(31,nI x85),(30,nP z17 0),(29,nI (IntKind.i64.wrap ((IntKind.i64.wrap (2 * x74))+1))),(28,nI (IntKind.i64.wrap (2 * x74))),(27,nI x74),(26,nP z17 0),(6,nB w54),(1,nI x46),(5,nP z17 0),(0,nI i0)]) (by kernel_rfl) ?_
   intro w115 a116 hS117 hF118; clear hF113 hS109
   refine wpList_nil ?_
   have hF119:=hF118.keep [0,1,5,6]
   clear hF118
   refine thenN (wp_seq (wp_region_lit ?_))
   have hS121:St w0 F0 (RowX kCs (.slice none 0 0) []::BlkP (w54.heap.size) 29 #[nI 0,nI 0,nI 0,nI 0,nI (IntKind.i64.wrap ((IntKind.i64.wrap (2 * x74))+1)),nI (IntKind.i64.wrap ((IntKind.i64.wrap (2 * x85))+1)),nI 8,nI 0,nI 0,nI 0]::BlkP z17 38 #[nP z18 0,nP z20 0,.slice p33 L9.length c34,.slice p37 L10.length c38]::HeapP z18 z19 s86::RHeapP z20 z21 z22 z23 z24 s87::RowP (.slice p33 L9.length c34) L9::RowP (.slice p37 L10.length c38) L10::ps) w115:=St.nilX kCs hS117
   clear hS117
   refine ev_runs 1 hF119 (l':=[(7,.slice none 0 0),(6,nB w54),(1,nI x46),(5,nP z17 0),(0,nI i0)]) (w':=w115) (by kernel_rfl) ?_
   intro a123 hF122; clear hF119
   refine wpList_nil (thenN (wp_seq (wp_seq (wp_region_lit ?_))))
   refine ev_runs 1 hF122 (l':=[(8,nI 0),(7,.slice none 0 0),(6,nB w54),(1,nI x46),(5,nP z17 0),(0,nI i0)]) (w':=w115) (by kernel_rfl) ?_
   intro a125 hF124; clear hF122
   refine wpList_nil (thenN ?_)
   refine wp_block ?_
   refine wp_loop_ghost (fun kI aI wI=>∃ (v127:Value) (L126:List Cs) (x128:Int),Fr 122 aI [(8,nI x128),(7,v127),(6,nB w54),(1,nI x46),(5,nP z17 0),(0,nI i0)]∧St w0 F0 (RowX kCs (v127) L126::BlkP (w54.heap.size) 29 #[nI 0,nI 0,nI 0,nI 0,nI (IntKind.i64.wrap ((IntKind.i64.wrap (2 * x74))+1)),nI (IntKind.i64.wrap ((IntKind.i64.wrap (2 * x85))+1)),nI 8,nI 0,nI 0,nI 0]::BlkP z17 38 #[nP z18 0,nP z20 0,.slice p33 L9.length c34,.slice p37 L10.length c38]::HeapP z18 z19 s86::RHeapP z20 z21 z22 z23 z24 s87::RowP (.slice p33 L9.length c34) L9::RowP (.slice p37 L10.length c38) L10::ps) wI∧ChooseElse.l2 i0 k x46 x74 x85 s86 kI L126 x128=some r0) k ⟨.slice none 0 0,[],0,hF124,hS121,hm89⟩ ?_
   rintro k129 a130 w131 ⟨v127,L126,x128,hF132,hS133,hm134⟩
   clear hF124 hS121 hm89
   rcases k129 with _ | k129
   · cases hm134
   have hm135:ChooseElse.l2b i0 k x46 x74 x85 s86 (ChooseElse.l2 i0 k x46 x74 x85 s86 k129) L126 x128=some r0:=hm134
   clear hm134
   unfold ChooseElse.l2b at hm135
   obtain ⟨hl139,p136,c137,rfl,hp138⟩:=St.shapeX hS133 0 rfl
   refine wp_seq (wp_seq (wp_region_lit ?_))
   refine ev_runK 3 hF132 [0,1,5,6,7,8,42] (l':=[(42,.bool (decide (x128<x46))),(8,nI x128),(7,.slice p136 L126.length c137),(6,nB w54),(1,nI x46),(5,nP z17 0),(0,nI i0)]) (w':=w131) (by kernel_rfl) ?_
   intro a141 hF140; clear hF132
   refine wpList_nil (thenN ?_)
   cases hc142:(decide (x128<x46))
   case true =>
    rw [hc142] at hF140
    have hm143:=ifYes hc142 hm135; clear hm135
    refine ev_condT hF140 rfl rfl ?_
    refine wp_skip ?_
    have hF144:=hF140.keep [0,1,5,6,7,8]
    clear hF140
    refine thenN (wp_seq ?_)
    refine wp_block ?_
    refine wp_region_lit ?_
    refine ev_runs 8 hF144 (l':=[(52,.slice (some ⟨w131.heap.size,0,none⟩) 1 1),(51,.agg #[nI (IntKind.i64.wrap (1+(Int.tmod x128 2))),nI (Int.tmod x128 2),nI 0,nI 0]),(50,nI (Int.tmod x128 2)),(49,nI x128),(48,nI (IntKind.i64.wrap (1+(Int.tmod x128 2)))),(47,nI (Int.tmod x128 2)),(46,nI x128),(45,.slice p136 L126.length c137),(8,nI x128),(7,.slice p136 L126.length c137),(6,nB w54),(1,nI x46),(5,nP z17 0),(0,nI i0)]) (w':=w131.alloc (.cells #[nI (IntKind.i64.wrap (1+(Int.tmod x128 2))),nI (Int.tmod x128 2),nI 0,nI 0] 33)) (by kernel_rfl) ?_
    intro a147 hF146; clear hF144
    have hS148:St w0 F0 (RowX kCs (.slice (some ⟨w131.heap.size,0,none⟩) 1 1) [(⟨IntKind.i64.wrap (1+(Int.tmod x128 2)),Int.tmod x128 2,0,0⟩:Cs)]::RowX kCs (.slice p136 L126.length c137) L126::BlkP (w54.heap.size) 29 #[nI 0,nI 0,nI 0,nI 0,nI (IntKind.i64.wrap ((IntKind.i64.wrap (2 * x74))+1)),nI (IntKind.i64.wrap ((IntKind.i64.wrap (2 * x85))+1)),nI 8,nI 0,nI 0,nI 0]::BlkP z17 38 #[nP z18 0,nP z20 0,.slice p33 L9.length c34,.slice p37 L10.length c38]::HeapP z18 z19 s86::RHeapP z20 z21 z22 z23 z24 s87::RowP (.slice p33 L9.length c34) L9::RowP (.slice p37 L10.length c38) L10::ps) (w131.alloc (.cells #[nI (IntKind.i64.wrap (1+(Int.tmod x128 2))),nI (Int.tmod x128 2),nI 0,nI 0] 33)):=St.litX kCs hS133 [(⟨IntKind.i64.wrap (1+(Int.tmod x128 2)),Int.tmod x128 2,0,0⟩:Cs)] (by unfold maxLen; simp)
    clear hS133
    have hS149:=hS148.pick1
    clear hS148
    obtain ⟨L150,hx151,hm152⟩:=bind1E hm143; clear hm143
    refine ev_appX kCs 31 rfl 53 (.tmp 45) (.tmp 52) hF146 rfl rfl (by kernel_rfl) rfl rfl rfl rfl rfl hS149 hx151 ?_
    intro v153 w154 a155 hS156 hF157; clear hF146 hS149
    obtain ⟨hl161,p158,c159,rfl,hp160⟩:=St.shapeX hS156 0 rfl
    have hF162:=hF157.keep [0,1,5,6,8,46,47,48,49,50,51,52,53]; clear hF157
    refine ev_runK 1 hF162 [0,1,5,6,7,8] (l':=[(7,.slice p158 L150.length c159),(8,nI x128),(6,nB w54),(1,nI x46),(5,nP z17 0),(0,nI i0)]) (w':=w154) (by kernel_rfl) ?_
    intro a164 hF163; clear hF162
    refine wpList_nil ?_
    have hS165:=hS156.pick1.drop
    clear hS156
    refine blockN ?_
    refine thenN (wp_region_lit ?_)
    refine ev_runK 3 hF163 [0,1,5,6,7,8] (l':=[(8,nI (IntKind.i64.wrap (x128+1))),(7,.slice p158 L150.length c159),(6,nB w54),(1,nI x46),(5,nP z17 0),(0,nI i0)]) (w':=w154) (by kernel_rfl) ?_
    intro a167 hF166; clear hF163
    refine wpList_nil ?_
    exact thenN ⟨k129,Nat.lt_succ_self _,.slice p158 L150.length c159,L150,IntKind.i64.wrap (x128+1),hF166,hS165,hm152⟩
   rw [hc142] at hF140
   have hm168:=ifNot hc142 hm135; clear hm135
   refine ev_condF hF140 rfl rfl ?_
   refine wp_exit ?_
   refine thenE ?_
   refine thenE ?_
   refine blockE ?_
   refine thenN (wp_seq (wp_region_lit ?_))
   refine ev_runs 2 hF140 (l':=[(9,nB w131),(54,.agg #[nI 3,nI 0,nI 0,nI 0]),(42,.bool false),(8,nI x128),(7,.slice p136 L126.length c137),(6,nB w54),(1,nI x46),(5,nP z17 0),(0,nI i0)]) (w':=w131.alloc (.cells #[nI 0,nI 0,nI 0,nI 0] 33)) (by kernel_rfl) ?_
   intro a170 hF169; clear hF140
   have hS172:St w0 F0 (BlkP (w131.heap.size) 33 #[nI 0,nI 0,nI 0,nI 0]::RowX kCs (.slice p136 L126.length c137) L126::BlkP (w54.heap.size) 29 #[nI 0,nI 0,nI 0,nI 0,nI (IntKind.i64.wrap ((IntKind.i64.wrap (2 * x74))+1)),nI (IntKind.i64.wrap ((IntKind.i64.wrap (2 * x85))+1)),nI 8,nI 0,nI 0,nI 0]::BlkP z17 38 #[nP z18 0,nP z20 0,.slice p33 L9.length c34,.slice p37 L10.length c38]::HeapP z18 z19 s86::RHeapP z20 z21 z22 z23 z24 s87::RowP (.slice p33 L9.length c34) L9::RowP (.slice p37 L10.length c38) L10::ps) (w131.alloc (.cells #[nI 0,nI 0,nI 0,nI 0] 33)):=St.new hS133 #[nI 0,nI 0,nI 0,nI 0] 33
   clear hS133
   refine ev_store (.agg #[nI 3,nI 0,nI 0,nI 0]) #[nI 3,nI 0,nI 0,nI 0] hF169 (by kernel_rfl) rfl rfl rfl rfl (by kernel_rfl) hS172 (by kernel_rfl) (by kernel_rfl) (by kernel_rfl) (l':=[(9,nB w131),(54,.agg #[nI 3,nI 0,nI 0,nI 0]),(42,.bool false),(8,nI x128),(7,.slice p136 L126.length c137),(6,nB w54),(1,nI x46),(5,nP z17 0),(0,nI i0)]) (by kernel_rfl) ?_
   intro w173 a174 hS175 hF176; clear hF169 hS172
   refine wpList_nil ?_
   have hF177:=hF176.keep [0,1,5,6,7,9]
   clear hF176
   refine thenN (wp_seq ?_)
   refine joinQ (fun aI wI=>∃ (s178:HSt) (x179:Int),Fr 122 aI [(10,nI x179),(9,nB w131),(7,.slice p136 L126.length c137),(6,nB w54),(1,nI x46),(5,nP z17 0),(0,nI i0)]∧St w0 F0 (HeapP z18 z19 s178::RowX kCs (.slice p136 L126.length c137) L126::BlkP z17 38 #[nP z18 0,nP z20 0,.slice p33 L9.length c34,.slice p37 L10.length c38]::BlkP (w54.heap.size) 29 #[nI 0,nI 0,nI 0,nI 0,nI (IntKind.i64.wrap ((IntKind.i64.wrap (2 * x74))+1)),nI (IntKind.i64.wrap ((IntKind.i64.wrap (2 * x85))+1)),nI 8,nI 0,nI 0,nI 0]::BlkP (w131.heap.size) 33 #[nI 3,nI 0,nI 0,nI 0]::RHeapP z20 z21 z22 z23 z24 s87::RowP (.slice p33 L9.length c34) L9::RowP (.slice p37 L10.length c38) L10::ps) wI∧ChooseElse.j3 i0 k x46 x74 x85 L126 s178 x179=some r0) ?_ ?_
   rotate_left
   · rintro a181 w182 ⟨s178,x179,hF183,hS184,hm185⟩
     clear hF177 hS175 hm168
     unfold ChooseElse.j3 at hm185
     refine thenN (wp_seq ?_)
     have hS187:=hS184.pick3.pick3
     clear hS184
     have hS188:=hS187.drew; clear hS187
     refine any_start (fun wS=>∃ qs,St w0 F0 (BlkP z17 38 #[nP z18 0,nP z20 0,.slice p33 L9.length c34,.slice p37 L10.length c38]::BlkP (w54.heap.size) 29 #[nI 0,nI 0,nI 0,nI 0,nI (IntKind.i64.wrap ((IntKind.i64.wrap (2 * x74))+1)),nI (IntKind.i64.wrap ((IntKind.i64.wrap (2 * x85))+1)),nI 8,nI 0,nI 0,nI 0]::qs) wS) 9 #[false,false,false,false,false,false,false,false,false] (by kernel_rfl) (by kernel_rfl) (by kernel_rfl) ?_
     refine any_many 7 [(0,some (nP z17 0)),(1,some (nP z17 0)),(2,some (nP z17 0)),(3,some (nP z18 0)),(4,some (.agg #[nI 0,nI 0,nI 0,nI 0,nI (IntKind.i64.wrap ((IntKind.i64.wrap (2 * x74))+1)),nI (IntKind.i64.wrap ((IntKind.i64.wrap (2 * x85))+1)),nI 8,nI 0,nI 0,nI 0])),(5,some (.slice p136 L126.length c137)),(6,some (nI i0))] [0,1,5,6,7,9,10,11,70,71,72,73,74] #[true,true,true,true,true,true,true,false,false] (by rfl) hF183 (by kernel_rfl) (by kernel_rfl) (by exact ⟨fun wS hw=>by kernel_rfl,fun wS hw=>by kernel_rfl,fun wS hw=>by kernel_rfl,fun wS hw=>hw.elim fun qs hw=>run_loadV rfl rfl (run_loadS rfl rfl (hw.cell 0 rfl 0 rfl)),fun wS hw=>hw.elim fun qs hw=>run_loadV rfl rfl (run_loadA (cs:=[nI 0,nI 0,nI 0,nI 0,nI (IntKind.i64.wrap ((IntKind.i64.wrap (2 * x74))+1)),nI (IntKind.i64.wrap ((IntKind.i64.wrap (2 * x85))+1)),nI 8,nI 0,nI 0,nI 0]) rfl rfl (by kernel_rfl) (blk_cells hw 1 rfl rfl)),fun wS hw=>by kernel_rfl,fun wS hw=>by kernel_rfl,trivial⟩) (fun _ _ _ _ _ h=>h) ⟨_,hS188⟩ (l':=[(73,nI i0),(72,.slice p136 L126.length c137),(71,.agg #[nI 0,nI 0,nI 0,nI 0,nI (IntKind.i64.wrap ((IntKind.i64.wrap (2 * x74))+1)),nI (IntKind.i64.wrap ((IntKind.i64.wrap (2 * x85))+1)),nI 8,nI 0,nI 0,nI 0]),(70,nP z18 0),(10,nI x179),(9,nB w131),(7,.slice p136 L126.length c137),(6,nB w54),(1,nI x46),(5,nP z17 0),(0,nI i0)]) (by kernel_rfl) ?_
     intro a190 hF189; clear hF183
     have hS191:=hS188.pick3
     clear hS188
     obtain ⟨o192,hS193⟩:=St.toY hS191; clear hS191
     have hS194:=hS193.pick3
     clear hS193
     refine any_call 7 #[true,true,true,true,true,true,true,true,false] 8 #[nP z18 0,.agg #[nI 0,nI 0,nI 0,nI 0,nI (IntKind.i64.wrap ((IntKind.i64.wrap (2 * x74))+1)),nI (IntKind.i64.wrap ((IntKind.i64.wrap (2 * x85))+1)),nI 8,nI 0,nI 0,nI 0],.slice p136 L126.length c137,nI i0] hF189 rfl (by kernel_rfl) rfl rfl (by kernel_rfl) rfl (by kernel_rfl) (fun w=>by kernel_rfl) (by kernel_rfl) ?_
     obtain ⟨x195,s196,hx197,hm198⟩:=bind2E hm185; clear hm185
     refine (choose_Pick.ok hS194 hx197).mono ?_
     rintro _ w199 ⟨rfl,hS201⟩; clear hS194
     have hS203:=hS201.pick1
     clear hS201
     have hS204:=St.ofY hS203; clear hS203
     refine ⟨⟨_,hS204.pick3.pick3⟩,?_⟩
     intro a200 hF202; clear hF189
     refine any_many 1 [(8,some (nI x195))] [0,1,5,6,7,9,10,11] #[true,true,true,true,true,true,true,true,true] (by rfl) hF202 (by kernel_rfl) (by kernel_rfl) (by exact ⟨fun wS hw=>by kernel_rfl,trivial⟩) (fun _ _ _ _ _ h=>h) ⟨_,hS204.pick3.pick3⟩ (l':=[(11,nI x195),(10,nI x179),(9,nB w131),(7,.slice p136 L126.length c137),(6,nB w54),(1,nI x46),(5,nP z17 0),(0,nI i0)]) (by kernel_rfl) ?_
     intro a206 hF205; clear hF202
     refine any_done (by kernel_rfl) ?_
     refine thenN (wp_seq ?_)
     refine joinQ (fun aI wI=>∃ (s207:HSt) (x208:Int),Fr 122 aI [(12,nI x208),(11,nI x195),(10,nI x179),(7,.slice p136 L126.length c137),(6,nB w54),(1,nI x46),(5,nP z17 0),(0,nI i0)]∧St w0 F0 (HeapP z18 z19 s207::RowX kCs (.slice p136 L126.length c137) L126::BlkP z17 38 #[nP z18 0,nP z20 0,.slice p33 L9.length c34,.slice p37 L10.length c38]::BlkP (w54.heap.size) 29 #[nI 0,nI 0,nI 0,nI 0,nI (IntKind.i64.wrap ((IntKind.i64.wrap (2 * x74))+1)),nI (IntKind.i64.wrap ((IntKind.i64.wrap (2 * x85))+1)),nI 8,nI 0,nI 0,nI 0]::RHeapP z20 z21 z22 z23 z24 s87::RowP (.slice p33 L9.length c34) L9::RowP (.slice p37 L10.length c38) L10::ps) wI∧ChooseElse.j4 i0 k x46 x74 x85 L126 x179 x195 s207 x208=some r0) ?_ ?_
     rotate_left
     · rintro a210 w211 ⟨s207,x208,hF212,hS213,hm214⟩
       clear hF205 hS204 hm198
       unfold ChooseElse.j4 at hm214
       refine thenN (wp_seq ?_)
       have hS216:=hS213.pick3.pick3
       clear hS213
       have hS217:=hS216.drew; clear hS216
       refine any_start (fun wS=>∃ qs,St w0 F0 (BlkP z17 38 #[nP z18 0,nP z20 0,.slice p33 L9.length c34,.slice p37 L10.length c38]::BlkP (w54.heap.size) 29 #[nI 0,nI 0,nI 0,nI 0,nI (IntKind.i64.wrap ((IntKind.i64.wrap (2 * x74))+1)),nI (IntKind.i64.wrap ((IntKind.i64.wrap (2 * x85))+1)),nI 8,nI 0,nI 0,nI 0]::qs) wS) 10 #[false,false,false,false,false,false,false,false,false,false] (by kernel_rfl) (by kernel_rfl) (by kernel_rfl) ?_
       refine any_many 7 [(0,some (nP z17 0)),(1,some (nP z17 0)),(2,some (nP z17 0)),(3,some (nP z18 0)),(4,some (.agg #[nI 0,nI 0,nI 0,nI 0,nI (IntKind.i64.wrap ((IntKind.i64.wrap (2 * x74))+1)),nI (IntKind.i64.wrap ((IntKind.i64.wrap (2 * x85))+1)),nI 8,nI 0,nI 0,nI 0])),(5,some (.agg #[nI 1,nI 3,nI 0,nI 0])),(7,some (nI i0))] [1,6,7,10,11,12,13,91,92,93,94,95,96] #[true,true,true,true,true,true,false,true,false,false] (by rfl) hF212 (by kernel_rfl) (by kernel_rfl) (by exact ⟨fun wS hw=>by kernel_rfl,fun wS hw=>by kernel_rfl,fun wS hw=>by kernel_rfl,fun wS hw=>hw.elim fun qs hw=>run_loadV rfl rfl (run_loadS rfl rfl (hw.cell 0 rfl 0 rfl)),fun wS hw=>hw.elim fun qs hw=>run_loadV rfl rfl (run_loadA (cs:=[nI 0,nI 0,nI 0,nI 0,nI (IntKind.i64.wrap ((IntKind.i64.wrap (2 * x74))+1)),nI (IntKind.i64.wrap ((IntKind.i64.wrap (2 * x85))+1)),nI 8,nI 0,nI 0,nI 0]) rfl rfl (by kernel_rfl) (blk_cells hw 1 rfl rfl)),fun wS hw=>by kernel_rfl,fun wS hw=>by kernel_rfl,trivial⟩) (fun _ _ _ _ _ h=>h) ⟨_,hS217⟩ (l':=[(95,nI i0),(93,.agg #[nI 1,nI 3,nI 0,nI 0]),(92,.agg #[nI 0,nI 0,nI 0,nI 0,nI (IntKind.i64.wrap ((IntKind.i64.wrap (2 * x74))+1)),nI (IntKind.i64.wrap ((IntKind.i64.wrap (2 * x85))+1)),nI 8,nI 0,nI 0,nI 0]),(91,nP z18 0),(12,nI x208),(11,nI x195),(10,nI x179),(7,.slice p136 L126.length c137),(6,nB w54),(1,nI x46)]) (by kernel_rfl) ?_
       intro a219 hF218; clear hF212
       refine any_one 6 (by kernel_rfl) ?_
       have hS220:St w0 F0 (RowX kCs (.slice (some ⟨(w211.drew).heap.size,0,none⟩) 1 1) [(⟨1,3,0,0⟩:Cs)]::BlkP z17 38 #[nP z18 0,nP z20 0,.slice p33 L9.length c34,.slice p37 L10.length c38]::BlkP (w54.heap.size) 29 #[nI 0,nI 0,nI 0,nI 0,nI (IntKind.i64.wrap ((IntKind.i64.wrap (2 * x74))+1)),nI (IntKind.i64.wrap ((IntKind.i64.wrap (2 * x85))+1)),nI 8,nI 0,nI 0,nI 0]::HeapP z18 z19 s207::RowX kCs (.slice p136 L126.length c137) L126::RHeapP z20 z21 z22 z23 z24 s87::RowP (.slice p33 L9.length c34) L9::RowP (.slice p37 L10.length c38) L10::ps) ((w211.drew).alloc (.cells #[nI 1,nI 3,nI 0,nI 0] 33)):=St.litX kCs hS217 [(⟨1,3,0,0⟩:Cs)] (by unfold maxLen; simp)
       clear hS217
       refine op_step 6 #[true,true,true,true,true,true,true,true,false,false] (.slice (some ⟨(w211.drew).heap.size,0,none⟩) 1 1) ((w211.drew).alloc (.cells #[nI 1,nI 3,nI 0,nI 0] 33)) hF218 rfl (by kernel_rfl) rfl (by kernel_rfl) (by kernel_rfl) (l':=[(94,.slice (some ⟨(w211.drew).heap.size,0,none⟩) 1 1),(95,nI i0),(93,.agg #[nI 1,nI 3,nI 0,nI 0]),(92,.agg #[nI 0,nI 0,nI 0,nI 0,nI (IntKind.i64.wrap ((IntKind.i64.wrap (2 * x74))+1)),nI (IntKind.i64.wrap ((IntKind.i64.wrap (2 * x85))+1)),nI 8,nI 0,nI 0,nI 0]),(91,nP z18 0),(12,nI x208),(11,nI x195),(10,nI x179),(7,.slice p136 L126.length c137),(6,nB w54),(1,nI x46)]) (by kernel_rfl) ⟨_,hS220.pick2.pick2⟩ (by kernel_rfl) ?_
       intro a222 hF221; clear hF218
       obtain ⟨o223,hS224⟩:=St.toY hS220; clear hS220
       have hS225:=hS224.pick3
       clear hS224
       refine any_call 8 #[true,true,true,true,true,true,true,true,true,false] 8 #[nP z18 0,.agg #[nI 0,nI 0,nI 0,nI 0,nI (IntKind.i64.wrap ((IntKind.i64.wrap (2 * x74))+1)),nI (IntKind.i64.wrap ((IntKind.i64.wrap (2 * x85))+1)),nI 8,nI 0,nI 0,nI 0],.slice (some ⟨(w211.drew).heap.size,0,none⟩) 1 1,nI i0] hF221 rfl (by kernel_rfl) rfl rfl (by kernel_rfl) rfl (by kernel_rfl) (fun w=>by kernel_rfl) (by kernel_rfl) ?_
       obtain ⟨x226,s227,hx228,hm229⟩:=bind2E hm214; clear hm214
       refine (choose_Pick.ok hS225 hx228).mono ?_
       rintro _ w230 ⟨rfl,hS232⟩; clear hS225
       have hS234:=hS232.pick1
       clear hS232
       have hS235:=St.ofY hS234; clear hS234
       refine ⟨⟨_,hS235.pick3.pick3⟩,?_⟩
       intro a231 hF233; clear hF221
       refine any_many 1 [(9,some (nI x226))] [1,6,7,10,11,12,13] #[true,true,true,true,true,true,true,true,true,true] (by rfl) hF233 (by kernel_rfl) (by kernel_rfl) (by exact ⟨fun wS hw=>by kernel_rfl,trivial⟩) (fun _ _ _ _ _ h=>h) ⟨_,hS235.pick3.pick3⟩ (l':=[(13,nI x226),(12,nI x208),(11,nI x195),(10,nI x179),(7,.slice p136 L126.length c137),(6,nB w54),(1,nI x46)]) (by kernel_rfl) ?_
       intro a237 hF236; clear hF233
       refine any_done (by kernel_rfl) ?_
       have hS238:=hS235.drop.drop.drop.pick2.drop.pick2.drop.pick2.drop
       clear hS235
       refine thenN (wp_seq ?_)
       refine joinQ (fun aI wI=>∃ (y239:Bool),Fr 122 aI [(4,.bool (y239))]∧St w0 F0 (ps) wI∧ChooseElse.j5 y239=some r0) ?_ ?_
       rotate_left
       · rintro a241 w242 ⟨y239,hF243,hS244,hm245⟩
         clear hF236 hS238 hm229
         unfold ChooseElse.j5 at hm245
         refine thenN ?_
         refine wp_ret ?_
         obtain rfl:=Option.some.inj hm245
         refine ev_ret hF243 [4] (.bool (y239)) rfl rfl rfl ?_
         exact ⟨rfl,hS244⟩
       · skip
         refine wp_region_lit ?_
         refine ev_runs 4 hF236 (l':=[(100,.bool (x179 == x46)),(99,.bool (x179 == x46)),(98,nI x46),(97,nI x179),(13,nI x226),(12,nI x208),(11,nI x195),(10,nI x179),(7,.slice p136 L126.length c137),(6,nB w54),(1,nI x46)]) (w':=w230) (by kernel_rfl) ?_
         intro a249 hF248; clear hF236
         cases hc250:(x179 == x46)
         case true =>
          rw [hc250] at hF248
          have hm251:=ifYes hc250 hm229; clear hm229
          refine ev_runs 4 hF248 (l':=[(104,.bool (x195 == (-1))),(103,.bool (x195 == (-1))),(102,.bool (x195 == (-1))),(101,nI x195),(100,.bool true),(99,.bool true),(98,nI x46),(97,nI x179),(13,nI x226),(12,nI x208),(11,nI x195),(10,nI x179),(7,.slice p136 L126.length c137),(6,nB w54),(1,nI x46)]) (w':=w230) (by kernel_rfl) ?_
          intro a253 hF252; clear hF248
          cases hc254:(x195 == (-1))
          case true =>
           rw [hc254] at hF252
           have hm255:=ifYes hc254 hm251; clear hm251
           refine ev_runs 5 hF252 (l':=[(109,.bool (x208 == x46)),(108,.bool (x208 == x46)),(107,.bool (x208 == x46)),(106,nI x46),(105,nI x208),(104,.bool true),(103,.bool true),(102,.bool true),(101,nI x195),(100,.bool true),(99,.bool true),(98,nI x46),(97,nI x179),(13,nI x226),(12,nI x208),(11,nI x195),(10,nI x179),(7,.slice p136 L126.length c137),(6,nB w54),(1,nI x46)]) (w':=w230) (by kernel_rfl) ?_
           intro a257 hF256; clear hF252
           cases hc258:(x208 == x46)
           case true =>
            rw [hc258] at hF256
            have hm259:=ifYes hc258 hm255; clear hm255
            refine ev_runs 4 hF256 (l':=[(113,.bool (x226 == 0)),(112,.bool (x226 == 0)),(111,.bool (x226 == 0)),(110,nI x226),(109,.bool true),(108,.bool true),(107,.bool true),(106,nI x46),(105,nI x208),(104,.bool true),(103,.bool true),(102,.bool true),(101,nI x195),(100,.bool true),(99,.bool true),(98,nI x46),(97,nI x179),(13,nI x226),(12,nI x208),(11,nI x195),(10,nI x179),(7,.slice p136 L126.length c137),(6,nB w54),(1,nI x46)]) (w':=w230) (by kernel_rfl) ?_
            intro a261 hF260; clear hF256
            cases hc262:(x226 == 0)
            case true =>
             rw [hc262] at hF260
             have hm263:=ifYes hc262 hm259; clear hm259
             refine ev_one (.agg #[nI 0,nI 0,nI 0,nI 0,nI (IntKind.i64.wrap ((IntKind.i64.wrap (2 * x74))+1)),nI (IntKind.i64.wrap ((IntKind.i64.wrap (2 * x85))+1)),nI 8,nI 0,nI 0,nI 0]) w230 hF260 (by kernel_rfl) rfl (by kernel_rfl) (run_loadV rfl rfl (run_loadA (cs:=[nI 0,nI 0,nI 0,nI 0,nI (IntKind.i64.wrap ((IntKind.i64.wrap (2 * x74))+1)),nI (IntKind.i64.wrap ((IntKind.i64.wrap (2 * x85))+1)),nI 8,nI 0,nI 0,nI 0]) rfl rfl (by kernel_rfl) (blk_cells hS238 0 rfl rfl))) (l':=[(114,.agg #[nI 0,nI 0,nI 0,nI 0,nI (IntKind.i64.wrap ((IntKind.i64.wrap (2 * x74))+1)),nI (IntKind.i64.wrap ((IntKind.i64.wrap (2 * x85))+1)),nI 8,nI 0,nI 0,nI 0]),(113,.bool true),(112,.bool true),(111,.bool true),(110,nI x226),(109,.bool true),(108,.bool true),(107,.bool true),(106,nI x46),(105,nI x208),(104,.bool true),(103,.bool true),(102,.bool true),(101,nI x195),(100,.bool true),(99,.bool true),(98,nI x46),(97,nI x179),(13,nI x226),(12,nI x208),(11,nI x195),(10,nI x179),(7,.slice p136 L126.length c137),(6,nB w54),(1,nI x46)]) (by kernel_rfl) ?_
             intro a265 hF264; clear hF260
             refine ev_runs 1 hF264 (l':=[(115,.slice p136 L126.length c137),(114,.agg #[nI 0,nI 0,nI 0,nI 0,nI (IntKind.i64.wrap ((IntKind.i64.wrap (2 * x74))+1)),nI (IntKind.i64.wrap ((IntKind.i64.wrap (2 * x85))+1)),nI 8,nI 0,nI 0,nI 0]),(113,.bool true),(112,.bool true),(111,.bool true),(110,nI x226),(109,.bool true),(108,.bool true),(107,.bool true),(106,nI x46),(105,nI x208),(104,.bool true),(103,.bool true),(102,.bool true),(101,nI x195),(100,.bool true),(99,.bool true),(98,nI x46),(97,nI x179),(13,nI x226),(12,nI x208),(11,nI x195),(10,nI x179),(7,.slice p136 L126.length c137),(6,nB w54),(1,nI x46)]) (w':=w230) (by kernel_rfl) ?_
             intro a267 hF266; clear hF264
             have hS268:=hS238.pick1
             clear hS238
             obtain ⟨o269,hS270⟩:=St.toY hS268; clear hS268
             refine ev_call 9 #[.agg #[nI 0,nI 0,nI 0,nI 0,nI (IntKind.i64.wrap ((IntKind.i64.wrap (2 * x74))+1)),nI (IntKind.i64.wrap ((IntKind.i64.wrap (2 * x85))+1)),nI 8,nI 0,nI 0,nI 0],.slice p136 L126.length c137] hF266 rfl rfl (by kernel_rfl) rfl (by kernel_rfl) (fun w=>by kernel_rfl) ?_
             obtain ⟨L271,hx272,hm273⟩:=bind1E hm263; clear hm263
             refine (choose_Waits.ok hS270 hx272).mono ?_
             rintro _ w274 ⟨z278,rfl,hS276⟩ a275 hF277; clear hF266 hS270
             have hS280:=St.ofY hS276; clear hS276
             obtain ⟨hl284,p281,c282,rfl,hp283⟩:=St.shape hS280 1 rfl
             refine ev_runK 6 hF277 [4] (l':=[(4,.bool ((L271.length:Int) == (IntKind.i64.wrap (Int.tdiv x46 2))))]) (w':=w274) (by kernel_rfl) ?_
             intro a286 hF285; clear hF277
             refine wpList_nil ?_
             have hS287:=hS280.drop.drop.drop
             clear hS280
             exact thenN ⟨(L271.length:Int) == (IntKind.i64.wrap (Int.tdiv x46 2)),hF285,hS287,hm273⟩
            rw [hc262] at hF260
            have hm288:=ifNot hc262 hm259; clear hm259
            refine ev_runK 9 hF260 [4] (l':=[(4,.bool false)]) (w':=w230) (by kernel_rfl) ?_
            intro a290 hF289; clear hF260
            refine wpList_nil ?_
            have hS291:=hS238.drop.drop
            clear hS238
            exact thenN ⟨false,hF289,hS291,hm288⟩
           rw [hc258] at hF256
           have hm292:=ifNot hc258 hm255; clear hm255
           refine ev_runK 13 hF256 [4] (l':=[(4,.bool false)]) (w':=w230) (by kernel_rfl) ?_
           intro a294 hF293; clear hF256
           refine wpList_nil ?_
           have hS295:=hS238.drop.drop
           clear hS238
           exact thenN ⟨false,hF293,hS295,hm292⟩
          rw [hc254] at hF252
          have hm296:=ifNot hc254 hm251; clear hm251
          refine ev_runK 18 hF252 [4] (l':=[(4,.bool false)]) (w':=w230) (by kernel_rfl) ?_
          intro a298 hF297; clear hF252
          refine wpList_nil ?_
          have hS299:=hS238.drop.drop
          clear hS238
          exact thenN ⟨false,hF297,hS299,hm296⟩
         rw [hc250] at hF248
         have hm300:=ifNot hc250 hm229; clear hm229
         refine ev_runK 22 hF248 [4] (l':=[(4,.bool false)]) (w':=w230) (by kernel_rfl) ?_
         intro a302 hF301; clear hF248
         refine wpList_nil ?_
         have hS303:=hS238.drop.drop
         clear hS238
         exact thenN ⟨false,hF301,hS303,hm300⟩
     · skip
       have hS304:=hS204.pick4.pick4.pick4
       clear hS204
       have hS305:=hS304.drew; clear hS304
       refine any_start (fun wS=>∃ qs,St w0 F0 (BlkP z17 38 #[nP z18 0,nP z20 0,.slice p33 L9.length c34,.slice p37 L10.length c38]::BlkP (w54.heap.size) 29 #[nI 0,nI 0,nI 0,nI 0,nI (IntKind.i64.wrap ((IntKind.i64.wrap (2 * x74))+1)),nI (IntKind.i64.wrap ((IntKind.i64.wrap (2 * x85))+1)),nI 8,nI 0,nI 0,nI 0]::BlkP (w131.heap.size) 33 #[nI 3,nI 0,nI 0,nI 0]::qs) wS) 14 #[false,false,false,false,false,false,false,false,false,false,false,false,false,false] (by kernel_rfl) (by kernel_rfl) (by kernel_rfl) ?_
       refine any_many 9 [(0,some (nP z17 0)),(1,some (nP z17 0)),(2,some (nP z17 0)),(3,some (nP z18 0)),(4,some (.agg #[nI 0,nI 0,nI 0,nI 0,nI (IntKind.i64.wrap ((IntKind.i64.wrap (2 * x74))+1)),nI (IntKind.i64.wrap ((IntKind.i64.wrap (2 * x85))+1)),nI 8,nI 0,nI 0,nI 0])),(5,some (.slice p136 L126.length c137)),(7,some (.agg #[nI 2,nI 2,nI 0,nI 0])),(8,some (.agg #[nI 3,nI 0,nI 0,nI 0])),(11,some (nI i0))] [0,1,5,6,7,10,11,12,78,79,80,81,82,83,84,85,86,87] #[true,true,true,true,true,true,false,true,true,false,false,true,false,false] (by rfl) hF205 (by kernel_rfl) (by kernel_rfl) (by exact ⟨fun wS hw=>by kernel_rfl,fun wS hw=>by kernel_rfl,fun wS hw=>by kernel_rfl,fun wS hw=>hw.elim fun qs hw=>run_loadV rfl rfl (run_loadS rfl rfl (hw.cell 0 rfl 0 rfl)),fun wS hw=>hw.elim fun qs hw=>run_loadV rfl rfl (run_loadA (cs:=[nI 0,nI 0,nI 0,nI 0,nI (IntKind.i64.wrap ((IntKind.i64.wrap (2 * x74))+1)),nI (IntKind.i64.wrap ((IntKind.i64.wrap (2 * x85))+1)),nI 8,nI 0,nI 0,nI 0]) rfl rfl (by kernel_rfl) (blk_cells hw 1 rfl rfl)),fun wS hw=>by kernel_rfl,fun wS hw=>by kernel_rfl,fun wS hw=>hw.elim fun qs hw=>run_loadV rfl rfl (run_loadA (cs:=[nI 3,nI 0,nI 0,nI 0]) rfl rfl (by kernel_rfl) (blk_cells hw 2 rfl rfl)),fun wS hw=>by kernel_rfl,trivial⟩) (fun _ _ _ _ _ h=>h) ⟨_,hS305⟩ (l':=[(86,nI i0),(83,.agg #[nI 3,nI 0,nI 0,nI 0]),(82,.agg #[nI 2,nI 2,nI 0,nI 0]),(80,.slice p136 L126.length c137),(79,.agg #[nI 0,nI 0,nI 0,nI 0,nI (IntKind.i64.wrap ((IntKind.i64.wrap (2 * x74))+1)),nI (IntKind.i64.wrap ((IntKind.i64.wrap (2 * x85))+1)),nI 8,nI 0,nI 0,nI 0]),(78,nP z18 0),(11,nI x195),(10,nI x179),(7,.slice p136 L126.length c137),(6,nB w54),(1,nI x46),(5,nP z17 0),(0,nI i0)]) (by kernel_rfl) ?_
       intro a307 hF306; clear hF205
       refine any_two 6 9 (by kernel_rfl) ?_ ?_
       · skip
         have hS308:St w0 F0 (RowX kCs (.slice none 0 0) []::BlkP z17 38 #[nP z18 0,nP z20 0,.slice p33 L9.length c34,.slice p37 L10.length c38]::BlkP (w54.heap.size) 29 #[nI 0,nI 0,nI 0,nI 0,nI (IntKind.i64.wrap ((IntKind.i64.wrap (2 * x74))+1)),nI (IntKind.i64.wrap ((IntKind.i64.wrap (2 * x85))+1)),nI 8,nI 0,nI 0,nI 0]::BlkP (w131.heap.size) 33 #[nI 3,nI 0,nI 0,nI 0]::RowX kCs (.slice p136 L126.length c137) L126::HeapP z18 z19 s196::RHeapP z20 z21 z22 z23 z24 s87::RowP (.slice p33 L9.length c34) L9::RowP (.slice p37 L10.length c38) L10::ps) (w199.drew):=St.nilX kCs hS305
         clear hS305
         have hS309:=hS308.pick4.pick1
         clear hS308
         obtain ⟨L310,hx311,hm312⟩:=bind1E hm198; clear hm198
         refine op_appX kCs 31 rfl 6 #[true,true,true,true,true,true,true,true,true,false,false,true,false,false] 81 (.const (.slice none 0 0)) (.tmp 80) hF306 rfl rfl rfl (by kernel_rfl) rfl rfl rfl rfl rfl hS309 hx311 (by kernel_rfl) ?_
         intro v313 w314 a315 hS316 hF317; clear hF306 hS309
         obtain ⟨hl321,p318,c319,rfl,hp320⟩:=St.shapeX hS316 0 rfl
         have hF322:=hF317.keep [0,1,5,6,7,10,11,78,79,80,81,82,83,86]; clear hF317
         refine ⟨⟨_,hS316.pick4.pick4.pick4⟩,?_⟩
         refine any_one 9 (by kernel_rfl) ?_
         have hS323:St w0 F0 (RowX kCs (.slice (some ⟨w314.heap.size,0,none⟩) 2 2) [(⟨2,2,0,0⟩:Cs),(⟨3,0,0,0⟩:Cs)]::RowX kCs (.slice p318 L310.length c319) L310::RowX kCs (.slice p136 L126.length c137) L126::BlkP z17 38 #[nP z18 0,nP z20 0,.slice p33 L9.length c34,.slice p37 L10.length c38]::BlkP (w54.heap.size) 29 #[nI 0,nI 0,nI 0,nI 0,nI (IntKind.i64.wrap ((IntKind.i64.wrap (2 * x74))+1)),nI (IntKind.i64.wrap ((IntKind.i64.wrap (2 * x85))+1)),nI 8,nI 0,nI 0,nI 0]::BlkP (w131.heap.size) 33 #[nI 3,nI 0,nI 0,nI 0]::HeapP z18 z19 s196::RHeapP z20 z21 z22 z23 z24 s87::RowP (.slice p33 L9.length c34) L9::RowP (.slice p37 L10.length c38) L10::ps) (w314.alloc (.cells #[nI 2,nI 2,nI 0,nI 0,nI 3,nI 0,nI 0,nI 0] 33)):=St.litX kCs hS316 [(⟨2,2,0,0⟩:Cs),(⟨3,0,0,0⟩:Cs)] (by unfold maxLen; simp)
         clear hS316
         refine op_step 9 #[true,true,true,true,true,true,true,true,true,true,false,true,false,false] (.slice (some ⟨w314.heap.size,0,none⟩) 2 2) (w314.alloc (.cells #[nI 2,nI 2,nI 0,nI 0,nI 3,nI 0,nI 0,nI 0] 33)) hF322 rfl (by kernel_rfl) rfl (by kernel_rfl) (by kernel_rfl) (l':=[(84,.slice (some ⟨w314.heap.size,0,none⟩) 2 2),(81,.slice p318 L310.length c319),(86,nI i0),(83,.agg #[nI 3,nI 0,nI 0,nI 0]),(82,.agg #[nI 2,nI 2,nI 0,nI 0]),(80,.slice p136 L126.length c137),(79,.agg #[nI 0,nI 0,nI 0,nI 0,nI (IntKind.i64.wrap ((IntKind.i64.wrap (2 * x74))+1)),nI (IntKind.i64.wrap ((IntKind.i64.wrap (2 * x85))+1)),nI 8,nI 0,nI 0,nI 0]),(78,nP z18 0),(11,nI x195),(10,nI x179),(7,.slice p136 L126.length c137),(6,nB w54),(1,nI x46),(5,nP z17 0),(0,nI i0)]) (by kernel_rfl) ⟨_,hS323.pick5.pick5.pick5⟩ (by kernel_rfl) ?_
         intro a325 hF324; clear hF322
         refine any_one 10 (by kernel_rfl) ?_
         have hS326:=hS323.pick1
         clear hS323
         obtain ⟨L327,hx328,hm329⟩:=bind1E hm312; clear hm312
         refine op_appX kCs 31 rfl 10 #[true,true,true,true,true,true,true,true,true,true,true,true,false,false] 85 (.tmp 81) (.tmp 84) hF324 rfl rfl rfl (by kernel_rfl) rfl rfl rfl rfl rfl hS326 hx328 (by kernel_rfl) ?_
         intro v330 w331 a332 hS333 hF334; clear hF324 hS326
         obtain ⟨hl338,p335,c336,rfl,hp337⟩:=St.shapeX hS333 0 rfl
         have hF339:=hF334.keep [0,1,5,6,7,10,11,78,79,80,82,83,84,85,86]; clear hF334
         refine ⟨⟨_,hS333.pick5.pick5.pick5⟩,?_⟩
         obtain ⟨o340,hS341⟩:=St.toY hS333; clear hS333
         have hS342:=hS341.pick6
         clear hS341
         refine any_call 12 #[true,true,true,true,true,true,true,true,true,true,true,true,true,false] 8 #[nP z18 0,.agg #[nI 0,nI 0,nI 0,nI 0,nI (IntKind.i64.wrap ((IntKind.i64.wrap (2 * x74))+1)),nI (IntKind.i64.wrap ((IntKind.i64.wrap (2 * x85))+1)),nI 8,nI 0,nI 0,nI 0],.slice p335 L327.length c336,nI i0] hF339 rfl (by kernel_rfl) rfl rfl (by kernel_rfl) rfl (by kernel_rfl) (fun w=>by kernel_rfl) (by kernel_rfl) ?_
         obtain ⟨x343,s344,hx345,hm346⟩:=bind2E hm329; clear hm329
         refine (choose_Pick.ok hS342 hx345).mono ?_
         rintro _ w347 ⟨rfl,hS349⟩; clear hS342
         have hS351:=hS349.pick1
         clear hS349
         have hS352:=St.ofY hS351; clear hS351
         refine ⟨⟨_,hS352.pick6.pick6.pick6⟩,?_⟩
         intro a348 hF350; clear hF339
         refine any_many 1 [(13,some (nI x343))] [0,1,5,6,7,10,11,12] #[true,true,true,true,true,true,true,true,true,true,true,true,true,true] (by rfl) hF350 (by kernel_rfl) (by kernel_rfl) (by exact ⟨fun wS hw=>by kernel_rfl,trivial⟩) (fun _ _ _ _ _ h=>h) ⟨_,hS352.pick6.pick6.pick6⟩ (l':=[(12,nI x343),(11,nI x195),(10,nI x179),(7,.slice p136 L126.length c137),(6,nB w54),(1,nI x46),(5,nP z17 0),(0,nI i0)]) (by kernel_rfl) ?_
         intro a354 hF353; clear hF350
         refine any_done (by kernel_rfl) ?_
         have hS355:=hS352.drop.pick1.drop.pick4.drop
         clear hS352
         exact thenN ⟨s344,x343,hF353,hS355,hm346⟩
       · skip
         have hS356:St w0 F0 (RowX kCs (.slice (some ⟨(w199.drew).heap.size,0,none⟩) 2 2) [(⟨2,2,0,0⟩:Cs),(⟨3,0,0,0⟩:Cs)]::BlkP z17 38 #[nP z18 0,nP z20 0,.slice p33 L9.length c34,.slice p37 L10.length c38]::BlkP (w54.heap.size) 29 #[nI 0,nI 0,nI 0,nI 0,nI (IntKind.i64.wrap ((IntKind.i64.wrap (2 * x74))+1)),nI (IntKind.i64.wrap ((IntKind.i64.wrap (2 * x85))+1)),nI 8,nI 0,nI 0,nI 0]::BlkP (w131.heap.size) 33 #[nI 3,nI 0,nI 0,nI 0]::RowX kCs (.slice p136 L126.length c137) L126::HeapP z18 z19 s196::RHeapP z20 z21 z22 z23 z24 s87::RowP (.slice p33 L9.length c34) L9::RowP (.slice p37 L10.length c38) L10::ps) ((w199.drew).alloc (.cells #[nI 2,nI 2,nI 0,nI 0,nI 3,nI 0,nI 0,nI 0] 33)):=St.litX kCs hS305 [(⟨2,2,0,0⟩:Cs),(⟨3,0,0,0⟩:Cs)] (by unfold maxLen; simp)
         clear hS305
         refine op_step 9 #[true,true,true,true,true,true,false,true,true,true,false,true,false,false] (.slice (some ⟨(w199.drew).heap.size,0,none⟩) 2 2) ((w199.drew).alloc (.cells #[nI 2,nI 2,nI 0,nI 0,nI 3,nI 0,nI 0,nI 0] 33)) hF306 rfl (by kernel_rfl) rfl (by kernel_rfl) (by kernel_rfl) (l':=[(84,.slice (some ⟨(w199.drew).heap.size,0,none⟩) 2 2),(86,nI i0),(83,.agg #[nI 3,nI 0,nI 0,nI 0]),(82,.agg #[nI 2,nI 2,nI 0,nI 0]),(80,.slice p136 L126.length c137),(79,.agg #[nI 0,nI 0,nI 0,nI 0,nI (IntKind.i64.wrap ((IntKind.i64.wrap (2 * x74))+1)),nI (IntKind.i64.wrap ((IntKind.i64.wrap (2 * x85))+1)),nI 8,nI 0,nI 0,nI 0]),(78,nP z18 0),(11,nI x195),(10,nI x179),(7,.slice p136 L126.length c137),(6,nB w54),(1,nI x46),(5,nP z17 0),(0,nI i0)]) (by kernel_rfl) ⟨_,hS356.pick3.pick3.pick3⟩ (by kernel_rfl) ?_
         intro a358 hF357; clear hF306
         refine any_one 6 (by kernel_rfl) ?_
         have hS359:St w0 F0 (RowX kCs (.slice none 0 0) []::RowX kCs (.slice (some ⟨(w199.drew).heap.size,0,none⟩) 2 2) [(⟨2,2,0,0⟩:Cs),(⟨3,0,0,0⟩:Cs)]::BlkP z17 38 #[nP z18 0,nP z20 0,.slice p33 L9.length c34,.slice p37 L10.length c38]::BlkP (w54.heap.size) 29 #[nI 0,nI 0,nI 0,nI 0,nI (IntKind.i64.wrap ((IntKind.i64.wrap (2 * x74))+1)),nI (IntKind.i64.wrap ((IntKind.i64.wrap (2 * x85))+1)),nI 8,nI 0,nI 0,nI 0]::BlkP (w131.heap.size) 33 #[nI 3,nI 0,nI 0,nI 0]::RowX kCs (.slice p136 L126.length c137) L126::HeapP z18 z19 s196::RHeapP z20 z21 z22 z23 z24 s87::RowP (.slice p33 L9.length c34) L9::RowP (.slice p37 L10.length c38) L10::ps) ((w199.drew).alloc (.cells #[nI 2,nI 2,nI 0,nI 0,nI 3,nI 0,nI 0,nI 0] 33)):=St.nilX kCs hS356
         clear hS356
         have hS360:=hS359.pick5.pick1
         clear hS359
         obtain ⟨L361,hx362,hm363⟩:=bind1E hm198; clear hm198
         refine op_appX kCs 31 rfl 6 #[true,true,true,true,true,true,true,true,true,true,false,true,false,false] 81 (.const (.slice none 0 0)) (.tmp 80) hF357 rfl rfl rfl (by kernel_rfl) rfl rfl rfl rfl rfl hS360 hx362 (by kernel_rfl) ?_
         intro v364 w365 a366 hS367 hF368; clear hF357 hS360
         obtain ⟨hl372,p369,c370,rfl,hp371⟩:=St.shapeX hS367 0 rfl
         have hF373:=hF368.keep [0,1,5,6,7,10,11,78,79,80,81,82,83,84,86]; clear hF368
         refine ⟨⟨_,hS367.pick5.pick5.pick5⟩,?_⟩
         refine any_one 10 (by kernel_rfl) ?_
         have hS374:=hS367.pick2.pick1
         clear hS367
         obtain ⟨L375,hx376,hm377⟩:=bind1E hm363; clear hm363
         refine op_appX kCs 31 rfl 10 #[true,true,true,true,true,true,true,true,true,true,true,true,false,false] 85 (.tmp 81) (.tmp 84) hF373 rfl rfl rfl (by kernel_rfl) rfl rfl rfl rfl rfl hS374 hx376 (by kernel_rfl) ?_
         intro v378 w379 a380 hS381 hF382; clear hF373 hS374
         obtain ⟨hl386,p383,c384,rfl,hp385⟩:=St.shapeX hS381 0 rfl
         have hF387:=hF382.keep [0,1,5,6,7,10,11,78,79,80,82,83,84,85,86]; clear hF382
         refine ⟨⟨_,hS381.pick5.pick5.pick5⟩,?_⟩
         obtain ⟨o388,hS389⟩:=St.toY hS381; clear hS381
         have hS390:=hS389.pick6
         clear hS389
         refine any_call 12 #[true,true,true,true,true,true,true,true,true,true,true,true,true,false] 8 #[nP z18 0,.agg #[nI 0,nI 0,nI 0,nI 0,nI (IntKind.i64.wrap ((IntKind.i64.wrap (2 * x74))+1)),nI (IntKind.i64.wrap ((IntKind.i64.wrap (2 * x85))+1)),nI 8,nI 0,nI 0,nI 0],.slice p383 L375.length c384,nI i0] hF387 rfl (by kernel_rfl) rfl rfl (by kernel_rfl) rfl (by kernel_rfl) (fun w=>by kernel_rfl) (by kernel_rfl) ?_
         obtain ⟨x391,s392,hx393,hm394⟩:=bind2E hm377; clear hm377
         refine (choose_Pick.ok hS390 hx393).mono ?_
         rintro _ w395 ⟨rfl,hS397⟩; clear hS390
         have hS399:=hS397.pick1
         clear hS397
         have hS400:=St.ofY hS399; clear hS399
         refine ⟨⟨_,hS400.pick6.pick6.pick6⟩,?_⟩
         intro a396 hF398; clear hF387
         refine any_many 1 [(13,some (nI x391))] [0,1,5,6,7,10,11,12] #[true,true,true,true,true,true,true,true,true,true,true,true,true,true] (by rfl) hF398 (by kernel_rfl) (by kernel_rfl) (by exact ⟨fun wS hw=>by kernel_rfl,trivial⟩) (fun _ _ _ _ _ h=>h) ⟨_,hS400.pick6.pick6.pick6⟩ (l':=[(12,nI x391),(11,nI x195),(10,nI x179),(7,.slice p136 L126.length c137),(6,nB w54),(1,nI x46),(5,nP z17 0),(0,nI i0)]) (by kernel_rfl) ?_
         intro a402 hF401; clear hF398
         refine any_done (by kernel_rfl) ?_
         have hS403:=hS400.drop.pick1.drop.pick4.drop
         clear hS400
         exact thenN ⟨s392,x391,hF401,hS403,hm394⟩
   · skip
     have hS404:=hS175.pick2.pick3
     clear hS175
     have hS405:=hS404.drew; clear hS404
     refine any_start (fun wS=>∃ qs,St w0 F0 (BlkP z17 38 #[nP z18 0,nP z20 0,.slice p33 L9.length c34,.slice p37 L10.length c38]::BlkP (w54.heap.size) 29 #[nI 0,nI 0,nI 0,nI 0,nI (IntKind.i64.wrap ((IntKind.i64.wrap (2 * x74))+1)),nI (IntKind.i64.wrap ((IntKind.i64.wrap (2 * x85))+1)),nI 8,nI 0,nI 0,nI 0]::BlkP (w131.heap.size) 33 #[nI 3,nI 0,nI 0,nI 0]::qs) wS) 13 #[false,false,false,false,false,false,false,false,false,false,false,false,false] (by kernel_rfl) (by kernel_rfl) (by kernel_rfl) ?_
     refine any_many 8 [(0,some (nP z17 0)),(1,some (nP z17 0)),(2,some (nP z17 0)),(3,some (nP z18 0)),(4,some (.agg #[nI 0,nI 0,nI 0,nI 0,nI (IntKind.i64.wrap ((IntKind.i64.wrap (2 * x74))+1)),nI (IntKind.i64.wrap ((IntKind.i64.wrap (2 * x85))+1)),nI 8,nI 0,nI 0,nI 0])),(5,some (.slice p136 L126.length c137)),(7,some (.agg #[nI 3,nI 0,nI 0,nI 0])),(10,some (nI i0))] [0,1,5,6,7,9,10,58,59,60,61,62,63,64,65,66] #[true,true,true,true,true,true,false,true,false,false,true,false,false] (by rfl) hF177 (by kernel_rfl) (by kernel_rfl) (by exact ⟨fun wS hw=>by kernel_rfl,fun wS hw=>by kernel_rfl,fun wS hw=>by kernel_rfl,fun wS hw=>hw.elim fun qs hw=>run_loadV rfl rfl (run_loadS rfl rfl (hw.cell 0 rfl 0 rfl)),fun wS hw=>hw.elim fun qs hw=>run_loadV rfl rfl (run_loadA (cs:=[nI 0,nI 0,nI 0,nI 0,nI (IntKind.i64.wrap ((IntKind.i64.wrap (2 * x74))+1)),nI (IntKind.i64.wrap ((IntKind.i64.wrap (2 * x85))+1)),nI 8,nI 0,nI 0,nI 0]) rfl rfl (by kernel_rfl) (blk_cells hw 1 rfl rfl)),fun wS hw=>by kernel_rfl,fun wS hw=>hw.elim fun qs hw=>run_loadV rfl rfl (run_loadA (cs:=[nI 3,nI 0,nI 0,nI 0]) rfl rfl (by kernel_rfl) (blk_cells hw 2 rfl rfl)),fun wS hw=>by kernel_rfl,trivial⟩) (fun _ _ _ _ _ h=>h) ⟨_,hS405⟩ (l':=[(65,nI i0),(62,.agg #[nI 3,nI 0,nI 0,nI 0]),(60,.slice p136 L126.length c137),(59,.agg #[nI 0,nI 0,nI 0,nI 0,nI (IntKind.i64.wrap ((IntKind.i64.wrap (2 * x74))+1)),nI (IntKind.i64.wrap ((IntKind.i64.wrap (2 * x85))+1)),nI 8,nI 0,nI 0,nI 0]),(58,nP z18 0),(9,nB w131),(7,.slice p136 L126.length c137),(6,nB w54),(1,nI x46),(5,nP z17 0),(0,nI i0)]) (by kernel_rfl) ?_
     intro a407 hF406; clear hF177
     refine any_two 6 8 (by kernel_rfl) ?_ ?_
     · skip
       have hS408:St w0 F0 (RowX kCs (.slice none 0 0) []::BlkP z17 38 #[nP z18 0,nP z20 0,.slice p33 L9.length c34,.slice p37 L10.length c38]::BlkP (w54.heap.size) 29 #[nI 0,nI 0,nI 0,nI 0,nI (IntKind.i64.wrap ((IntKind.i64.wrap (2 * x74))+1)),nI (IntKind.i64.wrap ((IntKind.i64.wrap (2 * x85))+1)),nI 8,nI 0,nI 0,nI 0]::BlkP (w131.heap.size) 33 #[nI 3,nI 0,nI 0,nI 0]::RowX kCs (.slice p136 L126.length c137) L126::HeapP z18 z19 s86::RHeapP z20 z21 z22 z23 z24 s87::RowP (.slice p33 L9.length c34) L9::RowP (.slice p37 L10.length c38) L10::ps) (w173.drew):=St.nilX kCs hS405
       clear hS405
       have hS409:=hS408.pick4.pick1
       clear hS408
       obtain ⟨L410,hx411,hm412⟩:=bind1E hm168; clear hm168
       refine op_appX kCs 31 rfl 6 #[true,true,true,true,true,true,true,true,false,false,true,false,false] 61 (.const (.slice none 0 0)) (.tmp 60) hF406 rfl rfl rfl (by kernel_rfl) rfl rfl rfl rfl rfl hS409 hx411 (by kernel_rfl) ?_
       intro v413 w414 a415 hS416 hF417; clear hF406 hS409
       obtain ⟨hl421,p418,c419,rfl,hp420⟩:=St.shapeX hS416 0 rfl
       have hF422:=hF417.keep [0,1,5,6,7,9,58,59,60,61,62,65]; clear hF417
       refine ⟨⟨_,hS416.pick4.pick4.pick4⟩,?_⟩
       refine any_one 8 (by kernel_rfl) ?_
       have hS423:St w0 F0 (RowX kCs (.slice (some ⟨w414.heap.size,0,none⟩) 1 1) [(⟨3,0,0,0⟩:Cs)]::RowX kCs (.slice p418 L410.length c419) L410::RowX kCs (.slice p136 L126.length c137) L126::BlkP z17 38 #[nP z18 0,nP z20 0,.slice p33 L9.length c34,.slice p37 L10.length c38]::BlkP (w54.heap.size) 29 #[nI 0,nI 0,nI 0,nI 0,nI (IntKind.i64.wrap ((IntKind.i64.wrap (2 * x74))+1)),nI (IntKind.i64.wrap ((IntKind.i64.wrap (2 * x85))+1)),nI 8,nI 0,nI 0,nI 0]::BlkP (w131.heap.size) 33 #[nI 3,nI 0,nI 0,nI 0]::HeapP z18 z19 s86::RHeapP z20 z21 z22 z23 z24 s87::RowP (.slice p33 L9.length c34) L9::RowP (.slice p37 L10.length c38) L10::ps) (w414.alloc (.cells #[nI 3,nI 0,nI 0,nI 0] 33)):=St.litX kCs hS416 [(⟨3,0,0,0⟩:Cs)] (by unfold maxLen; simp)
       clear hS416
       refine op_step 8 #[true,true,true,true,true,true,true,true,true,false,true,false,false] (.slice (some ⟨w414.heap.size,0,none⟩) 1 1) (w414.alloc (.cells #[nI 3,nI 0,nI 0,nI 0] 33)) hF422 rfl (by kernel_rfl) rfl (by kernel_rfl) (by kernel_rfl) (l':=[(63,.slice (some ⟨w414.heap.size,0,none⟩) 1 1),(61,.slice p418 L410.length c419),(65,nI i0),(62,.agg #[nI 3,nI 0,nI 0,nI 0]),(60,.slice p136 L126.length c137),(59,.agg #[nI 0,nI 0,nI 0,nI 0,nI (IntKind.i64.wrap ((IntKind.i64.wrap (2 * x74))+1)),nI (IntKind.i64.wrap ((IntKind.i64.wrap (2 * x85))+1)),nI 8,nI 0,nI 0,nI 0]),(58,nP z18 0),(9,nB w131),(7,.slice p136 L126.length c137),(6,nB w54),(1,nI x46),(5,nP z17 0),(0,nI i0)]) (by kernel_rfl) ⟨_,hS423.pick5.pick5.pick5⟩ (by kernel_rfl) ?_
       intro a425 hF424; clear hF422
       refine any_one 9 (by kernel_rfl) ?_
       have hS426:=hS423.pick1
       clear hS423
       obtain ⟨L427,hx428,hm429⟩:=bind1E hm412; clear hm412
       refine op_appX kCs 31 rfl 9 #[true,true,true,true,true,true,true,true,true,true,true,false,false] 64 (.tmp 61) (.tmp 63) hF424 rfl rfl rfl (by kernel_rfl) rfl rfl rfl rfl rfl hS426 hx428 (by kernel_rfl) ?_
       intro v430 w431 a432 hS433 hF434; clear hF424 hS426
       obtain ⟨hl438,p435,c436,rfl,hp437⟩:=St.shapeX hS433 0 rfl
       have hF439:=hF434.keep [0,1,5,6,7,9,58,59,60,62,63,64,65]; clear hF434
       refine ⟨⟨_,hS433.pick5.pick5.pick5⟩,?_⟩
       obtain ⟨o440,hS441⟩:=St.toY hS433; clear hS433
       have hS442:=hS441.pick6
       clear hS441
       refine any_call 11 #[true,true,true,true,true,true,true,true,true,true,true,true,false] 8 #[nP z18 0,.agg #[nI 0,nI 0,nI 0,nI 0,nI (IntKind.i64.wrap ((IntKind.i64.wrap (2 * x74))+1)),nI (IntKind.i64.wrap ((IntKind.i64.wrap (2 * x85))+1)),nI 8,nI 0,nI 0,nI 0],.slice p435 L427.length c436,nI i0] hF439 rfl (by kernel_rfl) rfl rfl (by kernel_rfl) rfl (by kernel_rfl) (fun w=>by kernel_rfl) (by kernel_rfl) ?_
       obtain ⟨x443,s444,hx445,hm446⟩:=bind2E hm429; clear hm429
       refine (choose_Pick.ok hS442 hx445).mono ?_
       rintro _ w447 ⟨rfl,hS449⟩; clear hS442
       have hS451:=hS449.pick1
       clear hS449
       have hS452:=St.ofY hS451; clear hS451
       refine ⟨⟨_,hS452.pick6.pick6.pick6⟩,?_⟩
       intro a448 hF450; clear hF439
       refine any_many 1 [(12,some (nI x443))] [0,1,5,6,7,9,10] #[true,true,true,true,true,true,true,true,true,true,true,true,true] (by rfl) hF450 (by kernel_rfl) (by kernel_rfl) (by exact ⟨fun wS hw=>by kernel_rfl,trivial⟩) (fun _ _ _ _ _ h=>h) ⟨_,hS452.pick6.pick6.pick6⟩ (l':=[(10,nI x443),(9,nB w131),(7,.slice p136 L126.length c137),(6,nB w54),(1,nI x46),(5,nP z17 0),(0,nI i0)]) (by kernel_rfl) ?_
       intro a454 hF453; clear hF450
       refine any_done (by kernel_rfl) ?_
       have hS455:=hS452.drop.pick1.drop
       clear hS452
       exact thenN ⟨s444,x443,hF453,hS455,hm446⟩
     · skip
       have hS456:St w0 F0 (RowX kCs (.slice (some ⟨(w173.drew).heap.size,0,none⟩) 1 1) [(⟨3,0,0,0⟩:Cs)]::BlkP z17 38 #[nP z18 0,nP z20 0,.slice p33 L9.length c34,.slice p37 L10.length c38]::BlkP (w54.heap.size) 29 #[nI 0,nI 0,nI 0,nI 0,nI (IntKind.i64.wrap ((IntKind.i64.wrap (2 * x74))+1)),nI (IntKind.i64.wrap ((IntKind.i64.wrap (2 * x85))+1)),nI 8,nI 0,nI 0,nI 0]::BlkP (w131.heap.size) 33 #[nI 3,nI 0,nI 0,nI 0]::RowX kCs (.slice p136 L126.length c137) L126::HeapP z18 z19 s86::RHeapP z20 z21 z22 z23 z24 s87::RowP (.slice p33 L9.length c34) L9::RowP (.slice p37 L10.length c38) L10::ps) ((w173.drew).alloc (.cells #[nI 3,nI 0,nI 0,nI 0] 33)):=St.litX kCs hS405 [(⟨3,0,0,0⟩:Cs)] (by unfold maxLen; simp)
       clear hS405
       refine op_step 8 #[true,true,true,true,true,true,false,true,true,false,true,false,false] (.slice (some ⟨(w173.drew).heap.size,0,none⟩) 1 1) ((w173.drew).alloc (.cells #[nI 3,nI 0,nI 0,nI 0] 33)) hF406 rfl (by kernel_rfl) rfl (by kernel_rfl) (by kernel_rfl) (l':=[(63,.slice (some ⟨(w173.drew).heap.size,0,none⟩) 1 1),(65,nI i0),(62,.agg #[nI 3,nI 0,nI 0,nI 0]),(60,.slice p136 L126.length c137),(59,.agg #[nI 0,nI 0,nI 0,nI 0,nI (IntKind.i64.wrap ((IntKind.i64.wrap (2 * x74))+1)),nI (IntKind.i64.wrap ((IntKind.i64.wrap (2 * x85))+1)),nI 8,nI 0,nI 0,nI 0]),(58,nP z18 0),(9,nB w131),(7,.slice p136 L126.length c137),(6,nB w54),(1,nI x46),(5,nP z17 0),(0,nI i0)]) (by kernel_rfl) ⟨_,hS456.pick3.pick3.pick3⟩ (by kernel_rfl) ?_
       intro a458 hF457; clear hF406
       refine any_one 6 (by kernel_rfl) ?_
       have hS459:St w0 F0 (RowX kCs (.slice none 0 0) []::RowX kCs (.slice (some ⟨(w173.drew).heap.size,0,none⟩) 1 1) [(⟨3,0,0,0⟩:Cs)]::BlkP z17 38 #[nP z18 0,nP z20 0,.slice p33 L9.length c34,.slice p37 L10.length c38]::BlkP (w54.heap.size) 29 #[nI 0,nI 0,nI 0,nI 0,nI (IntKind.i64.wrap ((IntKind.i64.wrap (2 * x74))+1)),nI (IntKind.i64.wrap ((IntKind.i64.wrap (2 * x85))+1)),nI 8,nI 0,nI 0,nI 0]::BlkP (w131.heap.size) 33 #[nI 3,nI 0,nI 0,nI 0]::RowX kCs (.slice p136 L126.length c137) L126::HeapP z18 z19 s86::RHeapP z20 z21 z22 z23 z24 s87::RowP (.slice p33 L9.length c34) L9::RowP (.slice p37 L10.length c38) L10::ps) ((w173.drew).alloc (.cells #[nI 3,nI 0,nI 0,nI 0] 33)):=St.nilX kCs hS456
       clear hS456
       have hS460:=hS459.pick5.pick1
       clear hS459
       obtain ⟨L461,hx462,hm463⟩:=bind1E hm168; clear hm168
       refine op_appX kCs 31 rfl 6 #[true,true,true,true,true,true,true,true,true,false,true,false,false] 61 (.const (.slice none 0 0)) (.tmp 60) hF457 rfl rfl rfl (by kernel_rfl) rfl rfl rfl rfl rfl hS460 hx462 (by kernel_rfl) ?_
       intro v464 w465 a466 hS467 hF468; clear hF457 hS460
       obtain ⟨hl472,p469,c470,rfl,hp471⟩:=St.shapeX hS467 0 rfl
       have hF473:=hF468.keep [0,1,5,6,7,9,58,59,60,61,62,63,65]; clear hF468
       refine ⟨⟨_,hS467.pick5.pick5.pick5⟩,?_⟩
       refine any_one 9 (by kernel_rfl) ?_
       have hS474:=hS467.pick2.pick1
       clear hS467
       obtain ⟨L475,hx476,hm477⟩:=bind1E hm463; clear hm463
       refine op_appX kCs 31 rfl 9 #[true,true,true,true,true,true,true,true,true,true,true,false,false] 64 (.tmp 61) (.tmp 63) hF473 rfl rfl rfl (by kernel_rfl) rfl rfl rfl rfl rfl hS474 hx476 (by kernel_rfl) ?_
       intro v478 w479 a480 hS481 hF482; clear hF473 hS474
       obtain ⟨hl486,p483,c484,rfl,hp485⟩:=St.shapeX hS481 0 rfl
       have hF487:=hF482.keep [0,1,5,6,7,9,58,59,60,62,63,64,65]; clear hF482
       refine ⟨⟨_,hS481.pick5.pick5.pick5⟩,?_⟩
       obtain ⟨o488,hS489⟩:=St.toY hS481; clear hS481
       have hS490:=hS489.pick6
       clear hS489
       refine any_call 11 #[true,true,true,true,true,true,true,true,true,true,true,true,false] 8 #[nP z18 0,.agg #[nI 0,nI 0,nI 0,nI 0,nI (IntKind.i64.wrap ((IntKind.i64.wrap (2 * x74))+1)),nI (IntKind.i64.wrap ((IntKind.i64.wrap (2 * x85))+1)),nI 8,nI 0,nI 0,nI 0],.slice p483 L475.length c484,nI i0] hF487 rfl (by kernel_rfl) rfl rfl (by kernel_rfl) rfl (by kernel_rfl) (fun w=>by kernel_rfl) (by kernel_rfl) ?_
       obtain ⟨x491,s492,hx493,hm494⟩:=bind2E hm477; clear hm477
       refine (choose_Pick.ok hS490 hx493).mono ?_
       rintro _ w495 ⟨rfl,hS497⟩; clear hS490
       have hS499:=hS497.pick1
       clear hS497
       have hS500:=St.ofY hS499; clear hS499
       refine ⟨⟨_,hS500.pick6.pick6.pick6⟩,?_⟩
       intro a496 hF498; clear hF487
       refine any_many 1 [(12,some (nI x491))] [0,1,5,6,7,9,10] #[true,true,true,true,true,true,true,true,true,true,true,true,true] (by rfl) hF498 (by kernel_rfl) (by kernel_rfl) (by exact ⟨fun wS hw=>by kernel_rfl,trivial⟩) (fun _ _ _ _ _ h=>h) ⟨_,hS500.pick6.pick6.pick6⟩ (l':=[(10,nI x491),(9,nB w131),(7,.slice p136 L126.length c137),(6,nB w54),(1,nI x46),(5,nP z17 0),(0,nI i0)]) (by kernel_rfl) ?_
       intro a502 hF501; clear hF498
       refine any_done (by kernel_rfl) ?_
       have hS503:=hS500.drop.pick1.drop
       clear hS500
       exact thenN ⟨s492,x491,hF501,hS503,hm494⟩
 · skip
   refine wp_region_lit ?_
   refine ev_call 5 #[] hF50 rfl rfl (by kernel_rfl) rfl (by kernel_rfl) (fun w=>by kernel_rfl) ?_
   obtain ⟨y504,hx505,hm506⟩:=bind1E hm48; clear hm48
   refine (law18_awake.ok hS43 hx505).mono ?_
   rintro _ w507 ⟨rfl,hS509⟩ a508 hF510; clear hF50 hS43
   refine ev_runs 2 hF510 (l':=[(22,.bool (!(y504))),(21,.bool (!(y504))),(20,.bool (y504)),(1,nI x46),(5,nP z17 0),(0,nI i0)]) (w':=w507) (by kernel_rfl) ?_
   intro a512 hF511; clear hF510
   cases hc513:(!(y504))
   case true =>
    rw [hc513] at hF511
    have hm514:=ifYes hc513 hm506; clear hm506
    refine ev_runK 3 hF511 [0,1,5,25] (l':=[(25,.bool true),(1,nI x46),(5,nP z17 0),(0,nI i0)]) (w':=w507) (by kernel_rfl) ?_
    intro a516 hF515; clear hF511
    refine wpList_nil ?_
    exact thenN ⟨true,hF515,hS509,hm514⟩
   rw [hc513] at hF511
   have hm517:=ifNot hc513 hm506; clear hm506
   refine ev_runK 3 hF511 [0,1,5,25] (l':=[(25,.bool false),(1,nI x46),(5,nP z17 0),(0,nI i0)]) (w':=w507) (by kernel_rfl) ?_
   intro a519 hF518; clear hF511
   refine wpList_nil ?_
   exact thenN ⟨false,hF518,hS509,hm517⟩
end Go.Proofs.YtjdlnmbfomojdaaGreat
