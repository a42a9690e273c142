/- G13 -/
import Derived.Test.YtaojmbkmicjecaaGreatKG13b
import Derived.Test.YtaojmbkmicjecaaGreatKGView
import Derived.Deep.LoopGhost
import Derived.KernelRfl
namespace Go.Proofs.YtaojmbkmicjecaaGreat
open Go.RowKit
set_option linter.unusedVariables false
def law13_sudog.m (k:Nat) (s0:HSt) (u0:HSt) (Lc0:List Int) (Lg0:List Int) (i1:Int):Option (Int×HSt×HSt):=bind3 (law13_alloc.m k s0 u0 Lc0 Lg0 3 7) fun x13 s14 s15=>bind3 (law13_gor.m k s14 s15 Lc0 Lg0 0) fun x26 s27 s28=>bind2 (pPutSudog x13 (⟨x26,i1,0,-1,0,0,-1⟩:Su) s27) fun x49 s50=>bind2 (ref11_PutSudog.m k s28 x13 (⟨x26,i1,0,-1,0,0,-1⟩:Su)) fun x63 s64=>some (x13,s50,s64)
set_option maxRecDepth 100000 in
set_option maxHeartbeats 1500000 in
theorem law13_sudog.ok {w0 w:World} {F0:List Nat} {ps:List Piece} {k:Nat} {bb0 b0 ab0 bw0 abw0 sb0 g0 cb0:Nat} {vc0 vg0:Value} {s0 u0:HSt} {Lc0 Lg0:List Int} {i1:Int} {r0:Int} {t0:HSt} {t1:HSt} (hS:St w0 F0 (BlkP bb0 52 #[nP b0 0,nP bw0 0,vc0,vg0]::HeapP b0 ab0 s0::RHeapP bw0 abw0 sb0 g0 cb0 u0::RowP (vc0) Lc0::RowP (vg0) Lg0::ps) w) (hm:law13_sudog.m k s0 u0 Lc0 Lg0 i1=some (r0,t0,t1)) :
    Calls Tryz.prog 27 #[nP bb0 0,nI i1] w fun e w'=>e=.returned (.int .i64 r0)∧St w0 F0 (BlkP bb0 52 #[nP b0 0,nP bw0 0,vc0,vg0]::HeapP b0 ab0 t0::RHeapP bw0 abw0 sb0 g0 cb0 t1::RowP (vc0) Lc0::RowP (vg0) Lg0::ps) w':=by
 refine ev_enterL 28 [nP bb0 0,nI i1] Tryz.func27 rfl rfl (by simp) ?_
 intro a hF
 have hF0:Fr 28 a [(0,nP bb0 0),(1,nI i1)]:=hF; clear hF
 unfold law13_sudog.m at hm
 obtain ⟨hl4,p1,c2,rfl,hp3⟩:=St.shape hS 3 rfl
 obtain ⟨hl8,p5,c6,rfl,hp7⟩:=St.shape hS 4 rfl
 refine wp_seq (wp_region_lit ?_)
 refine ev_runK 1 hF0 [0,1] (l':=[(0,nP bb0 0),(1,nI i1)]) (w':=w) (by kernel_rfl) ?_
 intro a10 hF9; clear hF0
 refine wpList_nil (thenN (wp_seq (wp_region_lit ?_)))
 refine ev_runs 1 hF9 (l':=[(7,nP bb0 0),(0,nP bb0 0),(1,nI i1)]) (w':=w) (by kernel_rfl) ?_
 intro a12 hF11; clear hF9
 refine ev_call 76 #[nP bb0 0,nI 3,nI 7] hF11 rfl rfl (by kernel_rfl) rfl (by kernel_rfl) (fun w=>by kernel_rfl) ?_
 obtain ⟨x13,s14,s15,hx16,hm17⟩:=bind3E hm; clear hm
 refine (law13_alloc.ok hS hx16).mono ?_
 rintro _ w18 ⟨rfl,hS20⟩ a19 hF21; clear hF11 hS
 refine ev_runK 1 hF21 [0,1,5] (l':=[(5,nI x13),(0,nP bb0 0),(1,nI i1)]) (w':=w18) (by kernel_rfl) ?_
 intro a23 hF22; clear hF21
 refine wpList_nil (thenN (wp_seq (wp_region_lit ?_)))
 refine ev_runs 1 hF22 (l':=[(9,nP bb0 0),(5,nI x13),(0,nP bb0 0),(1,nI i1)]) (w':=w18) (by kernel_rfl) ?_
 intro a25 hF24; clear hF22
 refine ev_call 31 #[nP bb0 0,nI 0] hF24 rfl rfl (by kernel_rfl) rfl (by kernel_rfl) (fun w=>by kernel_rfl) ?_
 obtain ⟨x26,s27,s28,hx29,hm30⟩:=bind3E hm17; clear hm17
 refine (law13_gor.ok hS20 hx29).mono ?_
 rintro _ w31 ⟨rfl,hS33⟩ a32 hF34; clear hF24 hS20
 refine ev_runs 3 hF34 (l':=[(6,nB w31),(12,.agg #[nI x26,nI i1,nI 0,nI (-1),nI 0,nI 0,nI (-1)]),(11,nI i1),(10,nI x26),(9,nP bb0 0),(5,nI x13),(0,nP bb0 0),(1,nI i1)]) (w':=w31.alloc (.cells #[nI 0,nI 0,nI 0,nI 0,nI 0,nI 0,nI 0] 54)) (by kernel_rfl) ?_
 intro a36 hF35; clear hF34
 have hS38:St w0 F0 (BlkP (w31.heap.size) 54 #[nI 0,nI 0,nI 0,nI 0,nI 0,nI 0,nI 0]::BlkP bb0 52 #[nP b0 0,nP bw0 0,.slice p1 Lc0.length c2,.slice p5 Lg0.length c6]::HeapP b0 ab0 s27::RHeapP bw0 abw0 sb0 g0 cb0 s28::RowP (.slice p1 Lc0.length c2) Lc0::RowP (.slice p5 Lg0.length c6) Lg0::ps) (w31.alloc (.cells #[nI 0,nI 0,nI 0,nI 0,nI 0,nI 0,nI 0] 54)):=St.new hS33 #[nI 0,nI 0,nI 0,nI 0,nI 0,nI 0,nI 0] 54
 clear hS33
 refine ev_store (.agg #[nI x26,nI i1,nI 0,nI (-1),nI 0,nI 0,nI (-1)]) #[nI x26,nI i1,nI 0,nI (-1),nI 0,nI 0,nI (-1)] hF35 (by kernel_rfl) rfl rfl rfl rfl (by kernel_rfl) hS38 (by kernel_rfl) (by kernel_rfl) (by kernel_rfl) (l':=[(6,nB w31),(12,.agg #[nI x26,nI i1,nI 0,nI (-1),nI 0,nI 0,nI (-1)]),(11,nI i1),(10,nI x26),(9,nP bb0 0),(5,nI x13),(0,nP bb0 0),(1,nI i1)]) (by kernel_rfl) ?_
 intro w39 a40 hS41 hF42; clear hF35 hS38
 refine wpList_nil ?_
 have hF43:=hF42.keep [0,5,6]
 clear hF42
 refine thenN (wp_seq ?_)
 have hS44:=hS41.pick1
 clear hS41
 have hS45:=hS44.drew; clear hS44
 refine any_start (fun wS=>∃ qs,St w0 F0 (BlkP bb0 52 #[nP b0 0,nP bw0 0,.slice p1 Lc0.length c2,.slice p5 Lg0.length c6]::BlkP (w31.heap.size) 54 #[nI x26,nI i1,nI 0,nI (-1),nI 0,nI 0,nI (-1)]::qs) wS) 7 #[false,false,false,false,false,false,false] (by kernel_rfl) (by kernel_rfl) (by kernel_rfl) ?_
 refine any_many 6 [(0,some (nP bb0 0)),(1,some (nP bb0 0)),(2,some (nP bb0 0)),(3,some (nP b0 0)),(4,some (nI x13)),(5,some (.agg #[nI x26,nI i1,nI 0,nI (-1),nI 0,nI 0,nI (-1)]))] [0,5,6,16,17,18] #[true,true,true,true,true,true,false] (by rfl) hF43 (by kernel_rfl) (by kernel_rfl) (by exact ⟨fun wS hw=>by kernel_rfl,fun wS hw=>by kernel_rfl,fun wS hw=>by kernel_rfl,fun wS hw=>hw.elim fun qs hw=>run_loadV rfl rfl (run_loadS rfl rfl (hw.cell 0 rfl 0 rfl)),fun wS hw=>by kernel_rfl,fun wS hw=>hw.elim fun qs hw=>run_loadV rfl rfl (run_loadA (cs:=[nI x26,nI i1,nI 0,nI (-1),nI 0,nI 0,nI (-1)]) rfl rfl (by kernel_rfl) (blk_cells hw 1 rfl rfl)),trivial⟩) (fun _ _ _ _ _ h=>h) ⟨_,hS45⟩ (l':=[(18,.agg #[nI x26,nI i1,nI 0,nI (-1),nI 0,nI 0,nI (-1)]),(17,nI x13),(16,nP b0 0),(6,nB w31),(5,nI x13),(0,nP bb0 0)]) (by kernel_rfl) ?_
 intro a47 hF46; clear hF43
 have hS48:=hS45.pick2
 clear hS45
 refine any_call 6 #[true,true,true,true,true,true,true] 41 #[nP b0 0,nI x13,.agg #[nI x26,nI i1,nI 0,nI (-1),nI 0,nI 0,nI (-1)]] hF46 rfl (by kernel_rfl) rfl rfl (by kernel_rfl) rfl (by kernel_rfl) (fun w=>by kernel_rfl) (by kernel_rfl) ?_
 obtain ⟨x49,s50,hx51,hm52⟩:=bind2E hm30; clear hm30
 refine (p_PutSudog hS48 hx51).mono ?_
 rintro _ w53 ⟨rfl,hS55⟩; clear hS48
 refine ⟨⟨_,hS55.pick2.pick2⟩,?_⟩
 intro a54 hF56; clear hF46
 refine any_done (by kernel_rfl) ?_
 have hF57:=hF56.keep [0,5,6]
 clear hF56
 refine thenN (wp_seq ?_)
 have hS58:=hS55.pick2.pick2
 clear hS55
 have hS59:=hS58.drew; clear hS58
 refine any_start (fun wS=>∃ qs,St w0 F0 (BlkP bb0 52 #[nP b0 0,nP bw0 0,.slice p1 Lc0.length c2,.slice p5 Lg0.length c6]::BlkP (w31.heap.size) 54 #[nI x26,nI i1,nI 0,nI (-1),nI 0,nI 0,nI (-1)]::qs) wS) 7 #[false,false,false,false,false,false,false] (by kernel_rfl) (by kernel_rfl) (by kernel_rfl) ?_
 refine any_many 6 [(0,some (nP bb0 0)),(1,some (nP bb0 0)),(2,some (nP bb0 1)),(3,some (nP bw0 0)),(4,some (nI x13)),(5,some (.agg #[nI x26,nI i1,nI 0,nI (-1),nI 0,nI 0,nI (-1)]))] [5,23,24,25] #[true,true,true,true,true,true,false] (by rfl) hF57 (by kernel_rfl) (by kernel_rfl) (by exact ⟨fun wS hw=>by kernel_rfl,fun wS hw=>by kernel_rfl,fun wS hw=>by kernel_rfl,fun wS hw=>hw.elim fun qs hw=>run_loadV rfl rfl (run_loadS rfl rfl (hw.cell 0 rfl 1 rfl)),fun wS hw=>by kernel_rfl,fun wS hw=>hw.elim fun qs hw=>run_loadV rfl rfl (run_loadA (cs:=[nI x26,nI i1,nI 0,nI (-1),nI 0,nI 0,nI (-1)]) rfl rfl (by kernel_rfl) (blk_cells hw 1 rfl rfl)),trivial⟩) (fun _ _ _ _ _ h=>h) ⟨_,hS59⟩ (l':=[(25,.agg #[nI x26,nI i1,nI 0,nI (-1),nI 0,nI 0,nI (-1)]),(24,nI x13),(23,nP bw0 0),(5,nI x13)]) (by kernel_rfl) ?_
 intro a61 hF60; clear hF57
 have hS62:=hS59.pick3
 clear hS59
 refine any_call 6 #[true,true,true,true,true,true,true] 77 #[nP bw0 0,nI x13,.agg #[nI x26,nI i1,nI 0,nI (-1),nI 0,nI 0,nI (-1)]] hF60 rfl (by kernel_rfl) rfl rfl (by kernel_rfl) rfl (by kernel_rfl) (fun w=>by kernel_rfl) (by kernel_rfl) ?_
 obtain ⟨x63,s64,hx65,hm66⟩:=bind2E hm52; clear hm52
 refine (ref11_PutSudog.ok hS62 hx65).mono ?_
 rintro _ w67 ⟨rfl,hS69⟩; clear hS62
 refine ⟨⟨_,hS69.pick2.pick2⟩,?_⟩
 intro a68 hF70; clear hF60
 refine any_done (by kernel_rfl) ?_
 have hF71:=hF70.keep [5]
 clear hF70
 have hS72:=hS69.pick2.drop
 clear hS69
 refine thenN (wp_seq (wp_region_lit ?_))
 refine ev_runK 2 hF71 [4] (l':=[(4,nI x13)]) (w':=w67) (by kernel_rfl) ?_
 intro a74 hF73; clear hF71
 refine wpList_nil (thenN ?_)
 refine wp_ret ?_
 have hS75:=hS72.pick4.pick4.pick2.pick4.pick4
 clear hS72
 simp only [Option.some.injEq,Prod.mk.injEq] at hm66
 obtain ⟨rfl,rfl,rfl⟩:=hm66
 refine ev_ret hF73 [4] (nI x13) rfl rfl rfl ?_
 exact ⟨rfl,hS75⟩
def law13_awake.j1 (y149:Bool):Option (Bool):=some (y149)
def law13_awake.m (k:Nat):Option (Bool):=bind4 (law13_made.m k [0] 1) fun s7 s8 L9 L10=>bind3 (law13_ch.m k s7 s8 L9 L10 0) fun x49 s50 s51=>bind3 (law13_sudog.m k s50 s51 L9 L10 x49) fun x58 s59 s60=>bind3 (law13_ch.m k s59 s60 L9 L10 0) fun x72 s73 s74=>bind2 (list_Push.m k s73 x72 (true) x58) fun x82 s83=>bind3 (law13_ch.m k s83 s74 L9 L10 0) fun x96 s97 s98=>bind2 (list_All.m k s97 x96 (true)) fun L106 s107=>bind3 (law13_ch.m k s107 s98 L9 L10 0) fun x127 s128 s129=>bind3 (list_Pop.m k s128 x127 (true)) fun x137 y138 s139=>(if (x82 == 0) then bind1 (help_Plain.m k L106 [x58]) fun y167=>(if (y167) then (if (y138) then law13_awake.j1 (x137 == x58) else law13_awake.j1 false) else law13_awake.j1 false) else law13_awake.j1 false)
set_option maxRecDepth 100000 in
set_option maxHeartbeats 1500000 in
theorem law13_awake.ok {w0 w:World} {F0:List Nat} {ps:List Piece} {k:Nat}  {r0:Bool} (hS:St w0 F0 (ps) w) (hm:law13_awake.m k=some r0) :
    Calls Tryz.prog 26 #[] w fun e w'=>e=.returned (.bool r0)∧St w0 F0 (ps) w':=by
 refine ev_enterL 56 [] Tryz.func26 rfl rfl (by simp) ?_
 intro a hF
 have hF0:Fr 56 a []:=hF; clear hF
 unfold law13_awake.m at hm
 refine wp_seq (wp_region_lit ?_)
 refine ev_runK 1 hF0 [] (l':=[]) (w':=w) (by kernel_rfl) ?_
 intro a2 hF1; clear hF0
 refine wpList_nil (thenN (wp_seq (wp_region_lit ?_)))
 refine ev_runs 1 hF1 (l':=[(7,.slice (some ⟨w.heap.size,0,none⟩) 1 1)]) (w':=w.alloc (.cells #[nI 0] 3)) (by kernel_rfl) ?_
 intro a4 hF3; clear hF1
 have hS6:St w0 F0 (RowP (.slice (some ⟨w.heap.size,0,none⟩) 1 1) [0]::ps) (w.alloc (.cells #[nI 0] 3)):=St.lit hS [0] (by unfold maxLen; simp)
 refine ev_call 25 #[.slice (some ⟨w.heap.size,0,none⟩) 1 1,nI 1] hF3 rfl rfl (by kernel_rfl) rfl (by kernel_rfl) (fun w=>by kernel_rfl) ?_
 obtain ⟨s7,s8,L9,L10,hx11,hm12⟩:=bind4E hm; clear hm
 refine (law13_made.ok hS6 hx11).mono ?_
 rintro _ w13 ⟨z17,z18,z19,z20,z21,z22,z23,z24,z25,z26,rfl,hS15⟩ a14 hF16; clear hF3 hS6
 have hS32:St w0 F0 (RowP (.slice (some ⟨w.heap.size,0,none⟩) 1 1) [0]::BlkP z17 52 #[nP z18 0,nP z20 0,z25,z26]::HeapP z18 z19 s7::RHeapP z20 z21 z22 z23 z24 s8::RowP (z25) L9::RowP (z26) L10::ps) w13:=hS15
 clear hS15
 obtain ⟨hl36,p33,c34,rfl,hp35⟩:=St.shape hS32 4 rfl
 obtain ⟨hl40,p37,c38,rfl,hp39⟩:=St.shape hS32 5 rfl
 refine ev_runK 1 hF16 [1] (l':=[(1,nP z17 0)]) (w':=w13) (by kernel_rfl) ?_
 intro a42 hF41; clear hF16
 refine wpList_nil ?_
 have hS43:=hS32.drop
 clear hS32
 refine thenN (wp_seq (wp_seq (wp_region_lit ?_)))
 refine ev_runK 2 hF41 [1,10] (l':=[(10,.bool false),(1,nP z17 0)]) (w':=w13) (by kernel_rfl) ?_
 intro a45 hF44; clear hF41
 refine wpList_nil (thenN ?_)
 refine ev_condF hF44 rfl rfl ?_
 refine wp_skip ?_
 have hF46:=hF44.keep [1]
 clear hF44
 refine thenN (wp_seq (wp_region_lit ?_))
 refine ev_runs 2 hF46 (l':=[(12,nP z17 0),(11,nP z17 0),(1,nP z17 0)]) (w':=w13) (by kernel_rfl) ?_
 intro a48 hF47; clear hF46
 refine ev_call 28 #[nP z17 0,nI 0] hF47 rfl rfl (by kernel_rfl) rfl (by kernel_rfl) (fun w=>by kernel_rfl) ?_
 obtain ⟨x49,s50,s51,hx52,hm53⟩:=bind3E hm12; clear hm12
 refine (law13_ch.ok hS43 hx52).mono ?_
 rintro _ w54 ⟨rfl,hS56⟩ a55 hF57; clear hF47 hS43
 refine ev_call 27 #[nP z17 0,nI x49] hF57 rfl rfl (by kernel_rfl) rfl (by kernel_rfl) (fun w=>by kernel_rfl) ?_
 obtain ⟨x58,s59,s60,hx61,hm62⟩:=bind3E hm53; clear hm53
 refine (law13_sudog.ok hS56 hx61).mono ?_
 rintro _ w63 ⟨rfl,hS65⟩ a64 hF66; clear hF57 hS56
 refine ev_runK 1 hF66 [1,2] (l':=[(2,nI x58),(1,nP z17 0)]) (w':=w63) (by kernel_rfl) ?_
 intro a68 hF67; clear hF66
 refine wpList_nil (thenN (wp_seq ?_))
 have hS69:=hS65.drew; clear hS65
 refine any_start (fun wS=>∃ qs,St w0 F0 (BlkP z17 52 #[nP z18 0,nP z20 0,.slice p33 L9.length c34,.slice p37 L10.length c38]::qs) wS) 9 #[false,false,false,false,false,false,false,false,false] (by kernel_rfl) (by kernel_rfl) (by kernel_rfl) ?_
 refine any_many 6 [(0,some (nP z17 0)),(1,some (nP z17 0)),(2,some (nP z17 0)),(3,some (nP z18 0)),(4,some (nP z17 0)),(6,some (nI x58))] [1,2,3,18,19,20,21,22] #[true,true,true,true,true,false,true,false,false] (by rfl) hF67 (by kernel_rfl) (by kernel_rfl) (by exact ⟨fun wS hw=>by kernel_rfl,fun wS hw=>by kernel_rfl,fun wS hw=>by kernel_rfl,fun wS hw=>hw.elim fun qs hw=>run_loadV rfl rfl (run_loadS rfl rfl (hw.cell 0 rfl 0 rfl)),fun wS hw=>by kernel_rfl,fun wS hw=>by kernel_rfl,trivial⟩) (fun _ _ _ _ _ h=>h) ⟨_,hS69⟩ (l':=[(21,nI x58),(19,nP z17 0),(18,nP z18 0),(2,nI x58),(1,nP z17 0)]) (by kernel_rfl) ?_
 intro a71 hF70; clear hF67
 refine any_call 5 #[true,true,true,true,true,true,true,false,false] 28 #[nP z17 0,nI 0] hF70 rfl (by kernel_rfl) rfl rfl (by kernel_rfl) rfl (by kernel_rfl) (fun w=>by kernel_rfl) (by kernel_rfl) ?_
 obtain ⟨x72,s73,s74,hx75,hm76⟩:=bind3E hm62; clear hm62
 refine (law13_ch.ok hS69 hx75).mono ?_
 rintro _ w77 ⟨rfl,hS79⟩; clear hS69
 refine ⟨⟨_,hS79⟩,?_⟩
 intro a78 hF80; clear hF70
 have hS81:=hS79.pick1
 clear hS79
 refine any_call 7 #[true,true,true,true,true,true,true,true,false] 29 #[nP z18 0,nI x72,.bool true,nI x58] hF80 rfl (by kernel_rfl) rfl rfl (by kernel_rfl) rfl (by kernel_rfl) (fun w=>by kernel_rfl) (by kernel_rfl) ?_
 obtain ⟨x82,s83,hx84,hm85⟩:=bind2E hm76; clear hm76
 refine (list_Push.ok hS81 hx84).mono ?_
 rintro _ w86 ⟨rfl,hS88⟩; clear hS81
 refine ⟨⟨_,hS88.pick1⟩,?_⟩
 intro a87 hF89; clear hF80
 refine any_many 1 [(8,some (nI x82))] [1,2,3] #[true,true,true,true,true,true,true,true,true] (by rfl) hF89 (by kernel_rfl) (by kernel_rfl) (by exact ⟨fun wS hw=>by kernel_rfl,trivial⟩) (fun _ _ _ _ _ h=>h) ⟨_,hS88.pick1⟩ (l':=[(3,nI x82),(2,nI x58),(1,nP z17 0)]) (by kernel_rfl) ?_
 intro a91 hF90; clear hF89
 refine any_done (by kernel_rfl) ?_
 refine thenN (wp_seq ?_)
 have hS92:=hS88.pick1
 clear hS88
 have hS93:=hS92.drew; clear hS92
 refine any_start (fun wS=>∃ qs,St w0 F0 (BlkP z17 52 #[nP z18 0,nP z20 0,.slice p33 L9.length c34,.slice p37 L10.length c38]::qs) wS) 8 #[false,false,false,false,false,false,false,false] (by kernel_rfl) (by kernel_rfl) (by kernel_rfl) ?_
 refine any_many 5 [(0,some (nP z17 0)),(1,some (nP z17 0)),(2,some (nP z17 0)),(3,some (nP z18 0)),(4,some (nP z17 0))] [1,2,3,4,26,27,28,29] #[true,true,true,true,true,false,false,false] (by rfl) hF90 (by kernel_rfl) (by kernel_rfl) (by exact ⟨fun wS hw=>by kernel_rfl,fun wS hw=>by kernel_rfl,fun wS hw=>by kernel_rfl,fun wS hw=>hw.elim fun qs hw=>run_loadV rfl rfl (run_loadS rfl rfl (hw.cell 0 rfl 0 rfl)),fun wS hw=>by kernel_rfl,trivial⟩) (fun _ _ _ _ _ h=>h) ⟨_,hS93⟩ (l':=[(27,nP z17 0),(26,nP z18 0),(3,nI x82),(2,nI x58),(1,nP z17 0)]) (by kernel_rfl) ?_
 intro a95 hF94; clear hF90
 refine any_call 5 #[true,true,true,true,true,true,false,false] 28 #[nP z17 0,nI 0] hF94 rfl (by kernel_rfl) rfl rfl (by kernel_rfl) rfl (by kernel_rfl) (fun w=>by kernel_rfl) (by kernel_rfl) ?_
 obtain ⟨x96,s97,s98,hx99,hm100⟩:=bind3E hm85; clear hm85
 refine (law13_ch.ok hS93 hx99).mono ?_
 rintro _ w101 ⟨rfl,hS103⟩; clear hS93
 refine ⟨⟨_,hS103⟩,?_⟩
 intro a102 hF104; clear hF94
 have hS105:=hS103.pick1
 clear hS103
 refine any_call 6 #[true,true,true,true,true,true,true,false] 34 #[nP z18 0,nI x96,.bool true] hF104 rfl (by kernel_rfl) rfl rfl (by kernel_rfl) rfl (by kernel_rfl) (fun w=>by kernel_rfl) (by kernel_rfl) ?_
 obtain ⟨L106,s107,hx108,hm109⟩:=bind2E hm100; clear hm100
 refine (list_All.ok hS105 hx108).mono ?_
 rintro _ w110 ⟨z114,rfl,hS112⟩; clear hS105
 obtain ⟨hl119,p116,c117,rfl,hp118⟩:=St.shape hS112 1 rfl
 refine ⟨⟨_,hS112.pick2⟩,?_⟩
 intro a111 hF113; clear hF104
 refine any_many 1 [(7,some (.slice p116 L106.length c117))] [1,2,3,4] #[true,true,true,true,true,true,true,true] (by rfl) hF113 (by kernel_rfl) (by kernel_rfl) (by exact ⟨fun wS hw=>by kernel_rfl,trivial⟩) (fun _ _ _ _ _ h=>h) ⟨_,hS112.pick2⟩ (l':=[(4,.slice p116 L106.length c117),(3,nI x82),(2,nI x58),(1,nP z17 0)]) (by kernel_rfl) ?_
 intro a121 hF120; clear hF113
 refine any_done (by kernel_rfl) ?_
 refine thenN (wp_seq ?_)
 have hS122:=hS112.pick2
 clear hS112
 have hS123:=hS122.drew; clear hS122
 refine any_start (fun wS=>∃ qs,St w0 F0 (BlkP z17 52 #[nP z18 0,nP z20 0,.slice p33 L9.length c34,.slice p37 L10.length c38]::qs) wS) 12 #[false,false,false,false,false,false,false,false,false,false,false,false] (by kernel_rfl) (by kernel_rfl) (by kernel_rfl) ?_
 refine any_many 5 [(0,some (nP z17 0)),(1,some (nP z17 0)),(2,some (nP z17 0)),(3,some (nP z18 0)),(4,some (nP z17 0))] [2,3,4,5,6,30,34,35,36,37,38,39] #[true,true,true,true,true,false,false,false,false,false,false,false] (by rfl) hF120 (by kernel_rfl) (by kernel_rfl) (by exact ⟨fun wS hw=>by kernel_rfl,fun wS hw=>by kernel_rfl,fun wS hw=>by kernel_rfl,fun wS hw=>hw.elim fun qs hw=>run_loadV rfl rfl (run_loadS rfl rfl (hw.cell 0 rfl 0 rfl)),fun wS hw=>by kernel_rfl,trivial⟩) (fun _ _ _ _ _ h=>h) ⟨_,hS123⟩ (l':=[(35,nP z17 0),(34,nP z18 0),(4,.slice p116 L106.length c117),(3,nI x82),(2,nI x58)]) (by kernel_rfl) ?_
 intro a125 hF124; clear hF120
 have hS126:=hS123.pick5.pick5.pick5.pick4.pick4
 clear hS123
 refine any_call 5 #[true,true,true,true,true,true,false,false,false,false,false,false] 28 #[nP z17 0,nI 0] hF124 rfl (by kernel_rfl) rfl rfl (by kernel_rfl) rfl (by kernel_rfl) (fun w=>by kernel_rfl) (by kernel_rfl) ?_
 obtain ⟨x127,s128,s129,hx130,hm131⟩:=bind3E hm109; clear hm109
 refine (law13_ch.ok hS126 hx130).mono ?_
 rintro _ w132 ⟨rfl,hS134⟩; clear hS126
 refine ⟨⟨_,hS134⟩,?_⟩
 intro a133 hF135; clear hF124
 have hS136:=hS134.pick1
 clear hS134
 refine any_call 6 #[true,true,true,true,true,true,true,false,false,false,false,false] 32 #[nP z18 0,nI x127,.bool true] hF135 rfl (by kernel_rfl) rfl rfl (by kernel_rfl) rfl (by kernel_rfl) (fun w=>by kernel_rfl) (by kernel_rfl) ?_
 obtain ⟨x137,y138,s139,hx140,hm141⟩:=bind3E hm131; clear hm131
 refine (list_Pop.ok hS136 hx140).mono ?_
 rintro _ w142 ⟨rfl,hS144⟩; clear hS136
 refine ⟨⟨_,hS144.pick1⟩,?_⟩
 intro a143 hF145; clear hF135
 refine any_many 5 [(7,some (.tuple #[nI x137,.bool (y138)])),(8,some (nI x137)),(9,some (.bool (y138))),(10,some (nI x137)),(11,some (.bool (y138)))] [2,3,4,5,6] #[true,true,true,true,true,true,true,true,true,true,true,true] (by rfl) hF145 (by kernel_rfl) (by kernel_rfl) (by exact ⟨fun wS hw=>by kernel_rfl,fun wS hw=>by kernel_rfl,fun wS hw=>by kernel_rfl,fun wS hw=>by kernel_rfl,fun wS hw=>by kernel_rfl,trivial⟩) (fun _ _ _ _ _ h=>h) ⟨_,hS144.pick1⟩ (l':=[(6,.bool (y138)),(5,nI x137),(4,.slice p116 L106.length c117),(3,nI x82),(2,nI x58)]) (by kernel_rfl) ?_
 intro a147 hF146; clear hF145
 refine any_done (by kernel_rfl) ?_
 have hS148:=hS144.drop.drop.drop.drop.drop
 clear hS144
 refine thenN (wp_seq ?_)
 refine joinQ (fun aI wI=>∃ (y149:Bool),Fr 56 aI [(0,.bool (y149))]∧St w0 F0 (ps) wI∧law13_awake.j1 y149=some r0) ?_ ?_
 rotate_left
 · rintro a151 w152 ⟨y149,hF153,hS154,hm155⟩
   clear hF146 hS148 hm141
   unfold law13_awake.j1 at hm155
   refine thenN ?_
   refine wp_ret ?_
   obtain rfl:=Option.some.inj hm155
   refine ev_ret hF153 [0] (.bool (y149)) rfl rfl rfl ?_
   exact ⟨rfl,hS154⟩
 · skip
   refine wp_region_lit ?_
   refine ev_runs 3 hF146 (l':=[(42,.bool (x82 == 0)),(41,.bool (x82 == 0)),(40,nI x82),(6,.bool (y138)),(5,nI x137),(4,.slice p116 L106.length c117),(3,nI x82),(2,nI x58)]) (w':=w142) (by kernel_rfl) ?_
   intro a159 hF158; clear hF146
   cases hc160:(x82 == 0)
   case true =>
    rw [hc160] at hF158
    have hm161:=ifYes hc160 hm141; clear hm141
    refine ev_runs 3 hF158 (l':=[(45,.slice (some ⟨w142.heap.size,0,none⟩) 1 1),(44,nI x58),(43,.slice p116 L106.length c117),(42,.bool true),(41,.bool true),(40,nI x82),(6,.bool (y138)),(5,nI x137),(4,.slice p116 L106.length c117),(3,nI x82),(2,nI x58)]) (w':=w142.alloc (.cells #[nI x58] 3)) (by kernel_rfl) ?_
    intro a163 hF162; clear hF158
    have hS165:St w0 F0 (RowP (.slice (some ⟨w142.heap.size,0,none⟩) 1 1) [x58]::RowP (.slice p116 L106.length c117) L106::ps) (w142.alloc (.cells #[nI x58] 3)):=St.lit hS148 [x58] (by unfold maxLen; simp)
    clear hS148
    have hS166:=hS165.pick1
    clear hS165
    refine ev_call 20 #[.slice p116 L106.length c117,.slice (some ⟨w142.heap.size,0,none⟩) 1 1] hF162 rfl rfl (by kernel_rfl) rfl (by kernel_rfl) (fun w=>by kernel_rfl) ?_
    obtain ⟨y167,hx168,hm169⟩:=bind1E hm161; clear hm161
    refine (help_Plain.ok hS166 hx168).mono ?_
    rintro _ w170 ⟨rfl,hS172⟩ a171 hF173; clear hF162 hS166
    refine ev_runs 2 hF173 (l':=[(48,.bool (y167)),(47,.bool (y167)),(46,.bool (y167)),(45,.slice (some ⟨w142.heap.size,0,none⟩) 1 1),(44,nI x58),(43,.slice p116 L106.length c117),(42,.bool true),(41,.bool true),(40,nI x82),(6,.bool (y138)),(5,nI x137),(4,.slice p116 L106.length c117),(3,nI x82),(2,nI x58)]) (w':=w170) (by kernel_rfl) ?_
    intro a175 hF174; clear hF173
    cases hc176:(y167)
    case true =>
     rw [hc176] at hF174
     have hm177:=ifYes hc176 hm169; clear hm169
     refine ev_runs 3 hF174 (l':=[(51,.bool (y138)),(50,.bool (y138)),(49,.bool (y138)),(48,.bool true),(47,.bool true),(46,.bool true),(45,.slice (some ⟨w142.heap.size,0,none⟩) 1 1),(44,nI x58),(43,.slice p116 L106.length c117),(42,.bool true),(41,.bool true),(40,nI x82),(6,.bool (y138)),(5,nI x137),(4,.slice p116 L106.length c117),(3,nI x82),(2,nI x58)]) (w':=w170) (by kernel_rfl) ?_
     intro a179 hF178; clear hF174
     cases hc180:(y138)
     case true =>
      rw [hc180] at hF178
      have hm181:=ifYes hc180 hm177; clear hm177
      refine ev_runK 5 hF178 [0] (l':=[(0,.bool (x137 == x58))]) (w':=w170) (by kernel_rfl) ?_
      intro a183 hF182; clear hF178
      refine wpList_nil ?_
      have hS184:=hS172.drop.drop
      clear hS172
      exact thenN ⟨x137 == x58,hF182,hS184,hm181⟩
     rw [hc180] at hF178
     have hm185:=ifNot hc180 hm177; clear hm177
     refine ev_runK 5 hF178 [0] (l':=[(0,.bool false)]) (w':=w170) (by kernel_rfl) ?_
     intro a187 hF186; clear hF178
     refine wpList_nil ?_
     have hS188:=hS172.drop.drop
     clear hS172
     exact thenN ⟨false,hF186,hS188,hm185⟩
    rw [hc176] at hF174
    have hm189:=ifNot hc176 hm169; clear hm169
    refine ev_runK 8 hF174 [0] (l':=[(0,.bool false)]) (w':=w170) (by kernel_rfl) ?_
    intro a191 hF190; clear hF174
    refine wpList_nil ?_
    have hS192:=hS172.drop.drop
    clear hS172
    exact thenN ⟨false,hF190,hS192,hm189⟩
   rw [hc160] at hF158
   have hm193:=ifNot hc160 hm141; clear hm141
   refine ev_runK 14 hF158 [0] (l':=[(0,.bool false)]) (w':=w142) (by kernel_rfl) ?_
   intro a195 hF194; clear hF158
   refine wpList_nil ?_
   have hS196:=hS148.drop
   clear hS148
   exact thenN ⟨false,hF194,hS196,hm193⟩
end Go.Proofs.YtaojmbkmicjecaaGreat
