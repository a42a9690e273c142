/- G12 -/
import Derived.Test.YtaojmbkmicjecaaGreatKG12b
import Derived.Test.YtaojmbkmicjecaaGreatKGView
import Derived.Deep.LoopGhost
import Derived.KernelRfl
namespace Go.Proofs.YtaojmbkmicjecaaGreat
open Go.RowKit
set_option linter.unusedVariables false
def law12_awake.j1 (y120:Bool):Option (Bool):=some (y120)
def law12_awake.m (k:Nat):Option (Bool):=bind4 (law12_made.m k [1] 1) fun s7 s8 L9 L10=>bind3 (law12_ch.m k s7 s8 L9 L10 0) fun x50 s51 s52=>bind2 (ring_Put.m k s51 x50 7) fun x60 s61=>bind3 (law12_ch.m k s61 s52 L9 L10 0) fun x74 s75 s76=>bind2 (ring_Put.m k s75 x74 8) fun x84 s85=>bind3 (law12_ch.m k s85 s76 L9 L10 0) fun x98 s99 s100=>bind3 (ring_Take.m k s99 x98) fun x108 x109 s110=>(if (x60 == 0) then (if (x84 == 9) then (if (x109 == 0) then law12_awake.j1 (x108 == 7) else law12_awake.j1 false) else law12_awake.j1 false) else law12_awake.j1 false)
set_option maxRecDepth 100000 in
set_option maxHeartbeats 1500000 in
theorem law12_awake.ok {w0 w:World} {F0:List Nat} {ps:List Piece} {k:Nat}  {r0:Bool} (hS:St w0 F0 (ps) w) (hm:law12_awake.m k=some r0) :
    Calls Tryz.prog 15 #[] w fun e w'=>e=.returned (.bool r0)∧St w0 F0 (ps) w':=by
 refine ev_enterL 48 [] Tryz.func15 rfl rfl (by simp) ?_
 intro a hF
 have hF0:Fr 48 a []:=hF; clear hF
 unfold law12_awake.m at hm
 refine wp_seq (wp_region_lit ?_)
 refine ev_runK 1 hF0 [] (l':=[]) (w':=w) (by kernel_rfl) ?_
 intro a2 hF1; clear hF0
 refine wpList_nil (thenN (wp_seq (wp_region_lit ?_)))
 refine ev_runs 1 hF1 (l':=[(6,.slice (some ⟨w.heap.size,0,none⟩) 1 1)]) (w':=w.alloc (.cells #[nI 1] 3)) (by kernel_rfl) ?_
 intro a4 hF3; clear hF1
 have hS6:St w0 F0 (RowP (.slice (some ⟨w.heap.size,0,none⟩) 1 1) [1]::ps) (w.alloc (.cells #[nI 1] 3)):=St.lit hS [1] (by unfold maxLen; simp)
 refine ev_call 14 #[.slice (some ⟨w.heap.size,0,none⟩) 1 1,nI 1] hF3 rfl rfl (by kernel_rfl) rfl (by kernel_rfl) (fun w=>by kernel_rfl) ?_
 obtain ⟨s7,s8,L9,L10,hx11,hm12⟩:=bind4E hm; clear hm
 refine (law12_made.ok hS6 hx11).mono ?_
 rintro _ w13 ⟨z17,z18,z19,z20,z21,z22,z23,z24,z25,z26,rfl,hS15⟩ a14 hF16; clear hF3 hS6
 have hS32:St w0 F0 (RowP (.slice (some ⟨w.heap.size,0,none⟩) 1 1) [1]::BlkP z17 32 #[nP z18 0,nP z20 0,z25,z26]::HeapP z18 z19 s7::RHeapP z20 z21 z22 z23 z24 s8::RowP (z25) L9::RowP (z26) L10::ps) w13:=hS15
 clear hS15
 obtain ⟨hl36,p33,c34,rfl,hp35⟩:=St.shape hS32 4 rfl
 obtain ⟨hl40,p37,c38,rfl,hp39⟩:=St.shape hS32 5 rfl
 refine ev_runK 1 hF16 [1] (l':=[(1,nP z17 0)]) (w':=w13) (by kernel_rfl) ?_
 intro a42 hF41; clear hF16
 refine wpList_nil ?_
 have hS43:=hS32.drop
 clear hS32
 refine thenN (wp_seq (wp_seq (wp_region_lit ?_)))
 refine ev_runK 2 hF41 [1,9] (l':=[(9,.bool false),(1,nP z17 0)]) (w':=w13) (by kernel_rfl) ?_
 intro a45 hF44; clear hF41
 refine wpList_nil (thenN ?_)
 refine ev_condF hF44 rfl rfl ?_
 refine wp_skip ?_
 have hF46:=hF44.keep [1]
 clear hF44
 refine thenN (wp_seq ?_)
 have hS47:=hS43.drew; clear hS43
 refine any_start (fun wS=>∃ qs,St w0 F0 (BlkP z17 32 #[nP z18 0,nP z20 0,.slice p33 L9.length c34,.slice p37 L10.length c38]::qs) wS) 8 #[false,false,false,false,false,false,false,false] (by kernel_rfl) (by kernel_rfl) (by kernel_rfl) ?_
 refine any_many 5 [(0,some (nP z17 0)),(1,some (nP z17 0)),(2,some (nP z17 0)),(3,some (nP z18 0)),(4,some (nP z17 0))] [1,2,13,14,15,16] #[true,true,true,true,true,false,false,false] (by rfl) hF46 (by kernel_rfl) (by kernel_rfl) (by exact ⟨fun wS hw=>by kernel_rfl,fun wS hw=>by kernel_rfl,fun wS hw=>by kernel_rfl,fun wS hw=>hw.elim fun qs hw=>run_loadV rfl rfl (run_loadS rfl rfl (hw.cell 0 rfl 0 rfl)),fun wS hw=>by kernel_rfl,trivial⟩) (fun _ _ _ _ _ h=>h) ⟨_,hS47⟩ (l':=[(14,nP z17 0),(13,nP z18 0),(1,nP z17 0)]) (by kernel_rfl) ?_
 intro a49 hF48; clear hF46
 refine any_call 5 #[true,true,true,true,true,true,false,false] 17 #[nP z17 0,nI 0] hF48 rfl (by kernel_rfl) rfl rfl (by kernel_rfl) rfl (by kernel_rfl) (fun w=>by kernel_rfl) (by kernel_rfl) ?_
 obtain ⟨x50,s51,s52,hx53,hm54⟩:=bind3E hm12; clear hm12
 refine (law12_ch.ok hS47 hx53).mono ?_
 rintro _ w55 ⟨rfl,hS57⟩; clear hS47
 refine ⟨⟨_,hS57⟩,?_⟩
 intro a56 hF58; clear hF48
 have hS59:=hS57.pick1
 clear hS57
 refine any_call 6 #[true,true,true,true,true,true,true,false] 16 #[nP z18 0,nI x50,nI 7] hF58 rfl (by kernel_rfl) rfl rfl (by kernel_rfl) rfl (by kernel_rfl) (fun w=>by kernel_rfl) (by kernel_rfl) ?_
 obtain ⟨x60,s61,hx62,hm63⟩:=bind2E hm54; clear hm54
 refine (ring_Put.ok hS59 hx62).mono ?_
 rintro _ w64 ⟨rfl,hS66⟩; clear hS59
 refine ⟨⟨_,hS66.pick1⟩,?_⟩
 intro a65 hF67; clear hF58
 refine any_many 1 [(7,some (nI x60))] [1,2] #[true,true,true,true,true,true,true,true] (by rfl) hF67 (by kernel_rfl) (by kernel_rfl) (by exact ⟨fun wS hw=>by kernel_rfl,trivial⟩) (fun _ _ _ _ _ h=>h) ⟨_,hS66.pick1⟩ (l':=[(2,nI x60),(1,nP z17 0)]) (by kernel_rfl) ?_
 intro a69 hF68; clear hF67
 refine any_done (by kernel_rfl) ?_
 refine thenN (wp_seq ?_)
 have hS70:=hS66.pick1
 clear hS66
 have hS71:=hS70.drew; clear hS70
 refine any_start (fun wS=>∃ qs,St w0 F0 (BlkP z17 32 #[nP z18 0,nP z20 0,.slice p33 L9.length c34,.slice p37 L10.length c38]::qs) wS) 8 #[false,false,false,false,false,false,false,false] (by kernel_rfl) (by kernel_rfl) (by kernel_rfl) ?_
 refine any_many 5 [(0,some (nP z17 0)),(1,some (nP z17 0)),(2,some (nP z17 0)),(3,some (nP z18 0)),(4,some (nP z17 0))] [1,2,3,20,21,22,23] #[true,true,true,true,true,false,false,false] (by rfl) hF68 (by kernel_rfl) (by kernel_rfl) (by exact ⟨fun wS hw=>by kernel_rfl,fun wS hw=>by kernel_rfl,fun wS hw=>by kernel_rfl,fun wS hw=>hw.elim fun qs hw=>run_loadV rfl rfl (run_loadS rfl rfl (hw.cell 0 rfl 0 rfl)),fun wS hw=>by kernel_rfl,trivial⟩) (fun _ _ _ _ _ h=>h) ⟨_,hS71⟩ (l':=[(21,nP z17 0),(20,nP z18 0),(2,nI x60),(1,nP z17 0)]) (by kernel_rfl) ?_
 intro a73 hF72; clear hF68
 refine any_call 5 #[true,true,true,true,true,true,false,false] 17 #[nP z17 0,nI 0] hF72 rfl (by kernel_rfl) rfl rfl (by kernel_rfl) rfl (by kernel_rfl) (fun w=>by kernel_rfl) (by kernel_rfl) ?_
 obtain ⟨x74,s75,s76,hx77,hm78⟩:=bind3E hm63; clear hm63
 refine (law12_ch.ok hS71 hx77).mono ?_
 rintro _ w79 ⟨rfl,hS81⟩; clear hS71
 refine ⟨⟨_,hS81⟩,?_⟩
 intro a80 hF82; clear hF72
 have hS83:=hS81.pick1
 clear hS81
 refine any_call 6 #[true,true,true,true,true,true,true,false] 16 #[nP z18 0,nI x74,nI 8] hF82 rfl (by kernel_rfl) rfl rfl (by kernel_rfl) rfl (by kernel_rfl) (fun w=>by kernel_rfl) (by kernel_rfl) ?_
 obtain ⟨x84,s85,hx86,hm87⟩:=bind2E hm78; clear hm78
 refine (ring_Put.ok hS83 hx86).mono ?_
 rintro _ w88 ⟨rfl,hS90⟩; clear hS83
 refine ⟨⟨_,hS90.pick1⟩,?_⟩
 intro a89 hF91; clear hF82
 refine any_many 1 [(7,some (nI x84))] [1,2,3] #[true,true,true,true,true,true,true,true] (by rfl) hF91 (by kernel_rfl) (by kernel_rfl) (by exact ⟨fun wS hw=>by kernel_rfl,trivial⟩) (fun _ _ _ _ _ h=>h) ⟨_,hS90.pick1⟩ (l':=[(3,nI x84),(2,nI x60),(1,nP z17 0)]) (by kernel_rfl) ?_
 intro a93 hF92; clear hF91
 refine any_done (by kernel_rfl) ?_
 refine thenN (wp_seq ?_)
 have hS94:=hS90.pick1
 clear hS90
 have hS95:=hS94.drew; clear hS94
 refine any_start (fun wS=>∃ qs,St w0 F0 (BlkP z17 32 #[nP z18 0,nP z20 0,.slice p33 L9.length c34,.slice p37 L10.length c38]::qs) wS) 12 #[false,false,false,false,false,false,false,false,false,false,false,false] (by kernel_rfl) (by kernel_rfl) (by kernel_rfl) ?_
 refine any_many 5 [(0,some (nP z17 0)),(1,some (nP z17 0)),(2,some (nP z17 0)),(3,some (nP z18 0)),(4,some (nP z17 0))] [2,3,4,5,24,28,29,30,31,32,33] #[true,true,true,true,true,false,false,false,false,false,false,false] (by rfl) hF92 (by kernel_rfl) (by kernel_rfl) (by exact ⟨fun wS hw=>by kernel_rfl,fun wS hw=>by kernel_rfl,fun wS hw=>by kernel_rfl,fun wS hw=>hw.elim fun qs hw=>run_loadV rfl rfl (run_loadS rfl rfl (hw.cell 0 rfl 0 rfl)),fun wS hw=>by kernel_rfl,trivial⟩) (fun _ _ _ _ _ h=>h) ⟨_,hS95⟩ (l':=[(29,nP z17 0),(28,nP z18 0),(3,nI x84),(2,nI x60)]) (by kernel_rfl) ?_
 intro a97 hF96; clear hF92
 refine any_call 5 #[true,true,true,true,true,true,false,false,false,false,false,false] 17 #[nP z17 0,nI 0] hF96 rfl (by kernel_rfl) rfl rfl (by kernel_rfl) rfl (by kernel_rfl) (fun w=>by kernel_rfl) (by kernel_rfl) ?_
 obtain ⟨x98,s99,s100,hx101,hm102⟩:=bind3E hm87; clear hm87
 refine (law12_ch.ok hS95 hx101).mono ?_
 rintro _ w103 ⟨rfl,hS105⟩; clear hS95
 refine ⟨⟨_,hS105⟩,?_⟩
 intro a104 hF106; clear hF96
 have hS107:=hS105.pick1
 clear hS105
 refine any_call 6 #[true,true,true,true,true,true,true,false,false,false,false,false] 18 #[nP z18 0,nI x98] hF106 rfl (by kernel_rfl) rfl rfl (by kernel_rfl) rfl (by kernel_rfl) (fun w=>by kernel_rfl) (by kernel_rfl) ?_
 obtain ⟨x108,x109,s110,hx111,hm112⟩:=bind3E hm102; clear hm102
 refine (ring_Take.ok hS107 hx111).mono ?_
 rintro _ w113 ⟨rfl,hS115⟩; clear hS107
 refine ⟨⟨_,hS115.pick1⟩,?_⟩
 intro a114 hF116; clear hF106
 refine any_many 5 [(7,some (.tuple #[nI x108,nI x109])),(8,some (nI x108)),(9,some (nI x109)),(10,some (nI x108)),(11,some (nI x109))] [2,3,4,5] #[true,true,true,true,true,true,true,true,true,true,true,true] (by rfl) hF116 (by kernel_rfl) (by kernel_rfl) (by exact ⟨fun wS hw=>by kernel_rfl,fun wS hw=>by kernel_rfl,fun wS hw=>by kernel_rfl,fun wS hw=>by kernel_rfl,fun wS hw=>by kernel_rfl,trivial⟩) (fun _ _ _ _ _ h=>h) ⟨_,hS115.pick1⟩ (l':=[(5,nI x109),(4,nI x108),(3,nI x84),(2,nI x60)]) (by kernel_rfl) ?_
 intro a118 hF117; clear hF116
 refine any_done (by kernel_rfl) ?_
 have hS119:=hS115.drop.drop.drop.drop.drop
 clear hS115
 refine thenN (wp_seq ?_)
 refine joinQ (fun aI wI=>∃ (y120:Bool),Fr 48 aI [(0,.bool (y120))]∧St w0 F0 (ps) wI∧law12_awake.j1 y120=some r0) ?_ ?_
 rotate_left
 · rintro a122 w123 ⟨y120,hF124,hS125,hm126⟩
   clear hF117 hS119 hm112
   unfold law12_awake.j1 at hm126
   refine thenN ?_
   refine wp_ret ?_
   obtain rfl:=Option.some.inj hm126
   refine ev_ret hF124 [0] (.bool (y120)) rfl rfl rfl ?_
   exact ⟨rfl,hS125⟩
 · skip
   refine wp_region_lit ?_
   refine ev_runs 3 hF117 (l':=[(36,.bool (x60 == 0)),(35,.bool (x60 == 0)),(34,nI x60),(5,nI x109),(4,nI x108),(3,nI x84),(2,nI x60)]) (w':=w113) (by kernel_rfl) ?_
   intro a130 hF129; clear hF117
   cases hc131:(x60 == 0)
   case true =>
    rw [hc131] at hF129
    have hm132:=ifYes hc131 hm112; clear hm112
    refine ev_runs 4 hF129 (l':=[(40,.bool (x84 == 9)),(39,.bool (x84 == 9)),(38,.bool (x84 == 9)),(37,nI x84),(36,.bool true),(35,.bool true),(34,nI x60),(5,nI x109),(4,nI x108),(3,nI x84),(2,nI x60)]) (w':=w113) (by kernel_rfl) ?_
    intro a134 hF133; clear hF129
    cases hc135:(x84 == 9)
    case true =>
     rw [hc135] at hF133
     have hm136:=ifYes hc135 hm132; clear hm132
     refine ev_runs 4 hF133 (l':=[(44,.bool (x109 == 0)),(43,.bool (x109 == 0)),(42,.bool (x109 == 0)),(41,nI x109),(40,.bool true),(39,.bool true),(38,.bool true),(37,nI x84),(36,.bool true),(35,.bool true),(34,nI x60),(5,nI x109),(4,nI x108),(3,nI x84),(2,nI x60)]) (w':=w113) (by kernel_rfl) ?_
     intro a138 hF137; clear hF133
     cases hc139:(x109 == 0)
     case true =>
      rw [hc139] at hF137
      have hm140:=ifYes hc139 hm136; clear hm136
      refine ev_runK 4 hF137 [0] (l':=[(0,.bool (x108 == 7))]) (w':=w113) (by kernel_rfl) ?_
      intro a142 hF141; clear hF137
      refine wpList_nil ?_
      exact thenN ⟨x108 == 7,hF141,hS119,hm140⟩
     rw [hc139] at hF137
     have hm143:=ifNot hc139 hm136; clear hm136
     refine ev_runK 4 hF137 [0] (l':=[(0,.bool false)]) (w':=w113) (by kernel_rfl) ?_
     intro a145 hF144; clear hF137
     refine wpList_nil ?_
     exact thenN ⟨false,hF144,hS119,hm143⟩
    rw [hc135] at hF133
    have hm146:=ifNot hc135 hm132; clear hm132
    refine ev_runK 8 hF133 [0] (l':=[(0,.bool false)]) (w':=w113) (by kernel_rfl) ?_
    intro a148 hF147; clear hF133
    refine wpList_nil ?_
    exact thenN ⟨false,hF147,hS119,hm146⟩
   rw [hc131] at hF129
   have hm149:=ifNot hc131 hm112; clear hm112
   refine ev_runK 12 hF129 [0] (l':=[(0,.bool false)]) (w':=w113) (by kernel_rfl) ?_
   intro a151 hF150; clear hF129
   refine wpList_nil ?_
   exact thenN ⟨false,hF150,hS119,hm149⟩
end Go.Proofs.YtaojmbkmicjecaaGreat
