/- GListRefuses ListRefusesW ListRefuses -/
import Derived.Test.YtaojmbkmicjecaaGreatKG13
import Derived.Test.YtaojmbkmicjecaaGreatKGView
import Derived.Deep.LoopGhost
import Derived.KernelRfl
import Derived.Test.YtaojmbkmicjecaaGreatRows
import Derived.WalkKit
import Derived.WalkSpells
import Derived.WalkLawsBesides
import Derived.ProofKit
import Derived.OpenShut
namespace Go.Proofs.YtaojmbkmicjecaaGreat
open Go.RowKit
set_option linter.unusedVariables false
def ListRefuses.j2 (y190:Bool):Option (Bool):=some (y190)
def ListRefuses.j1 (i0:Int) (i1:Bool) (k:Nat) (s7:HSt) (s8:HSt) (L9:List Int) (L10:List Int) (y44:Bool):Option (Bool):=(if (y44) then some (false) else bind3 (law13_ch.m k s7 s8 L9 L10 0) fun x62 s63 s64=>bind3 (law13_sudog.m k s63 s64 L9 L10 x62) fun x71 s72 s73=>bind3 (law13_gor.m k s72 s73 L9 L10 0) fun x87 s88 s89=>bind2 (list_Push.m k s88 x87 (i1) x71) fun x97 s98=>bind3 (law13_ch.m k s98 s89 L9 L10 0) fun x113 s114 s115=>bind3 (law13_gor.m k s114 s115 L9 L10 0) fun x122 s123 s124=>bind2 (list_Push.m k s123 x113 (i1) x122) fun x132 s133=>bind1 (list_PushN.m k i0 (i1) i0) fun x144=>bind2 (list_PopN.m k i0 (i1)) fun x155 y156=>bind3 (law13_gor.m k s133 s124 L9 L10 0) fun x169 s170 s171=>bind3 (list_Pop.m k s170 x169 (i1)) fun x179 y180 s181=>(if (x97 == 10) then (if (x132 == 10) then (if (x144 == 2) then (if (!(y156)) then (if (!(y180)) then bind1 (list_RemoveN.m k i0 (i1) i0) fun y223=>(if (!(y223)) then bind3 (law13_ch.m k s181 s171 L9 L10 0) fun x238 s239 s240=>bind2 (list_Remove.m k s239 x238 (i1) x71) fun y248 s249=>(if (!(y248)) then bind1 (list_AllN.m k i0 (i1)) fun L262=>(if ((L262.length:Int) == 0) then bind2 (list_All.m k s249 x71 (i1)) fun L282 s283=>ListRefuses.j2 ((L282.length:Int) == 0) else ListRefuses.j2 false) else ListRefuses.j2 false) else ListRefuses.j2 false) else ListRefuses.j2 false) else ListRefuses.j2 false) else ListRefuses.j2 false) else ListRefuses.j2 false) else ListRefuses.j2 false))
def ListRefuses.m (k:Nat) (i0:Int) (i1:Bool):Option (Bool):=bind4 (law13_made.m k [1] 1) fun s7 s8 L9 L10=>bind1 (law13_awake.m k ) fun y415=>(if (!(y415)) then ListRefuses.j1 i0 i1 k s7 s8 L9 L10 true else ListRefuses.j1 i0 i1 k s7 s8 L9 L10 false)
set_option maxRecDepth 100000 in
set_option maxHeartbeats 40000000 in
theorem ListRefuses.ok {w0 w:World} {F0:List Nat} {ps:List Piece} {k:Nat} {i0:Int} {i1:Bool} {r0:Bool} (hS:St w0 F0 (ps) w) (hm:ListRefuses.m k i0 i1=some r0) :
    Calls Tryz.prog 8 #[nI i0,.bool (i1)] w fun e w'=>e=.returned (.bool r0)∧St w0 F0 (ps) w':=by
 refine ev_enterL 121 [nI i0,.bool (i1)] Tryz.func8 rfl rfl (by simp) ?_
 intro a hF
 have hF0:Fr 121 a [(0,nI i0),(1,.bool (i1))]:=hF; clear hF
 unfold ListRefuses.m at hm
 refine wp_seq (wp_region_lit ?_)
 refine ev_runK 1 hF0 [0,1] (l':=[(0,nI i0),(1,.bool (i1))]) (w':=w) (by kernel_rfl) ?_
 intro a2 hF1; clear hF0
 refine wpList_nil (thenN (wp_seq (wp_region_lit ?_)))
 refine ev_runs 1 hF1 (l':=[(14,.slice (some ⟨w.heap.size,0,none⟩) 1 1),(0,nI i0),(1,.bool (i1))]) (w':=w.alloc (.cells #[nI 1] 3)) (by kernel_rfl) ?_
 intro a4 hF3; clear hF1
 have hS6:St w0 F0 (RowP (.slice (some ⟨w.heap.size,0,none⟩) 1 1) [1]::ps) (w.alloc (.cells #[nI 1] 3)):=St.lit hS [1] (by unfold maxLen; simp)
 refine ev_call 25 #[.slice (some ⟨w.heap.size,0,none⟩) 1 1,nI 1] hF3 rfl rfl (by kernel_rfl) rfl (by kernel_rfl) (fun w=>by kernel_rfl) ?_
 obtain ⟨s7,s8,L9,L10,hx11,hm12⟩:=bind4E hm; clear hm
 refine (law13_made.ok hS6 hx11).mono ?_
 rintro _ w13 ⟨z17,z18,z19,z20,z21,z22,z23,z24,z25,z26,rfl,hS15⟩ a14 hF16; clear hF3 hS6
 have hS32:St w0 F0 (RowP (.slice (some ⟨w.heap.size,0,none⟩) 1 1) [1]::BlkP z17 52 #[nP z18 0,nP z20 0,z25,z26]::HeapP z18 z19 s7::RHeapP z20 z21 z22 z23 z24 s8::RowP (z25) L9::RowP (z26) L10::ps) w13:=hS15
 clear hS15
 obtain ⟨hl36,p33,c34,rfl,hp35⟩:=St.shape hS32 4 rfl
 obtain ⟨hl40,p37,c38,rfl,hp39⟩:=St.shape hS32 5 rfl
 refine ev_runK 1 hF16 [0,1,5] (l':=[(5,nP z17 0),(0,nI i0),(1,.bool (i1))]) (w':=w13) (by kernel_rfl) ?_
 intro a42 hF41; clear hF16
 refine wpList_nil ?_
 have hS43:=hS32.drop
 clear hS32
 refine thenN (wp_seq (wp_seq ?_))
 refine joinQ (fun aI wI=>∃ (y44:Bool),Fr 121 aI [(21,.bool (y44)),(5,nP z17 0),(0,nI i0),(1,.bool (i1))]∧St w0 F0 (BlkP z17 52 #[nP z18 0,nP z20 0,.slice p33 L9.length c34,.slice p37 L10.length c38]::HeapP z18 z19 s7::RHeapP z20 z21 z22 z23 z24 s8::RowP (.slice p33 L9.length c34) L9::RowP (.slice p37 L10.length c38) L10::ps) wI∧ListRefuses.j1 i0 i1 k s7 s8 L9 L10 y44=some r0) ?_ ?_
 rotate_left
 · rintro a46 w47 ⟨y44,hF48,hS49,hm50⟩
   clear hF41 hS43 hm12
   unfold ListRefuses.j1 at hm50
   refine thenN ?_
   cases hc52:(y44)
   case true =>
    rw [hc52] at hF48
    have hm53:=ifYes hc52 hm50; clear hm50
    refine ev_condT hF48 rfl rfl ?_
    refine wp_seq (wp_region_lit ?_)
    refine ev_runK 1 hF48 [4] (l':=[(4,.bool false)]) (w':=w47) (by kernel_rfl) ?_
    intro a55 hF54; clear hF48
    refine wpList_nil ?_
    have hS56:=hS49.drop.drop.drop.drop.drop
    clear hS49
    refine thenN ?_
    refine wp_ret ?_
    refine thenR ?_
    obtain rfl:=Option.some.inj hm53
    refine ev_ret hF54 [4] (.bool false) rfl rfl rfl ?_
    exact ⟨rfl,hS56⟩
   rw [hc52] at hF48
   have hm58:=ifNot hc52 hm50; clear hm50
   refine ev_condF hF48 rfl rfl ?_
   refine wp_skip ?_
   have hF59:=hF48.keep [0,1,5]
   clear hF48
   refine thenN (wp_seq (wp_region_lit ?_))
   refine ev_runs 2 hF59 (l':=[(23,nP z17 0),(22,nP z17 0),(5,nP z17 0),(0,nI i0),(1,.bool (i1))]) (w':=w47) (by kernel_rfl) ?_
   intro a61 hF60; clear hF59
   refine ev_call 28 #[nP z17 0,nI 0] hF60 rfl rfl (by kernel_rfl) rfl (by kernel_rfl) (fun w=>by kernel_rfl) ?_
   obtain ⟨x62,s63,s64,hx65,hm66⟩:=bind3E hm58; clear hm58
   refine (law13_ch.ok hS49 hx65).mono ?_
   rintro _ w67 ⟨rfl,hS69⟩ a68 hF70; clear hF60 hS49
   refine ev_call 27 #[nP z17 0,nI x62] hF70 rfl rfl (by kernel_rfl) rfl (by kernel_rfl) (fun w=>by kernel_rfl) ?_
   obtain ⟨x71,s72,s73,hx74,hm75⟩:=bind3E hm66; clear hm66
   refine (law13_sudog.ok hS69 hx74).mono ?_
   rintro _ w76 ⟨rfl,hS78⟩ a77 hF79; clear hF70 hS69
   refine ev_runK 1 hF79 [0,1,5,6] (l':=[(6,nI x71),(5,nP z17 0),(0,nI i0),(1,.bool (i1))]) (w':=w76) (by kernel_rfl) ?_
   intro a81 hF80; clear hF79
   refine wpList_nil (thenN (wp_seq ?_))
   have hS82:=hS78.drew; clear hS78
   refine any_start (fun wS=>∃ qs,St w0 F0 (BlkP z17 52 #[nP z18 0,nP z20 0,.slice p33 L9.length c34,.slice p37 L10.length c38]::qs) wS) 10 #[false,false,false,false,false,false,false,false,false,false] (by kernel_rfl) (by kernel_rfl) (by kernel_rfl) ?_
   refine any_many 6 [(0,some (nP z17 0)),(1,some (nP z17 0)),(2,some (nP z17 0)),(3,some (nP z18 0)),(4,some (nP z17 0)),(6,some (.bool (i1)))] [0,1,5,6,7,29,30,31,32,33,34] #[true,true,true,true,true,false,true,false,false,false] (by rfl) hF80 (by kernel_rfl) (by kernel_rfl) (by exact ⟨fun wS hw=>by kernel_rfl,fun wS hw=>by kernel_rfl,fun wS hw=>by kernel_rfl,fun wS hw=>hw.elim fun qs hw=>run_loadV rfl rfl (run_loadS rfl rfl (hw.cell 0 rfl 0 rfl)),fun wS hw=>by kernel_rfl,fun wS hw=>by kernel_rfl,trivial⟩) (fun _ _ _ _ _ h=>h) ⟨_,hS82⟩ (l':=[(32,.bool (i1)),(30,nP z17 0),(29,nP z18 0),(6,nI x71),(5,nP z17 0),(0,nI i0),(1,.bool (i1))]) (by kernel_rfl) ?_
   intro a84 hF83; clear hF80
   refine any_many 1 [(7,some (nI x71))] [0,1,5,6,7,29,30,31,32,33,34] #[true,true,true,true,true,false,true,true,false,false] (by rfl) hF83 (by kernel_rfl) (by kernel_rfl) (by exact ⟨fun wS hw=>by kernel_rfl,trivial⟩) (fun _ _ _ _ _ h=>h) ⟨_,hS82⟩ (l':=[(33,nI x71),(32,.bool (i1)),(30,nP z17 0),(29,nP z18 0),(6,nI x71),(5,nP z17 0),(0,nI i0),(1,.bool (i1))]) (by kernel_rfl) ?_
   intro a86 hF85; clear hF83
   refine any_call 5 #[true,true,true,true,true,true,true,true,false,false] 31 #[nP z17 0,nI 0] hF85 rfl (by kernel_rfl) rfl rfl (by kernel_rfl) rfl (by kernel_rfl) (fun w=>by kernel_rfl) (by kernel_rfl) ?_
   obtain ⟨x87,s88,s89,hx90,hm91⟩:=bind3E hm75; clear hm75
   refine (law13_gor.ok hS82 hx90).mono ?_
   rintro _ w92 ⟨rfl,hS94⟩; clear hS82
   refine ⟨⟨_,hS94⟩,?_⟩
   intro a93 hF95; clear hF85
   have hS96:=hS94.pick1
   clear hS94
   refine any_call 8 #[true,true,true,true,true,true,true,true,true,false] 29 #[nP z18 0,nI x87,.bool (i1),nI x71] hF95 rfl (by kernel_rfl) rfl rfl (by kernel_rfl) rfl (by kernel_rfl) (fun w=>by kernel_rfl) (by kernel_rfl) ?_
   obtain ⟨x97,s98,hx99,hm100⟩:=bind2E hm91; clear hm91
   refine (list_Push.ok hS96 hx99).mono ?_
   rintro _ w101 ⟨rfl,hS103⟩; clear hS96
   refine ⟨⟨_,hS103.pick1⟩,?_⟩
   intro a102 hF104; clear hF95
   refine any_many 1 [(9,some (nI x97))] [0,1,5,6,7] #[true,true,true,true,true,true,true,true,true,true] (by rfl) hF104 (by kernel_rfl) (by kernel_rfl) (by exact ⟨fun wS hw=>by kernel_rfl,trivial⟩) (fun _ _ _ _ _ h=>h) ⟨_,hS103.pick1⟩ (l':=[(7,nI x97),(6,nI x71),(5,nP z17 0),(0,nI i0),(1,.bool (i1))]) (by kernel_rfl) ?_
   intro a106 hF105; clear hF104
   refine any_done (by kernel_rfl) ?_
   refine thenN (wp_seq ?_)
   have hS107:=hS103.pick1
   clear hS103
   have hS108:=hS107.drew; clear hS107
   refine any_start (fun wS=>∃ qs,St w0 F0 (BlkP z17 52 #[nP z18 0,nP z20 0,.slice p33 L9.length c34,.slice p37 L10.length c38]::qs) wS) 11 #[false,false,false,false,false,false,false,false,false,false,false] (by kernel_rfl) (by kernel_rfl) (by kernel_rfl) ?_
   refine any_many 6 [(0,some (nP z17 0)),(1,some (nP z17 0)),(2,some (nP z17 0)),(3,some (nP z18 0)),(4,some (nP z17 0)),(6,some (.bool (i1)))] [0,1,5,6,7,8,38,39,40,41,42,43,44] #[true,true,true,true,true,false,true,false,false,false,false] (by rfl) hF105 (by kernel_rfl) (by kernel_rfl) (by exact ⟨fun wS hw=>by kernel_rfl,fun wS hw=>by kernel_rfl,fun wS hw=>by kernel_rfl,fun wS hw=>hw.elim fun qs hw=>run_loadV rfl rfl (run_loadS rfl rfl (hw.cell 0 rfl 0 rfl)),fun wS hw=>by kernel_rfl,fun wS hw=>by kernel_rfl,trivial⟩) (fun _ _ _ _ _ h=>h) ⟨_,hS108⟩ (l':=[(41,.bool (i1)),(39,nP z17 0),(38,nP z18 0),(7,nI x97),(6,nI x71),(5,nP z17 0),(0,nI i0),(1,.bool (i1))]) (by kernel_rfl) ?_
   intro a110 hF109; clear hF105
   refine any_many 1 [(7,some (nP z17 0))] [0,1,5,6,7,8,38,39,40,41,42,43,44] #[true,true,true,true,true,false,true,true,false,false,false] (by rfl) hF109 (by kernel_rfl) (by kernel_rfl) (by exact ⟨fun wS hw=>by kernel_rfl,trivial⟩) (fun _ _ _ _ _ h=>h) ⟨_,hS108⟩ (l':=[(42,nP z17 0),(41,.bool (i1)),(39,nP z17 0),(38,nP z18 0),(7,nI x97),(6,nI x71),(5,nP z17 0),(0,nI i0),(1,.bool (i1))]) (by kernel_rfl) ?_
   intro a112 hF111; clear hF109
   refine any_call 5 #[true,true,true,true,true,true,true,true,false,false,false] 28 #[nP z17 0,nI 0] hF111 rfl (by kernel_rfl) rfl rfl (by kernel_rfl) rfl (by kernel_rfl) (fun w=>by kernel_rfl) (by kernel_rfl) ?_
   obtain ⟨x113,s114,s115,hx116,hm117⟩:=bind3E hm100; clear hm100
   refine (law13_ch.ok hS108 hx116).mono ?_
   rintro _ w118 ⟨rfl,hS120⟩; clear hS108
   refine ⟨⟨_,hS120⟩,?_⟩
   intro a119 hF121; clear hF111
   refine any_call 8 #[true,true,true,true,true,true,true,true,true,false,false] 31 #[nP z17 0,nI 0] hF121 rfl (by kernel_rfl) rfl rfl (by kernel_rfl) rfl (by kernel_rfl) (fun w=>by kernel_rfl) (by kernel_rfl) ?_
   obtain ⟨x122,s123,s124,hx125,hm126⟩:=bind3E hm117; clear hm117
   refine (law13_gor.ok hS120 hx125).mono ?_
   rintro _ w127 ⟨rfl,hS129⟩; clear hS120
   refine ⟨⟨_,hS129⟩,?_⟩
   intro a128 hF130; clear hF121
   have hS131:=hS129.pick1
   clear hS129
   refine any_call 9 #[true,true,true,true,true,true,true,true,true,true,false] 29 #[nP z18 0,nI x113,.bool (i1),nI x122] hF130 rfl (by kernel_rfl) rfl rfl (by kernel_rfl) rfl (by kernel_rfl) (fun w=>by kernel_rfl) (by kernel_rfl) ?_
   obtain ⟨x132,s133,hx134,hm135⟩:=bind2E hm126; clear hm126
   refine (list_Push.ok hS131 hx134).mono ?_
   rintro _ w136 ⟨rfl,hS138⟩; clear hS131
   refine ⟨⟨_,hS138.pick1⟩,?_⟩
   intro a137 hF139; clear hF130
   refine any_many 1 [(10,some (nI x132))] [0,1,5,6,7,8] #[true,true,true,true,true,true,true,true,true,true,true] (by rfl) hF139 (by kernel_rfl) (by kernel_rfl) (by exact ⟨fun wS hw=>by kernel_rfl,trivial⟩) (fun _ _ _ _ _ h=>h) ⟨_,hS138.pick1⟩ (l':=[(8,nI x132),(7,nI x97),(6,nI x71),(5,nP z17 0),(0,nI i0),(1,.bool (i1))]) (by kernel_rfl) ?_
   intro a141 hF140; clear hF139
   refine any_done (by kernel_rfl) ?_
   refine thenN (wp_seq (wp_region_lit ?_))
   refine ev_runs 3 hF140 (l':=[(47,nI i0),(46,.bool (i1)),(45,nI i0),(8,nI x132),(7,nI x97),(6,nI x71),(5,nP z17 0),(0,nI i0),(1,.bool (i1))]) (w':=w136) (by kernel_rfl) ?_
   intro a143 hF142; clear hF140
   refine ev_call 29 #[.pointer none,nI i0,.bool (i1),nI i0] hF142 rfl rfl (by kernel_rfl) rfl (by kernel_rfl) (fun w=>by kernel_rfl) ?_
   obtain ⟨x144,hx145,hm146⟩:=bind1E hm135; clear hm135
   refine (list_PushN.ok hS138 hx145).mono ?_
   rintro _ w147 ⟨rfl,hS149⟩ a148 hF150; clear hF142 hS138
   refine ev_runK 1 hF150 [0,1,5,6,7,8,9] (l':=[(9,nI x144),(8,nI x132),(7,nI x97),(6,nI x71),(5,nP z17 0),(0,nI i0),(1,.bool (i1))]) (w':=w147) (by kernel_rfl) ?_
   intro a152 hF151; clear hF150
   refine wpList_nil (thenN (wp_seq (wp_region_lit ?_)))
   refine ev_runs 2 hF151 (l':=[(51,.bool (i1)),(50,nI i0),(9,nI x144),(8,nI x132),(7,nI x97),(6,nI x71),(5,nP z17 0),(0,nI i0),(1,.bool (i1))]) (w':=w147) (by kernel_rfl) ?_
   intro a154 hF153; clear hF151
   refine ev_call 32 #[.pointer none,nI i0,.bool (i1)] hF153 rfl rfl (by kernel_rfl) rfl (by kernel_rfl) (fun w=>by kernel_rfl) ?_
   obtain ⟨x155,y156,hx157,hm158⟩:=bind2E hm146; clear hm146
   refine (list_PopN.ok hS149 hx157).mono ?_
   rintro _ w159 ⟨rfl,hS161⟩ a160 hF162; clear hF153 hS149
   refine ev_runK 5 hF162 [0,1,5,6,7,8,9,11] (l':=[(11,.bool (y156)),(9,nI x144),(8,nI x132),(7,nI x97),(6,nI x71),(5,nP z17 0),(0,nI i0),(1,.bool (i1))]) (w':=w159) (by kernel_rfl) ?_
   intro a164 hF163; clear hF162
   refine wpList_nil (thenN (wp_seq ?_))
   have hS165:=hS161.pick1
   clear hS161
   have hS166:=hS165.drew; clear hS165
   refine any_start (fun wS=>∃ qs,St w0 F0 (BlkP z17 52 #[nP z18 0,nP z20 0,.slice p33 L9.length c34,.slice p37 L10.length c38]::qs) wS) 13 #[false,false,false,false,false,false,false,false,false,false,false,false,false] (by kernel_rfl) (by kernel_rfl) (by kernel_rfl) ?_
   refine any_many 6 [(0,some (nP z17 0)),(1,some (nP z17 0)),(2,some (nP z17 0)),(3,some (nP z18 0)),(4,some (nP z17 0)),(6,some (.bool (i1)))] [0,1,5,6,7,8,9,11,13,55,59,60,61,62,63,64,65] #[true,true,true,true,true,false,true,false,false,false,false,false,false] (by rfl) hF163 (by kernel_rfl) (by kernel_rfl) (by exact ⟨fun wS hw=>by kernel_rfl,fun wS hw=>by kernel_rfl,fun wS hw=>by kernel_rfl,fun wS hw=>hw.elim fun qs hw=>run_loadV rfl rfl (run_loadS rfl rfl (hw.cell 0 rfl 0 rfl)),fun wS hw=>by kernel_rfl,fun wS hw=>by kernel_rfl,trivial⟩) (fun _ _ _ _ _ h=>h) ⟨_,hS166⟩ (l':=[(62,.bool (i1)),(60,nP z17 0),(59,nP z18 0),(11,.bool (y156)),(9,nI x144),(8,nI x132),(7,nI x97),(6,nI x71),(5,nP z17 0),(0,nI i0),(1,.bool (i1))]) (by kernel_rfl) ?_
   intro a168 hF167; clear hF163
   refine any_call 5 #[true,true,true,true,true,true,true,false,false,false,false,false,false] 31 #[nP z17 0,nI 0] hF167 rfl (by kernel_rfl) rfl rfl (by kernel_rfl) rfl (by kernel_rfl) (fun w=>by kernel_rfl) (by kernel_rfl) ?_
   obtain ⟨x169,s170,s171,hx172,hm173⟩:=bind3E hm158; clear hm158
   refine (law13_gor.ok hS166 hx172).mono ?_
   rintro _ w174 ⟨rfl,hS176⟩; clear hS166
   refine ⟨⟨_,hS176⟩,?_⟩
   intro a175 hF177; clear hF167
   have hS178:=hS176.pick1
   clear hS176
   refine any_call 7 #[true,true,true,true,true,true,true,true,false,false,false,false,false] 32 #[nP z18 0,nI x169,.bool (i1)] hF177 rfl (by kernel_rfl) rfl rfl (by kernel_rfl) rfl (by kernel_rfl) (fun w=>by kernel_rfl) (by kernel_rfl) ?_
   obtain ⟨x179,y180,s181,hx182,hm183⟩:=bind3E hm173; clear hm173
   refine (list_Pop.ok hS178 hx182).mono ?_
   rintro _ w184 ⟨rfl,hS186⟩; clear hS178
   refine ⟨⟨_,hS186.pick1⟩,?_⟩
   intro a185 hF187; clear hF177
   refine any_many 5 [(8,some (.tuple #[nI x179,.bool (y180)])),(9,some (nI x179)),(10,some (.bool (y180))),(11,some (nI x179)),(12,some (.bool (y180)))] [0,1,5,6,7,8,9,11,13] #[true,true,true,true,true,true,true,true,true,true,true,true,true] (by rfl) hF187 (by kernel_rfl) (by kernel_rfl) (by exact ⟨fun wS hw=>by kernel_rfl,fun wS hw=>by kernel_rfl,fun wS hw=>by kernel_rfl,fun wS hw=>by kernel_rfl,fun wS hw=>by kernel_rfl,trivial⟩) (fun _ _ _ _ _ h=>h) ⟨_,hS186.pick1⟩ (l':=[(13,.bool (y180)),(11,.bool (y156)),(9,nI x144),(8,nI x132),(7,nI x97),(6,nI x71),(5,nP z17 0),(0,nI i0),(1,.bool (i1))]) (by kernel_rfl) ?_
   intro a189 hF188; clear hF187
   refine any_done (by kernel_rfl) ?_
   refine thenN (wp_seq ?_)
   refine joinQ (fun aI wI=>∃ (y190:Bool),Fr 121 aI [(4,.bool (y190))]∧St w0 F0 (ps) wI∧ListRefuses.j2 y190=some r0) ?_ ?_
   rotate_left
   · rintro a192 w193 ⟨y190,hF194,hS195,hm196⟩
     clear hF188 hS186 hm183
     unfold ListRefuses.j2 at hm196
     refine thenN ?_
     refine wp_ret ?_
     obtain rfl:=Option.some.inj hm196
     refine ev_ret hF194 [4] (.bool (y190)) rfl rfl rfl ?_
     exact ⟨rfl,hS195⟩
   · skip
     have hS199:=hS186.pick1
     clear hS186
     have hS200:=hS199.drew; clear hS199
     refine any_start (fun wS=>∃ qs,St w0 F0 (BlkP z17 52 #[nP z18 0,nP z20 0,.slice p33 L9.length c34,.slice p37 L10.length c38]::qs) wS) 56 #[false,false,false,false,false,false,false,false,false,false,false,false,false,false,false,false,false,false,false,false,false,false,false,false,false,false,false,false,false,false,false,false,false,false,false,false,false,false,false,false,false,false,false,false,false,false,false,false,false,false,false,false,false,false,false,false] (by kernel_rfl) (by kernel_rfl) (by kernel_rfl) ?_
     refine any_many 3 [(0,some (nI x97)),(1,some (.bool (x97 == 10))),(2,some (.bool (x97 == 10)))] [0,1,4,5,6,8,9,11,13,68,69,70,71,72,73,74,75,76,77,78,79,80,81,82,83,84,85,86,87,88,89,90,91,92,93,94,95,96,97,98,99,100,101,102,103,104,105,106,107,108,109,110,111,112,113,114,115,116,117,118,119,120] #[true,true,true,false,false,false,false,false,false,false,false,false,false,false,false,false,false,false,false,false,false,false,false,false,false,false,false,false,false,false,false,false,false,false,false,false,false,false,false,false,false,false,false,false,false,false,false,false,false,false,false,false,false,false,false,false] (by rfl) hF188 (by kernel_rfl) (by kernel_rfl) (by exact ⟨fun wS hw=>by kernel_rfl,fun wS hw=>by kernel_rfl,fun wS hw=>by kernel_rfl,trivial⟩) (fun _ _ _ _ _ h=>h) ⟨_,hS200⟩ (l':=[(68,.bool (x97 == 10)),(13,.bool (y180)),(11,.bool (y156)),(9,nI x144),(8,nI x132),(6,nI x71),(5,nP z17 0),(0,nI i0),(1,.bool (i1))]) (by kernel_rfl) ?_
     intro a202 hF201; clear hF188
     cases hc203:(x97 == 10)
     case true =>
      rw [hc203] at hF201
      have hm204:=ifYes hc203 hm183; clear hm183
      refine any_many 4 [(3,some (nI x132)),(4,some (.bool (x132 == 10))),(5,some (.bool (x132 == 10))),(6,some (.bool (x132 == 10)))] [0,1,4,5,6,9,11,13,72,73,74,75,76,77,78,79,80,81,82,83,84,85,86,87,88,89,90,91,92,93,94,95,96,97,98,99,100,101,102,103,104,105,106,107,108,109,110,111,112,113,114,115,116,117,118,119,120] #[true,true,true,true,true,true,true,false,false,false,false,false,false,false,false,false,false,false,false,false,false,false,false,false,false,false,false,false,false,false,false,false,false,false,false,false,false,false,false,false,false,false,false,false,false,false,false,false,false,false,false,false,false,false,false,false] (by rfl) hF201 (by kernel_rfl) (by kernel_rfl) (by exact ⟨fun wS hw=>by kernel_rfl,fun wS hw=>by kernel_rfl,fun wS hw=>by kernel_rfl,fun wS hw=>by kernel_rfl,trivial⟩) (fun _ _ _ _ _ h=>h) ⟨_,hS200⟩ (l':=[(72,.bool (x132 == 10)),(13,.bool (y180)),(11,.bool (y156)),(9,nI x144),(6,nI x71),(5,nP z17 0),(0,nI i0),(1,.bool (i1))]) (by kernel_rfl) ?_
      intro a206 hF205; clear hF201
      cases hc207:(x132 == 10)
      case true =>
       rw [hc207] at hF205
       have hm208:=ifYes hc207 hm204; clear hm204
       refine any_many 4 [(7,some (nI x144)),(8,some (.bool (x144 == 2))),(9,some (.bool (x144 == 2))),(10,some (.bool (x144 == 2)))] [0,1,4,5,6,11,13,76,77,78,79,80,81,82,83,84,85,86,87,88,89,90,91,92,93,94,95,96,97,98,99,100,101,102,103,104,105,106,107,108,109,110,111,112,113,114,115,116,117,118,119,120] #[true,true,true,true,true,true,true,true,true,true,true,false,false,false,false,false,false,false,false,false,false,false,false,false,false,false,false,false,false,false,false,false,false,false,false,false,false,false,false,false,false,false,false,false,false,false,false,false,false,false,false,false,false,false,false,false] (by rfl) hF205 (by kernel_rfl) (by kernel_rfl) (by exact ⟨fun wS hw=>by kernel_rfl,fun wS hw=>by kernel_rfl,fun wS hw=>by kernel_rfl,fun wS hw=>by kernel_rfl,trivial⟩) (fun _ _ _ _ _ h=>h) ⟨_,hS200⟩ (l':=[(76,.bool (x144 == 2)),(13,.bool (y180)),(11,.bool (y156)),(6,nI x71),(5,nP z17 0),(0,nI i0),(1,.bool (i1))]) (by kernel_rfl) ?_
       intro a210 hF209; clear hF205
       cases hc211:(x144 == 2)
       case true =>
        rw [hc211] at hF209
        have hm212:=ifYes hc211 hm208; clear hm208
        refine any_many 4 [(11,some (.bool (y156))),(12,some (.bool (!(y156)))),(13,some (.bool (!(y156)))),(14,some (.bool (!(y156))))] [0,1,4,5,6,13,80,81,82,83,84,85,86,87,88,89,90,91,92,93,94,95,96,97,98,99,100,101,102,103,104,105,106,107,108,109,110,111,112,113,114,115,116,117,118,119,120] #[true,true,true,true,true,true,true,true,true,true,true,true,true,true,true,false,false,false,false,false,false,false,false,false,false,false,false,false,false,false,false,false,false,false,false,false,false,false,false,false,false,false,false,false,false,false,false,false,false,false,false,false,false,false,false,false] (by rfl) hF209 (by kernel_rfl) (by kernel_rfl) (by exact ⟨fun wS hw=>by kernel_rfl,fun wS hw=>by kernel_rfl,fun wS hw=>by kernel_rfl,fun wS hw=>by kernel_rfl,trivial⟩) (fun _ _ _ _ _ h=>h) ⟨_,hS200⟩ (l':=[(80,.bool (!(y156))),(13,.bool (y180)),(6,nI x71),(5,nP z17 0),(0,nI i0),(1,.bool (i1))]) (by kernel_rfl) ?_
        intro a214 hF213; clear hF209
        cases hc215:(!(y156))
        case true =>
         rw [hc215] at hF213
         have hm216:=ifYes hc215 hm212; clear hm212
         refine any_many 4 [(15,some (.bool (y180))),(16,some (.bool (!(y180)))),(17,some (.bool (!(y180)))),(18,some (.bool (!(y180))))] [0,1,4,5,6,84,85,86,87,88,89,90,91,92,93,94,95,96,97,98,99,100,101,102,103,104,105,106,107,108,109,110,111,112,113,114,115,116,117,118,119,120] #[true,true,true,true,true,true,true,true,true,true,true,true,true,true,true,true,true,true,true,false,false,false,false,false,false,false,false,false,false,false,false,false,false,false,false,false,false,false,false,false,false,false,false,false,false,false,false,false,false,false,false,false,false,false,false,false] (by rfl) hF213 (by kernel_rfl) (by kernel_rfl) (by exact ⟨fun wS hw=>by kernel_rfl,fun wS hw=>by kernel_rfl,fun wS hw=>by kernel_rfl,fun wS hw=>by kernel_rfl,trivial⟩) (fun _ _ _ _ _ h=>h) ⟨_,hS200⟩ (l':=[(84,.bool (!(y180))),(6,nI x71),(5,nP z17 0),(0,nI i0),(1,.bool (i1))]) (by kernel_rfl) ?_
         intro a218 hF217; clear hF213
         cases hc219:(!(y180))
         case true =>
          rw [hc219] at hF217
          have hm220:=ifYes hc219 hm216; clear hm216
          refine any_many 3 [(19,some (nI i0)),(20,some (.bool (i1))),(21,some (nI i0))] [0,1,4,5,6,84,85,86,87,88,89,90,91,92,93,94,95,96,97,98,99,100,101,102,103,104,105,106,107,108,109,110,111,112,113,114,115,116,117,118,119,120] #[true,true,true,true,true,true,true,true,true,true,true,true,true,true,true,true,true,true,true,true,true,true,false,false,false,false,false,false,false,false,false,false,false,false,false,false,false,false,false,false,false,false,false,false,false,false,false,false,false,false,false,false,false,false,false,false] (by rfl) hF217 (by kernel_rfl) (by kernel_rfl) (by exact ⟨fun wS hw=>by kernel_rfl,fun wS hw=>by kernel_rfl,fun wS hw=>by kernel_rfl,trivial⟩) (fun _ _ _ _ _ h=>h) ⟨_,hS200⟩ (l':=[(87,nI i0),(86,.bool (i1)),(85,nI i0),(84,.bool true),(6,nI x71),(5,nP z17 0),(0,nI i0),(1,.bool (i1))]) (by kernel_rfl) ?_
          intro a222 hF221; clear hF217
          refine any_call 22 #[true,true,true,true,true,true,true,true,true,true,true,true,true,true,true,true,true,true,true,true,true,true,true,false,false,false,false,false,false,false,false,false,false,false,false,false,false,false,false,false,false,false,false,false,false,false,false,false,false,false,false,false,false,false,false,false] 33 #[.pointer none,nI i0,.bool (i1),nI i0] hF221 rfl (by kernel_rfl) rfl rfl (by kernel_rfl) rfl (by kernel_rfl) (fun w=>by kernel_rfl) (by kernel_rfl) ?_
          obtain ⟨y223,hx224,hm225⟩:=bind1E hm220; clear hm220
          refine (list_RemoveN.ok hS200 hx224).mono ?_
          rintro _ w226 ⟨rfl,hS228⟩; clear hS200
          refine ⟨⟨_,hS228⟩,?_⟩
          intro a227 hF229; clear hF221
          refine any_many 3 [(23,some (.bool (!(y223)))),(24,some (.bool (!(y223)))),(25,some (.bool (!(y223))))] [0,1,4,5,6,91,92,93,94,95,96,97,98,99,100,101,102,103,104,105,106,107,108,109,110,111,112,113,114,115,116,117,118,119,120] #[true,true,true,true,true,true,true,true,true,true,true,true,true,true,true,true,true,true,true,true,true,true,true,true,true,true,false,false,false,false,false,false,false,false,false,false,false,false,false,false,false,false,false,false,false,false,false,false,false,false,false,false,false,false,false,false] (by rfl) hF229 (by kernel_rfl) (by kernel_rfl) (by exact ⟨fun wS hw=>by kernel_rfl,fun wS hw=>by kernel_rfl,fun wS hw=>by kernel_rfl,trivial⟩) (fun _ _ _ _ _ h=>h) ⟨_,hS228⟩ (l':=[(91,.bool (!(y223))),(6,nI x71),(5,nP z17 0),(0,nI i0),(1,.bool (i1))]) (by kernel_rfl) ?_
          intro a231 hF230; clear hF229
          cases hc232:(!(y223))
          case true =>
           rw [hc232] at hF230
           have hm233:=ifYes hc232 hm225; clear hm225
           refine any_many 6 [(26,some (nP z17 0)),(27,some (nP z17 0)),(28,some (nP z17 0)),(29,some (nP z18 0)),(30,some (nP z17 0)),(32,some (.bool (i1)))] [0,1,4,5,6,91,95,96,97,98,99,100,101,102,103,104,105,106,107,108,109,110,111,112,113,114,115,116,117,118,119,120] #[true,true,true,true,true,true,true,true,true,true,true,true,true,true,true,true,true,true,true,true,true,true,true,true,true,true,true,true,true,true,true,false,true,false,false,false,false,false,false,false,false,false,false,false,false,false,false,false,false,false,false,false,false,false,false,false] (by rfl) hF230 (by kernel_rfl) (by kernel_rfl) (by exact ⟨fun wS hw=>by kernel_rfl,fun wS hw=>by kernel_rfl,fun wS hw=>by kernel_rfl,fun wS hw=>hw.elim fun qs hw=>run_loadV rfl rfl (run_loadS rfl rfl (hw.cell 0 rfl 0 rfl)),fun wS hw=>by kernel_rfl,fun wS hw=>by kernel_rfl,trivial⟩) (fun _ _ _ _ _ h=>h) ⟨_,hS228⟩ (l':=[(98,.bool (i1)),(96,nP z17 0),(95,nP z18 0),(91,.bool true),(6,nI x71),(5,nP z17 0),(0,nI i0),(1,.bool (i1))]) (by kernel_rfl) ?_
           intro a235 hF234; clear hF230
           refine any_many 1 [(33,some (nI x71))] [0,1,4,5,6,91,95,96,97,98,99,100,101,102,103,104,105,106,107,108,109,110,111,112,113,114,115,116,117,118,119,120] #[true,true,true,true,true,true,true,true,true,true,true,true,true,true,true,true,true,true,true,true,true,true,true,true,true,true,true,true,true,true,true,false,true,true,false,false,false,false,false,false,false,false,false,false,false,false,false,false,false,false,false,false,false,false,false,false] (by rfl) hF234 (by kernel_rfl) (by kernel_rfl) (by exact ⟨fun wS hw=>by kernel_rfl,trivial⟩) (fun _ _ _ _ _ h=>h) ⟨_,hS228⟩ (l':=[(99,nI x71),(98,.bool (i1)),(96,nP z17 0),(95,nP z18 0),(91,.bool true),(6,nI x71),(5,nP z17 0),(0,nI i0),(1,.bool (i1))]) (by kernel_rfl) ?_
           intro a237 hF236; clear hF234
           refine any_call 31 #[true,true,true,true,true,true,true,true,true,true,true,true,true,true,true,true,true,true,true,true,true,true,true,true,true,true,true,true,true,true,true,true,true,true,false,false,false,false,false,false,false,false,false,false,false,false,false,false,false,false,false,false,false,false,false,false] 28 #[nP z17 0,nI 0] hF236 rfl (by kernel_rfl) rfl rfl (by kernel_rfl) rfl (by kernel_rfl) (fun w=>by kernel_rfl) (by kernel_rfl) ?_
           obtain ⟨x238,s239,s240,hx241,hm242⟩:=bind3E hm233; clear hm233
           refine (law13_ch.ok hS228 hx241).mono ?_
           rintro _ w243 ⟨rfl,hS245⟩; clear hS228
           refine ⟨⟨_,hS245⟩,?_⟩
           intro a244 hF246; clear hF236
           have hS247:=hS245.pick1
           clear hS245
           refine any_call 34 #[true,true,true,true,true,true,true,true,true,true,true,true,true,true,true,true,true,true,true,true,true,true,true,true,true,true,true,true,true,true,true,true,true,true,true,false,false,false,false,false,false,false,false,false,false,false,false,false,false,false,false,false,false,false,false,false] 33 #[nP z18 0,nI x238,.bool (i1),nI x71] hF246 rfl (by kernel_rfl) rfl rfl (by kernel_rfl) rfl (by kernel_rfl) (fun w=>by kernel_rfl) (by kernel_rfl) ?_
           obtain ⟨y248,s249,hx250,hm251⟩:=bind2E hm242; clear hm242
           refine (list_Remove.ok hS247 hx250).mono ?_
           rintro _ w252 ⟨rfl,hS254⟩; clear hS247
           refine ⟨⟨_,hS254.pick1⟩,?_⟩
           intro a253 hF255; clear hF246
           refine any_many 3 [(35,some (.bool (!(y248)))),(36,some (.bool (!(y248)))),(37,some (.bool (!(y248))))] [0,1,4,5,6,103,104,105,106,107,108,109,110,111,112,113,114,115,116,117,118,119,120] #[true,true,true,true,true,true,true,true,true,true,true,true,true,true,true,true,true,true,true,true,true,true,true,true,true,true,true,true,true,true,true,true,true,true,true,true,true,true,false,false,false,false,false,false,false,false,false,false,false,false,false,false,false,false,false,false] (by rfl) hF255 (by kernel_rfl) (by kernel_rfl) (by exact ⟨fun wS hw=>by kernel_rfl,fun wS hw=>by kernel_rfl,fun wS hw=>by kernel_rfl,trivial⟩) (fun _ _ _ _ _ h=>h) ⟨_,hS254.pick1⟩ (l':=[(103,.bool (!(y248))),(6,nI x71),(5,nP z17 0),(0,nI i0),(1,.bool (i1))]) (by kernel_rfl) ?_
           intro a257 hF256; clear hF255
           cases hc258:(!(y248))
           case true =>
            rw [hc258] at hF256
            have hm259:=ifYes hc258 hm251; clear hm251
            refine any_many 2 [(38,some (nI i0)),(39,some (.bool (i1)))] [1,4,5,6,103,104,105,106,107,108,109,110,111,112,113,114,115,116,117,118,119,120] #[true,true,true,true,true,true,true,true,true,true,true,true,true,true,true,true,true,true,true,true,true,true,true,true,true,true,true,true,true,true,true,true,true,true,true,true,true,true,true,true,false,false,false,false,false,false,false,false,false,false,false,false,false,false,false,false] (by rfl) hF256 (by kernel_rfl) (by kernel_rfl) (by exact ⟨fun wS hw=>by kernel_rfl,fun wS hw=>by kernel_rfl,trivial⟩) (fun _ _ _ _ _ h=>h) ⟨_,hS254.pick1⟩ (l':=[(105,.bool (i1)),(104,nI i0),(103,.bool true),(6,nI x71),(5,nP z17 0),(1,.bool (i1))]) (by kernel_rfl) ?_
            intro a261 hF260; clear hF256
            refine any_call 40 #[true,true,true,true,true,true,true,true,true,true,true,true,true,true,true,true,true,true,true,true,true,true,true,true,true,true,true,true,true,true,true,true,true,true,true,true,true,true,true,true,true,false,false,false,false,false,false,false,false,false,false,false,false,false,false,false] 34 #[.pointer none,nI i0,.bool (i1)] hF260 rfl (by kernel_rfl) rfl rfl (by kernel_rfl) rfl (by kernel_rfl) (fun w=>by kernel_rfl) (by kernel_rfl) ?_
            obtain ⟨L262,hx263,hm264⟩:=bind1E hm259; clear hm259
            refine (list_AllN.ok hS254 hx263).mono ?_
            rintro _ w265 ⟨z269,rfl,hS267⟩; clear hS254
            obtain ⟨hl274,p271,c272,rfl,hp273⟩:=St.shape hS267 0 rfl
            refine ⟨⟨_,hS267.pick2⟩,?_⟩
            intro a266 hF268; clear hF260
            refine any_many 4 [(41,some (nI ((L262.length:Int)))),(42,some (.bool ((L262.length:Int) == 0))),(43,some (.bool ((L262.length:Int) == 0))),(44,some (.bool ((L262.length:Int) == 0)))] [1,4,5,6,110,111,112,113,114,115,116,117,118,119,120] #[true,true,true,true,true,true,true,true,true,true,true,true,true,true,true,true,true,true,true,true,true,true,true,true,true,true,true,true,true,true,true,true,true,true,true,true,true,true,true,true,true,true,true,true,true,false,false,false,false,false,false,false,false,false,false,false] (by rfl) hF268 (by kernel_rfl) (by kernel_rfl) (by exact ⟨fun wS hw=>by kernel_rfl,fun wS hw=>by kernel_rfl,fun wS hw=>by kernel_rfl,fun wS hw=>by kernel_rfl,trivial⟩) (fun _ _ _ _ _ h=>h) ⟨_,hS267.pick2⟩ (l':=[(110,.bool ((L262.length:Int) == 0)),(6,nI x71),(5,nP z17 0),(1,.bool (i1))]) (by kernel_rfl) ?_
            intro a276 hF275; clear hF268
            cases hc277:((L262.length:Int) == 0)
            case true =>
             rw [hc277] at hF275
             have hm278:=ifYes hc277 hm264; clear hm264
             refine any_many 6 [(45,some (nP z17 0)),(46,some (nP z17 0)),(47,some (nP z17 0)),(48,some (nP z18 0)),(49,some (nI x71)),(50,some (.bool (i1)))] [4,110,114,115,116,117,118,119,120] #[true,true,true,true,true,true,true,true,true,true,true,true,true,true,true,true,true,true,true,true,true,true,true,true,true,true,true,true,true,true,true,true,true,true,true,true,true,true,true,true,true,true,true,true,true,true,true,true,true,true,true,false,false,false,false,false] (by rfl) hF275 (by kernel_rfl) (by kernel_rfl) (by exact ⟨fun wS hw=>by kernel_rfl,fun wS hw=>by kernel_rfl,fun wS hw=>by kernel_rfl,fun wS hw=>hw.elim fun qs hw=>run_loadV rfl rfl (run_loadS rfl rfl (hw.cell 0 rfl 0 rfl)),fun wS hw=>by kernel_rfl,fun wS hw=>by kernel_rfl,trivial⟩) (fun _ _ _ _ _ h=>h) ⟨_,hS267.pick2⟩ (l':=[(116,.bool (i1)),(115,nI x71),(114,nP z18 0),(110,.bool true)]) (by kernel_rfl) ?_
             intro a280 hF279; clear hF275
             have hS281:=hS267.pick1
             clear hS267
             refine any_call 51 #[true,true,true,true,true,true,true,true,true,true,true,true,true,true,true,true,true,true,true,true,true,true,true,true,true,true,true,true,true,true,true,true,true,true,true,true,true,true,true,true,true,true,true,true,true,true,true,true,true,true,true,true,false,false,false,false] 34 #[nP z18 0,nI x71,.bool (i1)] hF279 rfl (by kernel_rfl) rfl rfl (by kernel_rfl) rfl (by kernel_rfl) (fun w=>by kernel_rfl) (by kernel_rfl) ?_
             obtain ⟨L282,s283,hx284,hm285⟩:=bind2E hm278; clear hm278
             refine (list_All.ok hS281 hx284).mono ?_
             rintro _ w286 ⟨z290,rfl,hS288⟩; clear hS281
             obtain ⟨hl295,p292,c293,rfl,hp294⟩:=St.shape hS288 1 rfl
             refine ⟨⟨_,hS288.pick3⟩,?_⟩
             intro a287 hF289; clear hF279
             refine any_many 4 [(52,some (nI ((L282.length:Int)))),(53,some (.bool ((L282.length:Int) == 0))),(54,some (.bool ((L282.length:Int) == 0))),(55,some (.bool ((L282.length:Int) == 0)))] [4] #[true,true,true,true,true,true,true,true,true,true,true,true,true,true,true,true,true,true,true,true,true,true,true,true,true,true,true,true,true,true,true,true,true,true,true,true,true,true,true,true,true,true,true,true,true,true,true,true,true,true,true,true,true,true,true,true] (by rfl) hF289 (by kernel_rfl) (by kernel_rfl) (by exact ⟨fun wS hw=>by kernel_rfl,fun wS hw=>by kernel_rfl,fun wS hw=>by kernel_rfl,fun wS hw=>by kernel_rfl,trivial⟩) (fun _ _ _ _ _ h=>h) ⟨_,hS288.pick3⟩ (l':=[(4,.bool ((L282.length:Int) == 0))]) (by kernel_rfl) ?_
             intro a297 hF296; clear hF289
             refine any_done (by kernel_rfl) ?_
             have hS298:=hS288.drop.drop.drop.drop.drop.drop.drop
             clear hS288
             exact thenN ⟨(L282.length:Int) == 0,hF296,hS298,hm285⟩
            rw [hc277] at hF275
            have hm299:=ifNot hc277 hm264; clear hm264
            refine any_many 6 [(45,none),(46,none),(47,none),(48,none),(49,none),(50,none)] [4,110,114,115,116,117,118,119,120] #[true,true,true,true,true,true,true,true,true,true,true,true,true,true,true,true,true,true,true,true,true,true,true,true,true,true,true,true,true,true,true,true,true,true,true,true,true,true,true,true,true,true,true,true,true,true,true,true,true,true,true,false,false,false,false,false] (by rfl) hF275 (by kernel_rfl) (by kernel_rfl) (by exact (And.intro trivial (And.intro trivial (And.intro trivial (And.intro trivial (And.intro trivial (And.intro trivial trivial))))))) (fun _ _ _ _ _ h=>h) ⟨_,hS267.pick2⟩ (l':=[(116,.tuple #[]),(115,.tuple #[]),(114,.tuple #[]),(110,.bool false)]) (by kernel_rfl) ?_
            intro a301 hF300; clear hF275
            refine any_many 5 [(51,none),(52,none),(53,none),(54,some (.bool false)),(55,some (.bool false))] [4] #[true,true,true,true,true,true,true,true,true,true,true,true,true,true,true,true,true,true,true,true,true,true,true,true,true,true,true,true,true,true,true,true,true,true,true,true,true,true,true,true,true,true,true,true,true,true,true,true,true,true,true,true,true,true,true,true] (by rfl) hF300 (by kernel_rfl) (by kernel_rfl) (by exact (And.intro trivial (And.intro trivial (And.intro trivial (And.intro (fun wS hw=>by kernel_rfl) (And.intro (fun wS hw=>by kernel_rfl) trivial)))))) (fun _ _ _ _ _ h=>h) ⟨_,hS267.pick2⟩ (l':=[(4,.bool false)]) (by kernel_rfl) ?_
            intro a303 hF302; clear hF300
            refine any_done (by kernel_rfl) ?_
            have hS304:=hS267.drop.drop.drop.drop.drop.drop
            clear hS267
            exact thenN ⟨false,hF302,hS304,hm299⟩
           rw [hc258] at hF256
           have hm305:=ifNot hc258 hm251; clear hm251
           refine any_many 6 [(38,none),(39,none),(40,none),(41,none),(42,none),(43,some (.bool false))] [1,4,5,6,109,110,111,112,113,114,115,116,117,118,119,120] #[true,true,true,true,true,true,true,true,true,true,true,true,true,true,true,true,true,true,true,true,true,true,true,true,true,true,true,true,true,true,true,true,true,true,true,true,true,true,true,true,true,true,true,true,false,false,false,false,false,false,false,false,false,false,false,false] (by rfl) hF256 (by kernel_rfl) (by kernel_rfl) (by exact (And.intro trivial (And.intro trivial (And.intro trivial (And.intro trivial (And.intro trivial (And.intro (fun wS hw=>by kernel_rfl) trivial))))))) (fun _ _ _ _ _ h=>h) ⟨_,hS254.pick1⟩ (l':=[(109,.bool false),(6,nI x71),(5,nP z17 0),(1,.bool (i1))]) (by kernel_rfl) ?_
           intro a307 hF306; clear hF256
           refine any_many 6 [(44,some (.bool false)),(45,none),(46,none),(47,none),(48,none),(49,none)] [1,4,110,114,115,116,117,118,119,120] #[true,true,true,true,true,true,true,true,true,true,true,true,true,true,true,true,true,true,true,true,true,true,true,true,true,true,true,true,true,true,true,true,true,true,true,true,true,true,true,true,true,true,true,true,true,true,true,true,true,true,false,false,false,false,false,false] (by rfl) hF306 (by kernel_rfl) (by kernel_rfl) (by exact (And.intro (fun wS hw=>by kernel_rfl) (And.intro trivial (And.intro trivial (And.intro trivial (And.intro trivial (And.intro trivial trivial))))))) (fun _ _ _ _ _ h=>h) ⟨_,hS254.pick1⟩ (l':=[(115,.tuple #[]),(114,.tuple #[]),(110,.bool false),(1,.bool (i1))]) (by kernel_rfl) ?_
           intro a309 hF308; clear hF306
           refine any_many 6 [(50,none),(51,none),(52,none),(53,none),(54,some (.bool false)),(55,some (.bool false))] [4] #[true,true,true,true,true,true,true,true,true,true,true,true,true,true,true,true,true,true,true,true,true,true,true,true,true,true,true,true,true,true,true,true,true,true,true,true,true,true,true,true,true,true,true,true,true,true,true,true,true,true,true,true,true,true,true,true] (by rfl) hF308 (by kernel_rfl) (by kernel_rfl) (by exact (And.intro trivial (And.intro trivial (And.intro trivial (And.intro trivial (And.intro (fun wS hw=>by kernel_rfl) (And.intro (fun wS hw=>by kernel_rfl) trivial))))))) (fun _ _ _ _ _ h=>h) ⟨_,hS254.pick1⟩ (l':=[(4,.bool false)]) (by kernel_rfl) ?_
           intro a311 hF310; clear hF308
           refine any_done (by kernel_rfl) ?_
           have hS312:=hS254.drop.drop.drop.drop.drop
           clear hS254
           exact thenN ⟨false,hF310,hS312,hm305⟩
          rw [hc232] at hF230
          have hm313:=ifNot hc232 hm225; clear hm225
          refine any_many 6 [(26,none),(27,none),(28,none),(29,none),(30,none),(31,none)] [0,1,4,5,6,91,95,97,98,99,100,101,102,103,104,105,106,107,108,109,110,111,112,113,114,115,116,117,118,119,120] #[true,true,true,true,true,true,true,true,true,true,true,true,true,true,true,true,true,true,true,true,true,true,true,true,true,true,true,true,true,true,true,true,false,false,false,false,false,false,false,false,false,false,false,false,false,false,false,false,false,false,false,false,false,false,false,false] (by rfl) hF230 (by kernel_rfl) (by kernel_rfl) (by exact (And.intro trivial (And.intro trivial (And.intro trivial (And.intro trivial (And.intro trivial (And.intro trivial trivial))))))) (fun _ _ _ _ _ h=>h) ⟨_,hS228⟩ (l':=[(97,.tuple #[]),(95,.tuple #[]),(91,.bool false),(6,nI x71),(5,nP z17 0),(0,nI i0),(1,.bool (i1))]) (by kernel_rfl) ?_
          intro a315 hF314; clear hF230
          refine any_many 6 [(32,none),(33,none),(34,none),(35,none),(36,some (.bool false)),(37,some (.bool false))] [0,1,4,5,6,103,104,105,106,107,108,109,110,111,112,113,114,115,116,117,118,119,120] #[true,true,true,true,true,true,true,true,true,true,true,true,true,true,true,true,true,true,true,true,true,true,true,true,true,true,true,true,true,true,true,true,true,true,true,true,true,true,false,false,false,false,false,false,false,false,false,false,false,false,false,false,false,false,false,false] (by rfl) hF314 (by kernel_rfl) (by kernel_rfl) (by exact (And.intro trivial (And.intro trivial (And.intro trivial (And.intro trivial (And.intro (fun wS hw=>by kernel_rfl) (And.intro (fun wS hw=>by kernel_rfl) trivial))))))) (fun _ _ _ _ _ h=>h) ⟨_,hS228⟩ (l':=[(103,.bool false),(6,nI x71),(5,nP z17 0),(0,nI i0),(1,.bool (i1))]) (by kernel_rfl) ?_
          intro a317 hF316; clear hF314
          refine any_many 6 [(38,none),(39,none),(40,none),(41,none),(42,none),(43,some (.bool false))] [1,4,5,6,109,110,111,112,113,114,115,116,117,118,119,120] #[true,true,true,true,true,true,true,true,true,true,true,true,true,true,true,true,true,true,true,true,true,true,true,true,true,true,true,true,true,true,true,true,true,true,true,true,true,true,true,true,true,true,true,true,false,false,false,false,false,false,false,false,false,false,false,false] (by rfl) hF316 (by kernel_rfl) (by kernel_rfl) (by exact (And.intro trivial (And.intro trivial (And.intro trivial (And.intro trivial (And.intro trivial (And.intro (fun wS hw=>by kernel_rfl) trivial))))))) (fun _ _ _ _ _ h=>h) ⟨_,hS228⟩ (l':=[(109,.bool false),(6,nI x71),(5,nP z17 0),(1,.bool (i1))]) (by kernel_rfl) ?_
          intro a319 hF318; clear hF316
          refine any_many 6 [(44,some (.bool false)),(45,none),(46,none),(47,none),(48,none),(49,none)] [1,4,110,114,115,116,117,118,119,120] #[true,true,true,true,true,true,true,true,true,true,true,true,true,true,true,true,true,true,true,true,true,true,true,true,true,true,true,true,true,true,true,true,true,true,true,true,true,true,true,true,true,true,true,true,true,true,true,true,true,true,false,false,false,false,false,false] (by rfl) hF318 (by kernel_rfl) (by kernel_rfl) (by exact (And.intro (fun wS hw=>by kernel_rfl) (And.intro trivial (And.intro trivial (And.intro trivial (And.intro trivial (And.intro trivial trivial))))))) (fun _ _ _ _ _ h=>h) ⟨_,hS228⟩ (l':=[(115,.tuple #[]),(114,.tuple #[]),(110,.bool false),(1,.bool (i1))]) (by kernel_rfl) ?_
          intro a321 hF320; clear hF318
          refine any_many 6 [(50,none),(51,none),(52,none),(53,none),(54,some (.bool false)),(55,some (.bool false))] [4] #[true,true,true,true,true,true,true,true,true,true,true,true,true,true,true,true,true,true,true,true,true,true,true,true,true,true,true,true,true,true,true,true,true,true,true,true,true,true,true,true,true,true,true,true,true,true,true,true,true,true,true,true,true,true,true,true] (by rfl) hF320 (by kernel_rfl) (by kernel_rfl) (by exact (And.intro trivial (And.intro trivial (And.intro trivial (And.intro trivial (And.intro (fun wS hw=>by kernel_rfl) (And.intro (fun wS hw=>by kernel_rfl) trivial))))))) (fun _ _ _ _ _ h=>h) ⟨_,hS228⟩ (l':=[(4,.bool false)]) (by kernel_rfl) ?_
          intro a323 hF322; clear hF320
          refine any_done (by kernel_rfl) ?_
          have hS324:=hS228.drop.drop.drop.drop.drop
          clear hS228
          exact thenN ⟨false,hF322,hS324,hm313⟩
         rw [hc219] at hF217
         have hm325:=ifNot hc219 hm216; clear hm216
         refine any_many 6 [(19,none),(20,none),(21,none),(22,none),(23,none),(24,some (.bool false))] [0,1,4,5,6,90,91,92,93,94,95,96,97,98,99,100,101,102,103,104,105,106,107,108,109,110,111,112,113,114,115,116,117,118,119,120] #[true,true,true,true,true,true,true,true,true,true,true,true,true,true,true,true,true,true,true,true,true,true,true,true,true,false,false,false,false,false,false,false,false,false,false,false,false,false,false,false,false,false,false,false,false,false,false,false,false,false,false,false,false,false,false,false] (by rfl) hF217 (by kernel_rfl) (by kernel_rfl) (by exact (And.intro trivial (And.intro trivial (And.intro trivial (And.intro trivial (And.intro trivial (And.intro (fun wS hw=>by kernel_rfl) trivial))))))) (fun _ _ _ _ _ h=>h) ⟨_,hS200⟩ (l':=[(90,.bool false),(6,nI x71),(5,nP z17 0),(0,nI i0),(1,.bool (i1))]) (by kernel_rfl) ?_
         intro a327 hF326; clear hF217
         refine any_many 6 [(25,some (.bool false)),(26,none),(27,none),(28,none),(29,none),(30,none)] [0,1,4,5,6,91,95,96,97,98,99,100,101,102,103,104,105,106,107,108,109,110,111,112,113,114,115,116,117,118,119,120] #[true,true,true,true,true,true,true,true,true,true,true,true,true,true,true,true,true,true,true,true,true,true,true,true,true,true,true,true,true,true,true,false,false,false,false,false,false,false,false,false,false,false,false,false,false,false,false,false,false,false,false,false,false,false,false,false] (by rfl) hF326 (by kernel_rfl) (by kernel_rfl) (by exact (And.intro (fun wS hw=>by kernel_rfl) (And.intro trivial (And.intro trivial (And.intro trivial (And.intro trivial (And.intro trivial trivial))))))) (fun _ _ _ _ _ h=>h) ⟨_,hS200⟩ (l':=[(96,.tuple #[]),(95,.tuple #[]),(91,.bool false),(6,nI x71),(5,nP z17 0),(0,nI i0),(1,.bool (i1))]) (by kernel_rfl) ?_
         intro a329 hF328; clear hF326
         refine any_many 6 [(31,none),(32,none),(33,none),(34,none),(35,none),(36,some (.bool false))] [0,1,4,5,6,102,103,104,105,106,107,108,109,110,111,112,113,114,115,116,117,118,119,120] #[true,true,true,true,true,true,true,true,true,true,true,true,true,true,true,true,true,true,true,true,true,true,true,true,true,true,true,true,true,true,true,true,true,true,true,true,true,false,false,false,false,false,false,false,false,false,false,false,false,false,false,false,false,false,false,false] (by rfl) hF328 (by kernel_rfl) (by kernel_rfl) (by exact (And.intro trivial (And.intro trivial (And.intro trivial (And.intro trivial (And.intro trivial (And.intro (fun wS hw=>by kernel_rfl) trivial))))))) (fun _ _ _ _ _ h=>h) ⟨_,hS200⟩ (l':=[(102,.bool false),(6,nI x71),(5,nP z17 0),(0,nI i0),(1,.bool (i1))]) (by kernel_rfl) ?_
         intro a331 hF330; clear hF328
         refine any_many 6 [(37,some (.bool false)),(38,none),(39,none),(40,none),(41,none),(42,none)] [1,4,5,6,103,108,109,110,111,112,113,114,115,116,117,118,119,120] #[true,true,true,true,true,true,true,true,true,true,true,true,true,true,true,true,true,true,true,true,true,true,true,true,true,true,true,true,true,true,true,true,true,true,true,true,true,true,true,true,true,true,true,false,false,false,false,false,false,false,false,false,false,false,false,false] (by rfl) hF330 (by kernel_rfl) (by kernel_rfl) (by exact (And.intro (fun wS hw=>by kernel_rfl) (And.intro trivial (And.intro trivial (And.intro trivial (And.intro trivial (And.intro trivial trivial))))))) (fun _ _ _ _ _ h=>h) ⟨_,hS200⟩ (l':=[(108,.tuple #[]),(103,.bool false),(6,nI x71),(5,nP z17 0),(1,.bool (i1))]) (by kernel_rfl) ?_
         intro a333 hF332; clear hF330
         refine any_many 6 [(43,some (.bool false)),(44,some (.bool false)),(45,none),(46,none),(47,none),(48,none)] [1,4,6,110,114,115,116,117,118,119,120] #[true,true,true,true,true,true,true,true,true,true,true,true,true,true,true,true,true,true,true,true,true,true,true,true,true,true,true,true,true,true,true,true,true,true,true,true,true,true,true,true,true,true,true,true,true,true,true,true,true,false,false,false,false,false,false,false] (by rfl) hF332 (by kernel_rfl) (by kernel_rfl) (by exact (And.intro (fun wS hw=>by kernel_rfl) (And.intro (fun wS hw=>by kernel_rfl) (And.intro trivial (And.intro trivial (And.intro trivial (And.intro trivial trivial))))))) (fun _ _ _ _ _ h=>h) ⟨_,hS200⟩ (l':=[(114,.tuple #[]),(110,.bool false),(6,nI x71),(1,.bool (i1))]) (by kernel_rfl) ?_
         intro a335 hF334; clear hF332
         refine any_many 6 [(49,none),(50,none),(51,none),(52,none),(53,none),(54,some (.bool false))] [4,120] #[true,true,true,true,true,true,true,true,true,true,true,true,true,true,true,true,true,true,true,true,true,true,true,true,true,true,true,true,true,true,true,true,true,true,true,true,true,true,true,true,true,true,true,true,true,true,true,true,true,true,true,true,true,true,true,false] (by rfl) hF334 (by kernel_rfl) (by kernel_rfl) (by exact (And.intro trivial (And.intro trivial (And.intro trivial (And.intro trivial (And.intro trivial (And.intro (fun wS hw=>by kernel_rfl) trivial))))))) (fun _ _ _ _ _ h=>h) ⟨_,hS200⟩ (l':=[(120,.bool false)]) (by kernel_rfl) ?_
         intro a337 hF336; clear hF334
         refine any_many 1 [(55,some (.bool false))] [4] #[true,true,true,true,true,true,true,true,true,true,true,true,true,true,true,true,true,true,true,true,true,true,true,true,true,true,true,true,true,true,true,true,true,true,true,true,true,true,true,true,true,true,true,true,true,true,true,true,true,true,true,true,true,true,true,true] (by rfl) hF336 (by kernel_rfl) (by kernel_rfl) (by exact ⟨fun wS hw=>by kernel_rfl,trivial⟩) (fun _ _ _ _ _ h=>h) ⟨_,hS200⟩ (l':=[(4,.bool false)]) (by kernel_rfl) ?_
         intro a339 hF338; clear hF336
         refine any_done (by kernel_rfl) ?_
         have hS340:=hS200.drop.drop.drop.drop.drop
         clear hS200
         exact thenN ⟨false,hF338,hS340,hm325⟩
        rw [hc215] at hF213
        have hm341:=ifNot hc215 hm212; clear hm212
        refine any_many 6 [(15,none),(16,none),(17,some (.bool false)),(18,some (.bool false)),(19,none),(20,none)] [0,1,4,5,6,84,85,86,87,88,89,90,91,92,93,94,95,96,97,98,99,100,101,102,103,104,105,106,107,108,109,110,111,112,113,114,115,116,117,118,119,120] #[true,true,true,true,true,true,true,true,true,true,true,true,true,true,true,true,true,true,true,true,true,false,false,false,false,false,false,false,false,false,false,false,false,false,false,false,false,false,false,false,false,false,false,false,false,false,false,false,false,false,false,false,false,false,false,false] (by rfl) hF213 (by kernel_rfl) (by kernel_rfl) (by exact (And.intro trivial (And.intro trivial (And.intro (fun wS hw=>by kernel_rfl) (And.intro (fun wS hw=>by kernel_rfl) (And.intro trivial (And.intro trivial trivial))))))) (fun _ _ _ _ _ h=>h) ⟨_,hS200⟩ (l':=[(86,.tuple #[]),(85,.tuple #[]),(84,.bool false),(6,nI x71),(5,nP z17 0),(0,nI i0),(1,.bool (i1))]) (by kernel_rfl) ?_
        intro a343 hF342; clear hF213
        refine any_many 6 [(21,none),(22,none),(23,none),(24,some (.bool false)),(25,some (.bool false)),(26,none)] [0,1,4,5,6,91,92,93,94,95,96,97,98,99,100,101,102,103,104,105,106,107,108,109,110,111,112,113,114,115,116,117,118,119,120] #[true,true,true,true,true,true,true,true,true,true,true,true,true,true,true,true,true,true,true,true,true,true,true,true,true,true,true,false,false,false,false,false,false,false,false,false,false,false,false,false,false,false,false,false,false,false,false,false,false,false,false,false,false,false,false,false] (by rfl) hF342 (by kernel_rfl) (by kernel_rfl) (by exact (And.intro trivial (And.intro trivial (And.intro trivial (And.intro (fun wS hw=>by kernel_rfl) (And.intro (fun wS hw=>by kernel_rfl) (And.intro trivial trivial))))))) (fun _ _ _ _ _ h=>h) ⟨_,hS200⟩ (l':=[(92,.tuple #[]),(91,.bool false),(6,nI x71),(5,nP z17 0),(0,nI i0),(1,.bool (i1))]) (by kernel_rfl) ?_
        intro a345 hF344; clear hF342
        refine any_many 6 [(27,none),(28,none),(29,none),(30,none),(31,none),(32,none)] [0,1,4,5,6,91,95,97,98,99,100,101,102,103,104,105,106,107,108,109,110,111,112,113,114,115,116,117,118,119,120] #[true,true,true,true,true,true,true,true,true,true,true,true,true,true,true,true,true,true,true,true,true,true,true,true,true,true,true,true,true,true,true,true,true,false,false,false,false,false,false,false,false,false,false,false,false,false,false,false,false,false,false,false,false,false,false,false] (by rfl) hF344 (by kernel_rfl) (by kernel_rfl) (by exact (And.intro trivial (And.intro trivial (And.intro trivial (And.intro trivial (And.intro trivial (And.intro trivial trivial))))))) (fun _ _ _ _ _ h=>h) ⟨_,hS200⟩ (l':=[(98,.tuple #[]),(97,.tuple #[]),(95,.tuple #[]),(91,.bool false),(6,nI x71),(5,nP z17 0),(0,nI i0),(1,.bool (i1))]) (by kernel_rfl) ?_
        intro a347 hF346; clear hF344
        refine any_many 6 [(33,none),(34,none),(35,none),(36,some (.bool false)),(37,some (.bool false)),(38,none)] [1,4,5,6,103,104,105,106,107,108,109,110,111,112,113,114,115,116,117,118,119,120] #[true,true,true,true,true,true,true,true,true,true,true,true,true,true,true,true,true,true,true,true,true,true,true,true,true,true,true,true,true,true,true,true,true,true,true,true,true,true,true,false,false,false,false,false,false,false,false,false,false,false,false,false,false,false,false,false] (by rfl) hF346 (by kernel_rfl) (by kernel_rfl) (by exact (And.intro trivial (And.intro trivial (And.intro trivial (And.intro (fun wS hw=>by kernel_rfl) (And.intro (fun wS hw=>by kernel_rfl) (And.intro trivial trivial))))))) (fun _ _ _ _ _ h=>h) ⟨_,hS200⟩ (l':=[(104,.tuple #[]),(103,.bool false),(6,nI x71),(5,nP z17 0),(1,.bool (i1))]) (by kernel_rfl) ?_
        intro a349 hF348; clear hF346
        refine any_many 6 [(39,none),(40,none),(41,none),(42,none),(43,some (.bool false)),(44,some (.bool false))] [1,4,5,6,110,111,112,113,114,115,116,117,118,119,120] #[true,true,true,true,true,true,true,true,true,true,true,true,true,true,true,true,true,true,true,true,true,true,true,true,true,true,true,true,true,true,true,true,true,true,true,true,true,true,true,true,true,true,true,true,true,false,false,false,false,false,false,false,false,false,false,false] (by rfl) hF348 (by kernel_rfl) (by kernel_rfl) (by exact (And.intro trivial (And.intro trivial (And.intro trivial (And.intro trivial (And.intro (fun wS hw=>by kernel_rfl) (And.intro (fun wS hw=>by kernel_rfl) trivial))))))) (fun _ _ _ _ _ h=>h) ⟨_,hS200⟩ (l':=[(110,.bool false),(6,nI x71),(5,nP z17 0),(1,.bool (i1))]) (by kernel_rfl) ?_
        intro a351 hF350; clear hF348
        refine any_many 6 [(45,none),(46,none),(47,none),(48,none),(49,none),(50,none)] [4,110,114,115,116,117,118,119,120] #[true,true,true,true,true,true,true,true,true,true,true,true,true,true,true,true,true,true,true,true,true,true,true,true,true,true,true,true,true,true,true,true,true,true,true,true,true,true,true,true,true,true,true,true,true,true,true,true,true,true,true,false,false,false,false,false] (by rfl) hF350 (by kernel_rfl) (by kernel_rfl) (by exact (And.intro trivial (And.intro trivial (And.intro trivial (And.intro trivial (And.intro trivial (And.intro trivial trivial))))))) (fun _ _ _ _ _ h=>h) ⟨_,hS200⟩ (l':=[(116,.tuple #[]),(115,.tuple #[]),(114,.tuple #[]),(110,.bool false)]) (by kernel_rfl) ?_
        intro a353 hF352; clear hF350
        refine any_many 5 [(51,none),(52,none),(53,none),(54,some (.bool false)),(55,some (.bool false))] [4] #[true,true,true,true,true,true,true,true,true,true,true,true,true,true,true,true,true,true,true,true,true,true,true,true,true,true,true,true,true,true,true,true,true,true,true,true,true,true,true,true,true,true,true,true,true,true,true,true,true,true,true,true,true,true,true,true] (by rfl) hF352 (by kernel_rfl) (by kernel_rfl) (by exact (And.intro trivial (And.intro trivial (And.intro trivial (And.intro (fun wS hw=>by kernel_rfl) (And.intro (fun wS hw=>by kernel_rfl) trivial)))))) (fun _ _ _ _ _ h=>h) ⟨_,hS200⟩ (l':=[(4,.bool false)]) (by kernel_rfl) ?_
        intro a355 hF354; clear hF352
        refine any_done (by kernel_rfl) ?_
        have hS356:=hS200.drop.drop.drop.drop.drop
        clear hS200
        exact thenN ⟨false,hF354,hS356,hm341⟩
       rw [hc211] at hF209
       have hm357:=ifNot hc211 hm208; clear hm208
       refine any_many 6 [(11,none),(12,none),(13,some (.bool false)),(14,some (.bool false)),(15,none),(16,none)] [0,1,4,5,6,80,82,83,84,85,86,87,88,89,90,91,92,93,94,95,96,97,98,99,100,101,102,103,104,105,106,107,108,109,110,111,112,113,114,115,116,117,118,119,120] #[true,true,true,true,true,true,true,true,true,true,true,true,true,true,true,true,true,false,false,false,false,false,false,false,false,false,false,false,false,false,false,false,false,false,false,false,false,false,false,false,false,false,false,false,false,false,false,false,false,false,false,false,false,false,false,false] (by rfl) hF209 (by kernel_rfl) (by kernel_rfl) (by exact (And.intro trivial (And.intro trivial (And.intro (fun wS hw=>by kernel_rfl) (And.intro (fun wS hw=>by kernel_rfl) (And.intro trivial (And.intro trivial trivial))))))) (fun _ _ _ _ _ h=>h) ⟨_,hS200⟩ (l':=[(82,.tuple #[]),(80,.bool false),(6,nI x71),(5,nP z17 0),(0,nI i0),(1,.bool (i1))]) (by kernel_rfl) ?_
       intro a359 hF358; clear hF209
       refine any_many 6 [(17,some (.bool false)),(18,some (.bool false)),(19,none),(20,none),(21,none),(22,none)] [0,1,4,5,6,84,88,89,90,91,92,93,94,95,96,97,98,99,100,101,102,103,104,105,106,107,108,109,110,111,112,113,114,115,116,117,118,119,120] #[true,true,true,true,true,true,true,true,true,true,true,true,true,true,true,true,true,true,true,true,true,true,true,false,false,false,false,false,false,false,false,false,false,false,false,false,false,false,false,false,false,false,false,false,false,false,false,false,false,false,false,false,false,false,false,false] (by rfl) hF358 (by kernel_rfl) (by kernel_rfl) (by exact (And.intro (fun wS hw=>by kernel_rfl) (And.intro (fun wS hw=>by kernel_rfl) (And.intro trivial (And.intro trivial (And.intro trivial (And.intro trivial trivial))))))) (fun _ _ _ _ _ h=>h) ⟨_,hS200⟩ (l':=[(88,.tuple #[]),(84,.bool false),(6,nI x71),(5,nP z17 0),(0,nI i0),(1,.bool (i1))]) (by kernel_rfl) ?_
       intro a361 hF360; clear hF358
       refine any_many 6 [(23,none),(24,some (.bool false)),(25,some (.bool false)),(26,none),(27,none),(28,none)] [0,1,4,5,6,91,94,95,96,97,98,99,100,101,102,103,104,105,106,107,108,109,110,111,112,113,114,115,116,117,118,119,120] #[true,true,true,true,true,true,true,true,true,true,true,true,true,true,true,true,true,true,true,true,true,true,true,true,true,true,true,true,true,false,false,false,false,false,false,false,false,false,false,false,false,false,false,false,false,false,false,false,false,false,false,false,false,false,false,false] (by rfl) hF360 (by kernel_rfl) (by kernel_rfl) (by exact (And.intro trivial (And.intro (fun wS hw=>by kernel_rfl) (And.intro (fun wS hw=>by kernel_rfl) (And.intro trivial (And.intro trivial (And.intro trivial trivial))))))) (fun _ _ _ _ _ h=>h) ⟨_,hS200⟩ (l':=[(94,.tuple #[]),(91,.bool false),(6,nI x71),(5,nP z17 0),(0,nI i0),(1,.bool (i1))]) (by kernel_rfl) ?_
       intro a363 hF362; clear hF360
       refine any_many 6 [(29,none),(30,none),(31,none),(32,none),(33,none),(34,none)] [0,1,4,5,6,91,100,101,102,103,104,105,106,107,108,109,110,111,112,113,114,115,116,117,118,119,120] #[true,true,true,true,true,true,true,true,true,true,true,true,true,true,true,true,true,true,true,true,true,true,true,true,true,true,true,true,true,true,true,true,true,true,true,false,false,false,false,false,false,false,false,false,false,false,false,false,false,false,false,false,false,false,false,false] (by rfl) hF362 (by kernel_rfl) (by kernel_rfl) (by exact (And.intro trivial (And.intro trivial (And.intro trivial (And.intro trivial (And.intro trivial (And.intro trivial trivial))))))) (fun _ _ _ _ _ h=>h) ⟨_,hS200⟩ (l':=[(100,.tuple #[]),(91,.bool false),(6,nI x71),(5,nP z17 0),(0,nI i0),(1,.bool (i1))]) (by kernel_rfl) ?_
       intro a365 hF364; clear hF362
       refine any_many 6 [(35,none),(36,some (.bool false)),(37,some (.bool false)),(38,none),(39,none),(40,none)] [1,4,5,6,103,106,107,108,109,110,111,112,113,114,115,116,117,118,119,120] #[true,true,true,true,true,true,true,true,true,true,true,true,true,true,true,true,true,true,true,true,true,true,true,true,true,true,true,true,true,true,true,true,true,true,true,true,true,true,true,true,true,false,false,false,false,false,false,false,false,false,false,false,false,false,false,false] (by rfl) hF364 (by kernel_rfl) (by kernel_rfl) (by exact (And.intro trivial (And.intro (fun wS hw=>by kernel_rfl) (And.intro (fun wS hw=>by kernel_rfl) (And.intro trivial (And.intro trivial (And.intro trivial trivial))))))) (fun _ _ _ _ _ h=>h) ⟨_,hS200⟩ (l':=[(106,.tuple #[]),(103,.bool false),(6,nI x71),(5,nP z17 0),(1,.bool (i1))]) (by kernel_rfl) ?_
       intro a367 hF366; clear hF364
       refine any_many 6 [(41,none),(42,none),(43,some (.bool false)),(44,some (.bool false)),(45,none),(46,none)] [1,4,6,110,112,113,114,115,116,117,118,119,120] #[true,true,true,true,true,true,true,true,true,true,true,true,true,true,true,true,true,true,true,true,true,true,true,true,true,true,true,true,true,true,true,true,true,true,true,true,true,true,true,true,true,true,true,true,true,true,true,false,false,false,false,false,false,false,false,false] (by rfl) hF366 (by kernel_rfl) (by kernel_rfl) (by exact (And.intro trivial (And.intro trivial (And.intro (fun wS hw=>by kernel_rfl) (And.intro (fun wS hw=>by kernel_rfl) (And.intro trivial (And.intro trivial trivial))))))) (fun _ _ _ _ _ h=>h) ⟨_,hS200⟩ (l':=[(112,.tuple #[]),(110,.bool false),(6,nI x71),(1,.bool (i1))]) (by kernel_rfl) ?_
       intro a369 hF368; clear hF366
       refine any_many 6 [(47,none),(48,none),(49,none),(50,none),(51,none),(52,none)] [4,110,118,119,120] #[true,true,true,true,true,true,true,true,true,true,true,true,true,true,true,true,true,true,true,true,true,true,true,true,true,true,true,true,true,true,true,true,true,true,true,true,true,true,true,true,true,true,true,true,true,true,true,true,true,true,true,true,true,false,false,false] (by rfl) hF368 (by kernel_rfl) (by kernel_rfl) (by exact (And.intro trivial (And.intro trivial (And.intro trivial (And.intro trivial (And.intro trivial (And.intro trivial trivial))))))) (fun _ _ _ _ _ h=>h) ⟨_,hS200⟩ (l':=[(118,.tuple #[]),(110,.bool false)]) (by kernel_rfl) ?_
       intro a371 hF370; clear hF368
       refine any_many 3 [(53,none),(54,some (.bool false)),(55,some (.bool false))] [4] #[true,true,true,true,true,true,true,true,true,true,true,true,true,true,true,true,true,true,true,true,true,true,true,true,true,true,true,true,true,true,true,true,true,true,true,true,true,true,true,true,true,true,true,true,true,true,true,true,true,true,true,true,true,true,true,true] (by rfl) hF370 (by kernel_rfl) (by kernel_rfl) (by exact (And.intro trivial (And.intro (fun wS hw=>by kernel_rfl) (And.intro (fun wS hw=>by kernel_rfl) trivial)))) (fun _ _ _ _ _ h=>h) ⟨_,hS200⟩ (l':=[(4,.bool false)]) (by kernel_rfl) ?_
       intro a373 hF372; clear hF370
       refine any_done (by kernel_rfl) ?_
       have hS374:=hS200.drop.drop.drop.drop.drop
       clear hS200
       exact thenN ⟨false,hF372,hS374,hm357⟩
      rw [hc207] at hF205
      have hm375:=ifNot hc207 hm204; clear hm204
      refine any_many 6 [(7,none),(8,none),(9,some (.bool false)),(10,some (.bool false)),(11,none),(12,none)] [0,1,4,5,6,13,76,78,79,80,81,82,83,84,85,86,87,88,89,90,91,92,93,94,95,96,97,98,99,100,101,102,103,104,105,106,107,108,109,110,111,112,113,114,115,116,117,118,119,120] #[true,true,true,true,true,true,true,true,true,true,true,true,true,false,false,false,false,false,false,false,false,false,false,false,false,false,false,false,false,false,false,false,false,false,false,false,false,false,false,false,false,false,false,false,false,false,false,false,false,false,false,false,false,false,false,false] (by rfl) hF205 (by kernel_rfl) (by kernel_rfl) (by exact (And.intro trivial (And.intro trivial (And.intro (fun wS hw=>by kernel_rfl) (And.intro (fun wS hw=>by kernel_rfl) (And.intro trivial (And.intro trivial trivial))))))) (fun _ _ _ _ _ h=>h) ⟨_,hS200⟩ (l':=[(78,.tuple #[]),(76,.bool false),(13,.bool (y180)),(6,nI x71),(5,nP z17 0),(0,nI i0),(1,.bool (i1))]) (by kernel_rfl) ?_
      intro a377 hF376; clear hF205
      refine any_many 6 [(13,some (.bool false)),(14,some (.bool false)),(15,none),(16,none),(17,some (.bool false)),(18,some (.bool false))] [0,1,4,5,6,84,85,86,87,88,89,90,91,92,93,94,95,96,97,98,99,100,101,102,103,104,105,106,107,108,109,110,111,112,113,114,115,116,117,118,119,120] #[true,true,true,true,true,true,true,true,true,true,true,true,true,true,true,true,true,true,true,false,false,false,false,false,false,false,false,false,false,false,false,false,false,false,false,false,false,false,false,false,false,false,false,false,false,false,false,false,false,false,false,false,false,false,false,false] (by rfl) hF376 (by kernel_rfl) (by kernel_rfl) (by exact (And.intro (fun wS hw=>by kernel_rfl) (And.intro (fun wS hw=>by kernel_rfl) (And.intro trivial (And.intro trivial (And.intro (fun wS hw=>by kernel_rfl) (And.intro (fun wS hw=>by kernel_rfl) trivial))))))) (fun _ _ _ _ _ h=>h) ⟨_,hS200⟩ (l':=[(84,.bool false),(6,nI x71),(5,nP z17 0),(0,nI i0),(1,.bool (i1))]) (by kernel_rfl) ?_
      intro a379 hF378; clear hF376
      refine any_many 6 [(19,none),(20,none),(21,none),(22,none),(23,none),(24,some (.bool false))] [0,1,4,5,6,90,91,92,93,94,95,96,97,98,99,100,101,102,103,104,105,106,107,108,109,110,111,112,113,114,115,116,117,118,119,120] #[true,true,true,true,true,true,true,true,true,true,true,true,true,true,true,true,true,true,true,true,true,true,true,true,true,false,false,false,false,false,false,false,false,false,false,false,false,false,false,false,false,false,false,false,false,false,false,false,false,false,false,false,false,false,false,false] (by rfl) hF378 (by kernel_rfl) (by kernel_rfl) (by exact (And.intro trivial (And.intro trivial (And.intro trivial (And.intro trivial (And.intro trivial (And.intro (fun wS hw=>by kernel_rfl) trivial))))))) (fun _ _ _ _ _ h=>h) ⟨_,hS200⟩ (l':=[(90,.bool false),(6,nI x71),(5,nP z17 0),(0,nI i0),(1,.bool (i1))]) (by kernel_rfl) ?_
      intro a381 hF380; clear hF378
      refine any_many 6 [(25,some (.bool false)),(26,none),(27,none),(28,none),(29,none),(30,none)] [0,1,4,5,6,91,95,96,97,98,99,100,101,102,103,104,105,106,107,108,109,110,111,112,113,114,115,116,117,118,119,120] #[true,true,true,true,true,true,true,true,true,true,true,true,true,true,true,true,true,true,true,true,true,true,true,true,true,true,true,true,true,true,true,false,false,false,false,false,false,false,false,false,false,false,false,false,false,false,false,false,false,false,false,false,false,false,false,false] (by rfl) hF380 (by kernel_rfl) (by kernel_rfl) (by exact (And.intro (fun wS hw=>by kernel_rfl) (And.intro trivial (And.intro trivial (And.intro trivial (And.intro trivial (And.intro trivial trivial))))))) (fun _ _ _ _ _ h=>h) ⟨_,hS200⟩ (l':=[(96,.tuple #[]),(95,.tuple #[]),(91,.bool false),(6,nI x71),(5,nP z17 0),(0,nI i0),(1,.bool (i1))]) (by kernel_rfl) ?_
      intro a383 hF382; clear hF380
      refine any_many 6 [(31,none),(32,none),(33,none),(34,none),(35,none),(36,some (.bool false))] [0,1,4,5,6,102,103,104,105,106,107,108,109,110,111,112,113,114,115,116,117,118,119,120] #[true,true,true,true,true,true,true,true,true,true,true,true,true,true,true,true,true,true,true,true,true,true,true,true,true,true,true,true,true,true,true,true,true,true,true,true,true,false,false,false,false,false,false,false,false,false,false,false,false,false,false,false,false,false,false,false] (by rfl) hF382 (by kernel_rfl) (by kernel_rfl) (by exact (And.intro trivial (And.intro trivial (And.intro trivial (And.intro trivial (And.intro trivial (And.intro (fun wS hw=>by kernel_rfl) trivial))))))) (fun _ _ _ _ _ h=>h) ⟨_,hS200⟩ (l':=[(102,.bool false),(6,nI x71),(5,nP z17 0),(0,nI i0),(1,.bool (i1))]) (by kernel_rfl) ?_
      intro a385 hF384; clear hF382
      refine any_many 6 [(37,some (.bool false)),(38,none),(39,none),(40,none),(41,none),(42,none)] [1,4,5,6,103,108,109,110,111,112,113,114,115,116,117,118,119,120] #[true,true,true,true,true,true,true,true,true,true,true,true,true,true,true,true,true,true,true,true,true,true,true,true,true,true,true,true,true,true,true,true,true,true,true,true,true,true,true,true,true,true,true,false,false,false,false,false,false,false,false,false,false,false,false,false] (by rfl) hF384 (by kernel_rfl) (by kernel_rfl) (by exact (And.intro (fun wS hw=>by kernel_rfl) (And.intro trivial (And.intro trivial (And.intro trivial (And.intro trivial (And.intro trivial trivial))))))) (fun _ _ _ _ _ h=>h) ⟨_,hS200⟩ (l':=[(108,.tuple #[]),(103,.bool false),(6,nI x71),(5,nP z17 0),(1,.bool (i1))]) (by kernel_rfl) ?_
      intro a387 hF386; clear hF384
      refine any_many 6 [(43,some (.bool false)),(44,some (.bool false)),(45,none),(46,none),(47,none),(48,none)] [1,4,6,110,114,115,116,117,118,119,120] #[true,true,true,true,true,true,true,true,true,true,true,true,true,true,true,true,true,true,true,true,true,true,true,true,true,true,true,true,true,true,true,true,true,true,true,true,true,true,true,true,true,true,true,true,true,true,true,true,true,false,false,false,false,false,false,false] (by rfl) hF386 (by kernel_rfl) (by kernel_rfl) (by exact (And.intro (fun wS hw=>by kernel_rfl) (And.intro (fun wS hw=>by kernel_rfl) (And.intro trivial (And.intro trivial (And.intro trivial (And.intro trivial trivial))))))) (fun _ _ _ _ _ h=>h) ⟨_,hS200⟩ (l':=[(114,.tuple #[]),(110,.bool false),(6,nI x71),(1,.bool (i1))]) (by kernel_rfl) ?_
      intro a389 hF388; clear hF386
      refine any_many 6 [(49,none),(50,none),(51,none),(52,none),(53,none),(54,some (.bool false))] [4,120] #[true,true,true,true,true,true,true,true,true,true,true,true,true,true,true,true,true,true,true,true,true,true,true,true,true,true,true,true,true,true,true,true,true,true,true,true,true,true,true,true,true,true,true,true,true,true,true,true,true,true,true,true,true,true,true,false] (by rfl) hF388 (by kernel_rfl) (by kernel_rfl) (by exact (And.intro trivial (And.intro trivial (And.intro trivial (And.intro trivial (And.intro trivial (And.intro (fun wS hw=>by kernel_rfl) trivial))))))) (fun _ _ _ _ _ h=>h) ⟨_,hS200⟩ (l':=[(120,.bool false)]) (by kernel_rfl) ?_
      intro a391 hF390; clear hF388
      refine any_many 1 [(55,some (.bool false))] [4] #[true,true,true,true,true,true,true,true,true,true,true,true,true,true,true,true,true,true,true,true,true,true,true,true,true,true,true,true,true,true,true,true,true,true,true,true,true,true,true,true,true,true,true,true,true,true,true,true,true,true,true,true,true,true,true,true] (by rfl) hF390 (by kernel_rfl) (by kernel_rfl) (by exact ⟨fun wS hw=>by kernel_rfl,trivial⟩) (fun _ _ _ _ _ h=>h) ⟨_,hS200⟩ (l':=[(4,.bool false)]) (by kernel_rfl) ?_
      intro a393 hF392; clear hF390
      refine any_done (by kernel_rfl) ?_
      have hS394:=hS200.drop.drop.drop.drop.drop
      clear hS200
      exact thenN ⟨false,hF392,hS394,hm375⟩
     rw [hc203] at hF201
     have hm395:=ifNot hc203 hm183; clear hm183
     refine any_many 6 [(3,none),(4,none),(5,some (.bool false)),(6,some (.bool false)),(7,none),(8,none)] [0,1,4,5,6,11,13,72,74,75,76,77,78,79,80,81,82,83,84,85,86,87,88,89,90,91,92,93,94,95,96,97,98,99,100,101,102,103,104,105,106,107,108,109,110,111,112,113,114,115,116,117,118,119,120] #[true,true,true,true,true,true,true,true,true,false,false,false,false,false,false,false,false,false,false,false,false,false,false,false,false,false,false,false,false,false,false,false,false,false,false,false,false,false,false,false,false,false,false,false,false,false,false,false,false,false,false,false,false,false,false,false] (by rfl) hF201 (by kernel_rfl) (by kernel_rfl) (by exact (And.intro trivial (And.intro trivial (And.intro (fun wS hw=>by kernel_rfl) (And.intro (fun wS hw=>by kernel_rfl) (And.intro trivial (And.intro trivial trivial))))))) (fun _ _ _ _ _ h=>h) ⟨_,hS200⟩ (l':=[(74,.tuple #[]),(72,.bool false),(13,.bool (y180)),(11,.bool (y156)),(6,nI x71),(5,nP z17 0),(0,nI i0),(1,.bool (i1))]) (by kernel_rfl) ?_
     intro a397 hF396; clear hF201
     refine any_many 6 [(9,some (.bool false)),(10,some (.bool false)),(11,none),(12,none),(13,some (.bool false)),(14,some (.bool false))] [0,1,4,5,6,13,80,81,82,83,84,85,86,87,88,89,90,91,92,93,94,95,96,97,98,99,100,101,102,103,104,105,106,107,108,109,110,111,112,113,114,115,116,117,118,119,120] #[true,true,true,true,true,true,true,true,true,true,true,true,true,true,true,false,false,false,false,false,false,false,false,false,false,false,false,false,false,false,false,false,false,false,false,false,false,false,false,false,false,false,false,false,false,false,false,false,false,false,false,false,false,false,false,false] (by rfl) hF396 (by kernel_rfl) (by kernel_rfl) (by exact (And.intro (fun wS hw=>by kernel_rfl) (And.intro (fun wS hw=>by kernel_rfl) (And.intro trivial (And.intro trivial (And.intro (fun wS hw=>by kernel_rfl) (And.intro (fun wS hw=>by kernel_rfl) trivial))))))) (fun _ _ _ _ _ h=>h) ⟨_,hS200⟩ (l':=[(80,.bool false),(13,.bool (y180)),(6,nI x71),(5,nP z17 0),(0,nI i0),(1,.bool (i1))]) (by kernel_rfl) ?_
     intro a399 hF398; clear hF396
     refine any_many 6 [(15,none),(16,none),(17,some (.bool false)),(18,some (.bool false)),(19,none),(20,none)] [0,1,4,5,6,84,85,86,87,88,89,90,91,92,93,94,95,96,97,98,99,100,101,102,103,104,105,106,107,108,109,110,111,112,113,114,115,116,117,118,119,120] #[true,true,true,true,true,true,true,true,true,true,true,true,true,true,true,true,true,true,true,true,true,false,false,false,false,false,false,false,false,false,false,false,false,false,false,false,false,false,false,false,false,false,false,false,false,false,false,false,false,false,false,false,false,false,false,false] (by rfl) hF398 (by kernel_rfl) (by kernel_rfl) (by exact (And.intro trivial (And.intro trivial (And.intro (fun wS hw=>by kernel_rfl) (And.intro (fun wS hw=>by kernel_rfl) (And.intro trivial (And.intro trivial trivial))))))) (fun _ _ _ _ _ h=>h) ⟨_,hS200⟩ (l':=[(86,.tuple #[]),(85,.tuple #[]),(84,.bool false),(6,nI x71),(5,nP z17 0),(0,nI i0),(1,.bool (i1))]) (by kernel_rfl) ?_
     intro a401 hF400; clear hF398
     refine any_many 6 [(21,none),(22,none),(23,none),(24,some (.bool false)),(25,some (.bool false)),(26,none)] [0,1,4,5,6,91,92,93,94,95,96,97,98,99,100,101,102,103,104,105,106,107,108,109,110,111,112,113,114,115,116,117,118,119,120] #[true,true,true,true,true,true,true,true,true,true,true,true,true,true,true,true,true,true,true,true,true,true,true,true,true,true,true,false,false,false,false,false,false,false,false,false,false,false,false,false,false,false,false,false,false,false,false,false,false,false,false,false,false,false,false,false] (by rfl) hF400 (by kernel_rfl) (by kernel_rfl) (by exact (And.intro trivial (And.intro trivial (And.intro trivial (And.intro (fun wS hw=>by kernel_rfl) (And.intro (fun wS hw=>by kernel_rfl) (And.intro trivial trivial))))))) (fun _ _ _ _ _ h=>h) ⟨_,hS200⟩ (l':=[(92,.tuple #[]),(91,.bool false),(6,nI x71),(5,nP z17 0),(0,nI i0),(1,.bool (i1))]) (by kernel_rfl) ?_
     intro a403 hF402; clear hF400
     refine any_many 6 [(27,none),(28,none),(29,none),(30,none),(31,none),(32,none)] [0,1,4,5,6,91,95,97,98,99,100,101,102,103,104,105,106,107,108,109,110,111,112,113,114,115,116,117,118,119,120] #[true,true,true,true,true,true,true,true,true,true,true,true,true,true,true,true,true,true,true,true,true,true,true,true,true,true,true,true,true,true,true,true,true,false,false,false,false,false,false,false,false,false,false,false,false,false,false,false,false,false,false,false,false,false,false,false] (by rfl) hF402 (by kernel_rfl) (by kernel_rfl) (by exact (And.intro trivial (And.intro trivial (And.intro trivial (And.intro trivial (And.intro trivial (And.intro trivial trivial))))))) (fun _ _ _ _ _ h=>h) ⟨_,hS200⟩ (l':=[(98,.tuple #[]),(97,.tuple #[]),(95,.tuple #[]),(91,.bool false),(6,nI x71),(5,nP z17 0),(0,nI i0),(1,.bool (i1))]) (by kernel_rfl) ?_
     intro a405 hF404; clear hF402
     refine any_many 6 [(33,none),(34,none),(35,none),(36,some (.bool false)),(37,some (.bool false)),(38,none)] [1,4,5,6,103,104,105,106,107,108,109,110,111,112,113,114,115,116,117,118,119,120] #[true,true,true,true,true,true,true,true,true,true,true,true,true,true,true,true,true,true,true,true,true,true,true,true,true,true,true,true,true,true,true,true,true,true,true,true,true,true,true,false,false,false,false,false,false,false,false,false,false,false,false,false,false,false,false,false] (by rfl) hF404 (by kernel_rfl) (by kernel_rfl) (by exact (And.intro trivial (And.intro trivial (And.intro trivial (And.intro (fun wS hw=>by kernel_rfl) (And.intro (fun wS hw=>by kernel_rfl) (And.intro trivial trivial))))))) (fun _ _ _ _ _ h=>h) ⟨_,hS200⟩ (l':=[(104,.tuple #[]),(103,.bool false),(6,nI x71),(5,nP z17 0),(1,.bool (i1))]) (by kernel_rfl) ?_
     intro a407 hF406; clear hF404
     refine any_many 6 [(39,none),(40,none),(41,none),(42,none),(43,some (.bool false)),(44,some (.bool false))] [1,4,5,6,110,111,112,113,114,115,116,117,118,119,120] #[true,true,true,true,true,true,true,true,true,true,true,true,true,true,true,true,true,true,true,true,true,true,true,true,true,true,true,true,true,true,true,true,true,true,true,true,true,true,true,true,true,true,true,true,true,false,false,false,false,false,false,false,false,false,false,false] (by rfl) hF406 (by kernel_rfl) (by kernel_rfl) (by exact (And.intro trivial (And.intro trivial (And.intro trivial (And.intro trivial (And.intro (fun wS hw=>by kernel_rfl) (And.intro (fun wS hw=>by kernel_rfl) trivial))))))) (fun _ _ _ _ _ h=>h) ⟨_,hS200⟩ (l':=[(110,.bool false),(6,nI x71),(5,nP z17 0),(1,.bool (i1))]) (by kernel_rfl) ?_
     intro a409 hF408; clear hF406
     refine any_many 6 [(45,none),(46,none),(47,none),(48,none),(49,none),(50,none)] [4,110,114,115,116,117,118,119,120] #[true,true,true,true,true,true,true,true,true,true,true,true,true,true,true,true,true,true,true,true,true,true,true,true,true,true,true,true,true,true,true,true,true,true,true,true,true,true,true,true,true,true,true,true,true,true,true,true,true,true,true,false,false,false,false,false] (by rfl) hF408 (by kernel_rfl) (by kernel_rfl) (by exact (And.intro trivial (And.intro trivial (And.intro trivial (And.intro trivial (And.intro trivial (And.intro trivial trivial))))))) (fun _ _ _ _ _ h=>h) ⟨_,hS200⟩ (l':=[(116,.tuple #[]),(115,.tuple #[]),(114,.tuple #[]),(110,.bool false)]) (by kernel_rfl) ?_
     intro a411 hF410; clear hF408
     refine any_many 5 [(51,none),(52,none),(53,none),(54,some (.bool false)),(55,some (.bool false))] [4] #[true,true,true,true,true,true,true,true,true,true,true,true,true,true,true,true,true,true,true,true,true,true,true,true,true,true,true,true,true,true,true,true,true,true,true,true,true,true,true,true,true,true,true,true,true,true,true,true,true,true,true,true,true,true,true,true] (by rfl) hF410 (by kernel_rfl) (by kernel_rfl) (by exact (And.intro trivial (And.intro trivial (And.intro trivial (And.intro (fun wS hw=>by kernel_rfl) (And.intro (fun wS hw=>by kernel_rfl) trivial)))))) (fun _ _ _ _ _ h=>h) ⟨_,hS200⟩ (l':=[(4,.bool false)]) (by kernel_rfl) ?_
     intro a413 hF412; clear hF410
     refine any_done (by kernel_rfl) ?_
     have hS414:=hS200.drop.drop.drop.drop.drop
     clear hS200
     exact thenN ⟨false,hF412,hS414,hm395⟩
 · skip
   refine wp_region_lit ?_
   refine ev_call 26 #[] hF41 rfl rfl (by kernel_rfl) rfl (by kernel_rfl) (fun w=>by kernel_rfl) ?_
   obtain ⟨y415,hx416,hm417⟩:=bind1E hm12; clear hm12
   refine (law13_awake.ok hS43 hx416).mono ?_
   rintro _ w418 ⟨rfl,hS420⟩ a419 hF421; clear hF41 hS43
   refine ev_runs 2 hF421 (l':=[(18,.bool (!(y415))),(17,.bool (!(y415))),(16,.bool (y415)),(5,nP z17 0),(0,nI i0),(1,.bool (i1))]) (w':=w418) (by kernel_rfl) ?_
   intro a423 hF422; clear hF421
   cases hc424:(!(y415))
   case true =>
    rw [hc424] at hF422
    have hm425:=ifYes hc424 hm417; clear hm417
    refine ev_runK 3 hF422 [0,1,5,21] (l':=[(21,.bool true),(5,nP z17 0),(0,nI i0),(1,.bool (i1))]) (w':=w418) (by kernel_rfl) ?_
    intro a427 hF426; clear hF422
    refine wpList_nil ?_
    exact thenN ⟨true,hF426,hS420,hm425⟩
   rw [hc424] at hF422
   have hm428:=ifNot hc424 hm417; clear hm417
   refine ev_runK 3 hF422 [0,1,5,21] (l':=[(21,.bool false),(5,nP z17 0),(0,nI i0),(1,.bool (i1))]) (w':=w418) (by kernel_rfl) ?_
   intro a430 hF429; clear hF422
   refine wpList_nil ?_
   exact thenN ⟨false,hF429,hS420,hm428⟩
end Go.Proofs.YtaojmbkmicjecaaGreat
/-
  The walk of 'dormouselaw13.ListRefuses': the call returns true, in a world with at most new blocks.
-/
namespace Go.Proofs.YtaojmbkmicjecaaGreat.listRefuses
open Go.RowKit
set_option linter.unusedVariables false

theorem table : ListRefuses.m 100 0 true = some true ∧ ListRefuses.m 100 0 false = some true := by decide +kernel
theorem pure (i0 : Int) (i1 : Bool) : ListRefuses.m 100 i0 i1 = some true := by
  have h : ListRefuses.m 100 i0 i1 = ListRefuses.m 100 0 i1 := by rfl
  rw [h]
  cases i1
  · exact table.2
  · exact table.1
theorem walk (a0 : Int) (a1 : Bool) (w0 : (Lit.int .i64 a0).wf = true) (w : World) :
    Calls Tryz.prog 8 #[.int .i64 a0, .bool a1] w fun e w' => e = .returned (.bool true) ∧ Below w.heap.size w w' := by
  exact (ListRefuses.ok (St.empty w) (pure _ _)).mono fun e w' ⟨he, h⟩ => ⟨he, h.old⟩

end Go.Proofs.YtaojmbkmicjecaaGreat.listRefuses
/-
  'ListRefusesSaid' ('dormouselaw13.ListRefuses'): for every input the law returns true, and each argument reads behind the call as it did before.
  Conditions: none beyond the given row's own.
-/
namespace Go.Proofs.YtaojmbkmicjecaaGreat.listRefuses
open Go.ChangeShapes Go.WideShapes Go.ChangeAt Go.RowKit
set_option linter.unusedVariables false      -- a walk need not use every 'w<i>' (that an integer argument fits its kind)

theorem own : ownKnob Tryz.prog.godebug = none := by kernel_rfl

/-! ### THE ROW's STEP: WRITTEN OUT: LEAVE IT -/
set_option maxRecDepth 100000 in
theorem lifted (os : Os) (started : os.Started) (H : Type) (enc : TypeId × Value → H) :
    ReturnsInHanded {} Tryz.checked os 8 .any (Rows.listRefusesSpec.pre6 enc Tryz.prog Tryz.f8 Rows.listRefusesRow.domain false) (Rows.listRefusesSpec.post enc Tryz.prog Tryz.f8 false true false false) := by
  refine returnsInHanded_of_change (C := Tryz.checked) own started (by kernel_rfl) Tryz.func8
    (ChangeSpec.witness6 (enc := enc) (C := Tryz.checked) false ⟨#[], #[.int .i64 0, .bool false], []⟩ 8 (by kernel_rfl) (by kernel_rfl) (by kernel_rfl) (by kernel_rfl)) ?_
  intro W base args ds gs before hval0 hW hcnd _
  have hval : ∀ (j : Nat) t v, Tryz.f8.params[j]? = some t → args[j]? = some v → Value.okWide Tryz.prog W .any base t v := hval0
  have hW' := hW
  obtain ⟨p, q, hA0, hV, rfl, hfz, hnd⟩ := hW
  have hA : DataW.TrodAll enc Tryz.prog W 0 (fun _ => true) true Tryz.f8.params.toList args.toList ds p := hA0
  rw [Tryz.params8] at hA hval
  obtain ⟨v0, vs0, d0, ds0, p0, q0, hargs, rfl, rfl, h0, r0⟩ := trodAll_cons hA
  obtain ⟨v1, vs1, d1, ds1, p1, q1, rfl, rfl, rfl, h1, r1⟩ := trodAll_cons r0
  obtain ⟨rfl, rfl, rfl⟩ := trodAll_nil r1
  obtain rfl : args = #[v0, v1] := by cases args; simp_all
  obtain ⟨rfl, rfl⟩ := trodVars_none hV
  obtain ⟨a0, rfl, rfl, rfl, w0⟩ := open_int Tryz.underlying3 (hval 0 3 v0 rfl rfl) h0
  obtain ⟨a1, rfl, rfl, rfl⟩ := open_bool Tryz.underlying4 (hval 1 4 v1 rfl rfl) h1
  clear hA0 hval0
  simp only [List.append_nil] at hW'
  refine (walk a0 a1 w0 W).mono fun e W' ⟨he, hg⟩ => ?_
  subst he
  exact ⟨_, rfl, _, _, _, [], [], [], hW', (trodAll_cons_mk (shut_bool Tryz.underlying4 _) trodAll_mk0), (trodAll_cons_mk (shut_int Tryz.underlying3 w0) (trodAll_cons_mk (shut_bool Tryz.underlying4 _) trodAll_mk0)), rfl, hg.frame _, fun h => by cases h⟩

theorem over : Rows.listRefusesRow.holds Tryz.pinned (OpenSpec.ofChange Rows.listRefusesSpec) :=
  OpenClaim.holds_of_wide 8 Tryz.f8 rfl rfl rfl rfl rfl rfl rfl ⟨rfl, rfl, rfl, rfl, rfl⟩ rfl rfl rfl rfl rfl (by kernel_rfl) Tryz.func8 (by kernel_rfl)
    (of_decide_eq_true (by kernel_rfl)) (by unfold Func.isWrapper; first | (rw [if_pos (by decide +kernel)]; kernel_rfl) | (rw [if_neg (by decide +kernel)]; exact ⟨rfl, rfl⟩))
    (fun os started H enc _ => lifted os started H enc)

/-- ████ THE STATEMENT ████ -/
theorem proved : Rows.ListRefusesSaid :=
  over
#print axioms proved
end Go.Proofs.YtaojmbkmicjecaaGreat.listRefuses
