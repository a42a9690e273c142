/- G15 GSendFirst -/
import Derived.Test.YtgejcjcpchofiaaGreatKG15w
import Derived.Test.YtgejcjcpchofiaaGreatKGSend
import Derived.Deep.LoopGhost
import Derived.KernelRfl
namespace Go.Proofs.YtgejcjcpchofiaaGreat
open Go.RowKit
set_option linter.unusedVariables false
def law15_awake.j1 (y100:Bool):Option (Bool):=some (y100)
def law15_awake.m (k:Nat):Option (Bool):=bind4 (law15_made.m k [1] 1) fun s7 s8 L9 L10=>bind3 (law15_ch.m k s7 s8 L9 L10 0) fun x50 s51 s52=>bind3 (send_Try.m k s51 (IntKind.i64.wrap ((IntKind.i64.wrap (2 * x50))+1)) 6) fun x62 x63 s64=>bind3 (law15_ch.m k s64 s52 L9 L10 0) fun x77 s78 s79=>bind3 (send_Try.m k s78 (IntKind.i64.wrap ((IntKind.i64.wrap (2 * x77))+1)) 6) fun x89 x90 s91=>(if (x62 == (-1)) then (if (x63 == 1) then (if (x89 == (-1)) then (if (x90 == 0) then bind2 (send_Ready.m k s91 0) fun y129 s130=>law15_awake.j1 (!(y129)) else law15_awake.j1 false) else law15_awake.j1 false) else law15_awake.j1 false) else law15_awake.j1 false)
set_option maxRecDepth 100000 in
set_option maxHeartbeats 1500000 in
theorem law15_awake.ok {w0 w:World} {F0:List Nat} {ps:List Piece} {k:Nat}  {r0:Bool} (hS:St w0 F0 (ps) w) (hm:law15_awake.m k=some r0) :
    Calls Tryz.prog 27 #[] w fun e w'=>e=.returned (.bool r0)∧St w0 F0 (ps) w':=by
 refine ev_enterL 56 [] Tryz.func27 rfl rfl (by simp) ?_
 intro a hF
 have hF0:Fr 56 a []:=hF; clear hF
 unfold law15_awake.m at hm
 refine wp_seq (wp_region_lit ?_)
 refine ev_runK 1 hF0 [] (l':=[]) (w':=w) (by kernel_rfl) ?_
 intro a2 hF1; clear hF0
 refine wpList_nil (thenN (wp_seq (wp_region_lit ?_)))
 refine ev_runs 1 hF1 (l':=[(6,.slice (some ⟨w.heap.size,0,none⟩) 1 1)]) (w':=w.alloc (.cells #[nI 1] 3)) (by kernel_rfl) ?_
 intro a4 hF3; clear hF1
 have hS6:St w0 F0 (RowP (.slice (some ⟨w.heap.size,0,none⟩) 1 1) [1]::ps) (w.alloc (.cells #[nI 1] 3)):=St.lit hS [1] (by unfold maxLen; simp)
 refine ev_call 26 #[.slice (some ⟨w.heap.size,0,none⟩) 1 1,nI 1] hF3 rfl rfl (by kernel_rfl) rfl (by kernel_rfl) (fun w=>by kernel_rfl) ?_
 obtain ⟨s7,s8,L9,L10,hx11,hm12⟩:=bind4E hm; clear hm
 refine (law15_made.ok hS6 hx11).mono ?_
 rintro _ w13 ⟨z17,z18,z19,z20,z21,z22,z23,z24,z25,z26,rfl,hS15⟩ a14 hF16; clear hF3 hS6
 have hS32:St w0 F0 (RowP (.slice (some ⟨w.heap.size,0,none⟩) 1 1) [1]::BlkP z17 55 #[nP z18 0,nP z20 0,z25,z26]::HeapP z18 z19 s7::RHeapP z20 z21 z22 z23 z24 s8::RowP (z25) L9::RowP (z26) L10::ps) w13:=hS15
 clear hS15
 obtain ⟨hl36,p33,c34,rfl,hp35⟩:=St.shape hS32 4 rfl
 obtain ⟨hl40,p37,c38,rfl,hp39⟩:=St.shape hS32 5 rfl
 refine ev_runK 1 hF16 [1] (l':=[(1,nP z17 0)]) (w':=w13) (by kernel_rfl) ?_
 intro a42 hF41; clear hF16
 refine wpList_nil ?_
 have hS43:=hS32.drop
 clear hS32
 refine thenN (wp_seq (wp_seq (wp_region_lit ?_)))
 refine ev_runK 2 hF41 [1,9] (l':=[(9,.bool false),(1,nP z17 0)]) (w':=w13) (by kernel_rfl) ?_
 intro a45 hF44; clear hF41
 refine wpList_nil (thenN ?_)
 refine ev_condF hF44 rfl rfl ?_
 refine wp_skip ?_
 have hF46:=hF44.keep [1]
 clear hF44
 refine thenN (wp_seq ?_)
 have hS47:=hS43.drew; clear hS43
 refine any_start (fun wS=>∃ qs,St w0 F0 (BlkP z17 55 #[nP z18 0,nP z20 0,.slice p33 L9.length c34,.slice p37 L10.length c38]::qs) wS) 14 #[false,false,false,false,false,false,false,false,false,false,false,false,false,false] (by kernel_rfl) (by kernel_rfl) (by kernel_rfl) ?_
 refine any_many 5 [(0,some (nP z17 0)),(1,some (nP z17 0)),(2,some (nP z17 0)),(3,some (nP z18 0)),(4,some (nP z17 0))] [1,2,3,10,14,15,16,17,18,19,20,21] #[true,true,true,true,true,false,false,false,false,false,false,false,false,false] (by rfl) hF46 (by kernel_rfl) (by kernel_rfl) (by exact ⟨fun wS hw=>by kernel_rfl,fun wS hw=>by kernel_rfl,fun wS hw=>by kernel_rfl,fun wS hw=>hw.elim fun qs hw=>run_loadV rfl rfl (run_loadS rfl rfl (hw.cell 0 rfl 0 rfl)),fun wS hw=>by kernel_rfl,trivial⟩) (fun _ _ _ _ _ h=>h) ⟨_,hS47⟩ (l':=[(15,nP z17 0),(14,nP z18 0),(1,nP z17 0)]) (by kernel_rfl) ?_
 intro a49 hF48; clear hF46
 refine any_call 5 #[true,true,true,true,true,true,false,false,false,false,false,false,false,false] 31 #[nP z17 0,nI 0] hF48 rfl (by kernel_rfl) rfl rfl (by kernel_rfl) rfl (by kernel_rfl) (fun w=>by kernel_rfl) (by kernel_rfl) ?_
 obtain ⟨x50,s51,s52,hx53,hm54⟩:=bind3E hm12; clear hm12
 refine (law15_ch.ok hS47 hx53).mono ?_
 rintro _ w55 ⟨rfl,hS57⟩; clear hS47
 refine ⟨⟨_,hS57⟩,?_⟩
 intro a56 hF58; clear hF48
 refine any_many 2 [(6,some (nI (IntKind.i64.wrap (2 * x50)))),(7,some (nI (IntKind.i64.wrap ((IntKind.i64.wrap (2 * x50))+1))))] [1,2,3,10,14,18,19,20,21] #[true,true,true,true,true,true,true,true,false,false,false,false,false,false] (by rfl) hF58 (by kernel_rfl) (by kernel_rfl) (by exact ⟨fun wS hw=>by kernel_rfl,fun wS hw=>by kernel_rfl,trivial⟩) (fun _ _ _ _ _ h=>h) ⟨_,hS57⟩ (l':=[(18,nI (IntKind.i64.wrap ((IntKind.i64.wrap (2 * x50))+1))),(14,nP z18 0),(1,nP z17 0)]) (by kernel_rfl) ?_
 intro a60 hF59; clear hF58
 have hS61:=hS57.pick1
 clear hS57
 refine any_call 8 #[true,true,true,true,true,true,true,true,true,false,false,false,false,false] 28 #[nP z18 0,nI (IntKind.i64.wrap ((IntKind.i64.wrap (2 * x50))+1)),nI 6] hF59 rfl (by kernel_rfl) rfl rfl (by kernel_rfl) rfl (by kernel_rfl) (fun w=>by kernel_rfl) (by kernel_rfl) ?_
 obtain ⟨x62,x63,s64,hx65,hm66⟩:=bind3E hm54; clear hm54
 refine (send_Try.ok hS61 hx65).mono ?_
 rintro _ w67 ⟨rfl,hS69⟩; clear hS61
 refine ⟨⟨_,hS69.pick1⟩,?_⟩
 intro a68 hF70; clear hF59
 refine any_many 5 [(9,some (.tuple #[nI x62,nI x63])),(10,some (nI x62)),(11,some (nI x63)),(12,some (nI x62)),(13,some (nI x63))] [1,2,3] #[true,true,true,true,true,true,true,true,true,true,true,true,true,true] (by rfl) hF70 (by kernel_rfl) (by kernel_rfl) (by exact ⟨fun wS hw=>by kernel_rfl,fun wS hw=>by kernel_rfl,fun wS hw=>by kernel_rfl,fun wS hw=>by kernel_rfl,fun wS hw=>by kernel_rfl,trivial⟩) (fun _ _ _ _ _ h=>h) ⟨_,hS69.pick1⟩ (l':=[(3,nI x63),(2,nI x62),(1,nP z17 0)]) (by kernel_rfl) ?_
 intro a72 hF71; clear hF70
 refine any_done (by kernel_rfl) ?_
 refine thenN (wp_seq ?_)
 have hS73:=hS69.pick1
 clear hS69
 have hS74:=hS73.drew; clear hS73
 refine any_start (fun wS=>∃ qs,St w0 F0 (BlkP z17 55 #[nP z18 0,nP z20 0,.slice p33 L9.length c34,.slice p37 L10.length c38]::qs) wS) 14 #[false,false,false,false,false,false,false,false,false,false,false,false,false,false] (by kernel_rfl) (by kernel_rfl) (by kernel_rfl) ?_
 refine any_many 5 [(0,some (nP z17 0)),(1,some (nP z17 0)),(2,some (nP z17 0)),(3,some (nP z18 0)),(4,some (nP z17 0))] [1,2,3,4,5,22,26,27,28,29,30,31,32,33] #[true,true,true,true,true,false,false,false,false,false,false,false,false,false] (by rfl) hF71 (by kernel_rfl) (by kernel_rfl) (by exact ⟨fun wS hw=>by kernel_rfl,fun wS hw=>by kernel_rfl,fun wS hw=>by kernel_rfl,fun wS hw=>hw.elim fun qs hw=>run_loadV rfl rfl (run_loadS rfl rfl (hw.cell 0 rfl 0 rfl)),fun wS hw=>by kernel_rfl,trivial⟩) (fun _ _ _ _ _ h=>h) ⟨_,hS74⟩ (l':=[(27,nP z17 0),(26,nP z18 0),(3,nI x63),(2,nI x62),(1,nP z17 0)]) (by kernel_rfl) ?_
 intro a76 hF75; clear hF71
 refine any_call 5 #[true,true,true,true,true,true,false,false,false,false,false,false,false,false] 31 #[nP z17 0,nI 0] hF75 rfl (by kernel_rfl) rfl rfl (by kernel_rfl) rfl (by kernel_rfl) (fun w=>by kernel_rfl) (by kernel_rfl) ?_
 obtain ⟨x77,s78,s79,hx80,hm81⟩:=bind3E hm66; clear hm66
 refine (law15_ch.ok hS74 hx80).mono ?_
 rintro _ w82 ⟨rfl,hS84⟩; clear hS74
 refine ⟨⟨_,hS84⟩,?_⟩
 intro a83 hF85; clear hF75
 refine any_many 2 [(6,some (nI (IntKind.i64.wrap (2 * x77)))),(7,some (nI (IntKind.i64.wrap ((IntKind.i64.wrap (2 * x77))+1))))] [1,2,3,4,5,22,26,30,31,32,33] #[true,true,true,true,true,true,true,true,false,false,false,false,false,false] (by rfl) hF85 (by kernel_rfl) (by kernel_rfl) (by exact ⟨fun wS hw=>by kernel_rfl,fun wS hw=>by kernel_rfl,trivial⟩) (fun _ _ _ _ _ h=>h) ⟨_,hS84⟩ (l':=[(30,nI (IntKind.i64.wrap ((IntKind.i64.wrap (2 * x77))+1))),(26,nP z18 0),(3,nI x63),(2,nI x62),(1,nP z17 0)]) (by kernel_rfl) ?_
 intro a87 hF86; clear hF85
 have hS88:=hS84.pick1
 clear hS84
 refine any_call 8 #[true,true,true,true,true,true,true,true,true,false,false,false,false,false] 28 #[nP z18 0,nI (IntKind.i64.wrap ((IntKind.i64.wrap (2 * x77))+1)),nI 6] hF86 rfl (by kernel_rfl) rfl rfl (by kernel_rfl) rfl (by kernel_rfl) (fun w=>by kernel_rfl) (by kernel_rfl) ?_
 obtain ⟨x89,x90,s91,hx92,hm93⟩:=bind3E hm81; clear hm81
 refine (send_Try.ok hS88 hx92).mono ?_
 rintro _ w94 ⟨rfl,hS96⟩; clear hS88
 refine ⟨⟨_,hS96.pick1⟩,?_⟩
 intro a95 hF97; clear hF86
 refine any_many 5 [(9,some (.tuple #[nI x89,nI x90])),(10,some (nI x89)),(11,some (nI x90)),(12,some (nI x89)),(13,some (nI x90))] [1,2,3,4,5] #[true,true,true,true,true,true,true,true,true,true,true,true,true,true] (by rfl) hF97 (by kernel_rfl) (by kernel_rfl) (by exact ⟨fun wS hw=>by kernel_rfl,fun wS hw=>by kernel_rfl,fun wS hw=>by kernel_rfl,fun wS hw=>by kernel_rfl,fun wS hw=>by kernel_rfl,trivial⟩) (fun _ _ _ _ _ h=>h) ⟨_,hS96.pick1⟩ (l':=[(5,nI x90),(4,nI x89),(3,nI x63),(2,nI x62),(1,nP z17 0)]) (by kernel_rfl) ?_
 intro a99 hF98; clear hF97
 refine any_done (by kernel_rfl) ?_
 refine thenN (wp_seq ?_)
 refine joinQ (fun aI wI=>∃ (y100:Bool),Fr 56 aI [(0,.bool (y100))]∧St w0 F0 (ps) wI∧law15_awake.j1 y100=some r0) ?_ ?_
 rotate_left
 · rintro a102 w103 ⟨y100,hF104,hS105,hm106⟩
   clear hF98 hS96 hm93
   unfold law15_awake.j1 at hm106
   refine thenN ?_
   refine wp_ret ?_
   obtain rfl:=Option.some.inj hm106
   refine ev_ret hF104 [0] (.bool (y100)) rfl rfl rfl ?_
   exact ⟨rfl,hS105⟩
 · skip
   refine wp_region_lit ?_
   refine ev_runs 3 hF98 (l':=[(36,.bool (x62 == (-1))),(35,.bool (x62 == (-1))),(34,nI x62),(5,nI x90),(4,nI x89),(3,nI x63),(2,nI x62),(1,nP z17 0)]) (w':=w94) (by kernel_rfl) ?_
   intro a110 hF109; clear hF98
   cases hc111:(x62 == (-1))
   case true =>
    rw [hc111] at hF109
    have hm112:=ifYes hc111 hm93; clear hm93
    refine ev_runs 4 hF109 (l':=[(40,.bool (x63 == 1)),(39,.bool (x63 == 1)),(38,.bool (x63 == 1)),(37,nI x63),(36,.bool true),(35,.bool true),(34,nI x62),(5,nI x90),(4,nI x89),(3,nI x63),(2,nI x62),(1,nP z17 0)]) (w':=w94) (by kernel_rfl) ?_
    intro a114 hF113; clear hF109
    cases hc115:(x63 == 1)
    case true =>
     rw [hc115] at hF113
     have hm116:=ifYes hc115 hm112; clear hm112
     refine ev_runs 4 hF113 (l':=[(44,.bool (x89 == (-1))),(43,.bool (x89 == (-1))),(42,.bool (x89 == (-1))),(41,nI x89),(40,.bool true),(39,.bool true),(38,.bool true),(37,nI x63),(36,.bool true),(35,.bool true),(34,nI x62),(5,nI x90),(4,nI x89),(3,nI x63),(2,nI x62),(1,nP z17 0)]) (w':=w94) (by kernel_rfl) ?_
     intro a118 hF117; clear hF113
     cases hc119:(x89 == (-1))
     case true =>
      rw [hc119] at hF117
      have hm120:=ifYes hc119 hm116; clear hm116
      refine ev_runs 4 hF117 (l':=[(48,.bool (x90 == 0)),(47,.bool (x90 == 0)),(46,.bool (x90 == 0)),(45,nI x90),(44,.bool true),(43,.bool true),(42,.bool true),(41,nI x89),(40,.bool true),(39,.bool true),(38,.bool true),(37,nI x63),(36,.bool true),(35,.bool true),(34,nI x62),(5,nI x90),(4,nI x89),(3,nI x63),(2,nI x62),(1,nP z17 0)]) (w':=w94) (by kernel_rfl) ?_
      intro a122 hF121; clear hF117
      cases hc123:(x90 == 0)
      case true =>
       rw [hc123] at hF121
       have hm124:=ifYes hc123 hm120; clear hm120
       refine ev_runs 3 hF121 (l':=[(51,nP z17 0),(50,nP z17 0),(49,nP z17 0),(48,.bool true),(47,.bool true),(46,.bool true),(45,nI x90),(44,.bool true),(43,.bool true),(42,.bool true),(41,nI x89),(40,.bool true),(39,.bool true),(38,.bool true),(37,nI x63),(36,.bool true),(35,.bool true),(34,nI x62),(5,nI x90),(4,nI x89),(3,nI x63),(2,nI x62),(1,nP z17 0)]) (w':=w94) (by kernel_rfl) ?_
       intro a126 hF125; clear hF121
       refine ev_one (nP z18 0) w94 hF125 (by kernel_rfl) rfl (by kernel_rfl) (run_loadV rfl rfl (run_loadS rfl rfl (hS96.cell 1 rfl 0 rfl))) (l':=[(52,nP z18 0),(51,nP z17 0),(50,nP z17 0),(49,nP z17 0),(48,.bool true),(47,.bool true),(46,.bool true),(45,nI x90),(44,.bool true),(43,.bool true),(42,.bool true),(41,nI x89),(40,.bool true),(39,.bool true),(38,.bool true),(37,nI x63),(36,.bool true),(35,.bool true),(34,nI x62),(5,nI x90),(4,nI x89),(3,nI x63),(2,nI x62),(1,nP z17 0)]) (by kernel_rfl) ?_
       intro a128 hF127; clear hF125
       refine ev_call 33 #[nP z18 0,nI 0] hF127 rfl rfl (by kernel_rfl) rfl (by kernel_rfl) (fun w=>by kernel_rfl) ?_
       obtain ⟨y129,s130,hx131,hm132⟩:=bind2E hm124; clear hm124
       refine (send_Ready.ok hS96 hx131).mono ?_
       rintro _ w133 ⟨rfl,hS135⟩ a134 hF136; clear hF127 hS96
       refine ev_runK 3 hF136 [0] (l':=[(0,.bool (!(y129)))]) (w':=w133) (by kernel_rfl) ?_
       intro a138 hF137; clear hF136
       refine wpList_nil ?_
       have hS139:=hS135.drop.drop.drop.drop.drop
       clear hS135
       exact thenN ⟨!(y129),hF137,hS139,hm132⟩
      rw [hc123] at hF121
      have hm140:=ifNot hc123 hm120; clear hm120
      refine ev_runK 8 hF121 [0] (l':=[(0,.bool false)]) (w':=w94) (by kernel_rfl) ?_
      intro a142 hF141; clear hF121
      refine wpList_nil ?_
      have hS143:=hS96.drop.drop.drop.drop.drop
      clear hS96
      exact thenN ⟨false,hF141,hS143,hm140⟩
     rw [hc119] at hF117
     have hm144:=ifNot hc119 hm116; clear hm116
     refine ev_runK 12 hF117 [0] (l':=[(0,.bool false)]) (w':=w94) (by kernel_rfl) ?_
     intro a146 hF145; clear hF117
     refine wpList_nil ?_
     have hS147:=hS96.drop.drop.drop.drop.drop
     clear hS96
     exact thenN ⟨false,hF145,hS147,hm144⟩
    rw [hc115] at hF113
    have hm148:=ifNot hc115 hm112; clear hm112
    refine ev_runK 16 hF113 [0] (l':=[(0,.bool false)]) (w':=w94) (by kernel_rfl) ?_
    intro a150 hF149; clear hF113
    refine wpList_nil ?_
    have hS151:=hS96.drop.drop.drop.drop.drop
    clear hS96
    exact thenN ⟨false,hF149,hS151,hm148⟩
   rw [hc111] at hF109
   have hm152:=ifNot hc111 hm93; clear hm93
   refine ev_runK 20 hF109 [0] (l':=[(0,.bool false)]) (w':=w94) (by kernel_rfl) ?_
   intro a154 hF153; clear hF109
   refine wpList_nil ?_
   have hS155:=hS96.drop.drop.drop.drop.drop
   clear hS96
   exact thenN ⟨false,hF153,hS155,hm152⟩
end Go.Proofs.YtgejcjcpchofiaaGreat
namespace Go.Proofs.YtgejcjcpchofiaaGreat
open Go.RowKit
set_option linter.unusedVariables false
def SendFirst.j5 (x73:Int) (rec76:HSt→HSt→Int→Option (Bool)) (s90:HSt) (s91:HSt) (y92:Bool):Option (Bool):=(if (y92) then some (false) else rec76 s90 s91 (IntKind.i64.wrap (x73+1)))
def SendFirst.j22 (x199:Int) (rec202:HSt→HSt→Int→Option (Bool)) (s227:HSt) (s254:HSt):Option (Bool):=rec202 s254 s227 (IntKind.i64.wrap (x199+1))
def SendFirst.j24 (x199:Int) (rec202:HSt→HSt→Int→Option (Bool)) (s227:HSt) (s268:HSt) (y286:Bool):Option (Bool):=(if (y286) then some (false) else SendFirst.j22 x199 rec202 s227 s268)
def SendFirst.j23 (K2:List Int) (L19:List Int) (x199:Int) (rec202:HSt→HSt→Int→Option (Bool)) (s227:HSt) (x237:Int) (x238:Int) (s268:HSt) (x269:Int) (x270:Int) (x271:Int) (x272:Int) (x273:Int) (x274:Int) (x275:Int) (x276:Int) (x277:Int) (x278:Int):Option (Bool):=(if (inR x199 L19.length) then (if (x237 != (atI L19 x199)) then SendFirst.j24 x199 rec202 s227 s268 true else (if (x238 != 1) then SendFirst.j24 x199 rec202 s227 s268 true else (if (x272 != (atI K2 x199)) then SendFirst.j24 x199 rec202 s227 s268 true else (if (x271 != x199) then SendFirst.j24 x199 rec202 s227 s268 true else SendFirst.j24 x199 rec202 s227 s268 (x270 != 0))))) else none)
def SendFirst.j25 (x199:Int) (rec202:HSt→HSt→Int→Option (Bool)) (s227:HSt) (s239:HSt):Option (Bool):=SendFirst.j22 x199 rec202 s227 s239
def SendFirst.j26 (x199:Int) (rec202:HSt→HSt→Int→Option (Bool)) (s227:HSt) (s239:HSt) (y409:Bool):Option (Bool):=(if (y409) then some (false) else SendFirst.j25 x199 rec202 s227 s239)
def SendFirst.j27 (x199:Int) (rec202:HSt→HSt→Int→Option (Bool)) (s227:HSt) (s239:HSt) (y435:Bool):Option (Bool):=(if (y435) then some (false) else SendFirst.j25 x199 rec202 s227 s239)
def SendFirst.j21 (K2:List Int) (k:Nat) (x5:Int) (L18:List Int) (L19:List Int) (s197:HSt) (s198:HSt) (x199:Int) (rec202:HSt→HSt→Int→Option (Bool)) (y207:Bool):Option (Bool):=(if (y207) then (if (inR x199 K2.length) then bind3 (law15_ch.m k s197 s198 L18 L19 0) fun x225 s226 s227=>bind3 (send_Try.m k s226 (IntKind.i64.wrap ((IntKind.i64.wrap (2 * x225))+1)) (atI K2 x199)) fun x237 x238 s239=>(if (decide (x199<(L19.length:Int))) then (if (inR x199 L19.length) then bind3 (view_Gor.m k s239 (atI L19 x199)) fun q351 x352 s353=>SendFirst.j23 K2 L19 x199 rec202 s227 x237 x238 s353 q351.id q351.status q351.pc q351.a q351.b q351.c q351.d q351.e q351.f q351.sudogs else none) else (if (decide (x199<(IntKind.i64.wrap ((L19.length:Int)+x5)))) then (if (x237 != (-1)) then SendFirst.j26 x199 rec202 s227 s239 true else SendFirst.j26 x199 rec202 s227 s239 (x238 != 1)) else (if (x237 != (-1)) then SendFirst.j27 x199 rec202 s227 s239 true else SendFirst.j27 x199 rec202 s227 s239 (x238 != 0)))) else none) else some (true))
def SendFirst.l20b (K2:List Int) (k:Nat) (x5:Int) (L18:List Int) (L19:List Int) (rec202:HSt→HSt→Int→Option (Bool)) (s197:HSt) (s198:HSt) (x199:Int):Option (Bool):=(if (decide (x199<(K2.length:Int))) then SendFirst.j21 K2 k x5 L18 L19 s197 s198 x199 rec202 (decide (x199<12)) else SendFirst.j21 K2 k x5 L18 L19 s197 s198 x199 rec202 false)
def SendFirst.l20 (K2:List Int) (k:Nat) (x5:Int) (L18:List Int) (L19:List Int):Nat→HSt→HSt→Int→Option (Bool)
  | 0=>fun _ _ _=>none
  | kI+1=>SendFirst.l20b K2 k x5 L18 L19 (SendFirst.l20 K2 k x5 L18 L19 kI)
def SendFirst.l4b (K2:List Int) (k:Nat) (x5:Int) (L18:List Int) (L19:List Int) (rec76:HSt→HSt→Int→Option (Bool)) (s71:HSt) (s72:HSt) (x73:Int):Option (Bool):=(if (decide (x73<(L19.length:Int))) then (if (inR x73 L19.length) then bind3 (law15_ch.m k s71 s72 L18 L19 0) fun x118 s119 s120=>bind3 (law15_wait.m k s119 s120 L18 L19 (atI L19 x73) [x118] [false] 0 x73) fun y134 s135 s136=>SendFirst.j5 x73 rec76 s135 s136 (!(y134)) else none) else SendFirst.l20 K2 k x5 L18 L19 k s71 s72 0)
def SendFirst.l4 (K2:List Int) (k:Nat) (x5:Int) (L18:List Int) (L19:List Int):Nat→HSt→HSt→Int→Option (Bool)
  | 0=>fun _ _ _=>none
  | kI+1=>SendFirst.l4b K2 k x5 L18 L19 (SendFirst.l4 K2 k x5 L18 L19 kI)
def SendFirst.j1 (K2:List Int) (k:Nat) (x5:Int) (s16:HSt) (s17:HSt) (L18:List Int) (L19:List Int) (y53:Bool):Option (Bool):=(if (y53) then some (false) else SendFirst.l4 K2 k x5 L18 L19 k s16 s17 0)
def SendFirst.m (k:Nat) (i0:Int) (i1:Int) (K2:List Int):Option (Bool):=bind1 (some (IntKind.i64.wrap (Int.tmod (IntKind.u64.wrap i0) 4))) fun x5=>bind4 (law15_made.m k [x5] i1) fun s16 s17 L18 L19=>bind1 (law15_awake.m k ) fun y474=>(if (!(y474)) then SendFirst.j1 K2 k x5 s16 s17 L18 L19 true else SendFirst.j1 K2 k x5 s16 s17 L18 L19 false)
set_option maxRecDepth 100000 in
set_option maxHeartbeats 40000000 in
theorem SendFirst.ok {w0 w:World} {ps:List Piece} {k:Nat} {i0:Int} {i1:Int} {pa2:Option Addr} {ca2:Nat} {K2:List Int} (hA2:ArgInts w0 (.slice pa2 K2.length ca2) K2) {r0:Bool} (hS:St w0 [] (ps) w) (hm:SendFirst.m k i0 i1 K2=some r0) :
    Calls Tryz.prog 8 #[nI i0,nI i1,.slice pa2 K2.length ca2] w fun e w'=>e=.returned (.bool r0)∧St w0 [] (ps) w':=by
 refine ev_enterL 157 [nI i0,nI i1,.slice pa2 K2.length ca2] Tryz.func8 rfl rfl (by simp) ?_
 intro a hF
 have hF0:Fr 157 a [(0,nI i0),(1,nI i1),(2,.slice pa2 K2.length ca2)]:=hF; clear hF
 unfold SendFirst.m at hm
 refine wp_seq (wp_region_lit ?_)
 refine ev_runK 1 hF0 [0,1,2] (l':=[(0,nI i0),(1,nI i1),(2,.slice pa2 K2.length ca2)]) (w':=w) (by kernel_rfl) ?_
 intro a2 hF1; clear hF0
 refine wpList_nil (thenN (wp_seq (wp_region_lit ?_)))
 refine ev_runs 5 hF1 (l':=[(0,nI (IntKind.i64.wrap (Int.tmod (IntKind.u64.wrap i0) 4))),(17,nI (IntKind.i64.wrap (Int.tmod (IntKind.u64.wrap i0) 4))),(16,.int .u64 (Int.tmod (IntKind.u64.wrap i0) 4)),(15,.int .u64 (IntKind.u64.wrap i0)),(14,nI i0),(1,nI i1),(2,.slice pa2 K2.length ca2)]) (w':=w) (by kernel_rfl) ?_
 intro a4 hF3; clear hF1
 obtain ⟨x5,hx6,hm7⟩:=bind1E hm; clear hm
 have hF8:=hF3; rw [Option.some.inj hx6] at hF8; clear hF3
 refine wpList_nil ?_
 have hF9:=hF8.keep [0,1,2]
 clear hF8
 refine thenN (wp_seq (wp_region_lit ?_))
 refine ev_runs 2 hF9 (l':=[(19,.slice (some ⟨w.heap.size,0,none⟩) 1 1),(18,nI x5),(0,nI x5),(1,nI i1),(2,.slice pa2 K2.length ca2)]) (w':=w.alloc (.cells #[nI x5] 3)) (by kernel_rfl) ?_
 intro a11 hF10; clear hF9
 have hS13:St w0 [] (RowP (.slice (some ⟨w.heap.size,0,none⟩) 1 1) [x5]::ps) (w.alloc (.cells #[nI x5] 3)):=St.lit hS [x5] (by unfold maxLen; simp)
 refine ev_runs 1 hF10 (l':=[(20,nI i1),(19,.slice (some ⟨w.heap.size,0,none⟩) 1 1),(18,nI x5),(0,nI x5),(1,nI i1),(2,.slice pa2 K2.length ca2)]) (w':=w.alloc (.cells #[nI x5] 3)) (by kernel_rfl) ?_
 intro a15 hF14; clear hF10
 refine ev_call 26 #[.slice (some ⟨w.heap.size,0,none⟩) 1 1,nI i1] hF14 rfl rfl (by kernel_rfl) rfl (by kernel_rfl) (fun w=>by kernel_rfl) ?_
 obtain ⟨s16,s17,L18,L19,hx20,hm21⟩:=bind4E hm7; clear hm7
 refine (law15_made.ok hS13 hx20).mono ?_
 rintro _ w22 ⟨z26,z27,z28,z29,z30,z31,z32,z33,z34,z35,rfl,hS24⟩ a23 hF25; clear hF14 hS13
 have hS41:St w0 [] (RowP (.slice (some ⟨w.heap.size,0,none⟩) 1 1) [x5]::BlkP z26 55 #[nP z27 0,nP z29 0,z34,z35]::HeapP z27 z28 s16::RHeapP z29 z30 z31 z32 z33 s17::RowP (z34) L18::RowP (z35) L19::ps) w22:=hS24
 clear hS24
 obtain ⟨hl45,p42,c43,rfl,hp44⟩:=St.shape hS41 4 rfl
 obtain ⟨hl49,p46,c47,rfl,hp48⟩:=St.shape hS41 5 rfl
 refine ev_runK 1 hF25 [0,2,7] (l':=[(7,nP z26 0),(0,nI x5),(2,.slice pa2 K2.length ca2)]) (w':=w22) (by kernel_rfl) ?_
 intro a51 hF50; clear hF25
 refine wpList_nil ?_
 have hS52:=hS41.drop
 clear hS41
 refine thenN (wp_seq (wp_seq ?_))
 refine joinQ (fun aI wI=>∃ (y53:Bool),Fr 157 aI [(27,.bool (y53)),(7,nP z26 0),(0,nI x5),(2,.slice pa2 K2.length ca2)]∧St w0 [] (BlkP z26 55 #[nP z27 0,nP z29 0,.slice p42 L18.length c43,.slice p46 L19.length c47]::HeapP z27 z28 s16::RHeapP z29 z30 z31 z32 z33 s17::RowP (.slice p42 L18.length c43) L18::RowP (.slice p46 L19.length c47) L19::ps) wI∧SendFirst.j1 K2 k x5 s16 s17 L18 L19 y53=some r0) ?_ ?_
 rotate_left
 · rintro a55 w56 ⟨y53,hF57,hS58,hm59⟩
   clear hF50 hS52 hm21
   unfold SendFirst.j1 at hm59
   refine thenN ?_
   cases hc61:(y53)
   case true =>
    rw [hc61] at hF57
    have hm62:=ifYes hc61 hm59; clear hm59
    refine ev_condT hF57 rfl rfl ?_
    refine wp_seq (wp_region_lit ?_)
    refine ev_runK 1 hF57 [6] (l':=[(6,.bool false)]) (w':=w56) (by kernel_rfl) ?_
    intro a64 hF63; clear hF57
    refine wpList_nil ?_
    have hS65:=hS58.drop.drop.drop.drop.drop
    clear hS58
    refine thenN ?_
    refine wp_ret ?_
    refine thenR ?_
    obtain rfl:=Option.some.inj hm62
    refine ev_ret hF63 [6] (.bool false) rfl rfl rfl ?_
    exact ⟨rfl,hS65⟩
   rw [hc61] at hF57
   have hm67:=ifNot hc61 hm59; clear hm59
   refine ev_condF hF57 rfl rfl ?_
   refine wp_skip ?_
   have hF68:=hF57.keep [0,2,7]
   clear hF57
   refine thenN (wp_seq (wp_seq (wp_region_lit ?_)))
   refine ev_runs 1 hF68 (l':=[(8,nI 0),(7,nP z26 0),(0,nI x5),(2,.slice pa2 K2.length ca2)]) (w':=w56) (by kernel_rfl) ?_
   intro a70 hF69; clear hF68
   refine wpList_nil (thenN ?_)
   refine wp_block ?_
   refine wp_loop_ghost (fun kI aI wI=>∃ (s71:HSt) (s72:HSt) (x73:Int),Fr 157 aI [(8,nI x73),(7,nP z26 0),(0,nI x5),(2,.slice pa2 K2.length ca2)]∧St w0 [] (BlkP z26 55 #[nP z27 0,nP z29 0,.slice p42 L18.length c43,.slice p46 L19.length c47]::HeapP z27 z28 s71::RHeapP z29 z30 z31 z32 z33 s72::RowP (.slice p42 L18.length c43) L18::RowP (.slice p46 L19.length c47) L19::ps) wI∧SendFirst.l4 K2 k x5 L18 L19 kI s71 s72 x73=some r0) k ⟨s16,s17,0,hF69,hS58,hm67⟩ ?_
   rintro k74 a75 w76 ⟨s71,s72,x73,hF77,hS78,hm79⟩
   clear hF69 hS58 hm67
   rcases k74 with _ | k74
   · cases hm79
   have hm80:SendFirst.l4b K2 k x5 L18 L19 (SendFirst.l4 K2 k x5 L18 L19 k74) s71 s72 x73=some r0:=hm79
   clear hm79
   unfold SendFirst.l4b at hm80
   refine wp_seq (wp_seq (wp_region_lit ?_))
   refine ev_runs 4 hF77 (l':=[(31,nP z26 3),(30,nP z26 0),(29,nP z26 0),(28,nI x73),(8,nI x73),(7,nP z26 0),(0,nI x5),(2,.slice pa2 K2.length ca2)]) (w':=w76) (by kernel_rfl) ?_
   intro a82 hF81; clear hF77
   refine ev_one (.slice p46 L19.length c47) w76 hF81 (by kernel_rfl) rfl (by kernel_rfl) (run_loadV rfl rfl (run_loadS rfl rfl (hS78.cell 0 rfl 3 rfl))) (l':=[(32,.slice p46 L19.length c47),(31,nP z26 3),(30,nP z26 0),(29,nP z26 0),(28,nI x73),(8,nI x73),(7,nP z26 0),(0,nI x5),(2,.slice pa2 K2.length ca2)]) (by kernel_rfl) ?_
   intro a84 hF83; clear hF81
   refine ev_runK 2 hF83 [0,2,7,8,34] (l':=[(34,.bool (decide (x73<(L19.length:Int)))),(8,nI x73),(7,nP z26 0),(0,nI x5),(2,.slice pa2 K2.length ca2)]) (w':=w76) (by kernel_rfl) ?_
   intro a86 hF85; clear hF83
   refine wpList_nil (thenN ?_)
   cases hc87:(decide (x73<(L19.length:Int)))
   case true =>
    rw [hc87] at hF85
    have hm88:=ifYes hc87 hm80; clear hm80
    refine ev_condT hF85 rfl rfl ?_
    refine wp_skip ?_
    have hF89:=hF85.keep [0,2,7,8]
    clear hF85
    refine thenN (wp_seq ?_)
    refine wp_block ?_
    refine wp_seq ?_
    refine joinQ (fun aI wI=>∃ (s90:HSt) (s91:HSt) (y92:Bool),Fr 157 aI [(51,.bool (y92)),(8,nI x73),(7,nP z26 0),(0,nI x5),(2,.slice pa2 K2.length ca2)]∧St w0 [] (BlkP z26 55 #[nP z27 0,nP z29 0,.slice p42 L18.length c43,.slice p46 L19.length c47]::HeapP z27 z28 s90::RHeapP z29 z30 z31 z32 z33 s91::RowP (.slice p42 L18.length c43) L18::RowP (.slice p46 L19.length c47) L19::ps) wI∧SendFirst.j5 x73 (SendFirst.l4 K2 k x5 L18 L19 k74) s90 s91 y92=some r0) ?_ ?_
    rotate_left
    · rintro a94 w95 ⟨s90,s91,y92,hF96,hS97,hm98⟩
      clear hF89 hS78 hm88
      unfold SendFirst.j5 at hm98
      refine thenN ?_
      cases hc100:(y92)
      case true =>
       rw [hc100] at hF96
       have hm101:=ifYes hc100 hm98; clear hm98
       refine ev_condT hF96 rfl rfl ?_
       refine wp_seq (wp_region_lit ?_)
       refine ev_runK 1 hF96 [6] (l':=[(6,.bool false)]) (w':=w95) (by kernel_rfl) ?_
       intro a103 hF102; clear hF96
       refine wpList_nil ?_
       have hS104:=hS97.drop.drop.drop.drop.drop
       clear hS97
       refine thenN ?_
       refine wp_ret ?_
       refine blockR ?_
       refine thenR (thenR ?_)
       refine blockR ?_
       refine thenR ?_
       obtain rfl:=Option.some.inj hm101
       refine ev_ret hF102 [6] (.bool false) rfl rfl rfl ?_
       exact ⟨rfl,hS104⟩
      rw [hc100] at hF96
      have hm106:=ifNot hc100 hm98; clear hm98
      refine ev_condF hF96 rfl rfl ?_
      refine wp_skip ?_
      have hF107:=hF96.keep [0,2,7,8]
      clear hF96
      refine blockN ?_
      refine thenN (wp_region_lit ?_)
      refine ev_runK 3 hF107 [0,2,7,8] (l':=[(8,nI (IntKind.i64.wrap (x73+1))),(7,nP z26 0),(0,nI x5),(2,.slice pa2 K2.length ca2)]) (w':=w95) (by kernel_rfl) ?_
      intro a109 hF108; clear hF107
      refine wpList_nil ?_
      exact thenN ⟨k74,Nat.lt_succ_self _,s90,s91,IntKind.i64.wrap (x73+1),hF108,hS97,hm106⟩
    · skip
      obtain ⟨hc110,hm111⟩:=ifTE hm88; clear hm88
      obtain ⟨g112,rfl⟩:=hp48.resolve_left (by have:=inR_spec hc110; omega)
      have hS113:=hS78.pick4.pick1
      clear hS78
      have hS114:=hS113.drew; clear hS113
      refine any_start (fun wS=>∃ qs,St w0 [] (BlkP z26 55 #[nP z27 0,nP z29 0,.slice p42 L18.length c43,nS g112 L19 c47]::RowP (nS g112 L19 c47) L19::qs) wS) 15 #[false,false,false,false,false,false,false,false,false,false,false,false,false,false,false] (by kernel_rfl) (by kernel_rfl) (by kernel_rfl) ?_
      refine any_many 10 [(0,some (nP z26 0)),(1,some (nP z26 0)),(2,some (nP z26 0)),(3,some (nP z26 3)),(4,some (nS g112 L19 c47)),(5,some (nI x73)),(6,some (nP g112 (x73.toNat))),(7,some (nI (atI L19 x73))),(8,some (nP z26 0)),(12,some (nI x73))] [0,2,7,8,37,44,45,46,47,48,49,50,51] #[true,true,true,true,true,true,true,true,true,false,false,false,true,false,false] (by rfl) hF89 (by kernel_rfl) (by kernel_rfl) (by exact ⟨fun wS hw=>by kernel_rfl,fun wS hw=>by kernel_rfl,fun wS hw=>by kernel_rfl,fun wS hw=>by kernel_rfl,fun wS hw=>hw.elim fun qs hw=>run_loadV rfl rfl (run_loadS rfl rfl (hw.cell 0 rfl 3 rfl)),fun wS hw=>by kernel_rfl,fun wS hw=>run_idx rfl rfl rfl rfl rfl (inR_spec hc110).1 (inR_spec hc110).2 _,fun wS hw=>run_load1 rfl rfl rfl (hw.elim fun qs hw=>hw.atI 1 rfl hc110),fun wS hw=>by kernel_rfl,fun wS hw=>by kernel_rfl,trivial⟩) (fun _ _ _ _ _ h=>h) ⟨_,hS114⟩ (l':=[(49,nI x73),(45,nP z26 0),(44,nI (atI L19 x73)),(37,nP z26 0),(8,nI x73),(7,nP z26 0),(0,nI x5),(2,.slice pa2 K2.length ca2)]) (by kernel_rfl) ?_
      intro a116 hF115; clear hF89
      refine any_two 9 11 (by kernel_rfl) ?_ ?_
      · skip
        have hS117:=hS114.pick1.pick4.pick4.pick4.pick4
        clear hS114
        refine op_call 9 #[true,true,true,true,true,true,true,true,true,true,false,false,true,false,false] 31 #[nP z26 0,nI 0] hF115 rfl rfl rfl (by kernel_rfl) rfl (by kernel_rfl) (fun w=>by kernel_rfl) (by kernel_rfl) ?_
        obtain ⟨x118,s119,s120,hx121,hm122⟩:=bind3E hm111; clear hm111
        refine (law15_ch.ok hS117 hx121).mono ?_
        rintro _ w123 ⟨rfl,hS125⟩; clear hS117
        refine ⟨⟨_,hS125.pick4.pick1⟩,?_⟩
        intro a124 hF126; clear hF115
        refine any_two 10 11 (by kernel_rfl) ?_ ?_
        · skip
          have hS127:St w0 [] (RowP (.slice (some ⟨w123.heap.size,0,none⟩) 1 1) [x118]::BlkP z26 55 #[nP z27 0,nP z29 0,.slice p42 L18.length c43,nS g112 L19 c47]::HeapP z27 z28 s119::RHeapP z29 z30 z31 z32 z33 s120::RowP (.slice p42 L18.length c43) L18::RowP (nS g112 L19 c47) L19::ps) (w123.alloc (.cells #[nI x118] 3)):=St.lit hS125 [x118] (by unfold maxLen; simp)
          clear hS125
          refine op_step 10 #[true,true,true,true,true,true,true,true,true,true,true,false,true,false,false] (.slice (some ⟨w123.heap.size,0,none⟩) 1 1) (w123.alloc (.cells #[nI x118] 3)) hF126 rfl (by kernel_rfl) rfl (by kernel_rfl) (by kernel_rfl) (l':=[(47,.slice (some ⟨w123.heap.size,0,none⟩) 1 1),(46,nI x118),(49,nI x73),(45,nP z26 0),(44,nI (atI L19 x73)),(37,nP z26 0),(8,nI x73),(7,nP z26 0),(0,nI x5),(2,.slice pa2 K2.length ca2)]) (by kernel_rfl) ⟨_,hS127.pick5.pick2⟩ (by kernel_rfl) ?_
          intro a129 hF128; clear hF126
          refine any_one 11 (by kernel_rfl) ?_
          have hS130:St w0 [] (BoolsP (.slice (some ⟨(w123.alloc (.cells #[nI x118] 3)).heap.size,0,none⟩) 1 1) [false]::RowP (.slice (some ⟨w123.heap.size,0,none⟩) 1 1) [x118]::BlkP z26 55 #[nP z27 0,nP z29 0,.slice p42 L18.length c43,nS g112 L19 c47]::HeapP z27 z28 s119::RHeapP z29 z30 z31 z32 z33 s120::RowP (.slice p42 L18.length c43) L18::RowP (nS g112 L19 c47) L19::ps) ((w123.alloc (.cells #[nI x118] 3)).alloc (.cells #[.bool false] 4)):=St.litB hS127 [false] (by unfold maxLen; simp)
          clear hS127
          refine op_step 11 #[true,true,true,true,true,true,true,true,true,true,true,true,true,false,false] (.slice (some ⟨(w123.alloc (.cells #[nI x118] 3)).heap.size,0,none⟩) 1 1) ((w123.alloc (.cells #[nI x118] 3)).alloc (.cells #[.bool false] 4)) hF128 rfl (by kernel_rfl) rfl (by kernel_rfl) (by kernel_rfl) (l':=[(48,.slice (some ⟨(w123.alloc (.cells #[nI x118] 3)).heap.size,0,none⟩) 1 1),(47,.slice (some ⟨w123.heap.size,0,none⟩) 1 1),(46,nI x118),(49,nI x73),(45,nP z26 0),(44,nI (atI L19 x73)),(37,nP z26 0),(8,nI x73),(7,nP z26 0),(0,nI x5),(2,.slice pa2 K2.length ca2)]) (by kernel_rfl) ⟨_,hS130.pick6.pick3⟩ (by kernel_rfl) ?_
          intro a132 hF131; clear hF128
          have hS133:=hS130.pick1.pick6.pick6.pick6.pick6.pick6
          clear hS130
          refine any_call 13 #[true,true,true,true,true,true,true,true,true,true,true,true,true,true,false] 41 #[nP z26 0,nI (atI L19 x73),.slice (some ⟨w123.heap.size,0,none⟩) 1 1,.slice (some ⟨(w123.alloc (.cells #[nI x118] 3)).heap.size,0,none⟩) 1 1,nI 0,nI x73] hF131 rfl (by kernel_rfl) rfl rfl (by kernel_rfl) rfl (by kernel_rfl) (fun w=>by kernel_rfl) (by kernel_rfl) ?_
          obtain ⟨y134,s135,s136,hx137,hm138⟩:=bind3E hm122; clear hm122
          refine (law15_wait.ok hS133 hx137).mono ?_
          rintro _ w139 ⟨rfl,hS141⟩; clear hS133
          refine ⟨⟨_,hS141.pick4.pick1⟩,?_⟩
          intro a140 hF142; clear hF131
          refine any_many 1 [(14,some (.bool (!(y134))))] [0,2,7,8,51] #[true,true,true,true,true,true,true,true,true,true,true,true,true,true,true] (by rfl) hF142 (by kernel_rfl) (by kernel_rfl) (by exact ⟨fun wS hw=>by kernel_rfl,trivial⟩) (fun _ _ _ _ _ h=>h) ⟨_,hS141.pick4.pick1⟩ (l':=[(51,.bool (!(y134))),(8,nI x73),(7,nP z26 0),(0,nI x5),(2,.slice pa2 K2.length ca2)]) (by kernel_rfl) ?_
          intro a144 hF143; clear hF142
          refine any_done (by kernel_rfl) ?_
          have hS145:=hS141.pick5.drop.pick5.drop
          clear hS141
          exact thenN ⟨s135,s136,!(y134),hF143,hS145,hm138⟩
        · skip
          have hS146:St w0 [] (BoolsP (.slice (some ⟨w123.heap.size,0,none⟩) 1 1) [false]::BlkP z26 55 #[nP z27 0,nP z29 0,.slice p42 L18.length c43,nS g112 L19 c47]::HeapP z27 z28 s119::RHeapP z29 z30 z31 z32 z33 s120::RowP (.slice p42 L18.length c43) L18::RowP (nS g112 L19 c47) L19::ps) (w123.alloc (.cells #[.bool false] 4)):=St.litB hS125 [false] (by unfold maxLen; simp)
          clear hS125
          refine op_step 11 #[true,true,true,true,true,true,true,true,true,true,false,true,true,false,false] (.slice (some ⟨w123.heap.size,0,none⟩) 1 1) (w123.alloc (.cells #[.bool false] 4)) hF126 rfl (by kernel_rfl) rfl (by kernel_rfl) (by kernel_rfl) (l':=[(48,.slice (some ⟨w123.heap.size,0,none⟩) 1 1),(46,nI x118),(49,nI x73),(45,nP z26 0),(44,nI (atI L19 x73)),(37,nP z26 0),(8,nI x73),(7,nP z26 0),(0,nI x5),(2,.slice pa2 K2.length ca2)]) (by kernel_rfl) ⟨_,hS146.pick5.pick2⟩ (by kernel_rfl) ?_
          intro a148 hF147; clear hF126
          refine any_one 10 (by kernel_rfl) ?_
          have hS149:St w0 [] (RowP (.slice (some ⟨(w123.alloc (.cells #[.bool false] 4)).heap.size,0,none⟩) 1 1) [x118]::BoolsP (.slice (some ⟨w123.heap.size,0,none⟩) 1 1) [false]::BlkP z26 55 #[nP z27 0,nP z29 0,.slice p42 L18.length c43,nS g112 L19 c47]::HeapP z27 z28 s119::RHeapP z29 z30 z31 z32 z33 s120::RowP (.slice p42 L18.length c43) L18::RowP (nS g112 L19 c47) L19::ps) ((w123.alloc (.cells #[.bool false] 4)).alloc (.cells #[nI x118] 3)):=St.lit hS146 [x118] (by unfold maxLen; simp)
          clear hS146
          refine op_step 10 #[true,true,true,true,true,true,true,true,true,true,true,true,true,false,false] (.slice (some ⟨(w123.alloc (.cells #[.bool false] 4)).heap.size,0,none⟩) 1 1) ((w123.alloc (.cells #[.bool false] 4)).alloc (.cells #[nI x118] 3)) hF147 rfl (by kernel_rfl) rfl (by kernel_rfl) (by kernel_rfl) (l':=[(47,.slice (some ⟨(w123.alloc (.cells #[.bool false] 4)).heap.size,0,none⟩) 1 1),(48,.slice (some ⟨w123.heap.size,0,none⟩) 1 1),(46,nI x118),(49,nI x73),(45,nP z26 0),(44,nI (atI L19 x73)),(37,nP z26 0),(8,nI x73),(7,nP z26 0),(0,nI x5),(2,.slice pa2 K2.length ca2)]) (by kernel_rfl) ⟨_,hS149.pick6.pick3⟩ (by kernel_rfl) ?_
          intro a151 hF150; clear hF147
          have hS152:=hS149.pick1.pick1.pick6.pick6.pick6.pick6.pick6
          clear hS149
          refine any_call 13 #[true,true,true,true,true,true,true,true,true,true,true,true,true,true,false] 41 #[nP z26 0,nI (atI L19 x73),.slice (some ⟨(w123.alloc (.cells #[.bool false] 4)).heap.size,0,none⟩) 1 1,.slice (some ⟨w123.heap.size,0,none⟩) 1 1,nI 0,nI x73] hF150 rfl (by kernel_rfl) rfl rfl (by kernel_rfl) rfl (by kernel_rfl) (fun w=>by kernel_rfl) (by kernel_rfl) ?_
          obtain ⟨y153,s154,s155,hx156,hm157⟩:=bind3E hm122; clear hm122
          refine (law15_wait.ok hS152 hx156).mono ?_
          rintro _ w158 ⟨rfl,hS160⟩; clear hS152
          refine ⟨⟨_,hS160.pick4.pick1⟩,?_⟩
          intro a159 hF161; clear hF150
          refine any_many 1 [(14,some (.bool (!(y153))))] [0,2,7,8,51] #[true,true,true,true,true,true,true,true,true,true,true,true,true,true,true] (by rfl) hF161 (by kernel_rfl) (by kernel_rfl) (by exact ⟨fun wS hw=>by kernel_rfl,trivial⟩) (fun _ _ _ _ _ h=>h) ⟨_,hS160.pick4.pick1⟩ (l':=[(51,.bool (!(y153))),(8,nI x73),(7,nP z26 0),(0,nI x5),(2,.slice pa2 K2.length ca2)]) (by kernel_rfl) ?_
          intro a163 hF162; clear hF161
          refine any_done (by kernel_rfl) ?_
          have hS164:=hS160.pick5.drop.pick5.drop
          clear hS160
          exact thenN ⟨s154,s155,!(y153),hF162,hS164,hm157⟩
      · skip
        have hS165:St w0 [] (BoolsP (.slice (some ⟨(w76.drew).heap.size,0,none⟩) 1 1) [false]::BlkP z26 55 #[nP z27 0,nP z29 0,.slice p42 L18.length c43,nS g112 L19 c47]::RowP (nS g112 L19 c47) L19::HeapP z27 z28 s71::RHeapP z29 z30 z31 z32 z33 s72::RowP (.slice p42 L18.length c43) L18::ps) ((w76.drew).alloc (.cells #[.bool false] 4)):=St.litB hS114 [false] (by unfold maxLen; simp)
        clear hS114
        refine op_step 11 #[true,true,true,true,true,true,true,true,true,false,false,true,true,false,false] (.slice (some ⟨(w76.drew).heap.size,0,none⟩) 1 1) ((w76.drew).alloc (.cells #[.bool false] 4)) hF115 rfl (by kernel_rfl) rfl (by kernel_rfl) (by kernel_rfl) (l':=[(48,.slice (some ⟨(w76.drew).heap.size,0,none⟩) 1 1),(49,nI x73),(45,nP z26 0),(44,nI (atI L19 x73)),(37,nP z26 0),(8,nI x73),(7,nP z26 0),(0,nI x5),(2,.slice pa2 K2.length ca2)]) (by kernel_rfl) ⟨_,hS165.pick2.pick2⟩ (by kernel_rfl) ?_
        intro a167 hF166; clear hF115
        have hS168:=hS165.pick2.pick5.pick5.pick5.pick5
        clear hS165
        refine any_call 9 #[true,true,true,true,true,true,true,true,true,true,false,true,true,false,false] 31 #[nP z26 0,nI 0] hF166 rfl (by kernel_rfl) rfl rfl (by kernel_rfl) rfl (by kernel_rfl) (fun w=>by kernel_rfl) (by kernel_rfl) ?_
        obtain ⟨x169,s170,s171,hx172,hm173⟩:=bind3E hm111; clear hm111
        refine (law15_ch.ok hS168 hx172).mono ?_
        rintro _ w174 ⟨rfl,hS176⟩; clear hS168
        refine ⟨⟨_,hS176.pick4.pick1⟩,?_⟩
        intro a175 hF177; clear hF166
        refine any_one 10 (by kernel_rfl) ?_
        have hS178:St w0 [] (RowP (.slice (some ⟨w174.heap.size,0,none⟩) 1 1) [x169]::BlkP z26 55 #[nP z27 0,nP z29 0,.slice p42 L18.length c43,nS g112 L19 c47]::HeapP z27 z28 s170::RHeapP z29 z30 z31 z32 z33 s171::RowP (.slice p42 L18.length c43) L18::RowP (nS g112 L19 c47) L19::BoolsP (.slice (some ⟨(w76.drew).heap.size,0,none⟩) 1 1) [false]::ps) (w174.alloc (.cells #[nI x169] 3)):=St.lit hS176 [x169] (by unfold maxLen; simp)
        clear hS176
        refine op_step 10 #[true,true,true,true,true,true,true,true,true,true,true,true,true,false,false] (.slice (some ⟨w174.heap.size,0,none⟩) 1 1) (w174.alloc (.cells #[nI x169] 3)) hF177 rfl (by kernel_rfl) rfl (by kernel_rfl) (by kernel_rfl) (l':=[(47,.slice (some ⟨w174.heap.size,0,none⟩) 1 1),(46,nI x169),(48,.slice (some ⟨(w76.drew).heap.size,0,none⟩) 1 1),(49,nI x73),(45,nP z26 0),(44,nI (atI L19 x73)),(37,nP z26 0),(8,nI x73),(7,nP z26 0),(0,nI x5),(2,.slice pa2 K2.length ca2)]) (by kernel_rfl) ⟨_,hS178.pick5.pick2⟩ (by kernel_rfl) ?_
        intro a180 hF179; clear hF177
        have hS181:=hS178.pick6.pick1.pick6.pick6.pick6.pick6.pick6
        clear hS178
        refine any_call 13 #[true,true,true,true,true,true,true,true,true,true,true,true,true,true,false] 41 #[nP z26 0,nI (atI L19 x73),.slice (some ⟨w174.heap.size,0,none⟩) 1 1,.slice (some ⟨(w76.drew).heap.size,0,none⟩) 1 1,nI 0,nI x73] hF179 rfl (by kernel_rfl) rfl rfl (by kernel_rfl) rfl (by kernel_rfl) (fun w=>by kernel_rfl) (by kernel_rfl) ?_
        obtain ⟨y182,s183,s184,hx185,hm186⟩:=bind3E hm173; clear hm173
        refine (law15_wait.ok hS181 hx185).mono ?_
        rintro _ w187 ⟨rfl,hS189⟩; clear hS181
        refine ⟨⟨_,hS189.pick4.pick1⟩,?_⟩
        intro a188 hF190; clear hF179
        refine any_many 1 [(14,some (.bool (!(y182))))] [0,2,7,8,51] #[true,true,true,true,true,true,true,true,true,true,true,true,true,true,true] (by rfl) hF190 (by kernel_rfl) (by kernel_rfl) (by exact ⟨fun wS hw=>by kernel_rfl,trivial⟩) (fun _ _ _ _ _ h=>h) ⟨_,hS189.pick4.pick1⟩ (l':=[(51,.bool (!(y182))),(8,nI x73),(7,nP z26 0),(0,nI x5),(2,.slice pa2 K2.length ca2)]) (by kernel_rfl) ?_
        intro a192 hF191; clear hF190
        refine any_done (by kernel_rfl) ?_
        have hS193:=hS189.pick5.drop.pick5.drop
        clear hS189
        exact thenN ⟨s183,s184,!(y182),hF191,hS193,hm186⟩
   rw [hc87] at hF85
   have hm194:=ifNot hc87 hm80; clear hm80
   refine ev_condF hF85 rfl rfl ?_
   refine wp_exit ?_
   refine thenE ?_
   refine thenE ?_
   refine blockE ?_
   refine thenN (wp_seq (wp_seq (wp_region_lit ?_)))
   refine ev_runK 1 hF85 [0,2,7,9] (l':=[(9,nI 0),(7,nP z26 0),(0,nI x5),(2,.slice pa2 K2.length ca2)]) (w':=w76) (by kernel_rfl) ?_
   intro a196 hF195; clear hF85
   refine wpList_nil (thenN ?_)
   refine wp_block ?_
   refine wp_loop_ghost (fun kI aI wI=>∃ (s197:HSt) (s198:HSt) (x199:Int),Fr 157 aI [(9,nI x199),(7,nP z26 0),(0,nI x5),(2,.slice pa2 K2.length ca2)]∧St w0 [] (BlkP z26 55 #[nP z27 0,nP z29 0,.slice p42 L18.length c43,.slice p46 L19.length c47]::HeapP z27 z28 s197::RHeapP z29 z30 z31 z32 z33 s198::RowP (.slice p42 L18.length c43) L18::RowP (.slice p46 L19.length c47) L19::ps) wI∧SendFirst.l20 K2 k x5 L18 L19 kI s197 s198 x199=some r0) k ⟨s71,s72,0,hF195,hS78,hm194⟩ ?_
   rintro k200 a201 w202 ⟨s197,s198,x199,hF203,hS204,hm205⟩
   clear hF195 hS78 hm194
   rcases k200 with _ | k200
   · cases hm205
   have hm206:SendFirst.l20b K2 k x5 L18 L19 (SendFirst.l20 K2 k x5 L18 L19 k200) s197 s198 x199=some r0:=hm205
   clear hm205
   unfold SendFirst.l20b at hm206
   refine wp_seq (wp_seq ?_)
   refine joinQ (fun aI wI=>∃ (y207:Bool),Fr 157 aI [(59,.bool (y207)),(9,nI x199),(7,nP z26 0),(0,nI x5),(2,.slice pa2 K2.length ca2)]∧St w0 [] (BlkP z26 55 #[nP z27 0,nP z29 0,.slice p42 L18.length c43,.slice p46 L19.length c47]::HeapP z27 z28 s197::RHeapP z29 z30 z31 z32 z33 s198::RowP (.slice p42 L18.length c43) L18::RowP (.slice p46 L19.length c47) L19::ps) wI∧SendFirst.j21 K2 k x5 L18 L19 s197 s198 x199 (SendFirst.l20 K2 k x5 L18 L19 k200) y207=some r0) ?_ ?_
   rotate_left
   · rintro a209 w210 ⟨y207,hF211,hS212,hm213⟩
     clear hF203 hS204 hm206
     unfold SendFirst.j21 at hm213
     refine thenN ?_
     cases hc215:(y207)
     case true =>
      rw [hc215] at hF211
      have hm216:=ifYes hc215 hm213; clear hm213
      refine ev_condT hF211 rfl rfl ?_
      refine wp_skip ?_
      have hF217:=hF211.keep [0,2,7,9]
      clear hF211
      refine thenN (wp_seq ?_)
      refine wp_block ?_
      refine wp_seq ?_
      obtain ⟨hc218,hm219⟩:=ifTE hm216; clear hm216
      obtain ⟨b220,o221,rfl⟩:=argK hA2 hc218
      have hS222:=hS212.drew; clear hS212
      refine any_start (fun wS=>∃ qs,St w0 [] (BlkP z26 55 #[nP z27 0,nP z29 0,.slice p42 L18.length c43,.slice p46 L19.length c47]::qs) wS) 18 #[false,false,false,false,false,false,false,false,false,false,false,false,false,false,false,false,false,false] (by kernel_rfl) (by kernel_rfl) (by kernel_rfl) ?_
      refine any_many 9 [(0,some (nP z26 0)),(1,some (nP z26 0)),(2,some (nP z26 0)),(3,some (nP z27 0)),(4,some (nP z26 0)),(8,some (.slice (some ⟨b220,o221,none⟩) K2.length ca2)),(9,some (nI x199)),(10,some (nP b220 ((o221+x199.toNat)))),(11,some (nI (atI K2 x199)))] [0,2,7,9,10,11,62,66,67,68,69,70,74,75,76,77] #[true,true,true,true,true,false,false,false,true,true,true,true,false,false,false,false,false,false] (by rfl) hF217 (by kernel_rfl) (by kernel_rfl) (by exact ⟨fun wS hw=>by kernel_rfl,fun wS hw=>by kernel_rfl,fun wS hw=>by kernel_rfl,fun wS hw=>hw.elim fun qs hw=>run_loadV rfl rfl (run_loadS rfl rfl (hw.cell 0 rfl 0 rfl)),fun wS hw=>by kernel_rfl,fun wS hw=>by kernel_rfl,fun wS hw=>by kernel_rfl,fun wS hw=>run_idxO rfl rfl rfl rfl rfl (inR_spec hc218).1 (inR_spec hc218).2 _,fun wS hw=>run_load1 rfl rfl rfl (hw.elim fun qs hw=>argAt hA2 hw hc218),trivial⟩) (fun _ _ _ _ _ h=>h) ⟨_,hS222⟩ (l':=[(74,nI (atI K2 x199)),(67,nP z26 0),(66,nP z27 0),(9,nI x199),(7,nP z26 0),(0,nI x5),(2,.slice (some ⟨b220,o221,none⟩) K2.length ca2)]) (by kernel_rfl) ?_
      intro a224 hF223; clear hF217
      refine any_call 5 #[true,true,true,true,true,true,false,false,true,true,true,true,false,false,false,false,false,false] 31 #[nP z26 0,nI 0] hF223 rfl (by kernel_rfl) rfl rfl (by kernel_rfl) rfl (by kernel_rfl) (fun w=>by kernel_rfl) (by kernel_rfl) ?_
      obtain ⟨x225,s226,s227,hx228,hm229⟩:=bind3E hm219; clear hm219
      refine (law15_ch.ok hS222 hx228).mono ?_
      rintro _ w230 ⟨rfl,hS232⟩; clear hS222
      refine ⟨⟨_,hS232⟩,?_⟩
      intro a231 hF233; clear hF223
      refine any_many 2 [(6,some (nI (IntKind.i64.wrap (2 * x225)))),(7,some (nI (IntKind.i64.wrap ((IntKind.i64.wrap (2 * x225))+1))))] [0,2,7,9,10,11,62,66,70,74,75,76,77] #[true,true,true,true,true,true,true,true,true,true,true,true,false,false,false,false,false,false] (by rfl) hF233 (by kernel_rfl) (by kernel_rfl) (by exact ⟨fun wS hw=>by kernel_rfl,fun wS hw=>by kernel_rfl,trivial⟩) (fun _ _ _ _ _ h=>h) ⟨_,hS232⟩ (l':=[(70,nI (IntKind.i64.wrap ((IntKind.i64.wrap (2 * x225))+1))),(74,nI (atI K2 x199)),(66,nP z27 0),(9,nI x199),(7,nP z26 0),(0,nI x5),(2,.slice (some ⟨b220,o221,none⟩) K2.length ca2)]) (by kernel_rfl) ?_
      intro a235 hF234; clear hF233
      have hS236:=hS232.pick1
      clear hS232
      refine any_call 12 #[true,true,true,true,true,true,true,true,true,true,true,true,true,false,false,false,false,false] 28 #[nP z27 0,nI (IntKind.i64.wrap ((IntKind.i64.wrap (2 * x225))+1)),nI (atI K2 x199)] hF234 rfl (by kernel_rfl) rfl rfl (by kernel_rfl) rfl (by kernel_rfl) (fun w=>by kernel_rfl) (by kernel_rfl) ?_
      obtain ⟨x237,x238,s239,hx240,hm241⟩:=bind3E hm229; clear hm229
      refine (send_Try.ok hS236 hx240).mono ?_
      rintro _ w242 ⟨rfl,hS244⟩; clear hS236
      refine ⟨⟨_,hS244.pick1⟩,?_⟩
      intro a243 hF245; clear hF234
      refine any_many 5 [(13,some (.tuple #[nI x237,nI x238])),(14,some (nI x237)),(15,some (nI x238)),(16,some (nI x237)),(17,some (nI x238))] [0,2,7,9,10,11] #[true,true,true,true,true,true,true,true,true,true,true,true,true,true,true,true,true,true] (by rfl) hF245 (by kernel_rfl) (by kernel_rfl) (by exact ⟨fun wS hw=>by kernel_rfl,fun wS hw=>by kernel_rfl,fun wS hw=>by kernel_rfl,fun wS hw=>by kernel_rfl,fun wS hw=>by kernel_rfl,trivial⟩) (fun _ _ _ _ _ h=>h) ⟨_,hS244.pick1⟩ (l':=[(11,nI x238),(10,nI x237),(9,nI x199),(7,nP z26 0),(0,nI x5),(2,.slice (some ⟨b220,o221,none⟩) K2.length ca2)]) (by kernel_rfl) ?_
      intro a247 hF246; clear hF245
      refine any_done (by kernel_rfl) ?_
      refine thenN ?_
      refine wp_block ?_
      refine wp_seq (wp_region_lit ?_)
      refine ev_runs 4 hF246 (l':=[(88,nP z26 3),(87,nP z26 0),(86,nP z26 0),(85,nI x199),(11,nI x238),(10,nI x237),(9,nI x199),(7,nP z26 0),(0,nI x5),(2,.slice (some ⟨b220,o221,none⟩) K2.length ca2)]) (w':=w242) (by kernel_rfl) ?_
      intro a249 hF248; clear hF246
      refine ev_one (.slice p46 L19.length c47) w242 hF248 (by kernel_rfl) rfl (by kernel_rfl) (run_loadV rfl rfl (run_loadS rfl rfl (hS244.cell 1 rfl 3 rfl))) (l':=[(89,.slice p46 L19.length c47),(88,nP z26 3),(87,nP z26 0),(86,nP z26 0),(85,nI x199),(11,nI x238),(10,nI x237),(9,nI x199),(7,nP z26 0),(0,nI x5),(2,.slice (some ⟨b220,o221,none⟩) K2.length ca2)]) (by kernel_rfl) ?_
      intro a251 hF250; clear hF248
      refine ev_runK 3 hF250 [0,2,7,9,10,11,84] (l':=[(84,.bool (decide (x199<(L19.length:Int)))),(11,nI x238),(10,nI x237),(9,nI x199),(7,nP z26 0),(0,nI x5),(2,.slice (some ⟨b220,o221,none⟩) K2.length ca2)]) (w':=w242) (by kernel_rfl) ?_
      intro a253 hF252; clear hF250
      refine wpList_nil (thenN ?_)
      refine joinQ (fun aI wI=>∃ (s254:HSt),Fr 157 aI [(9,nI x199),(7,nP z26 0),(0,nI x5),(2,.slice (some ⟨b220,o221,none⟩) K2.length ca2)]∧St w0 [] (HeapP z27 z28 s254::BlkP z26 55 #[nP z27 0,nP z29 0,.slice p42 L18.length c43,.slice p46 L19.length c47]::RHeapP z29 z30 z31 z32 z33 s227::RowP (.slice p42 L18.length c43) L18::RowP (.slice p46 L19.length c47) L19::ps) wI∧SendFirst.j22 x199 (SendFirst.l20 K2 k x5 L18 L19 k200) s227 s254=some r0) ?_ ?_
      rotate_left
      · rintro a256 w257 ⟨s254,hF258,hS259,hm260⟩
        clear hF252 hS244 hm241
        unfold SendFirst.j22 at hm260
        refine blockN ?_
        refine blockN ?_
        refine thenN (wp_region_lit ?_)
        refine ev_runK 3 hF258 [0,2,7,9] (l':=[(9,nI (IntKind.i64.wrap (x199+1))),(7,nP z26 0),(0,nI x5),(2,.slice (some ⟨b220,o221,none⟩) K2.length ca2)]) (w':=w257) (by kernel_rfl) ?_
        intro a263 hF262; clear hF258
        refine wpList_nil ?_
        have hS264:=hS259.pick4.pick4.pick4.pick3.pick4
        clear hS259
        exact thenN ⟨k200,Nat.lt_succ_self _,s254,s227,IntKind.i64.wrap (x199+1),hF262,hS264,hm260⟩
      · skip
        cases hc265:(decide (x199<(L19.length:Int)))
        case true =>
         rw [hc265] at hF252
         have hm266:=ifYes hc265 hm241; clear hm241
         refine ev_condT hF252 rfl rfl ?_
         refine wp_seq ?_
         refine joinQ (fun aI wI=>∃ (g267:Nat) (s268:HSt) (x269:Int) (x270:Int) (x271:Int) (x272:Int) (x273:Int) (x274:Int) (x275:Int) (x276:Int) (x277:Int) (x278:Int),Fr 157 aI [(12,nP g267 0),(11,nI x238),(10,nI x237),(9,nI x199),(7,nP z26 0),(0,nI x5),(2,.slice (some ⟨b220,o221,none⟩) K2.length ca2)]∧St w0 [] (BlkP g267 29 #[nI x269,nI x270,nI x271,nI x272,nI x273,nI x274,nI x275,nI x276,nI x277,nI x278]::HeapP z27 z28 s268::BlkP z26 55 #[nP z27 0,nP z29 0,.slice p42 L18.length c43,.slice p46 L19.length c47]::RowP (.slice p46 L19.length c47) L19::RHeapP z29 z30 z31 z32 z33 s227::RowP (.slice p42 L18.length c43) L18::ps) wI∧SendFirst.j23 K2 L19 x199 (SendFirst.l20 K2 k x5 L18 L19 k200) s227 x237 x238 s268 x269 x270 x271 x272 x273 x274 x275 x276 x277 x278=some r0) ?_ ?_
         rotate_left
         · rintro a280 w281 ⟨g267,s268,x269,x270,x271,x272,x273,x274,x275,x276,x277,x278,hF282,hS283,hm284⟩
           clear hF252 hS244 hm266
           unfold SendFirst.j23 at hm284
           refine thenN (wp_seq ?_)
           refine joinQ (fun aI wI=>∃ (y286:Bool),Fr 157 aI [(140,.bool (y286)),(9,nI x199),(7,nP z26 0),(0,nI x5),(2,.slice (some ⟨b220,o221,none⟩) K2.length ca2)]∧St w0 [] (BlkP z26 55 #[nP z27 0,nP z29 0,.slice p42 L18.length c43,.slice p46 L19.length c47]::RowP (.slice p46 L19.length c47) L19::HeapP z27 z28 s268::RHeapP z29 z30 z31 z32 z33 s227::RowP (.slice p42 L18.length c43) L18::ps) wI∧SendFirst.j24 x199 (SendFirst.l20 K2 k x5 L18 L19 k200) s227 s268 y286=some r0) ?_ ?_
           rotate_left
           · rintro a288 w289 ⟨y286,hF290,hS291,hm292⟩
             clear hF282 hS283 hm284
             unfold SendFirst.j24 at hm292
             refine thenN ?_
             cases hc294:(y286)
             case true =>
              rw [hc294] at hF290
              have hm295:=ifYes hc294 hm292; clear hm292
              refine ev_condT hF290 rfl rfl ?_
              refine wp_seq (wp_region_lit ?_)
              refine ev_runK 1 hF290 [6] (l':=[(6,.bool false)]) (w':=w289) (by kernel_rfl) ?_
              intro a297 hF296; clear hF290
              refine wpList_nil ?_
              have hS298:=hS291.drop.drop.drop.drop.drop
              clear hS291
              refine thenN ?_
              refine wp_ret ?_
              refine thenR ?_
              refine blockR ?_
              refine blockR ?_
              refine thenR (thenR ?_)
              refine blockR ?_
              refine thenR ?_
              obtain rfl:=Option.some.inj hm295
              refine ev_ret hF296 [6] (.bool false) rfl rfl rfl ?_
              exact ⟨rfl,hS298⟩
             rw [hc294] at hF290
             have hm300:=ifNot hc294 hm292; clear hm292
             refine ev_condF hF290 rfl rfl ?_
             refine wp_skip ?_
             have hF301:=hF290.keep [0,2,7,9]
             clear hF290
             have hS302:=hS291.pick1.pick4.pick4.pick3.pick4
             clear hS291
             exact thenN ⟨s268,hF301,hS302,hm300⟩
           · skip
             obtain ⟨hc303,hm304⟩:=ifTE hm284; clear hm284
             obtain ⟨g305,rfl⟩:=hp48.resolve_left (by have:=inR_spec hc303; omega)
             have hS306:=hS283.pick3.pick3
             clear hS283
             have hS307:=hS306.drew; clear hS306
             refine any_start (fun wS=>∃ qs,St w0 [] (BlkP z26 55 #[nP z27 0,nP z29 0,.slice p42 L18.length c43,nS g305 L19 c47]::RowP (nS g305 L19 c47) L19::BlkP g267 29 #[nI x269,nI x270,nI x271,nI x272,nI x273,nI x274,nI x275,nI x276,nI x277,nI x278]::qs) wS) 34 #[false,false,false,false,false,false,false,false,false,false,false,false,false,false,false,false,false,false,false,false,false,false,false,false,false,false,false,false,false,false,false,false,false,false] (by kernel_rfl) (by kernel_rfl) (by kernel_rfl) ?_
             refine any_many 10 [(0,some (nI x237)),(1,some (nP z26 0)),(2,some (nP z26 0)),(3,some (nP z26 3)),(4,some (nS g305 L19 c47)),(5,some (nI x199)),(6,some (nP g305 (x199.toNat))),(7,some (nI (atI L19 x199))),(8,some (.bool (x237 != (atI L19 x199)))),(9,some (.bool (x237 != (atI L19 x199))))] [0,2,7,9,11,12,116,117,118,119,120,121,122,123,124,125,126,127,128,129,130,131,132,133,134,135,136,137,138,139,140] #[true,true,true,true,true,true,true,true,true,true,false,false,false,false,false,false,false,false,false,false,false,false,false,false,false,false,false,false,false,false,false,false,false,false] (by rfl) hF282 (by kernel_rfl) (by kernel_rfl) (by exact ⟨fun wS hw=>by kernel_rfl,fun wS hw=>by kernel_rfl,fun wS hw=>by kernel_rfl,fun wS hw=>by kernel_rfl,fun wS hw=>hw.elim fun qs hw=>run_loadV rfl rfl (run_loadS rfl rfl (hw.cell 0 rfl 3 rfl)),fun wS hw=>by kernel_rfl,fun wS hw=>run_idx rfl rfl rfl rfl rfl (inR_spec hc303).1 (inR_spec hc303).2 _,fun wS hw=>run_load1 rfl rfl rfl (hw.elim fun qs hw=>hw.atI 1 rfl hc303),fun wS hw=>by kernel_rfl,fun wS hw=>by kernel_rfl,trivial⟩) (fun _ _ _ _ _ h=>h) ⟨_,hS307⟩ (l':=[(116,.bool (x237 != (atI L19 x199))),(12,nP g267 0),(11,nI x238),(9,nI x199),(7,nP z26 0),(0,nI x5),(2,.slice (some ⟨b220,o221,none⟩) K2.length ca2)]) (by kernel_rfl) ?_
             intro a309 hF308; clear hF282
             cases hc310:(x237 != (atI L19 x199))
             case true =>
              rw [hc310] at hF308
              have hm311:=ifYes hc310 hm304; clear hm304
              refine any_many 24 [(10,none),(11,none),(12,some (.bool true)),(13,some (.bool true)),(14,none),(15,none),(16,none),(17,none),(18,none),(19,none),(20,none),(21,none),(22,some (.bool true)),(23,some (.bool true)),(24,none),(25,none),(26,none),(27,none),(28,some (.bool true)),(29,some (.bool true)),(30,none),(31,none),(32,none),(33,some (.bool true))] [0,2,7,9,140] #[true,true,true,true,true,true,true,true,true,true,true,true,true,true,true,true,true,true,true,true,true,true,true,true,true,true,true,true,true,true,true,true,true,true] (by rfl) hF308 (by kernel_rfl) (by kernel_rfl) (by exact (And.intro trivial (And.intro trivial (And.intro (fun wS hw=>by kernel_rfl) (And.intro (fun wS hw=>by kernel_rfl) (And.intro trivial (And.intro trivial (And.intro trivial (And.intro trivial (And.intro trivial (And.intro trivial (And.intro trivial (And.intro trivial (And.intro (fun wS hw=>by kernel_rfl) (And.intro (fun wS hw=>by kernel_rfl) (And.intro trivial (And.intro trivial (And.intro trivial (And.intro trivial (And.intro (fun wS hw=>by kernel_rfl) (And.intro (fun wS hw=>by kernel_rfl) (And.intro trivial (And.intro trivial (And.intro trivial (And.intro (fun wS hw=>by kernel_rfl) trivial))))))))))))))))))))))))) (fun _ _ _ _ _ h=>h) ⟨_,hS307⟩ (l':=[(140,.bool true),(9,nI x199),(7,nP z26 0),(0,nI x5),(2,.slice (some ⟨b220,o221,none⟩) K2.length ca2)]) (by kernel_rfl) ?_
              intro a313 hF312; clear hF308
              refine any_done (by kernel_rfl) ?_
              have hS314:=hS307.pick2.drop
              clear hS307
              exact thenN ⟨true,hF312,hS314,hm311⟩
             rw [hc310] at hF308
             have hm315:=ifNot hc310 hm304; clear hm304
             refine any_many 4 [(10,some (nI x238)),(11,some (.bool (x238 != 1))),(12,some (.bool (x238 != 1))),(13,some (.bool (x238 != 1)))] [0,2,7,9,12,120,121,122,123,124,125,126,127,128,129,130,131,132,133,134,135,136,137,138,139,140] #[true,true,true,true,true,true,true,true,true,true,true,true,true,true,false,false,false,false,false,false,false,false,false,false,false,false,false,false,false,false,false,false,false,false] (by rfl) hF308 (by kernel_rfl) (by kernel_rfl) (by exact ⟨fun wS hw=>by kernel_rfl,fun wS hw=>by kernel_rfl,fun wS hw=>by kernel_rfl,fun wS hw=>by kernel_rfl,trivial⟩) (fun _ _ _ _ _ h=>h) ⟨_,hS307⟩ (l':=[(120,.bool (x238 != 1)),(12,nP g267 0),(9,nI x199),(7,nP z26 0),(0,nI x5),(2,.slice (some ⟨b220,o221,none⟩) K2.length ca2)]) (by kernel_rfl) ?_
             intro a317 hF316; clear hF308
             cases hc318:(x238 != 1)
             case true =>
              rw [hc318] at hF316
              have hm319:=ifYes hc318 hm315; clear hm315
              refine any_many 20 [(14,none),(15,none),(16,none),(17,none),(18,none),(19,none),(20,none),(21,none),(22,some (.bool true)),(23,some (.bool true)),(24,none),(25,none),(26,none),(27,none),(28,some (.bool true)),(29,some (.bool true)),(30,none),(31,none),(32,none),(33,some (.bool true))] [0,2,7,9,140] #[true,true,true,true,true,true,true,true,true,true,true,true,true,true,true,true,true,true,true,true,true,true,true,true,true,true,true,true,true,true,true,true,true,true] (by rfl) hF316 (by kernel_rfl) (by kernel_rfl) (by exact (And.intro trivial (And.intro trivial (And.intro trivial (And.intro trivial (And.intro trivial (And.intro trivial (And.intro trivial (And.intro trivial (And.intro (fun wS hw=>by kernel_rfl) (And.intro (fun wS hw=>by kernel_rfl) (And.intro trivial (And.intro trivial (And.intro trivial (And.intro trivial (And.intro (fun wS hw=>by kernel_rfl) (And.intro (fun wS hw=>by kernel_rfl) (And.intro trivial (And.intro trivial (And.intro trivial (And.intro (fun wS hw=>by kernel_rfl) trivial))))))))))))))))))))) (fun _ _ _ _ _ h=>h) ⟨_,hS307⟩ (l':=[(140,.bool true),(9,nI x199),(7,nP z26 0),(0,nI x5),(2,.slice (some ⟨b220,o221,none⟩) K2.length ca2)]) (by kernel_rfl) ?_
              intro a321 hF320; clear hF316
              refine any_done (by kernel_rfl) ?_
              have hS322:=hS307.pick2.drop
              clear hS307
              exact thenN ⟨true,hF320,hS322,hm319⟩
             rw [hc318] at hF316
             have hm323:=ifNot hc318 hm315; clear hm315
             refine any_many 10 [(14,some (nP g267 3)),(15,some (nP g267 3)),(16,some (nI x272)),(17,some (.slice (some ⟨b220,o221,none⟩) K2.length ca2)),(18,some (nI x199)),(19,some (nP b220 ((o221+x199.toNat)))),(20,some (nI (atI K2 x199))),(21,some (.bool (x272 != (atI K2 x199)))),(22,some (.bool (x272 != (atI K2 x199)))),(23,some (.bool (x272 != (atI K2 x199))))] [0,2,7,9,12,130,131,132,133,134,135,136,137,138,139,140] #[true,true,true,true,true,true,true,true,true,true,true,true,true,true,true,true,true,true,true,true,true,true,true,true,false,false,false,false,false,false,false,false,false,false] (by rfl) hF316 (by kernel_rfl) (by kernel_rfl) (by exact ⟨fun wS hw=>by kernel_rfl,fun wS hw=>run_idxA (q:=0) rfl rfl rfl rfl rfl (by decide) (by decide) (by kernel_rfl) _,fun wS hw=>hw.elim fun qs hw=>run_loadV rfl rfl (run_loadS rfl rfl (hw.cell 2 rfl 3 rfl)),fun wS hw=>by kernel_rfl,fun wS hw=>by kernel_rfl,fun wS hw=>run_idxO rfl rfl rfl rfl rfl (inR_spec hc218).1 (inR_spec hc218).2 _,fun wS hw=>run_load1 rfl rfl rfl (hw.elim fun qs hw=>argAt hA2 hw hc218),fun wS hw=>by kernel_rfl,fun wS hw=>by kernel_rfl,fun wS hw=>by kernel_rfl,trivial⟩) (fun _ _ _ _ _ h=>h) ⟨_,hS307⟩ (l':=[(130,.bool (x272 != (atI K2 x199))),(12,nP g267 0),(9,nI x199),(7,nP z26 0),(0,nI x5),(2,.slice (some ⟨b220,o221,none⟩) K2.length ca2)]) (by kernel_rfl) ?_
             intro a325 hF324; clear hF316
             cases hc326:(x272 != (atI K2 x199))
             case true =>
              rw [hc326] at hF324
              have hm327:=ifYes hc326 hm323; clear hm323
              refine any_many 10 [(24,none),(25,none),(26,none),(27,none),(28,some (.bool true)),(29,some (.bool true)),(30,none),(31,none),(32,none),(33,some (.bool true))] [0,2,7,9,140] #[true,true,true,true,true,true,true,true,true,true,true,true,true,true,true,true,true,true,true,true,true,true,true,true,true,true,true,true,true,true,true,true,true,true] (by rfl) hF324 (by kernel_rfl) (by kernel_rfl) (by exact (And.intro trivial (And.intro trivial (And.intro trivial (And.intro trivial (And.intro (fun wS hw=>by kernel_rfl) (And.intro (fun wS hw=>by kernel_rfl) (And.intro trivial (And.intro trivial (And.intro trivial (And.intro (fun wS hw=>by kernel_rfl) trivial))))))))))) (fun _ _ _ _ _ h=>h) ⟨_,hS307⟩ (l':=[(140,.bool true),(9,nI x199),(7,nP z26 0),(0,nI x5),(2,.slice (some ⟨b220,o221,none⟩) K2.length ca2)]) (by kernel_rfl) ?_
              intro a329 hF328; clear hF324
              refine any_done (by kernel_rfl) ?_
              have hS330:=hS307.pick2.drop
              clear hS307
              exact thenN ⟨true,hF328,hS330,hm327⟩
             rw [hc326] at hF324
             have hm331:=ifNot hc326 hm323; clear hm323
             refine any_many 6 [(24,some (nP g267 2)),(25,some (nI x271)),(26,some (nI x199)),(27,some (.bool (x271 != x199))),(28,some (.bool (x271 != x199))),(29,some (.bool (x271 != x199)))] [0,2,7,9,12,136,137,138,139,140] #[true,true,true,true,true,true,true,true,true,true,true,true,true,true,true,true,true,true,true,true,true,true,true,true,true,true,true,true,true,true,false,false,false,false] (by rfl) hF324 (by kernel_rfl) (by kernel_rfl) (by exact ⟨fun wS hw=>by kernel_rfl,fun wS hw=>hw.elim fun qs hw=>run_loadV rfl rfl (run_loadS rfl rfl (hw.cell 2 rfl 2 rfl)),fun wS hw=>by kernel_rfl,fun wS hw=>by kernel_rfl,fun wS hw=>by kernel_rfl,fun wS hw=>by kernel_rfl,trivial⟩) (fun _ _ _ _ _ h=>h) ⟨_,hS307⟩ (l':=[(136,.bool (x271 != x199)),(12,nP g267 0),(9,nI x199),(7,nP z26 0),(0,nI x5),(2,.slice (some ⟨b220,o221,none⟩) K2.length ca2)]) (by kernel_rfl) ?_
             intro a333 hF332; clear hF324
             cases hc334:(x271 != x199)
             case true =>
              rw [hc334] at hF332
              have hm335:=ifYes hc334 hm331; clear hm331
              refine any_many 4 [(30,none),(31,none),(32,none),(33,some (.bool true))] [0,2,7,9,140] #[true,true,true,true,true,true,true,true,true,true,true,true,true,true,true,true,true,true,true,true,true,true,true,true,true,true,true,true,true,true,true,true,true,true] (by rfl) hF332 (by kernel_rfl) (by kernel_rfl) (by exact (And.intro trivial (And.intro trivial (And.intro trivial (And.intro (fun wS hw=>by kernel_rfl) trivial))))) (fun _ _ _ _ _ h=>h) ⟨_,hS307⟩ (l':=[(140,.bool true),(9,nI x199),(7,nP z26 0),(0,nI x5),(2,.slice (some ⟨b220,o221,none⟩) K2.length ca2)]) (by kernel_rfl) ?_
              intro a337 hF336; clear hF332
              refine any_done (by kernel_rfl) ?_
              have hS338:=hS307.pick2.drop
              clear hS307
              exact thenN ⟨true,hF336,hS338,hm335⟩
             rw [hc334] at hF332
             have hm339:=ifNot hc334 hm331; clear hm331
             refine any_many 4 [(30,some (nP g267 1)),(31,some (nI x270)),(32,some (.bool (x270 != 0))),(33,some (.bool (x270 != 0)))] [0,2,7,9,140] #[true,true,true,true,true,true,true,true,true,true,true,true,true,true,true,true,true,true,true,true,true,true,true,true,true,true,true,true,true,true,true,true,true,true] (by rfl) hF332 (by kernel_rfl) (by kernel_rfl) (by exact ⟨fun wS hw=>by kernel_rfl,fun wS hw=>hw.elim fun qs hw=>run_loadV rfl rfl (run_loadS rfl rfl (hw.cell 2 rfl 1 rfl)),fun wS hw=>by kernel_rfl,fun wS hw=>by kernel_rfl,trivial⟩) (fun _ _ _ _ _ h=>h) ⟨_,hS307⟩ (l':=[(140,.bool (x270 != 0)),(9,nI x199),(7,nP z26 0),(0,nI x5),(2,.slice (some ⟨b220,o221,none⟩) K2.length ca2)]) (by kernel_rfl) ?_
             intro a341 hF340; clear hF332
             refine any_done (by kernel_rfl) ?_
             have hS342:=hS307.pick2.drop
             clear hS307
             exact thenN ⟨x270 != 0,hF340,hS342,hm339⟩
         · skip
           obtain ⟨hc343,hm344⟩:=ifTE hm266; clear hm266
           obtain ⟨g345,rfl⟩:=hp48.resolve_left (by have:=inR_spec hc343; omega)
           have hS346:=hS244.pick4.pick2
           clear hS244
           have hS347:=hS346.drew; clear hS346
           refine any_start (fun wS=>∃ qs,St w0 [] (BlkP z26 55 #[nP z27 0,nP z29 0,.slice p42 L18.length c43,nS g345 L19 c47]::RowP (nS g345 L19 c47) L19::qs) wS) 18 #[false,false,false,false,false,false,false,false,false,false,false,false,false,false,false,false,false,false] (by kernel_rfl) (by kernel_rfl) (by kernel_rfl) ?_
           refine any_many 11 [(0,some (nP z26 0)),(1,some (nP z26 0)),(2,some (nP z26 0)),(3,some (nP z27 0)),(4,some (nP z26 0)),(5,some (nP z26 0)),(6,some (nP z26 3)),(7,some (nS g345 L19 c47)),(8,some (nI x199)),(9,some (nP g345 (x199.toNat))),(10,some (nI (atI L19 x199)))] [0,2,7,9,10,11,12,92,96,103,104,105,106] #[true,true,true,true,true,true,true,true,true,true,true,false,false,false,false,false,false,false] (by rfl) hF252 (by kernel_rfl) (by kernel_rfl) (by exact ⟨fun wS hw=>by kernel_rfl,fun wS hw=>by kernel_rfl,fun wS hw=>by kernel_rfl,fun wS hw=>hw.elim fun qs hw=>run_loadV rfl rfl (run_loadS rfl rfl (hw.cell 0 rfl 0 rfl)),fun wS hw=>by kernel_rfl,fun wS hw=>by kernel_rfl,fun wS hw=>by kernel_rfl,fun wS hw=>hw.elim fun qs hw=>run_loadV rfl rfl (run_loadS rfl rfl (hw.cell 0 rfl 3 rfl)),fun wS hw=>by kernel_rfl,fun wS hw=>run_idx rfl rfl rfl rfl rfl (inR_spec hc343).1 (inR_spec hc343).2 _,fun wS hw=>run_load1 rfl rfl rfl (hw.elim fun qs hw=>hw.atI 1 rfl hc343),trivial⟩) (fun _ _ _ _ _ h=>h) ⟨_,hS347⟩ (l':=[(103,nI (atI L19 x199)),(96,nP z27 0),(11,nI x238),(10,nI x237),(9,nI x199),(7,nP z26 0),(0,nI x5),(2,.slice (some ⟨b220,o221,none⟩) K2.length ca2)]) (by kernel_rfl) ?_
           intro a349 hF348; clear hF252
           refine any_two 11 15 (by kernel_rfl) ?_ ?_
           · skip
             have hS350:=hS347.pick2
             clear hS347
             refine op_call 11 #[true,true,true,true,true,true,true,true,true,true,true,true,false,false,false,false,false,false] 36 #[nP z27 0,nI (atI L19 x199)] hF348 rfl rfl rfl (by kernel_rfl) rfl (by kernel_rfl) (fun w=>by kernel_rfl) (by kernel_rfl) ?_
             obtain ⟨q351,x352,s353,hx354,hm355⟩:=bind3E hm344; clear hm344
             refine (view_Gor.ok hS350 hx354).mono ?_
             rintro _ w356 ⟨rfl,hS358⟩; clear hS350
             refine ⟨⟨_,hS358.pick2.pick2⟩,?_⟩
             intro a357 hF359; clear hF348
             refine any_many 3 [(12,some (.tuple #[.agg #[nI (q351.id),nI (q351.status),nI (q351.pc),nI (q351.a),nI (q351.b),nI (q351.c),nI (q351.d),nI (q351.e),nI (q351.f),nI (q351.sudogs)],nI x352])),(13,some (.agg #[nI (q351.id),nI (q351.status),nI (q351.pc),nI (q351.a),nI (q351.b),nI (q351.c),nI (q351.d),nI (q351.e),nI (q351.f),nI (q351.sudogs)])),(14,some (nI x352))] [0,2,7,9,10,11,12,105,106] #[true,true,true,true,true,true,true,true,true,true,true,true,true,true,true,false,false,false] (by rfl) hF359 (by kernel_rfl) (by kernel_rfl) (by exact ⟨fun wS hw=>by kernel_rfl,fun wS hw=>by kernel_rfl,fun wS hw=>by kernel_rfl,trivial⟩) (fun _ _ _ _ _ h=>h) ⟨_,hS358.pick2.pick2⟩ (l':=[(106,nI x352),(105,.agg #[nI (q351.id),nI (q351.status),nI (q351.pc),nI (q351.a),nI (q351.b),nI (q351.c),nI (q351.d),nI (q351.e),nI (q351.f),nI (q351.sudogs)]),(11,nI x238),(10,nI x237),(9,nI x199),(7,nP z26 0),(0,nI x5),(2,.slice (some ⟨b220,o221,none⟩) K2.length ca2)]) (by kernel_rfl) ?_
             intro a361 hF360; clear hF359
             refine any_one 15 (by kernel_rfl) ?_
             have hS362:St w0 [] (BlkP (w356.heap.size) 29 #[nI 0,nI 0,nI 0,nI 0,nI 0,nI 0,nI 0,nI 0,nI 0,nI 0]::HeapP z27 z28 s353::BlkP z26 55 #[nP z27 0,nP z29 0,.slice p42 L18.length c43,nS g345 L19 c47]::RowP (nS g345 L19 c47) L19::RHeapP z29 z30 z31 z32 z33 s227::RowP (.slice p42 L18.length c43) L18::ps) (w356.alloc (.cells #[nI 0,nI 0,nI 0,nI 0,nI 0,nI 0,nI 0,nI 0,nI 0,nI 0] 29)):=St.new hS358 #[nI 0,nI 0,nI 0,nI 0,nI 0,nI 0,nI 0,nI 0,nI 0,nI 0] 29
             clear hS358
             refine op_step 15 #[true,true,true,true,true,true,true,true,true,true,true,true,true,true,true,true,false,false] (nB w356) (w356.alloc (.cells #[nI 0,nI 0,nI 0,nI 0,nI 0,nI 0,nI 0,nI 0,nI 0,nI 0] 29)) hF360 rfl (by kernel_rfl) rfl (by kernel_rfl) (by kernel_rfl) (l':=[(12,nB w356),(106,nI x352),(105,.agg #[nI (q351.id),nI (q351.status),nI (q351.pc),nI (q351.a),nI (q351.b),nI (q351.c),nI (q351.d),nI (q351.e),nI (q351.f),nI (q351.sudogs)]),(11,nI x238),(10,nI x237),(9,nI x199),(7,nP z26 0),(0,nI x5),(2,.slice (some ⟨b220,o221,none⟩) K2.length ca2)]) (by kernel_rfl) ⟨_,hS362.pick3.pick3⟩ (by kernel_rfl) ?_
             intro a364 hF363; clear hF360
             refine any_one 16 (by kernel_rfl) ?_
             refine op_store 16 #[true,true,true,true,true,true,true,true,true,true,true,true,true,true,true,true,true,false] (.agg #[nI (q351.id),nI (q351.status),nI (q351.pc),nI (q351.a),nI (q351.b),nI (q351.c),nI (q351.d),nI (q351.e),nI (q351.f),nI (q351.sudogs)]) #[nI (q351.id),nI (q351.status),nI (q351.pc),nI (q351.a),nI (q351.b),nI (q351.c),nI (q351.d),nI (q351.e),nI (q351.f),nI (q351.sudogs)] hF363 rfl (by kernel_rfl) rfl rfl rfl rfl (by kernel_rfl) hS362 (by kernel_rfl) (by kernel_rfl) (by kernel_rfl) (l':=[(12,nB w356),(106,nI x352),(105,.agg #[nI (q351.id),nI (q351.status),nI (q351.pc),nI (q351.a),nI (q351.b),nI (q351.c),nI (q351.d),nI (q351.e),nI (q351.f),nI (q351.sudogs)]),(11,nI x238),(10,nI x237),(9,nI x199),(7,nP z26 0),(0,nI x5),(2,.slice (some ⟨b220,o221,none⟩) K2.length ca2)]) (by kernel_rfl) (by kernel_rfl) ?_
             intro w365 a366 hS367 hF368; clear hF363 hS362
             refine ⟨⟨_,hS367.pick3.pick3⟩,?_⟩
             refine any_many 1 [(17,some (nI x352))] [0,2,7,9,10,11,12] #[true,true,true,true,true,true,true,true,true,true,true,true,true,true,true,true,true,true] (by rfl) hF368 (by kernel_rfl) (by kernel_rfl) (by exact ⟨fun wS hw=>by kernel_rfl,trivial⟩) (fun _ _ _ _ _ h=>h) ⟨_,hS367.pick3.pick3⟩ (l':=[(12,nB w356),(11,nI x238),(10,nI x237),(9,nI x199),(7,nP z26 0),(0,nI x5),(2,.slice (some ⟨b220,o221,none⟩) K2.length ca2)]) (by kernel_rfl) ?_
             intro a370 hF369; clear hF368
             refine any_done (by kernel_rfl) ?_
             exact thenN ⟨(w356.heap.size),s353,q351.id,q351.status,q351.pc,q351.a,q351.b,q351.c,q351.d,q351.e,q351.f,q351.sudogs,hF369,hS367,hm355⟩
           · skip
             have hS371:St w0 [] (BlkP ((w242.drew).heap.size) 29 #[nI 0,nI 0,nI 0,nI 0,nI 0,nI 0,nI 0,nI 0,nI 0,nI 0]::BlkP z26 55 #[nP z27 0,nP z29 0,.slice p42 L18.length c43,nS g345 L19 c47]::RowP (nS g345 L19 c47) L19::HeapP z27 z28 s239::RHeapP z29 z30 z31 z32 z33 s227::RowP (.slice p42 L18.length c43) L18::ps) ((w242.drew).alloc (.cells #[nI 0,nI 0,nI 0,nI 0,nI 0,nI 0,nI 0,nI 0,nI 0,nI 0] 29)):=St.new hS347 #[nI 0,nI 0,nI 0,nI 0,nI 0,nI 0,nI 0,nI 0,nI 0,nI 0] 29
             clear hS347
             refine op_step 15 #[true,true,true,true,true,true,true,true,true,true,true,false,false,false,false,true,false,false] (nB (w242.drew)) ((w242.drew).alloc (.cells #[nI 0,nI 0,nI 0,nI 0,nI 0,nI 0,nI 0,nI 0,nI 0,nI 0] 29)) hF348 rfl (by kernel_rfl) rfl (by kernel_rfl) (by kernel_rfl) (l':=[(12,nB (w242.drew)),(103,nI (atI L19 x199)),(96,nP z27 0),(11,nI x238),(10,nI x237),(9,nI x199),(7,nP z26 0),(0,nI x5),(2,.slice (some ⟨b220,o221,none⟩) K2.length ca2)]) (by kernel_rfl) ⟨_,hS371.pick2.pick2⟩ (by kernel_rfl) ?_
             intro a373 hF372; clear hF348
             have hS374:=hS371.pick3
             clear hS371
             refine any_call 11 #[true,true,true,true,true,true,true,true,true,true,true,true,false,false,false,true,false,false] 36 #[nP z27 0,nI (atI L19 x199)] hF372 rfl (by kernel_rfl) rfl rfl (by kernel_rfl) rfl (by kernel_rfl) (fun w=>by kernel_rfl) (by kernel_rfl) ?_
             obtain ⟨q375,x376,s377,hx378,hm379⟩:=bind3E hm344; clear hm344
             refine (view_Gor.ok hS374 hx378).mono ?_
             rintro _ w380 ⟨rfl,hS382⟩; clear hS374
             refine ⟨⟨_,hS382.pick3.pick3⟩,?_⟩
             intro a381 hF383; clear hF372
             refine any_many 3 [(12,some (.tuple #[.agg #[nI (q375.id),nI (q375.status),nI (q375.pc),nI (q375.a),nI (q375.b),nI (q375.c),nI (q375.d),nI (q375.e),nI (q375.f),nI (q375.sudogs)],nI x376])),(13,some (.agg #[nI (q375.id),nI (q375.status),nI (q375.pc),nI (q375.a),nI (q375.b),nI (q375.c),nI (q375.d),nI (q375.e),nI (q375.f),nI (q375.sudogs)])),(14,some (nI x376))] [0,2,7,9,10,11,12,105,106] #[true,true,true,true,true,true,true,true,true,true,true,true,true,true,true,true,false,false] (by rfl) hF383 (by kernel_rfl) (by kernel_rfl) (by exact ⟨fun wS hw=>by kernel_rfl,fun wS hw=>by kernel_rfl,fun wS hw=>by kernel_rfl,trivial⟩) (fun _ _ _ _ _ h=>h) ⟨_,hS382.pick3.pick3⟩ (l':=[(106,nI x376),(105,.agg #[nI (q375.id),nI (q375.status),nI (q375.pc),nI (q375.a),nI (q375.b),nI (q375.c),nI (q375.d),nI (q375.e),nI (q375.f),nI (q375.sudogs)]),(12,nB (w242.drew)),(11,nI x238),(10,nI x237),(9,nI x199),(7,nP z26 0),(0,nI x5),(2,.slice (some ⟨b220,o221,none⟩) K2.length ca2)]) (by kernel_rfl) ?_
             intro a385 hF384; clear hF383
             refine any_one 16 (by kernel_rfl) ?_
             have hS386:=hS382.pick1
             clear hS382
             refine op_store 16 #[true,true,true,true,true,true,true,true,true,true,true,true,true,true,true,true,true,false] (.agg #[nI (q375.id),nI (q375.status),nI (q375.pc),nI (q375.a),nI (q375.b),nI (q375.c),nI (q375.d),nI (q375.e),nI (q375.f),nI (q375.sudogs)]) #[nI (q375.id),nI (q375.status),nI (q375.pc),nI (q375.a),nI (q375.b),nI (q375.c),nI (q375.d),nI (q375.e),nI (q375.f),nI (q375.sudogs)] hF384 rfl (by kernel_rfl) rfl rfl rfl rfl (by kernel_rfl) hS386 (by kernel_rfl) (by kernel_rfl) (by kernel_rfl) (l':=[(106,nI x376),(105,.agg #[nI (q375.id),nI (q375.status),nI (q375.pc),nI (q375.a),nI (q375.b),nI (q375.c),nI (q375.d),nI (q375.e),nI (q375.f),nI (q375.sudogs)]),(12,nB (w242.drew)),(11,nI x238),(10,nI x237),(9,nI x199),(7,nP z26 0),(0,nI x5),(2,.slice (some ⟨b220,o221,none⟩) K2.length ca2)]) (by kernel_rfl) (by kernel_rfl) ?_
             intro w387 a388 hS389 hF390; clear hF384 hS386
             refine ⟨⟨_,hS389.pick3.pick3⟩,?_⟩
             refine any_many 1 [(17,some (nI x376))] [0,2,7,9,10,11,12] #[true,true,true,true,true,true,true,true,true,true,true,true,true,true,true,true,true,true] (by rfl) hF390 (by kernel_rfl) (by kernel_rfl) (by exact ⟨fun wS hw=>by kernel_rfl,trivial⟩) (fun _ _ _ _ _ h=>h) ⟨_,hS389.pick3.pick3⟩ (l':=[(12,nB (w242.drew)),(11,nI x238),(10,nI x237),(9,nI x199),(7,nP z26 0),(0,nI x5),(2,.slice (some ⟨b220,o221,none⟩) K2.length ca2)]) (by kernel_rfl) ?_
             intro a392 hF391; clear hF390
             refine any_done (by kernel_rfl) ?_
             exact thenN ⟨((w242.drew).heap.size),s377,q375.id,q375.status,q375.pc,q375.a,q375.b,q375.c,q375.d,q375.e,q375.f,q375.sudogs,hF391,hS389,hm379⟩
        rw [hc265] at hF252
        have hm393:=ifNot hc265 hm241; clear hm241
        refine ev_condF hF252 rfl rfl ?_
        refine wp_seq (wp_region_lit ?_)
        refine ev_runs 4 hF252 (l':=[(145,nP z26 3),(144,nP z26 0),(143,nP z26 0),(142,nI x199),(84,.bool false),(11,nI x238),(10,nI x237),(9,nI x199),(7,nP z26 0),(0,nI x5),(2,.slice (some ⟨b220,o221,none⟩) K2.length ca2)]) (w':=w242) (by kernel_rfl) ?_
        intro a395 hF394; clear hF252
        refine ev_one (.slice p46 L19.length c47) w242 hF394 (by kernel_rfl) rfl (by kernel_rfl) (run_loadV rfl rfl (run_loadS rfl rfl (hS244.cell 1 rfl 3 rfl))) (l':=[(146,.slice p46 L19.length c47),(145,nP z26 3),(144,nP z26 0),(143,nP z26 0),(142,nI x199),(84,.bool false),(11,nI x238),(10,nI x237),(9,nI x199),(7,nP z26 0),(0,nI x5),(2,.slice (some ⟨b220,o221,none⟩) K2.length ca2)]) (by kernel_rfl) ?_
        intro a397 hF396; clear hF394
        refine ev_runK 5 hF396 [0,2,7,9,10,11,141] (l':=[(141,.bool (decide (x199<(IntKind.i64.wrap ((L19.length:Int)+x5))))),(11,nI x238),(10,nI x237),(9,nI x199),(7,nP z26 0),(0,nI x5),(2,.slice (some ⟨b220,o221,none⟩) K2.length ca2)]) (w':=w242) (by kernel_rfl) ?_
        intro a399 hF398; clear hF396
        refine wpList_nil (thenN ?_)
        refine joinQ (fun aI wI=>Fr 157 aI [(9,nI x199),(7,nP z26 0),(0,nI x5),(2,.slice (some ⟨b220,o221,none⟩) K2.length ca2)]∧St w0 [] (HeapP z27 z28 s239::BlkP z26 55 #[nP z27 0,nP z29 0,.slice p42 L18.length c43,.slice p46 L19.length c47]::RHeapP z29 z30 z31 z32 z33 s227::RowP (.slice p42 L18.length c43) L18::RowP (.slice p46 L19.length c47) L19::ps) wI∧SendFirst.j25 x199 (SendFirst.l20 K2 k x5 L18 L19 k200) s227 s239=some r0) ?_ ?_
        rotate_left
        · rintro a401 w402 ⟨hF403,hS404,hm405⟩
          clear hF398 hS244 hm393
          unfold SendFirst.j25 at hm405
          exact thenN ⟨s239,hF403,hS404,hm405⟩
        · skip
          cases hc407:(decide (x199<(IntKind.i64.wrap ((L19.length:Int)+x5))))
          case true =>
           rw [hc407] at hF398
           have hm408:=ifYes hc407 hm393; clear hm393
           refine ev_condT hF398 rfl rfl ?_
           refine wp_seq ?_
           refine joinQ (fun aI wI=>∃ (y409:Bool),Fr 157 aI [(156,.bool (y409)),(9,nI x199),(7,nP z26 0),(0,nI x5),(2,.slice (some ⟨b220,o221,none⟩) K2.length ca2)]∧St w0 [] (HeapP z27 z28 s239::BlkP z26 55 #[nP z27 0,nP z29 0,.slice p42 L18.length c43,.slice p46 L19.length c47]::RHeapP z29 z30 z31 z32 z33 s227::RowP (.slice p42 L18.length c43) L18::RowP (.slice p46 L19.length c47) L19::ps) wI∧SendFirst.j26 x199 (SendFirst.l20 K2 k x5 L18 L19 k200) s227 s239 y409=some r0) ?_ ?_
           rotate_left
           · rintro a411 w412 ⟨y409,hF413,hS414,hm415⟩
             clear hF398 hS244 hm408
             unfold SendFirst.j26 at hm415
             refine thenN ?_
             cases hc417:(y409)
             case true =>
              rw [hc417] at hF413
              have hm418:=ifYes hc417 hm415; clear hm415
              refine ev_condT hF413 rfl rfl ?_
              refine wp_seq (wp_region_lit ?_)
              refine ev_runK 1 hF413 [6] (l':=[(6,.bool false)]) (w':=w412) (by kernel_rfl) ?_
              intro a420 hF419; clear hF413
              refine wpList_nil ?_
              have hS421:=hS414.drop.drop.drop.drop.drop
              clear hS414
              refine thenN ?_
              refine wp_ret ?_
              refine thenR (thenR ?_)
              refine blockR ?_
              refine blockR ?_
              refine thenR (thenR ?_)
              refine blockR ?_
              refine thenR ?_
              obtain rfl:=Option.some.inj hm418
              refine ev_ret hF419 [6] (.bool false) rfl rfl rfl ?_
              exact ⟨rfl,hS421⟩
             rw [hc417] at hF413
             have hm423:=ifNot hc417 hm415; clear hm415
             refine ev_condF hF413 rfl rfl ?_
             refine wp_skip ?_
             have hF424:=hF413.keep [0,2,7,9]
             clear hF413
             exact thenN ⟨hF424,hS414,hm423⟩
           · skip
             refine wp_region_lit ?_
             refine ev_runs 3 hF398 (l':=[(153,.bool (x237 != (-1))),(152,.bool (x237 != (-1))),(151,nI x237),(141,.bool true),(11,nI x238),(10,nI x237),(9,nI x199),(7,nP z26 0),(0,nI x5),(2,.slice (some ⟨b220,o221,none⟩) K2.length ca2)]) (w':=w242) (by kernel_rfl) ?_
             intro a426 hF425; clear hF398
             cases hc427:(x237 != (-1))
             case true =>
              rw [hc427] at hF425
              have hm428:=ifYes hc427 hm408; clear hm408
              refine ev_runK 3 hF425 [0,2,7,9,156] (l':=[(156,.bool true),(9,nI x199),(7,nP z26 0),(0,nI x5),(2,.slice (some ⟨b220,o221,none⟩) K2.length ca2)]) (w':=w242) (by kernel_rfl) ?_
              intro a430 hF429; clear hF425
              refine wpList_nil ?_
              exact thenN ⟨true,hF429,hS244,hm428⟩
             rw [hc427] at hF425
             have hm431:=ifNot hc427 hm408; clear hm408
             refine ev_runK 3 hF425 [0,2,7,9,156] (l':=[(156,.bool (x238 != 1)),(9,nI x199),(7,nP z26 0),(0,nI x5),(2,.slice (some ⟨b220,o221,none⟩) K2.length ca2)]) (w':=w242) (by kernel_rfl) ?_
             intro a433 hF432; clear hF425
             refine wpList_nil ?_
             exact thenN ⟨x238 != 1,hF432,hS244,hm431⟩
          rw [hc407] at hF398
          have hm434:=ifNot hc407 hm393; clear hm393
          refine ev_condF hF398 rfl rfl ?_
          refine wp_seq ?_
          refine joinQ (fun aI wI=>∃ (y435:Bool),Fr 157 aI [(83,.bool (y435)),(9,nI x199),(7,nP z26 0),(0,nI x5),(2,.slice (some ⟨b220,o221,none⟩) K2.length ca2)]∧St w0 [] (HeapP z27 z28 s239::BlkP z26 55 #[nP z27 0,nP z29 0,.slice p42 L18.length c43,.slice p46 L19.length c47]::RHeapP z29 z30 z31 z32 z33 s227::RowP (.slice p42 L18.length c43) L18::RowP (.slice p46 L19.length c47) L19::ps) wI∧SendFirst.j27 x199 (SendFirst.l20 K2 k x5 L18 L19 k200) s227 s239 y435=some r0) ?_ ?_
          rotate_left
          · rintro a437 w438 ⟨y435,hF439,hS440,hm441⟩
            clear hF398 hS244 hm434
            unfold SendFirst.j27 at hm441
            refine thenN ?_
            cases hc443:(y435)
            case true =>
             rw [hc443] at hF439
             have hm444:=ifYes hc443 hm441; clear hm441
             refine ev_condT hF439 rfl rfl ?_
             refine wp_seq (wp_region_lit ?_)
             refine ev_runK 1 hF439 [6] (l':=[(6,.bool false)]) (w':=w438) (by kernel_rfl) ?_
             intro a446 hF445; clear hF439
             refine wpList_nil ?_
             have hS447:=hS440.drop.drop.drop.drop.drop
             clear hS440
             refine thenN ?_
             refine wp_ret ?_
             refine thenR (thenR ?_)
             refine blockR ?_
             refine blockR ?_
             refine thenR (thenR ?_)
             refine blockR ?_
             refine thenR ?_
             obtain rfl:=Option.some.inj hm444
             refine ev_ret hF445 [6] (.bool false) rfl rfl rfl ?_
             exact ⟨rfl,hS447⟩
            rw [hc443] at hF439
            have hm449:=ifNot hc443 hm441; clear hm441
            refine ev_condF hF439 rfl rfl ?_
            refine wp_skip ?_
            have hF450:=hF439.keep [0,2,7,9]
            clear hF439
            exact thenN ⟨hF450,hS440,hm449⟩
          · skip
            refine wp_region_lit ?_
            refine ev_runs 3 hF398 (l':=[(80,.bool (x237 != (-1))),(79,.bool (x237 != (-1))),(78,nI x237),(141,.bool false),(11,nI x238),(10,nI x237),(9,nI x199),(7,nP z26 0),(0,nI x5),(2,.slice (some ⟨b220,o221,none⟩) K2.length ca2)]) (w':=w242) (by kernel_rfl) ?_
            intro a452 hF451; clear hF398
            cases hc453:(x237 != (-1))
            case true =>
             rw [hc453] at hF451
             have hm454:=ifYes hc453 hm434; clear hm434
             refine ev_runK 3 hF451 [0,2,7,9,83] (l':=[(83,.bool true),(9,nI x199),(7,nP z26 0),(0,nI x5),(2,.slice (some ⟨b220,o221,none⟩) K2.length ca2)]) (w':=w242) (by kernel_rfl) ?_
             intro a456 hF455; clear hF451
             refine wpList_nil ?_
             exact thenN ⟨true,hF455,hS244,hm454⟩
            rw [hc453] at hF451
            have hm457:=ifNot hc453 hm434; clear hm434
            refine ev_runK 3 hF451 [0,2,7,9,83] (l':=[(83,.bool (x238 != 0)),(9,nI x199),(7,nP z26 0),(0,nI x5),(2,.slice (some ⟨b220,o221,none⟩) K2.length ca2)]) (w':=w242) (by kernel_rfl) ?_
            intro a459 hF458; clear hF451
            refine wpList_nil ?_
            exact thenN ⟨x238 != 0,hF458,hS244,hm457⟩
     rw [hc215] at hF211
     have hm460:=ifNot hc215 hm213; clear hm213
     refine ev_condF hF211 rfl rfl ?_
     refine wp_exit ?_
     refine thenE ?_
     refine thenE ?_
     refine blockE ?_
     refine thenN (wp_seq (wp_region_lit ?_))
     refine ev_runK 1 hF211 [6] (l':=[(6,.bool true)]) (w':=w210) (by kernel_rfl) ?_
     intro a462 hF461; clear hF211
     refine wpList_nil ?_
     have hS463:=hS212.drop.drop.drop.drop.drop
     clear hS212
     refine thenN ?_
     refine wp_ret ?_
     obtain rfl:=Option.some.inj hm460
     refine ev_ret hF461 [6] (.bool true) rfl rfl rfl ?_
     exact ⟨rfl,hS463⟩
   · skip
     refine wp_region_lit ?_
     refine ev_runs 5 hF203 (l':=[(56,.bool (decide (x199<(K2.length:Int)))),(55,.bool (decide (x199<(K2.length:Int)))),(54,nI ((K2.length:Int))),(53,.slice pa2 K2.length ca2),(52,nI x199),(9,nI x199),(7,nP z26 0),(0,nI x5),(2,.slice pa2 K2.length ca2)]) (w':=w202) (by kernel_rfl) ?_
     intro a466 hF465; clear hF203
     cases hc467:(decide (x199<(K2.length:Int)))
     case true =>
      rw [hc467] at hF465
      have hm468:=ifYes hc467 hm206; clear hm206
      refine ev_runK 3 hF465 [0,2,7,9,59] (l':=[(59,.bool (decide (x199<12))),(9,nI x199),(7,nP z26 0),(0,nI x5),(2,.slice pa2 K2.length ca2)]) (w':=w202) (by kernel_rfl) ?_
      intro a470 hF469; clear hF465
      refine wpList_nil ?_
      exact thenN ⟨decide (x199<12),hF469,hS204,hm468⟩
     rw [hc467] at hF465
     have hm471:=ifNot hc467 hm206; clear hm206
     refine ev_runK 3 hF465 [0,2,7,9,59] (l':=[(59,.bool false),(9,nI x199),(7,nP z26 0),(0,nI x5),(2,.slice pa2 K2.length ca2)]) (w':=w202) (by kernel_rfl) ?_
     intro a473 hF472; clear hF465
     refine wpList_nil ?_
     exact thenN ⟨false,hF472,hS204,hm471⟩
 · skip
   refine wp_region_lit ?_
   refine ev_call 27 #[] hF50 rfl rfl (by kernel_rfl) rfl (by kernel_rfl) (fun w=>by kernel_rfl) ?_
   obtain ⟨y474,hx475,hm476⟩:=bind1E hm21; clear hm21
   refine (law15_awake.ok hS52 hx475).mono ?_
   rintro _ w477 ⟨rfl,hS479⟩ a478 hF480; clear hF50 hS52
   refine ev_runs 2 hF480 (l':=[(24,.bool (!(y474))),(23,.bool (!(y474))),(22,.bool (y474)),(7,nP z26 0),(0,nI x5),(2,.slice pa2 K2.length ca2)]) (w':=w477) (by kernel_rfl) ?_
   intro a482 hF481; clear hF480
   cases hc483:(!(y474))
   case true =>
    rw [hc483] at hF481
    have hm484:=ifYes hc483 hm476; clear hm476
    refine ev_runK 3 hF481 [0,2,7,27] (l':=[(27,.bool true),(7,nP z26 0),(0,nI x5),(2,.slice pa2 K2.length ca2)]) (w':=w477) (by kernel_rfl) ?_
    intro a486 hF485; clear hF481
    refine wpList_nil ?_
    exact thenN ⟨true,hF485,hS479,hm484⟩
   rw [hc483] at hF481
   have hm487:=ifNot hc483 hm476; clear hm476
   refine ev_runK 3 hF481 [0,2,7,27] (l':=[(27,.bool false),(7,nP z26 0),(0,nI x5),(2,.slice pa2 K2.length ca2)]) (w':=w477) (by kernel_rfl) ?_
   intro a489 hF488; clear hF481
   refine wpList_nil ?_
   exact thenN ⟨false,hF488,hS479,hm487⟩
end Go.Proofs.YtgejcjcpchofiaaGreat
