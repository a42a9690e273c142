/- G16 GTakeMoves -/
import Derived.Test.YtgejcjcpchofiaaGreatKG16w
import Derived.Test.YtgejcjcpchofiaaGreatKGSend
import Derived.Test.YtgejcjcpchofiaaGreatKGTake
import Derived.Deep.LoopGhost
import Derived.KernelRfl
namespace Go.Proofs.YtgejcjcpchofiaaGreat
open Go.RowKit
set_option linter.unusedVariables false
def law16_awake.j1 (y101:Bool):Option (Bool):=some (y101)
def law16_awake.m (k:Nat):Option (Bool):=bind4 (law16_made.m k [1] 1) fun s7 s8 L9 L10=>bind3 (law16_ch.m k s7 s8 L9 L10 0) fun x50 s51 s52=>bind3 (send_Try.m k s51 (IntKind.i64.wrap ((IntKind.i64.wrap (2 * x50))+1)) 6) fun x62 x63 s64=>bind3 (law16_ch.m k s64 s52 L9 L10 0) fun x77 s78 s79=>bind4 (take_Try.m k s78 (IntKind.i64.wrap ((IntKind.i64.wrap (2 * x77))+1))) fun x89 x90 x91 s92=>(if (x63 == 1) then (if (x89 == 6) then (if (x90 == (-1)) then (if (x91 == 1) then bind2 (take_Ready.m k s92 0) fun y130 s131=>law16_awake.j1 (!(y130)) else law16_awake.j1 false) else law16_awake.j1 false) else law16_awake.j1 false) else law16_awake.j1 false)
set_option maxRecDepth 100000 in
set_option maxHeartbeats 1500000 in
theorem law16_awake.ok {w0 w:World} {F0:List Nat} {ps:List Piece} {k:Nat}  {r0:Bool} (hS:St w0 F0 (ps) w) (hm:law16_awake.m k=some r0) :
    Calls Tryz.prog 43 #[] w fun e w'=>e=.returned (.bool r0)∧St w0 F0 (ps) w':=by
 refine ev_enterL 58 [] Tryz.func43 rfl rfl (by simp) ?_
 intro a hF
 have hF0:Fr 58 a []:=hF; clear hF
 unfold law16_awake.m at hm
 refine wp_seq (wp_region_lit ?_)
 refine ev_runK 1 hF0 [] (l':=[]) (w':=w) (by kernel_rfl) ?_
 intro a2 hF1; clear hF0
 refine wpList_nil (thenN (wp_seq (wp_region_lit ?_)))
 refine ev_runs 1 hF1 (l':=[(7,.slice (some ⟨w.heap.size,0,none⟩) 1 1)]) (w':=w.alloc (.cells #[nI 1] 3)) (by kernel_rfl) ?_
 intro a4 hF3; clear hF1
 have hS6:St w0 F0 (RowP (.slice (some ⟨w.heap.size,0,none⟩) 1 1) [1]::ps) (w.alloc (.cells #[nI 1] 3)):=St.lit hS [1] (by unfold maxLen; simp)
 refine ev_call 42 #[.slice (some ⟨w.heap.size,0,none⟩) 1 1,nI 1] hF3 rfl rfl (by kernel_rfl) rfl (by kernel_rfl) (fun w=>by kernel_rfl) ?_
 obtain ⟨s7,s8,L9,L10,hx11,hm12⟩:=bind4E hm; clear hm
 refine (law16_made.ok hS6 hx11).mono ?_
 rintro _ w13 ⟨z17,z18,z19,z20,z21,z22,z23,z24,z25,z26,rfl,hS15⟩ a14 hF16; clear hF3 hS6
 have hS32:St w0 F0 (RowP (.slice (some ⟨w.heap.size,0,none⟩) 1 1) [1]::BlkP z17 77 #[nP z18 0,nP z20 0,z25,z26]::HeapP z18 z19 s7::RHeapP z20 z21 z22 z23 z24 s8::RowP (z25) L9::RowP (z26) L10::ps) w13:=hS15
 clear hS15
 obtain ⟨hl36,p33,c34,rfl,hp35⟩:=St.shape hS32 4 rfl
 obtain ⟨hl40,p37,c38,rfl,hp39⟩:=St.shape hS32 5 rfl
 refine ev_runK 1 hF16 [1] (l':=[(1,nP z17 0)]) (w':=w13) (by kernel_rfl) ?_
 intro a42 hF41; clear hF16
 refine wpList_nil ?_
 have hS43:=hS32.drop
 clear hS32
 refine thenN (wp_seq (wp_seq (wp_region_lit ?_)))
 refine ev_runK 2 hF41 [1,10] (l':=[(10,.bool false),(1,nP z17 0)]) (w':=w13) (by kernel_rfl) ?_
 intro a45 hF44; clear hF41
 refine wpList_nil (thenN ?_)
 refine ev_condF hF44 rfl rfl ?_
 refine wp_skip ?_
 have hF46:=hF44.keep [1]
 clear hF44
 refine thenN (wp_seq ?_)
 have hS47:=hS43.drew; clear hS43
 refine any_start (fun wS=>∃ qs,St w0 F0 (BlkP z17 77 #[nP z18 0,nP z20 0,.slice p33 L9.length c34,.slice p37 L10.length c38]::qs) wS) 14 #[false,false,false,false,false,false,false,false,false,false,false,false,false,false] (by kernel_rfl) (by kernel_rfl) (by kernel_rfl) ?_
 refine any_many 5 [(0,some (nP z17 0)),(1,some (nP z17 0)),(2,some (nP z17 0)),(3,some (nP z18 0)),(4,some (nP z17 0))] [1,3,11,15,16,17,18,19,20,21,22] #[true,true,true,true,true,false,false,false,false,false,false,false,false,false] (by rfl) hF46 (by kernel_rfl) (by kernel_rfl) (by exact ⟨fun wS hw=>by kernel_rfl,fun wS hw=>by kernel_rfl,fun wS hw=>by kernel_rfl,fun wS hw=>hw.elim fun qs hw=>run_loadV rfl rfl (run_loadS rfl rfl (hw.cell 0 rfl 0 rfl)),fun wS hw=>by kernel_rfl,trivial⟩) (fun _ _ _ _ _ h=>h) ⟨_,hS47⟩ (l':=[(16,nP z17 0),(15,nP z18 0),(1,nP z17 0)]) (by kernel_rfl) ?_
 intro a49 hF48; clear hF46
 refine any_call 5 #[true,true,true,true,true,true,false,false,false,false,false,false,false,false] 44 #[nP z17 0,nI 0] hF48 rfl (by kernel_rfl) rfl rfl (by kernel_rfl) rfl (by kernel_rfl) (fun w=>by kernel_rfl) (by kernel_rfl) ?_
 obtain ⟨x50,s51,s52,hx53,hm54⟩:=bind3E hm12; clear hm12
 refine (law16_ch.ok hS47 hx53).mono ?_
 rintro _ w55 ⟨rfl,hS57⟩; clear hS47
 refine ⟨⟨_,hS57⟩,?_⟩
 intro a56 hF58; clear hF48
 refine any_many 2 [(6,some (nI (IntKind.i64.wrap (2 * x50)))),(7,some (nI (IntKind.i64.wrap ((IntKind.i64.wrap (2 * x50))+1))))] [1,3,11,15,19,20,21,22] #[true,true,true,true,true,true,true,true,false,false,false,false,false,false] (by rfl) hF58 (by kernel_rfl) (by kernel_rfl) (by exact ⟨fun wS hw=>by kernel_rfl,fun wS hw=>by kernel_rfl,trivial⟩) (fun _ _ _ _ _ h=>h) ⟨_,hS57⟩ (l':=[(19,nI (IntKind.i64.wrap ((IntKind.i64.wrap (2 * x50))+1))),(15,nP z18 0),(1,nP z17 0)]) (by kernel_rfl) ?_
 intro a60 hF59; clear hF58
 have hS61:=hS57.pick1
 clear hS57
 refine any_call 8 #[true,true,true,true,true,true,true,true,true,false,false,false,false,false] 28 #[nP z18 0,nI (IntKind.i64.wrap ((IntKind.i64.wrap (2 * x50))+1)),nI 6] hF59 rfl (by kernel_rfl) rfl rfl (by kernel_rfl) rfl (by kernel_rfl) (fun w=>by kernel_rfl) (by kernel_rfl) ?_
 obtain ⟨x62,x63,s64,hx65,hm66⟩:=bind3E hm54; clear hm54
 refine (send_Try.ok hS61 hx65).mono ?_
 rintro _ w67 ⟨rfl,hS69⟩; clear hS61
 refine ⟨⟨_,hS69.pick1⟩,?_⟩
 intro a68 hF70; clear hF59
 refine any_many 5 [(9,some (.tuple #[nI x62,nI x63])),(10,some (nI x62)),(11,some (nI x63)),(12,some (nI x62)),(13,some (nI x63))] [1,3] #[true,true,true,true,true,true,true,true,true,true,true,true,true,true] (by rfl) hF70 (by kernel_rfl) (by kernel_rfl) (by exact ⟨fun wS hw=>by kernel_rfl,fun wS hw=>by kernel_rfl,fun wS hw=>by kernel_rfl,fun wS hw=>by kernel_rfl,fun wS hw=>by kernel_rfl,trivial⟩) (fun _ _ _ _ _ h=>h) ⟨_,hS69.pick1⟩ (l':=[(3,nI x63),(1,nP z17 0)]) (by kernel_rfl) ?_
 intro a72 hF71; clear hF70
 refine any_done (by kernel_rfl) ?_
 refine thenN (wp_seq ?_)
 have hS73:=hS69.pick1
 clear hS69
 have hS74:=hS73.drew; clear hS73
 refine any_start (fun wS=>∃ qs,St w0 F0 (BlkP z17 77 #[nP z18 0,nP z20 0,.slice p33 L9.length c34,.slice p37 L10.length c38]::qs) wS) 16 #[false,false,false,false,false,false,false,false,false,false,false,false,false,false,false,false] (by kernel_rfl) (by kernel_rfl) (by kernel_rfl) ?_
 refine any_many 5 [(0,some (nP z17 0)),(1,some (nP z17 0)),(2,some (nP z17 0)),(3,some (nP z18 0)),(4,some (nP z17 0))] [1,3,4,5,6,23,27,28,29,30,31,32,33,34,35] #[true,true,true,true,true,false,false,false,false,false,false,false,false,false,false,false] (by rfl) hF71 (by kernel_rfl) (by kernel_rfl) (by exact ⟨fun wS hw=>by kernel_rfl,fun wS hw=>by kernel_rfl,fun wS hw=>by kernel_rfl,fun wS hw=>hw.elim fun qs hw=>run_loadV rfl rfl (run_loadS rfl rfl (hw.cell 0 rfl 0 rfl)),fun wS hw=>by kernel_rfl,trivial⟩) (fun _ _ _ _ _ h=>h) ⟨_,hS74⟩ (l':=[(28,nP z17 0),(27,nP z18 0),(3,nI x63),(1,nP z17 0)]) (by kernel_rfl) ?_
 intro a76 hF75; clear hF71
 refine any_call 5 #[true,true,true,true,true,true,false,false,false,false,false,false,false,false,false,false] 44 #[nP z17 0,nI 0] hF75 rfl (by kernel_rfl) rfl rfl (by kernel_rfl) rfl (by kernel_rfl) (fun w=>by kernel_rfl) (by kernel_rfl) ?_
 obtain ⟨x77,s78,s79,hx80,hm81⟩:=bind3E hm66; clear hm66
 refine (law16_ch.ok hS74 hx80).mono ?_
 rintro _ w82 ⟨rfl,hS84⟩; clear hS74
 refine ⟨⟨_,hS84⟩,?_⟩
 intro a83 hF85; clear hF75
 refine any_many 2 [(6,some (nI (IntKind.i64.wrap (2 * x77)))),(7,some (nI (IntKind.i64.wrap ((IntKind.i64.wrap (2 * x77))+1))))] [1,3,4,5,6,23,27,31,32,33,34,35] #[true,true,true,true,true,true,true,true,false,false,false,false,false,false,false,false] (by rfl) hF85 (by kernel_rfl) (by kernel_rfl) (by exact ⟨fun wS hw=>by kernel_rfl,fun wS hw=>by kernel_rfl,trivial⟩) (fun _ _ _ _ _ h=>h) ⟨_,hS84⟩ (l':=[(31,nI (IntKind.i64.wrap ((IntKind.i64.wrap (2 * x77))+1))),(27,nP z18 0),(3,nI x63),(1,nP z17 0)]) (by kernel_rfl) ?_
 intro a87 hF86; clear hF85
 have hS88:=hS84.pick1
 clear hS84
 refine any_call 8 #[true,true,true,true,true,true,true,true,true,false,false,false,false,false,false,false] 45 #[nP z18 0,nI (IntKind.i64.wrap ((IntKind.i64.wrap (2 * x77))+1))] hF86 rfl (by kernel_rfl) rfl rfl (by kernel_rfl) rfl (by kernel_rfl) (fun w=>by kernel_rfl) (by kernel_rfl) ?_
 obtain ⟨x89,x90,x91,s92,hx93,hm94⟩:=bind4E hm81; clear hm81
 refine (take_Try.ok hS88 hx93).mono ?_
 rintro _ w95 ⟨rfl,hS97⟩; clear hS88
 refine ⟨⟨_,hS97.pick1⟩,?_⟩
 intro a96 hF98; clear hF86
 refine any_many 7 [(9,some (.tuple #[nI x89,nI x90,nI x91])),(10,some (nI x89)),(11,some (nI x90)),(12,some (nI x91)),(13,some (nI x89)),(14,some (nI x90)),(15,some (nI x91))] [1,3,4,5,6] #[true,true,true,true,true,true,true,true,true,true,true,true,true,true,true,true] (by rfl) hF98 (by kernel_rfl) (by kernel_rfl) (by exact ⟨fun wS hw=>by kernel_rfl,fun wS hw=>by kernel_rfl,fun wS hw=>by kernel_rfl,fun wS hw=>by kernel_rfl,fun wS hw=>by kernel_rfl,fun wS hw=>by kernel_rfl,fun wS hw=>by kernel_rfl,trivial⟩) (fun _ _ _ _ _ h=>h) ⟨_,hS97.pick1⟩ (l':=[(6,nI x91),(5,nI x90),(4,nI x89),(3,nI x63),(1,nP z17 0)]) (by kernel_rfl) ?_
 intro a100 hF99; clear hF98
 refine any_done (by kernel_rfl) ?_
 refine thenN (wp_seq ?_)
 refine joinQ (fun aI wI=>∃ (y101:Bool),Fr 58 aI [(0,.bool (y101))]∧St w0 F0 (ps) wI∧law16_awake.j1 y101=some r0) ?_ ?_
 rotate_left
 · rintro a103 w104 ⟨y101,hF105,hS106,hm107⟩
   clear hF99 hS97 hm94
   unfold law16_awake.j1 at hm107
   refine thenN ?_
   refine wp_ret ?_
   obtain rfl:=Option.some.inj hm107
   refine ev_ret hF105 [0] (.bool (y101)) rfl rfl rfl ?_
   exact ⟨rfl,hS106⟩
 · skip
   refine wp_region_lit ?_
   refine ev_runs 3 hF99 (l':=[(38,.bool (x63 == 1)),(37,.bool (x63 == 1)),(36,nI x63),(6,nI x91),(5,nI x90),(4,nI x89),(3,nI x63),(1,nP z17 0)]) (w':=w95) (by kernel_rfl) ?_
   intro a111 hF110; clear hF99
   cases hc112:(x63 == 1)
   case true =>
    rw [hc112] at hF110
    have hm113:=ifYes hc112 hm94; clear hm94
    refine ev_runs 4 hF110 (l':=[(42,.bool (x89 == 6)),(41,.bool (x89 == 6)),(40,.bool (x89 == 6)),(39,nI x89),(38,.bool true),(37,.bool true),(36,nI x63),(6,nI x91),(5,nI x90),(4,nI x89),(3,nI x63),(1,nP z17 0)]) (w':=w95) (by kernel_rfl) ?_
    intro a115 hF114; clear hF110
    cases hc116:(x89 == 6)
    case true =>
     rw [hc116] at hF114
     have hm117:=ifYes hc116 hm113; clear hm113
     refine ev_runs 4 hF114 (l':=[(46,.bool (x90 == (-1))),(45,.bool (x90 == (-1))),(44,.bool (x90 == (-1))),(43,nI x90),(42,.bool true),(41,.bool true),(40,.bool true),(39,nI x89),(38,.bool true),(37,.bool true),(36,nI x63),(6,nI x91),(5,nI x90),(4,nI x89),(3,nI x63),(1,nP z17 0)]) (w':=w95) (by kernel_rfl) ?_
     intro a119 hF118; clear hF114
     cases hc120:(x90 == (-1))
     case true =>
      rw [hc120] at hF118
      have hm121:=ifYes hc120 hm117; clear hm117
      refine ev_runs 4 hF118 (l':=[(50,.bool (x91 == 1)),(49,.bool (x91 == 1)),(48,.bool (x91 == 1)),(47,nI x91),(46,.bool true),(45,.bool true),(44,.bool true),(43,nI x90),(42,.bool true),(41,.bool true),(40,.bool true),(39,nI x89),(38,.bool true),(37,.bool true),(36,nI x63),(6,nI x91),(5,nI x90),(4,nI x89),(3,nI x63),(1,nP z17 0)]) (w':=w95) (by kernel_rfl) ?_
      intro a123 hF122; clear hF118
      cases hc124:(x91 == 1)
      case true =>
       rw [hc124] at hF122
       have hm125:=ifYes hc124 hm121; clear hm121
       refine ev_runs 3 hF122 (l':=[(53,nP z17 0),(52,nP z17 0),(51,nP z17 0),(50,.bool true),(49,.bool true),(48,.bool true),(47,nI x91),(46,.bool true),(45,.bool true),(44,.bool true),(43,nI x90),(42,.bool true),(41,.bool true),(40,.bool true),(39,nI x89),(38,.bool true),(37,.bool true),(36,nI x63),(6,nI x91),(5,nI x90),(4,nI x89),(3,nI x63),(1,nP z17 0)]) (w':=w95) (by kernel_rfl) ?_
       intro a127 hF126; clear hF122
       refine ev_one (nP z18 0) w95 hF126 (by kernel_rfl) rfl (by kernel_rfl) (run_loadV rfl rfl (run_loadS rfl rfl (hS97.cell 1 rfl 0 rfl))) (l':=[(54,nP z18 0),(53,nP z17 0),(52,nP z17 0),(51,nP z17 0),(50,.bool true),(49,.bool true),(48,.bool true),(47,nI x91),(46,.bool true),(45,.bool true),(44,.bool true),(43,nI x90),(42,.bool true),(41,.bool true),(40,.bool true),(39,nI x89),(38,.bool true),(37,.bool true),(36,nI x63),(6,nI x91),(5,nI x90),(4,nI x89),(3,nI x63),(1,nP z17 0)]) (by kernel_rfl) ?_
       intro a129 hF128; clear hF126
       refine ev_call 46 #[nP z18 0,nI 0] hF128 rfl rfl (by kernel_rfl) rfl (by kernel_rfl) (fun w=>by kernel_rfl) ?_
       obtain ⟨y130,s131,hx132,hm133⟩:=bind2E hm125; clear hm125
       refine (take_Ready.ok hS97 hx132).mono ?_
       rintro _ w134 ⟨rfl,hS136⟩ a135 hF137; clear hF128 hS97
       refine ev_runK 3 hF137 [0] (l':=[(0,.bool (!(y130)))]) (w':=w134) (by kernel_rfl) ?_
       intro a139 hF138; clear hF137
       refine wpList_nil ?_
       have hS140:=hS136.drop.drop.drop.drop.drop
       clear hS136
       exact thenN ⟨!(y130),hF138,hS140,hm133⟩
      rw [hc124] at hF122
      have hm141:=ifNot hc124 hm121; clear hm121
      refine ev_runK 8 hF122 [0] (l':=[(0,.bool false)]) (w':=w95) (by kernel_rfl) ?_
      intro a143 hF142; clear hF122
      refine wpList_nil ?_
      have hS144:=hS97.drop.drop.drop.drop.drop
      clear hS97
      exact thenN ⟨false,hF142,hS144,hm141⟩
     rw [hc120] at hF118
     have hm145:=ifNot hc120 hm117; clear hm117
     refine ev_runK 12 hF118 [0] (l':=[(0,.bool false)]) (w':=w95) (by kernel_rfl) ?_
     intro a147 hF146; clear hF118
     refine wpList_nil ?_
     have hS148:=hS97.drop.drop.drop.drop.drop
     clear hS97
     exact thenN ⟨false,hF146,hS148,hm145⟩
    rw [hc116] at hF114
    have hm149:=ifNot hc116 hm113; clear hm113
    refine ev_runK 16 hF114 [0] (l':=[(0,.bool false)]) (w':=w95) (by kernel_rfl) ?_
    intro a151 hF150; clear hF114
    refine wpList_nil ?_
    have hS152:=hS97.drop.drop.drop.drop.drop
    clear hS97
    exact thenN ⟨false,hF150,hS152,hm149⟩
   rw [hc112] at hF110
   have hm153:=ifNot hc112 hm94; clear hm94
   refine ev_runK 20 hF110 [0] (l':=[(0,.bool false)]) (w':=w95) (by kernel_rfl) ?_
   intro a155 hF154; clear hF110
   refine wpList_nil ?_
   have hS156:=hS97.drop.drop.drop.drop.drop
   clear hS97
   exact thenN ⟨false,hF154,hS156,hm153⟩
end Go.Proofs.YtgejcjcpchofiaaGreat
namespace Go.Proofs.YtgejcjcpchofiaaGreat
open Go.RowKit
set_option linter.unusedVariables false
def TakeMoves.j6 (y210:Bool):Option (Bool):=some (y210)
def TakeMoves.j5 (K1:List Int) (k:Nat) (x5:Int) (L16:List Int) (L17:List Int) (x157:Int) (x158:Int) (x159:Int) (x174:Int) (x181:Int) (s190:HSt) (s191:HSt) (x192:Int) (x193:Int) (x194:Int) (x195:Int) (x196:Int) (x197:Int) (x198:Int) (x199:Int) (x200:Int) (x201:Int) (x202:Int):Option (Bool):=(if (inR (0:Int) K1.length) then (if (x157 == (atI K1 (0:Int))) then bind3 (law16_gor.m k s190 s191 L16 L17 0) fun x232 s233 s234=>(if (x158 == x232) then (if (x159 == 1) then (if (x181 == 0) then (if (x174 == x5) then (if (x202 == 0) then (if (x194 == 9) then (if (x193 == 0) then bind3 (law16_ch.m k s233 s234 L16 L17 0) fun x271 s272 s273=>bind2 (list_All.m k s272 x271 (true)) fun L281 s282=>TakeMoves.j6 ((L281.length:Int) == 0) else TakeMoves.j6 false) else TakeMoves.j6 false) else TakeMoves.j6 false) else TakeMoves.j6 false) else TakeMoves.j6 false) else TakeMoves.j6 false) else TakeMoves.j6 false) else TakeMoves.j6 false) else none)
def TakeMoves.j4 (K1:List Int) (k:Nat) (x5:Int) (L16:List Int) (L17:List Int) (x157:Int) (x158:Int) (x159:Int) (s170:HSt) (s171:HSt) (x172:Int) (x173:Int) (x174:Int) (x175:Int) (x176:Int) (x177:Int) (x178:Int) (x179:Int) (x180:Int) (x181:Int):Option (Bool):=bind3 (law16_gor.m k s170 s171 L16 L17 0) fun x335 s336 s337=>bind3 (view_Gor.m k s336 x335) fun q345 x346 s347=>TakeMoves.j5 K1 k x5 L16 L17 x157 x158 x159 x174 x181 s347 s337 q345.id q345.status q345.pc q345.a q345.b q345.c q345.d q345.e q345.f q345.sudogs x346
def TakeMoves.j3 (K1:List Int) (k:Nat) (x5:Int) (L16:List Int) (L17:List Int) (s124:HSt) (s125:HSt) (y126:Bool):Option (Bool):=(if (y126) then some (false) else bind3 (law16_ch.m k s124 s125 L16 L17 0) fun x145 s146 s147=>bind4 (take_Try.m k s146 (IntKind.i64.wrap ((IntKind.i64.wrap (2 * x145))+1))) fun x157 x158 x159 s160=>bind3 (law16_ch.m k s160 s147 L16 L17 0) fun x423 s424 s425=>bind2 (pChan x423 s424) fun q433 x434=>TakeMoves.j4 K1 k x5 L16 L17 x157 x158 x159 s424 s425 q433.cap q433.closed q433.count q433.start q433.buf q433.th q433.tt q433.sh q433.st x434)
def TakeMoves.l2b (K1:List Int) (k:Nat) (x5:Int) (L16:List Int) (L17:List Int) (rec81:HSt→HSt→Int→Option (Bool)) (s76:HSt) (s77:HSt) (x78:Int):Option (Bool):=(if (decide (x78<x5)) then (if (inR x78 K1.length) then bind3 (law16_ch.m k s76 s77 L16 L17 0) fun x98 s99 s100=>bind3 (send_Try.m k s99 (IntKind.i64.wrap ((IntKind.i64.wrap (2 * x98))+1)) (atI K1 x78)) fun x110 x111 s112=>rec81 s112 s100 (IntKind.i64.wrap (x78+1)) else none) else (if (inR x5 K1.length) then bind3 (law16_gor.m k s76 s77 L16 L17 0) fun x511 s512 s513=>bind3 (law16_ch.m k s512 s513 L16 L17 0) fun x520 s521 s522=>bind3 (law16_wait.m k s521 s522 L16 L17 x511 [x520] [true] (atI K1 x5) 9) fun y536 s537 s538=>TakeMoves.j3 K1 k x5 L16 L17 s537 s538 (!(y536)) else none))
def TakeMoves.l2 (K1:List Int) (k:Nat) (x5:Int) (L16:List Int) (L17:List Int):Nat→HSt→HSt→Int→Option (Bool)
  | 0=>fun _ _ _=>none
  | kI+1=>TakeMoves.l2b K1 k x5 L16 L17 (TakeMoves.l2 K1 k x5 L16 L17 kI)
def TakeMoves.j1 (K1:List Int) (k:Nat) (x5:Int) (s14:HSt) (s15:HSt) (L16:List Int) (L17:List Int) (y51:Bool):Option (Bool):=(if (y51) then bind1 (law16_awake.m k ) fun y61=>some (y61) else TakeMoves.l2 K1 k x5 L16 L17 k s14 s15 0)
def TakeMoves.m (k:Nat) (i0:Int) (K1:List Int):Option (Bool):=bind1 (some (IntKind.i64.wrap (1+(IntKind.i64.wrap (Int.tmod (IntKind.u64.wrap i0) 3))))) fun x5=>bind4 (law16_made.m k [x5] 0) fun s14 s15 L16 L17=>bind1 (law16_awake.m k ) fun y634=>(if (!(y634)) then TakeMoves.j1 K1 k x5 s14 s15 L16 L17 true else TakeMoves.j1 K1 k x5 s14 s15 L16 L17 (decide ((K1.length:Int)<5)))
set_option maxRecDepth 100000 in
set_option maxHeartbeats 40000000 in
theorem TakeMoves.ok {w0 w:World} {ps:List Piece} {k:Nat} {i0:Int} {pa1:Option Addr} {ca1:Nat} {K1:List Int} (hA1:ArgInts w0 (.slice pa1 K1.length ca1) K1) {r0:Bool} (hS:St w0 [] (ps) w) (hm:TakeMoves.m k i0 K1=some r0) :
    Calls Tryz.prog 12 #[nI i0,.slice pa1 K1.length ca1] w fun e w'=>e=.returned (.bool r0)∧St w0 [] (ps) w':=by
 refine ev_enterL 148 [nI i0,.slice pa1 K1.length ca1] Tryz.func12 rfl rfl (by simp) ?_
 intro a hF
 have hF0:Fr 148 a [(0,nI i0),(1,.slice pa1 K1.length ca1)]:=hF; clear hF
 unfold TakeMoves.m at hm
 refine wp_seq (wp_region_lit ?_)
 refine ev_runK 1 hF0 [0,1] (l':=[(0,nI i0),(1,.slice pa1 K1.length ca1)]) (w':=w) (by kernel_rfl) ?_
 intro a2 hF1; clear hF0
 refine wpList_nil (thenN (wp_seq (wp_region_lit ?_)))
 refine ev_runs 6 hF1 (l':=[(0,nI (IntKind.i64.wrap (1+(IntKind.i64.wrap (Int.tmod (IntKind.u64.wrap i0) 3))))),(18,nI (IntKind.i64.wrap (1+(IntKind.i64.wrap (Int.tmod (IntKind.u64.wrap i0) 3))))),(17,nI (IntKind.i64.wrap (Int.tmod (IntKind.u64.wrap i0) 3))),(16,.int .u64 (Int.tmod (IntKind.u64.wrap i0) 3)),(15,.int .u64 (IntKind.u64.wrap i0)),(14,nI i0),(1,.slice pa1 K1.length ca1)]) (w':=w) (by kernel_rfl) ?_
 intro a4 hF3; clear hF1
 obtain ⟨x5,hx6,hm7⟩:=bind1E hm; clear hm
 have hF8:=hF3; rw [Option.some.inj hx6] at hF8; clear hF3
 refine wpList_nil ?_
 have hF9:=hF8.keep [0,1]
 clear hF8
 refine thenN (wp_seq (wp_region_lit ?_))
 refine ev_runs 2 hF9 (l':=[(20,.slice (some ⟨w.heap.size,0,none⟩) 1 1),(19,nI x5),(0,nI x5),(1,.slice pa1 K1.length ca1)]) (w':=w.alloc (.cells #[nI x5] 3)) (by kernel_rfl) ?_
 intro a11 hF10; clear hF9
 have hS13:St w0 [] (RowP (.slice (some ⟨w.heap.size,0,none⟩) 1 1) [x5]::ps) (w.alloc (.cells #[nI x5] 3)):=St.lit hS [x5] (by unfold maxLen; simp)
 refine ev_call 42 #[.slice (some ⟨w.heap.size,0,none⟩) 1 1,nI 0] hF10 rfl rfl (by kernel_rfl) rfl (by kernel_rfl) (fun w=>by kernel_rfl) ?_
 obtain ⟨s14,s15,L16,L17,hx18,hm19⟩:=bind4E hm7; clear hm7
 refine (law16_made.ok hS13 hx18).mono ?_
 rintro _ w20 ⟨z24,z25,z26,z27,z28,z29,z30,z31,z32,z33,rfl,hS22⟩ a21 hF23; clear hF10 hS13
 have hS39:St w0 [] (RowP (.slice (some ⟨w.heap.size,0,none⟩) 1 1) [x5]::BlkP z24 77 #[nP z25 0,nP z27 0,z32,z33]::HeapP z25 z26 s14::RHeapP z27 z28 z29 z30 z31 s15::RowP (z32) L16::RowP (z33) L17::ps) w20:=hS22
 clear hS22
 obtain ⟨hl43,p40,c41,rfl,hp42⟩:=St.shape hS39 4 rfl
 obtain ⟨hl47,p44,c45,rfl,hp46⟩:=St.shape hS39 5 rfl
 refine ev_runK 1 hF23 [0,1,5] (l':=[(5,nP z24 0),(0,nI x5),(1,.slice pa1 K1.length ca1)]) (w':=w20) (by kernel_rfl) ?_
 intro a49 hF48; clear hF23
 refine wpList_nil ?_
 have hS50:=hS39.drop
 clear hS39
 refine thenN (wp_seq (wp_seq ?_))
 refine joinQ (fun aI wI=>∃ (y51:Bool),Fr 148 aI [(32,.bool (y51)),(5,nP z24 0),(0,nI x5),(1,.slice pa1 K1.length ca1)]∧St w0 [] (BlkP z24 77 #[nP z25 0,nP z27 0,.slice p40 L16.length c41,.slice p44 L17.length c45]::HeapP z25 z26 s14::RHeapP z27 z28 z29 z30 z31 s15::RowP (.slice p40 L16.length c41) L16::RowP (.slice p44 L17.length c45) L17::ps) wI∧TakeMoves.j1 K1 k x5 s14 s15 L16 L17 y51=some r0) ?_ ?_
 rotate_left
 · rintro a53 w54 ⟨y51,hF55,hS56,hm57⟩
   clear hF48 hS50 hm19
   unfold TakeMoves.j1 at hm57
   refine thenN ?_
   cases hc59:(y51)
   case true =>
    rw [hc59] at hF55
    have hm60:=ifYes hc59 hm57; clear hm57
    refine ev_condT hF55 rfl rfl ?_
    refine wp_seq (wp_region_lit ?_)
    refine ev_call 43 #[] hF55 rfl rfl (by kernel_rfl) rfl (by kernel_rfl) (fun w=>by kernel_rfl) ?_
    obtain ⟨y61,hx62,hm63⟩:=bind1E hm60; clear hm60
    refine (law16_awake.ok hS56 hx62).mono ?_
    rintro _ w64 ⟨rfl,hS66⟩ a65 hF67; clear hF55 hS56
    refine ev_runK 1 hF67 [4] (l':=[(4,.bool (y61))]) (w':=w64) (by kernel_rfl) ?_
    intro a69 hF68; clear hF67
    refine wpList_nil ?_
    have hS70:=hS66.drop.drop.drop.drop.drop
    clear hS66
    refine thenN ?_
    refine wp_ret ?_
    refine thenR ?_
    obtain rfl:=Option.some.inj hm63
    refine ev_ret hF68 [4] (.bool (y61)) rfl rfl rfl ?_
    exact ⟨rfl,hS70⟩
   rw [hc59] at hF55
   have hm72:=ifNot hc59 hm57; clear hm57
   refine ev_condF hF55 rfl rfl ?_
   refine wp_skip ?_
   have hF73:=hF55.keep [0,1,5]
   clear hF55
   refine thenN (wp_seq (wp_seq (wp_region_lit ?_)))
   refine ev_runs 1 hF73 (l':=[(6,nI 0),(5,nP z24 0),(0,nI x5),(1,.slice pa1 K1.length ca1)]) (w':=w54) (by kernel_rfl) ?_
   intro a75 hF74; clear hF73
   refine wpList_nil (thenN ?_)
   refine wp_block ?_
   refine wp_loop_ghost (fun kI aI wI=>∃ (s76:HSt) (s77:HSt) (x78:Int),Fr 148 aI [(6,nI x78),(5,nP z24 0),(0,nI x5),(1,.slice pa1 K1.length ca1)]∧St w0 [] (BlkP z24 77 #[nP z25 0,nP z27 0,.slice p40 L16.length c41,.slice p44 L17.length c45]::HeapP z25 z26 s76::RHeapP z27 z28 z29 z30 z31 s77::RowP (.slice p40 L16.length c41) L16::RowP (.slice p44 L17.length c45) L17::ps) wI∧TakeMoves.l2 K1 k x5 L16 L17 kI s76 s77 x78=some r0) k ⟨s14,s15,0,hF74,hS56,hm72⟩ ?_
   rintro k79 a80 w81 ⟨s76,s77,x78,hF82,hS83,hm84⟩
   clear hF74 hS56 hm72
   rcases k79 with _ | k79
   · cases hm84
   have hm85:TakeMoves.l2b K1 k x5 L16 L17 (TakeMoves.l2 K1 k x5 L16 L17 k79) s76 s77 x78=some r0:=hm84
   clear hm84
   unfold TakeMoves.l2b at hm85
   refine wp_seq (wp_seq (wp_region_lit ?_))
   refine ev_runK 3 hF82 [0,1,5,6,36] (l':=[(36,.bool (decide (x78<x5))),(6,nI x78),(5,nP z24 0),(0,nI x5),(1,.slice pa1 K1.length ca1)]) (w':=w81) (by kernel_rfl) ?_
   intro a87 hF86; clear hF82
   refine wpList_nil (thenN ?_)
   cases hc88:(decide (x78<x5))
   case true =>
    rw [hc88] at hF86
    have hm89:=ifYes hc88 hm85; clear hm85
    refine ev_condT hF86 rfl rfl ?_
    refine wp_skip ?_
    have hF90:=hF86.keep [0,1,5,6]
    clear hF86
    refine thenN (wp_seq ?_)
    refine wp_block ?_
    obtain ⟨hc91,hm92⟩:=ifTE hm89; clear hm89
    obtain ⟨b93,o94,rfl⟩:=argK hA1 hc91
    have hS95:=hS83.drew; clear hS83
    refine any_start (fun wS=>∃ qs,St w0 [] (BlkP z24 77 #[nP z25 0,nP z27 0,.slice p40 L16.length c41,.slice p44 L17.length c45]::qs) wS) 13 #[false,false,false,false,false,false,false,false,false,false,false,false,false] (by kernel_rfl) (by kernel_rfl) (by kernel_rfl) ?_
    refine any_many 9 [(0,some (nP z24 0)),(1,some (nP z24 0)),(2,some (nP z24 0)),(3,some (nP z25 0)),(4,some (nP z24 0)),(8,some (.slice (some ⟨b93,o94,none⟩) K1.length ca1)),(9,some (nI x78)),(10,some (nP b93 ((o94+x78.toNat)))),(11,some (nI (atI K1 x78)))] [0,1,5,6,42,43,44,45,46,50] #[true,true,true,true,true,false,false,false,true,true,true,true,false] (by rfl) hF90 (by kernel_rfl) (by kernel_rfl) (by exact ⟨fun wS hw=>by kernel_rfl,fun wS hw=>by kernel_rfl,fun wS hw=>by kernel_rfl,fun wS hw=>hw.elim fun qs hw=>run_loadV rfl rfl (run_loadS rfl rfl (hw.cell 0 rfl 0 rfl)),fun wS hw=>by kernel_rfl,fun wS hw=>by kernel_rfl,fun wS hw=>by kernel_rfl,fun wS hw=>run_idxO rfl rfl rfl rfl rfl (inR_spec hc91).1 (inR_spec hc91).2 _,fun wS hw=>run_load1 rfl rfl rfl (hw.elim fun qs hw=>argAt hA1 hw hc91),trivial⟩) (fun _ _ _ _ _ h=>h) ⟨_,hS95⟩ (l':=[(50,nI (atI K1 x78)),(43,nP z24 0),(42,nP z25 0),(6,nI x78),(5,nP z24 0),(0,nI x5),(1,.slice (some ⟨b93,o94,none⟩) K1.length ca1)]) (by kernel_rfl) ?_
    intro a97 hF96; clear hF90
    refine any_call 5 #[true,true,true,true,true,true,false,false,true,true,true,true,false] 44 #[nP z24 0,nI 0] hF96 rfl (by kernel_rfl) rfl rfl (by kernel_rfl) rfl (by kernel_rfl) (fun w=>by kernel_rfl) (by kernel_rfl) ?_
    obtain ⟨x98,s99,s100,hx101,hm102⟩:=bind3E hm92; clear hm92
    refine (law16_ch.ok hS95 hx101).mono ?_
    rintro _ w103 ⟨rfl,hS105⟩; clear hS95
    refine ⟨⟨_,hS105⟩,?_⟩
    intro a104 hF106; clear hF96
    refine any_many 2 [(6,some (nI (IntKind.i64.wrap (2 * x98)))),(7,some (nI (IntKind.i64.wrap ((IntKind.i64.wrap (2 * x98))+1))))] [0,1,5,6,42,46,50] #[true,true,true,true,true,true,true,true,true,true,true,true,false] (by rfl) hF106 (by kernel_rfl) (by kernel_rfl) (by exact ⟨fun wS hw=>by kernel_rfl,fun wS hw=>by kernel_rfl,trivial⟩) (fun _ _ _ _ _ h=>h) ⟨_,hS105⟩ (l':=[(46,nI (IntKind.i64.wrap ((IntKind.i64.wrap (2 * x98))+1))),(50,nI (atI K1 x78)),(42,nP z25 0),(6,nI x78),(5,nP z24 0),(0,nI x5),(1,.slice (some ⟨b93,o94,none⟩) K1.length ca1)]) (by kernel_rfl) ?_
    intro a108 hF107; clear hF106
    have hS109:=hS105.pick1
    clear hS105
    refine any_call 12 #[true,true,true,true,true,true,true,true,true,true,true,true,true] 28 #[nP z25 0,nI (IntKind.i64.wrap ((IntKind.i64.wrap (2 * x98))+1)),nI (atI K1 x78)] hF107 rfl (by kernel_rfl) rfl rfl (by kernel_rfl) rfl (by kernel_rfl) (fun w=>by kernel_rfl) (by kernel_rfl) ?_
    obtain ⟨x110,x111,s112,hx113,hm114⟩:=bind3E hm102; clear hm102
    refine (send_Try.ok hS109 hx113).mono ?_
    rintro _ w115 ⟨rfl,hS117⟩; clear hS109
    refine ⟨⟨_,hS117.pick1⟩,?_⟩
    intro a116 hF118; clear hF107
    refine any_done (by kernel_rfl) ?_
    have hF119:=hF118.keep [0,1,5,6]
    clear hF118
    refine blockN ?_
    refine thenN (wp_region_lit ?_)
    refine ev_runK 3 hF119 [0,1,5,6] (l':=[(6,nI (IntKind.i64.wrap (x78+1))),(5,nP z24 0),(0,nI x5),(1,.slice (some ⟨b93,o94,none⟩) K1.length ca1)]) (w':=w115) (by kernel_rfl) ?_
    intro a121 hF120; clear hF119
    refine wpList_nil ?_
    have hS122:=hS117.pick4.pick4.pick4.pick3.pick4
    clear hS117
    exact thenN ⟨k79,Nat.lt_succ_self _,s112,s100,IntKind.i64.wrap (x78+1),hF120,hS122,hm114⟩
   rw [hc88] at hF86
   have hm123:=ifNot hc88 hm85; clear hm85
   refine ev_condF hF86 rfl rfl ?_
   refine wp_exit ?_
   refine thenE ?_
   refine thenE ?_
   refine blockE ?_
   refine thenN (wp_seq (wp_seq ?_))
   refine joinQ (fun aI wI=>∃ (s124:HSt) (s125:HSt) (y126:Bool),Fr 148 aI [(64,.bool (y126)),(5,nP z24 0),(0,nI x5),(1,.slice pa1 K1.length ca1)]∧St w0 [] (BlkP z24 77 #[nP z25 0,nP z27 0,.slice p40 L16.length c41,.slice p44 L17.length c45]::HeapP z25 z26 s124::RHeapP z27 z28 z29 z30 z31 s125::RowP (.slice p40 L16.length c41) L16::RowP (.slice p44 L17.length c45) L17::ps) wI∧TakeMoves.j3 K1 k x5 L16 L17 s124 s125 y126=some r0) ?_ ?_
   rotate_left
   · rintro a128 w129 ⟨s124,s125,y126,hF130,hS131,hm132⟩
     clear hF86 hS83 hm123
     unfold TakeMoves.j3 at hm132
     refine thenN ?_
     cases hc134:(y126)
     case true =>
      rw [hc134] at hF130
      have hm135:=ifYes hc134 hm132; clear hm132
      refine ev_condT hF130 rfl rfl ?_
      refine wp_seq (wp_region_lit ?_)
      refine ev_runK 1 hF130 [4] (l':=[(4,.bool false)]) (w':=w129) (by kernel_rfl) ?_
      intro a137 hF136; clear hF130
      refine wpList_nil ?_
      have hS138:=hS131.drop.drop.drop.drop.drop
      clear hS131
      refine thenN ?_
      refine wp_ret ?_
      refine thenR ?_
      obtain rfl:=Option.some.inj hm135
      refine ev_ret hF136 [4] (.bool false) rfl rfl rfl ?_
      exact ⟨rfl,hS138⟩
     rw [hc134] at hF130
     have hm140:=ifNot hc134 hm132; clear hm132
     refine ev_condF hF130 rfl rfl ?_
     refine wp_skip ?_
     have hF141:=hF130.keep [0,1,5]
     clear hF130
     refine thenN (wp_seq ?_)
     have hS142:=hS131.drew; clear hS131
     refine any_start (fun wS=>∃ qs,St w0 [] (BlkP z24 77 #[nP z25 0,nP z27 0,.slice p40 L16.length c41,.slice p44 L17.length c45]::qs) wS) 16 #[false,false,false,false,false,false,false,false,false,false,false,false,false,false,false,false] (by kernel_rfl) (by kernel_rfl) (by kernel_rfl) ?_
     refine any_many 5 [(0,some (nP z24 0)),(1,some (nP z24 0)),(2,some (nP z24 0)),(3,some (nP z25 0)),(4,some (nP z24 0))] [0,1,5,7,8,9,65,69,70,71,72,73,74,75,76,77] #[true,true,true,true,true,false,false,false,false,false,false,false,false,false,false,false] (by rfl) hF141 (by kernel_rfl) (by kernel_rfl) (by exact ⟨fun wS hw=>by kernel_rfl,fun wS hw=>by kernel_rfl,fun wS hw=>by kernel_rfl,fun wS hw=>hw.elim fun qs hw=>run_loadV rfl rfl (run_loadS rfl rfl (hw.cell 0 rfl 0 rfl)),fun wS hw=>by kernel_rfl,trivial⟩) (fun _ _ _ _ _ h=>h) ⟨_,hS142⟩ (l':=[(70,nP z24 0),(69,nP z25 0),(5,nP z24 0),(0,nI x5),(1,.slice pa1 K1.length ca1)]) (by kernel_rfl) ?_
     intro a144 hF143; clear hF141
     refine any_call 5 #[true,true,true,true,true,true,false,false,false,false,false,false,false,false,false,false] 44 #[nP z24 0,nI 0] hF143 rfl (by kernel_rfl) rfl rfl (by kernel_rfl) rfl (by kernel_rfl) (fun w=>by kernel_rfl) (by kernel_rfl) ?_
     obtain ⟨x145,s146,s147,hx148,hm149⟩:=bind3E hm140; clear hm140
     refine (law16_ch.ok hS142 hx148).mono ?_
     rintro _ w150 ⟨rfl,hS152⟩; clear hS142
     refine ⟨⟨_,hS152⟩,?_⟩
     intro a151 hF153; clear hF143
     refine any_many 2 [(6,some (nI (IntKind.i64.wrap (2 * x145)))),(7,some (nI (IntKind.i64.wrap ((IntKind.i64.wrap (2 * x145))+1))))] [0,1,5,7,8,9,65,69,73,74,75,76,77] #[true,true,true,true,true,true,true,true,false,false,false,false,false,false,false,false] (by rfl) hF153 (by kernel_rfl) (by kernel_rfl) (by exact ⟨fun wS hw=>by kernel_rfl,fun wS hw=>by kernel_rfl,trivial⟩) (fun _ _ _ _ _ h=>h) ⟨_,hS152⟩ (l':=[(73,nI (IntKind.i64.wrap ((IntKind.i64.wrap (2 * x145))+1))),(69,nP z25 0),(5,nP z24 0),(0,nI x5),(1,.slice pa1 K1.length ca1)]) (by kernel_rfl) ?_
     intro a155 hF154; clear hF153
     have hS156:=hS152.pick1
     clear hS152
     refine any_call 8 #[true,true,true,true,true,true,true,true,true,false,false,false,false,false,false,false] 45 #[nP z25 0,nI (IntKind.i64.wrap ((IntKind.i64.wrap (2 * x145))+1))] hF154 rfl (by kernel_rfl) rfl rfl (by kernel_rfl) rfl (by kernel_rfl) (fun w=>by kernel_rfl) (by kernel_rfl) ?_
     obtain ⟨x157,x158,x159,s160,hx161,hm162⟩:=bind4E hm149; clear hm149
     refine (take_Try.ok hS156 hx161).mono ?_
     rintro _ w163 ⟨rfl,hS165⟩; clear hS156
     refine ⟨⟨_,hS165.pick1⟩,?_⟩
     intro a164 hF166; clear hF154
     refine any_many 7 [(9,some (.tuple #[nI x157,nI x158,nI x159])),(10,some (nI x157)),(11,some (nI x158)),(12,some (nI x159)),(13,some (nI x157)),(14,some (nI x158)),(15,some (nI x159))] [0,1,5,7,8,9] #[true,true,true,true,true,true,true,true,true,true,true,true,true,true,true,true] (by rfl) hF166 (by kernel_rfl) (by kernel_rfl) (by exact ⟨fun wS hw=>by kernel_rfl,fun wS hw=>by kernel_rfl,fun wS hw=>by kernel_rfl,fun wS hw=>by kernel_rfl,fun wS hw=>by kernel_rfl,fun wS hw=>by kernel_rfl,fun wS hw=>by kernel_rfl,trivial⟩) (fun _ _ _ _ _ h=>h) ⟨_,hS165.pick1⟩ (l':=[(9,nI x159),(8,nI x158),(7,nI x157),(5,nP z24 0),(0,nI x5),(1,.slice pa1 K1.length ca1)]) (by kernel_rfl) ?_
     intro a168 hF167; clear hF166
     refine any_done (by kernel_rfl) ?_
     refine thenN (wp_seq ?_)
     refine joinQ (fun aI wI=>∃ (g169:Nat) (s170:HSt) (s171:HSt) (x172:Int) (x173:Int) (x174:Int) (x175:Int) (x176:Int) (x177:Int) (x178:Int) (x179:Int) (x180:Int) (x181:Int),Fr 148 aI [(11,nI x181),(10,nP g169 0),(9,nI x159),(8,nI x158),(7,nI x157),(5,nP z24 0),(0,nI x5),(1,.slice pa1 K1.length ca1)]∧St w0 [] (BlkP g169 57 #[nI x172,nI x173,nI x174,nI x175,nI x176,nI x177,nI x178,nI x179,nI x180]::HeapP z25 z26 s170::BlkP z24 77 #[nP z25 0,nP z27 0,.slice p40 L16.length c41,.slice p44 L17.length c45]::RHeapP z27 z28 z29 z30 z31 s171::RowP (.slice p40 L16.length c41) L16::RowP (.slice p44 L17.length c45) L17::ps) wI∧TakeMoves.j4 K1 k x5 L16 L17 x157 x158 x159 s170 s171 x172 x173 x174 x175 x176 x177 x178 x179 x180 x181=some r0) ?_ ?_
     rotate_left
     · rintro a183 w184 ⟨g169,s170,s171,x172,x173,x174,x175,x176,x177,x178,x179,x180,x181,hF185,hS186,hm187⟩
       clear hF167 hS165 hm162
       unfold TakeMoves.j4 at hm187
       refine thenN (wp_seq ?_)
       refine joinQ (fun aI wI=>∃ (g189:Nat) (s190:HSt) (s191:HSt) (x192:Int) (x193:Int) (x194:Int) (x195:Int) (x196:Int) (x197:Int) (x198:Int) (x199:Int) (x200:Int) (x201:Int) (x202:Int),Fr 148 aI [(13,nI x202),(12,nP g189 0),(11,nI x181),(10,nP g169 0),(9,nI x159),(8,nI x158),(7,nI x157),(5,nP z24 0),(0,nI x5),(1,.slice pa1 K1.length ca1)]∧St w0 [] (BlkP g189 29 #[nI x192,nI x193,nI x194,nI x195,nI x196,nI x197,nI x198,nI x199,nI x200,nI x201]::HeapP z25 z26 s190::BlkP z24 77 #[nP z25 0,nP z27 0,.slice p40 L16.length c41,.slice p44 L17.length c45]::RHeapP z27 z28 z29 z30 z31 s191::RowP (.slice p40 L16.length c41) L16::RowP (.slice p44 L17.length c45) L17::BlkP g169 57 #[nI x172,nI x173,nI x174,nI x175,nI x176,nI x177,nI x178,nI x179,nI x180]::ps) wI∧TakeMoves.j5 K1 k x5 L16 L17 x157 x158 x159 x174 x181 s190 s191 x192 x193 x194 x195 x196 x197 x198 x199 x200 x201 x202=some r0) ?_ ?_
       rotate_left
       · rintro a204 w205 ⟨g189,s190,s191,x192,x193,x194,x195,x196,x197,x198,x199,x200,x201,x202,hF206,hS207,hm208⟩
         clear hF185 hS186 hm187
         unfold TakeMoves.j5 at hm208
         refine thenN (wp_seq ?_)
         refine joinQ (fun aI wI=>∃ (y210:Bool),Fr 148 aI [(4,.bool (y210))]∧St w0 [] (ps) wI∧TakeMoves.j6 y210=some r0) ?_ ?_
         rotate_left
         · rintro a212 w213 ⟨y210,hF214,hS215,hm216⟩
           clear hF206 hS207 hm208
           unfold TakeMoves.j6 at hm216
           refine thenN ?_
           refine wp_ret ?_
           obtain rfl:=Option.some.inj hm216
           refine ev_ret hF214 [4] (.bool (y210)) rfl rfl rfl ?_
           exact ⟨rfl,hS215⟩
         · skip
           obtain ⟨hc219,hm220⟩:=ifTE hm208; clear hm208
           obtain ⟨b221,o222,rfl⟩:=argK hA1 hc219
           have hS223:=hS207.pick2.pick1.pick6
           clear hS207
           have hS224:=hS223.drew; clear hS223
           refine any_start (fun wS=>∃ qs,St w0 [] (BlkP g169 57 #[nI x172,nI x173,nI x174,nI x175,nI x176,nI x177,nI x178,nI x179,nI x180]::BlkP g189 29 #[nI x192,nI x193,nI x194,nI x195,nI x196,nI x197,nI x198,nI x199,nI x200,nI x201]::BlkP z24 77 #[nP z25 0,nP z27 0,.slice p40 L16.length c41,.slice p44 L17.length c45]::qs) wS) 51 #[false,false,false,false,false,false,false,false,false,false,false,false,false,false,false,false,false,false,false,false,false,false,false,false,false,false,false,false,false,false,false,false,false,false,false,false,false,false,false,false,false,false,false,false,false,false,false,false,false,false,false] (by kernel_rfl) (by kernel_rfl) (by kernel_rfl) ?_
           refine any_many 6 [(0,some (nI x157)),(1,some (.slice (some ⟨b221,o222,none⟩) K1.length ca1)),(2,some (nP b221 ((o222+(0:Int).toNat)))),(3,some (nI (atI K1 (0:Int)))),(4,some (.bool (x157 == (atI K1 (0:Int))))),(5,some (.bool (x157 == (atI K1 (0:Int)))))] [0,4,5,8,9,10,11,12,13,103,104,105,106,107,108,109,110,111,112,113,114,115,116,117,118,119,120,121,122,123,124,125,126,127,128,129,130,131,132,133,134,135,136,137,138,139,140,141,142,143,144,145,146,147] #[true,true,true,true,true,true,false,false,false,false,false,false,false,false,false,false,false,false,false,false,false,false,false,false,false,false,false,false,false,false,false,false,false,false,false,false,false,false,false,false,false,false,false,false,false,false,false,false,false,false,false] (by rfl) hF206 (by kernel_rfl) (by kernel_rfl) (by exact ⟨fun wS hw=>by kernel_rfl,fun wS hw=>by kernel_rfl,fun wS hw=>run_idxO rfl rfl rfl rfl rfl (inR_spec hc219).1 (inR_spec hc219).2 _,fun wS hw=>run_load1 rfl rfl rfl (hw.elim fun qs hw=>argAt hA1 hw hc219),fun wS hw=>by kernel_rfl,fun wS hw=>by kernel_rfl,trivial⟩) (fun _ _ _ _ _ h=>h) ⟨_,hS224⟩ (l':=[(103,.bool (x157 == (atI K1 (0:Int)))),(13,nI x202),(12,nP g189 0),(11,nI x181),(10,nP g169 0),(9,nI x159),(8,nI x158),(5,nP z24 0),(0,nI x5)]) (by kernel_rfl) ?_
           intro a226 hF225; clear hF206
           cases hc227:(x157 == (atI K1 (0:Int)))
           case true =>
            rw [hc227] at hF225
            have hm228:=ifYes hc227 hm220; clear hm220
            refine any_many 2 [(6,some (nI x158)),(7,some (nP z24 0))] [0,4,5,9,10,11,12,13,103,104,105,106,107,108,109,110,111,112,113,114,115,116,117,118,119,120,121,122,123,124,125,126,127,128,129,130,131,132,133,134,135,136,137,138,139,140,141,142,143,144,145,146,147] #[true,true,true,true,true,true,true,true,false,false,false,false,false,false,false,false,false,false,false,false,false,false,false,false,false,false,false,false,false,false,false,false,false,false,false,false,false,false,false,false,false,false,false,false,false,false,false,false,false,false,false] (by rfl) hF225 (by kernel_rfl) (by kernel_rfl) (by exact ⟨fun wS hw=>by kernel_rfl,fun wS hw=>by kernel_rfl,trivial⟩) (fun _ _ _ _ _ h=>h) ⟨_,hS224⟩ (l':=[(105,nP z24 0),(104,nI x158),(103,.bool true),(13,nI x202),(12,nP g189 0),(11,nI x181),(10,nP g169 0),(9,nI x159),(5,nP z24 0),(0,nI x5)]) (by kernel_rfl) ?_
            intro a230 hF229; clear hF225
            have hS231:=hS224.pick6.pick6.pick6.pick6.pick6
            clear hS224
            refine any_call 8 #[true,true,true,true,true,true,true,true,true,false,false,false,false,false,false,false,false,false,false,false,false,false,false,false,false,false,false,false,false,false,false,false,false,false,false,false,false,false,false,false,false,false,false,false,false,false,false,false,false,false,false] 47 #[nP z24 0,nI 0] hF229 rfl (by kernel_rfl) rfl rfl (by kernel_rfl) rfl (by kernel_rfl) (fun w=>by kernel_rfl) (by kernel_rfl) ?_
            obtain ⟨x232,s233,s234,hx235,hm236⟩:=bind3E hm228; clear hm228
            refine (law16_gor.ok hS231 hx235).mono ?_
            rintro _ w237 ⟨rfl,hS239⟩; clear hS231
            refine ⟨⟨_,hS239.pick6.pick6⟩,?_⟩
            intro a238 hF240; clear hF229
            refine any_many 3 [(9,some (.bool (x158 == x232))),(10,some (.bool (x158 == x232))),(11,some (.bool (x158 == x232)))] [0,4,5,9,10,11,12,13,109,110,111,112,113,114,115,116,117,118,119,120,121,122,123,124,125,126,127,128,129,130,131,132,133,134,135,136,137,138,139,140,141,142,143,144,145,146,147] #[true,true,true,true,true,true,true,true,true,true,true,true,false,false,false,false,false,false,false,false,false,false,false,false,false,false,false,false,false,false,false,false,false,false,false,false,false,false,false,false,false,false,false,false,false,false,false,false,false,false,false] (by rfl) hF240 (by kernel_rfl) (by kernel_rfl) (by exact ⟨fun wS hw=>by kernel_rfl,fun wS hw=>by kernel_rfl,fun wS hw=>by kernel_rfl,trivial⟩) (fun _ _ _ _ _ h=>h) ⟨_,hS239.pick6.pick6⟩ (l':=[(109,.bool (x158 == x232)),(13,nI x202),(12,nP g189 0),(11,nI x181),(10,nP g169 0),(9,nI x159),(5,nP z24 0),(0,nI x5)]) (by kernel_rfl) ?_
            intro a242 hF241; clear hF240
            cases hc243:(x158 == x232)
            case true =>
             rw [hc243] at hF241
             have hm244:=ifYes hc243 hm236; clear hm236
             refine any_many 4 [(12,some (nI x159)),(13,some (.bool (x159 == 1))),(14,some (.bool (x159 == 1))),(15,some (.bool (x159 == 1)))] [0,4,5,10,11,12,13,113,114,115,116,117,118,119,120,121,122,123,124,125,126,127,128,129,130,131,132,133,134,135,136,137,138,139,140,141,142,143,144,145,146,147] #[true,true,true,true,true,true,true,true,true,true,true,true,true,true,true,true,false,false,false,false,false,false,false,false,false,false,false,false,false,false,false,false,false,false,false,false,false,false,false,false,false,false,false,false,false,false,false,false,false,false,false] (by rfl) hF241 (by kernel_rfl) (by kernel_rfl) (by exact ⟨fun wS hw=>by kernel_rfl,fun wS hw=>by kernel_rfl,fun wS hw=>by kernel_rfl,fun wS hw=>by kernel_rfl,trivial⟩) (fun _ _ _ _ _ h=>h) ⟨_,hS239.pick6.pick6⟩ (l':=[(113,.bool (x159 == 1)),(13,nI x202),(12,nP g189 0),(11,nI x181),(10,nP g169 0),(5,nP z24 0),(0,nI x5)]) (by kernel_rfl) ?_
             intro a246 hF245; clear hF241
             cases hc247:(x159 == 1)
             case true =>
              rw [hc247] at hF245
              have hm248:=ifYes hc247 hm244; clear hm244
              refine any_many 4 [(16,some (nI x181)),(17,some (.bool (x181 == 0))),(18,some (.bool (x181 == 0))),(19,some (.bool (x181 == 0)))] [0,4,5,10,12,13,117,118,119,120,121,122,123,124,125,126,127,128,129,130,131,132,133,134,135,136,137,138,139,140,141,142,143,144,145,146,147] #[true,true,true,true,true,true,true,true,true,true,true,true,true,true,true,true,true,true,true,true,false,false,false,false,false,false,false,false,false,false,false,false,false,false,false,false,false,false,false,false,false,false,false,false,false,false,false,false,false,false,false] (by rfl) hF245 (by kernel_rfl) (by kernel_rfl) (by exact ⟨fun wS hw=>by kernel_rfl,fun wS hw=>by kernel_rfl,fun wS hw=>by kernel_rfl,fun wS hw=>by kernel_rfl,trivial⟩) (fun _ _ _ _ _ h=>h) ⟨_,hS239.pick6.pick6⟩ (l':=[(117,.bool (x181 == 0)),(13,nI x202),(12,nP g189 0),(10,nP g169 0),(5,nP z24 0),(0,nI x5)]) (by kernel_rfl) ?_
              intro a250 hF249; clear hF245
              cases hc251:(x181 == 0)
              case true =>
               rw [hc251] at hF249
               have hm252:=ifYes hc251 hm248; clear hm248
               refine any_many 6 [(20,some (nP g169 2)),(21,some (nI x174)),(22,some (nI x5)),(23,some (.bool (x174 == x5))),(24,some (.bool (x174 == x5))),(25,some (.bool (x174 == x5)))] [4,5,12,13,123,124,125,126,127,128,129,130,131,132,133,134,135,136,137,138,139,140,141,142,143,144,145,146,147] #[true,true,true,true,true,true,true,true,true,true,true,true,true,true,true,true,true,true,true,true,true,true,true,true,true,true,false,false,false,false,false,false,false,false,false,false,false,false,false,false,false,false,false,false,false,false,false,false,false,false,false] (by rfl) hF249 (by kernel_rfl) (by kernel_rfl) (by exact ⟨fun wS hw=>by kernel_rfl,fun wS hw=>hw.elim fun qs hw=>run_loadV rfl rfl (run_loadS rfl rfl (hw.cell 0 rfl 2 rfl)),fun wS hw=>by kernel_rfl,fun wS hw=>by kernel_rfl,fun wS hw=>by kernel_rfl,fun wS hw=>by kernel_rfl,trivial⟩) (fun _ _ _ _ _ h=>h) ⟨_,hS239.pick6.pick6⟩ (l':=[(123,.bool (x174 == x5)),(13,nI x202),(12,nP g189 0),(5,nP z24 0)]) (by kernel_rfl) ?_
               intro a254 hF253; clear hF249
               cases hc255:(x174 == x5)
               case true =>
                rw [hc255] at hF253
                have hm256:=ifYes hc255 hm252; clear hm252
                refine any_many 4 [(26,some (nI x202)),(27,some (.bool (x202 == 0))),(28,some (.bool (x202 == 0))),(29,some (.bool (x202 == 0)))] [4,5,12,127,128,129,130,131,132,133,134,135,136,137,138,139,140,141,142,143,144,145,146,147] #[true,true,true,true,true,true,true,true,true,true,true,true,true,true,true,true,true,true,true,true,true,true,true,true,true,true,true,true,true,true,false,false,false,false,false,false,false,false,false,false,false,false,false,false,false,false,false,false,false,false,false] (by rfl) hF253 (by kernel_rfl) (by kernel_rfl) (by exact ⟨fun wS hw=>by kernel_rfl,fun wS hw=>by kernel_rfl,fun wS hw=>by kernel_rfl,fun wS hw=>by kernel_rfl,trivial⟩) (fun _ _ _ _ _ h=>h) ⟨_,hS239.pick6.pick6⟩ (l':=[(127,.bool (x202 == 0)),(12,nP g189 0),(5,nP z24 0)]) (by kernel_rfl) ?_
                intro a258 hF257; clear hF253
                cases hc259:(x202 == 0)
                case true =>
                 rw [hc259] at hF257
                 have hm260:=ifYes hc259 hm256; clear hm256
                 refine any_many 5 [(30,some (nP g189 2)),(31,some (nI x194)),(32,some (.bool (x194 == 9))),(33,some (.bool (x194 == 9))),(34,some (.bool (x194 == 9)))] [4,5,12,132,133,134,135,136,137,138,139,140,141,142,143,144,145,146,147] #[true,true,true,true,true,true,true,true,true,true,true,true,true,true,true,true,true,true,true,true,true,true,true,true,true,true,true,true,true,true,true,true,true,true,true,false,false,false,false,false,false,false,false,false,false,false,false,false,false,false,false] (by rfl) hF257 (by kernel_rfl) (by kernel_rfl) (by exact ⟨fun wS hw=>by kernel_rfl,fun wS hw=>hw.elim fun qs hw=>run_loadV rfl rfl (run_loadS rfl rfl (hw.cell 1 rfl 2 rfl)),fun wS hw=>by kernel_rfl,fun wS hw=>by kernel_rfl,fun wS hw=>by kernel_rfl,trivial⟩) (fun _ _ _ _ _ h=>h) ⟨_,hS239.pick6.pick6⟩ (l':=[(132,.bool (x194 == 9)),(12,nP g189 0),(5,nP z24 0)]) (by kernel_rfl) ?_
                 intro a262 hF261; clear hF257
                 cases hc263:(x194 == 9)
                 case true =>
                  rw [hc263] at hF261
                  have hm264:=ifYes hc263 hm260; clear hm260
                  refine any_many 5 [(35,some (nP g189 1)),(36,some (nI x193)),(37,some (.bool (x193 == 0))),(38,some (.bool (x193 == 0))),(39,some (.bool (x193 == 0)))] [4,5,137,138,139,140,141,142,143,144,145,146,147] #[true,true,true,true,true,true,true,true,true,true,true,true,true,true,true,true,true,true,true,true,true,true,true,true,true,true,true,true,true,true,true,true,true,true,true,true,true,true,true,true,false,false,false,false,false,false,false,false,false,false,false] (by rfl) hF261 (by kernel_rfl) (by kernel_rfl) (by exact ⟨fun wS hw=>by kernel_rfl,fun wS hw=>hw.elim fun qs hw=>run_loadV rfl rfl (run_loadS rfl rfl (hw.cell 1 rfl 1 rfl)),fun wS hw=>by kernel_rfl,fun wS hw=>by kernel_rfl,fun wS hw=>by kernel_rfl,trivial⟩) (fun _ _ _ _ _ h=>h) ⟨_,hS239.pick6.pick6⟩ (l':=[(137,.bool (x193 == 0)),(5,nP z24 0)]) (by kernel_rfl) ?_
                  intro a266 hF265; clear hF261
                  cases hc267:(x193 == 0)
                  case true =>
                   rw [hc267] at hF265
                   have hm268:=ifYes hc267 hm264; clear hm264
                   refine any_many 5 [(40,some (nP z24 0)),(41,some (nP z24 0)),(42,some (nP z24 0)),(43,some (nP z25 0)),(44,some (nP z24 0))] [4,137,141,142,143,144,145,146,147] #[true,true,true,true,true,true,true,true,true,true,true,true,true,true,true,true,true,true,true,true,true,true,true,true,true,true,true,true,true,true,true,true,true,true,true,true,true,true,true,true,true,true,true,true,true,false,false,false,false,false,false] (by rfl) hF265 (by kernel_rfl) (by kernel_rfl) (by exact ⟨fun wS hw=>by kernel_rfl,fun wS hw=>by kernel_rfl,fun wS hw=>by kernel_rfl,fun wS hw=>hw.elim fun qs hw=>run_loadV rfl rfl (run_loadS rfl rfl (hw.cell 2 rfl 0 rfl)),fun wS hw=>by kernel_rfl,trivial⟩) (fun _ _ _ _ _ h=>h) ⟨_,hS239.pick6.pick6⟩ (l':=[(142,nP z24 0),(141,nP z25 0),(137,.bool true)]) (by kernel_rfl) ?_
                   intro a270 hF269; clear hF265
                   refine any_call 45 #[true,true,true,true,true,true,true,true,true,true,true,true,true,true,true,true,true,true,true,true,true,true,true,true,true,true,true,true,true,true,true,true,true,true,true,true,true,true,true,true,true,true,true,true,true,true,false,false,false,false,false] 44 #[nP z24 0,nI 0] hF269 rfl (by kernel_rfl) rfl rfl (by kernel_rfl) rfl (by kernel_rfl) (fun w=>by kernel_rfl) (by kernel_rfl) ?_
                   obtain ⟨x271,s272,s273,hx274,hm275⟩:=bind3E hm268; clear hm268
                   refine (law16_ch.ok hS239 hx274).mono ?_
                   rintro _ w276 ⟨rfl,hS278⟩; clear hS239
                   refine ⟨⟨_,hS278.pick6.pick6⟩,?_⟩
                   intro a277 hF279; clear hF269
                   have hS280:=hS278.pick1
                   clear hS278
                   refine any_call 46 #[true,true,true,true,true,true,true,true,true,true,true,true,true,true,true,true,true,true,true,true,true,true,true,true,true,true,true,true,true,true,true,true,true,true,true,true,true,true,true,true,true,true,true,true,true,true,true,false,false,false,false] 35 #[nP z25 0,nI x271,.bool true] hF279 rfl (by kernel_rfl) rfl rfl (by kernel_rfl) rfl (by kernel_rfl) (fun w=>by kernel_rfl) (by kernel_rfl) ?_
                   obtain ⟨L281,s282,hx283,hm284⟩:=bind2E hm275; clear hm275
                   refine (list_All.ok hS280 hx283).mono ?_
                   rintro _ w285 ⟨z289,rfl,hS287⟩; clear hS280
                   obtain ⟨hl294,p291,c292,rfl,hp293⟩:=St.shape hS287 1 rfl
                   refine ⟨⟨_,hS287.pick2.pick7.pick7⟩,?_⟩
                   intro a286 hF288; clear hF279
                   refine any_many 4 [(47,some (nI ((L281.length:Int)))),(48,some (.bool ((L281.length:Int) == 0))),(49,some (.bool ((L281.length:Int) == 0))),(50,some (.bool ((L281.length:Int) == 0)))] [4] #[true,true,true,true,true,true,true,true,true,true,true,true,true,true,true,true,true,true,true,true,true,true,true,true,true,true,true,true,true,true,true,true,true,true,true,true,true,true,true,true,true,true,true,true,true,true,true,true,true,true,true] (by rfl) hF288 (by kernel_rfl) (by kernel_rfl) (by exact ⟨fun wS hw=>by kernel_rfl,fun wS hw=>by kernel_rfl,fun wS hw=>by kernel_rfl,fun wS hw=>by kernel_rfl,trivial⟩) (fun _ _ _ _ _ h=>h) ⟨_,hS287.pick2.pick7.pick7⟩ (l':=[(4,.bool ((L281.length:Int) == 0))]) (by kernel_rfl) ?_
                   intro a296 hF295; clear hF288
                   refine any_done (by kernel_rfl) ?_
                   have hS297:=hS287.drop.drop.drop.drop.drop.drop.drop.drop
                   clear hS287
                   exact thenN ⟨(L281.length:Int) == 0,hF295,hS297,hm284⟩
                  rw [hc267] at hF265
                  have hm298:=ifNot hc267 hm264; clear hm264
                  refine any_many 11 [(40,none),(41,none),(42,none),(43,none),(44,none),(45,none),(46,none),(47,none),(48,none),(49,some (.bool false)),(50,some (.bool false))] [4] #[true,true,true,true,true,true,true,true,true,true,true,true,true,true,true,true,true,true,true,true,true,true,true,true,true,true,true,true,true,true,true,true,true,true,true,true,true,true,true,true,true,true,true,true,true,true,true,true,true,true,true] (by rfl) hF265 (by kernel_rfl) (by kernel_rfl) (by exact (And.intro trivial (And.intro trivial (And.intro trivial (And.intro trivial (And.intro trivial (And.intro trivial (And.intro trivial (And.intro trivial (And.intro trivial (And.intro (fun wS hw=>by kernel_rfl) (And.intro (fun wS hw=>by kernel_rfl) trivial)))))))))))) (fun _ _ _ _ _ h=>h) ⟨_,hS239.pick6.pick6⟩ (l':=[(4,.bool false)]) (by kernel_rfl) ?_
                  intro a300 hF299; clear hF265
                  refine any_done (by kernel_rfl) ?_
                  have hS301:=hS239.drop.drop.drop.drop.drop.drop.drop
                  clear hS239
                  exact thenN ⟨false,hF299,hS301,hm298⟩
                 rw [hc263] at hF261
                 have hm302:=ifNot hc263 hm260; clear hm260
                 refine any_many 16 [(35,none),(36,none),(37,none),(38,some (.bool false)),(39,some (.bool false)),(40,none),(41,none),(42,none),(43,none),(44,none),(45,none),(46,none),(47,none),(48,none),(49,some (.bool false)),(50,some (.bool false))] [4] #[true,true,true,true,true,true,true,true,true,true,true,true,true,true,true,true,true,true,true,true,true,true,true,true,true,true,true,true,true,true,true,true,true,true,true,true,true,true,true,true,true,true,true,true,true,true,true,true,true,true,true] (by rfl) hF261 (by kernel_rfl) (by kernel_rfl) (by exact (And.intro trivial (And.intro trivial (And.intro trivial (And.intro (fun wS hw=>by kernel_rfl) (And.intro (fun wS hw=>by kernel_rfl) (And.intro trivial (And.intro trivial (And.intro trivial (And.intro trivial (And.intro trivial (And.intro trivial (And.intro trivial (And.intro trivial (And.intro trivial (And.intro (fun wS hw=>by kernel_rfl) (And.intro (fun wS hw=>by kernel_rfl) trivial))))))))))))))))) (fun _ _ _ _ _ h=>h) ⟨_,hS239.pick6.pick6⟩ (l':=[(4,.bool false)]) (by kernel_rfl) ?_
                 intro a304 hF303; clear hF261
                 refine any_done (by kernel_rfl) ?_
                 have hS305:=hS239.drop.drop.drop.drop.drop.drop.drop
                 clear hS239
                 exact thenN ⟨false,hF303,hS305,hm302⟩
                rw [hc259] at hF257
                have hm306:=ifNot hc259 hm256; clear hm256
                refine any_many 21 [(30,none),(31,none),(32,none),(33,some (.bool false)),(34,some (.bool false)),(35,none),(36,none),(37,none),(38,some (.bool false)),(39,some (.bool false)),(40,none),(41,none),(42,none),(43,none),(44,none),(45,none),(46,none),(47,none),(48,none),(49,some (.bool false)),(50,some (.bool false))] [4] #[true,true,true,true,true,true,true,true,true,true,true,true,true,true,true,true,true,true,true,true,true,true,true,true,true,true,true,true,true,true,true,true,true,true,true,true,true,true,true,true,true,true,true,true,true,true,true,true,true,true,true] (by rfl) hF257 (by kernel_rfl) (by kernel_rfl) (by exact (And.intro trivial (And.intro trivial (And.intro trivial (And.intro (fun wS hw=>by kernel_rfl) (And.intro (fun wS hw=>by kernel_rfl) (And.intro trivial (And.intro trivial (And.intro trivial (And.intro (fun wS hw=>by kernel_rfl) (And.intro (fun wS hw=>by kernel_rfl) (And.intro trivial (And.intro trivial (And.intro trivial (And.intro trivial (And.intro trivial (And.intro trivial (And.intro trivial (And.intro trivial (And.intro trivial (And.intro (fun wS hw=>by kernel_rfl) (And.intro (fun wS hw=>by kernel_rfl) trivial)))))))))))))))))))))) (fun _ _ _ _ _ h=>h) ⟨_,hS239.pick6.pick6⟩ (l':=[(4,.bool false)]) (by kernel_rfl) ?_
                intro a308 hF307; clear hF257
                refine any_done (by kernel_rfl) ?_
                have hS309:=hS239.drop.drop.drop.drop.drop.drop.drop
                clear hS239
                exact thenN ⟨false,hF307,hS309,hm306⟩
               rw [hc255] at hF253
               have hm310:=ifNot hc255 hm252; clear hm252
               refine any_many 25 [(26,none),(27,none),(28,some (.bool false)),(29,some (.bool false)),(30,none),(31,none),(32,none),(33,some (.bool false)),(34,some (.bool false)),(35,none),(36,none),(37,none),(38,some (.bool false)),(39,some (.bool false)),(40,none),(41,none),(42,none),(43,none),(44,none),(45,none),(46,none),(47,none),(48,none),(49,some (.bool false)),(50,some (.bool false))] [4] #[true,true,true,true,true,true,true,true,true,true,true,true,true,true,true,true,true,true,true,true,true,true,true,true,true,true,true,true,true,true,true,true,true,true,true,true,true,true,true,true,true,true,true,true,true,true,true,true,true,true,true] (by rfl) hF253 (by kernel_rfl) (by kernel_rfl) (by exact (And.intro trivial (And.intro trivial (And.intro (fun wS hw=>by kernel_rfl) (And.intro (fun wS hw=>by kernel_rfl) (And.intro trivial (And.intro trivial (And.intro trivial (And.intro (fun wS hw=>by kernel_rfl) (And.intro (fun wS hw=>by kernel_rfl) (And.intro trivial (And.intro trivial (And.intro trivial (And.intro (fun wS hw=>by kernel_rfl) (And.intro (fun wS hw=>by kernel_rfl) (And.intro trivial (And.intro trivial (And.intro trivial (And.intro trivial (And.intro trivial (And.intro trivial (And.intro trivial (And.intro trivial (And.intro trivial (And.intro (fun wS hw=>by kernel_rfl) (And.intro (fun wS hw=>by kernel_rfl) trivial)))))))))))))))))))))))))) (fun _ _ _ _ _ h=>h) ⟨_,hS239.pick6.pick6⟩ (l':=[(4,.bool false)]) (by kernel_rfl) ?_
               intro a312 hF311; clear hF253
               refine any_done (by kernel_rfl) ?_
               have hS313:=hS239.drop.drop.drop.drop.drop.drop.drop
               clear hS239
               exact thenN ⟨false,hF311,hS313,hm310⟩
              rw [hc251] at hF249
              have hm314:=ifNot hc251 hm248; clear hm248
              refine any_many 31 [(20,none),(21,none),(22,none),(23,none),(24,some (.bool false)),(25,some (.bool false)),(26,none),(27,none),(28,some (.bool false)),(29,some (.bool false)),(30,none),(31,none),(32,none),(33,some (.bool false)),(34,some (.bool false)),(35,none),(36,none),(37,none),(38,some (.bool false)),(39,some (.bool false)),(40,none),(41,none),(42,none),(43,none),(44,none),(45,none),(46,none),(47,none),(48,none),(49,some (.bool false)),(50,some (.bool false))] [4] #[true,true,true,true,true,true,true,true,true,true,true,true,true,true,true,true,true,true,true,true,true,true,true,true,true,true,true,true,true,true,true,true,true,true,true,true,true,true,true,true,true,true,true,true,true,true,true,true,true,true,true] (by rfl) hF249 (by kernel_rfl) (by kernel_rfl) (by exact (And.intro trivial (And.intro trivial (And.intro trivial (And.intro trivial (And.intro (fun wS hw=>by kernel_rfl) (And.intro (fun wS hw=>by kernel_rfl) (And.intro trivial (And.intro trivial (And.intro (fun wS hw=>by kernel_rfl) (And.intro (fun wS hw=>by kernel_rfl) (And.intro trivial (And.intro trivial (And.intro trivial (And.intro (fun wS hw=>by kernel_rfl) (And.intro (fun wS hw=>by kernel_rfl) (And.intro trivial (And.intro trivial (And.intro trivial (And.intro (fun wS hw=>by kernel_rfl) (And.intro (fun wS hw=>by kernel_rfl) (And.intro trivial (And.intro trivial (And.intro trivial (And.intro trivial (And.intro trivial (And.intro trivial (And.intro trivial (And.intro trivial (And.intro trivial (And.intro (fun wS hw=>by kernel_rfl) (And.intro (fun wS hw=>by kernel_rfl) trivial)))))))))))))))))))))))))))))))) (fun _ _ _ _ _ h=>h) ⟨_,hS239.pick6.pick6⟩ (l':=[(4,.bool false)]) (by kernel_rfl) ?_
              intro a316 hF315; clear hF249
              refine any_done (by kernel_rfl) ?_
              have hS317:=hS239.drop.drop.drop.drop.drop.drop.drop
              clear hS239
              exact thenN ⟨false,hF315,hS317,hm314⟩
             rw [hc247] at hF245
             have hm318:=ifNot hc247 hm244; clear hm244
             refine any_many 35 [(16,none),(17,none),(18,some (.bool false)),(19,some (.bool false)),(20,none),(21,none),(22,none),(23,none),(24,some (.bool false)),(25,some (.bool false)),(26,none),(27,none),(28,some (.bool false)),(29,some (.bool false)),(30,none),(31,none),(32,none),(33,some (.bool false)),(34,some (.bool false)),(35,none),(36,none),(37,none),(38,some (.bool false)),(39,some (.bool false)),(40,none),(41,none),(42,none),(43,none),(44,none),(45,none),(46,none),(47,none),(48,none),(49,some (.bool false)),(50,some (.bool false))] [4] #[true,true,true,true,true,true,true,true,true,true,true,true,true,true,true,true,true,true,true,true,true,true,true,true,true,true,true,true,true,true,true,true,true,true,true,true,true,true,true,true,true,true,true,true,true,true,true,true,true,true,true] (by rfl) hF245 (by kernel_rfl) (by kernel_rfl) (by exact (And.intro trivial (And.intro trivial (And.intro (fun wS hw=>by kernel_rfl) (And.intro (fun wS hw=>by kernel_rfl) (And.intro trivial (And.intro trivial (And.intro trivial (And.intro trivial (And.intro (fun wS hw=>by kernel_rfl) (And.intro (fun wS hw=>by kernel_rfl) (And.intro trivial (And.intro trivial (And.intro (fun wS hw=>by kernel_rfl) (And.intro (fun wS hw=>by kernel_rfl) (And.intro trivial (And.intro trivial (And.intro trivial (And.intro (fun wS hw=>by kernel_rfl) (And.intro (fun wS hw=>by kernel_rfl) (And.intro trivial (And.intro trivial (And.intro trivial (And.intro (fun wS hw=>by kernel_rfl) (And.intro (fun wS hw=>by kernel_rfl) (And.intro trivial (And.intro trivial (And.intro trivial (And.intro trivial (And.intro trivial (And.intro trivial (And.intro trivial (And.intro trivial (And.intro trivial (And.intro (fun wS hw=>by kernel_rfl) (And.intro (fun wS hw=>by kernel_rfl) trivial)))))))))))))))))))))))))))))))))))) (fun _ _ _ _ _ h=>h) ⟨_,hS239.pick6.pick6⟩ (l':=[(4,.bool false)]) (by kernel_rfl) ?_
             intro a320 hF319; clear hF245
             refine any_done (by kernel_rfl) ?_
             have hS321:=hS239.drop.drop.drop.drop.drop.drop.drop
             clear hS239
             exact thenN ⟨false,hF319,hS321,hm318⟩
            rw [hc243] at hF241
            have hm322:=ifNot hc243 hm236; clear hm236
            refine any_many 39 [(12,none),(13,none),(14,some (.bool false)),(15,some (.bool false)),(16,none),(17,none),(18,some (.bool false)),(19,some (.bool false)),(20,none),(21,none),(22,none),(23,none),(24,some (.bool false)),(25,some (.bool false)),(26,none),(27,none),(28,some (.bool false)),(29,some (.bool false)),(30,none),(31,none),(32,none),(33,some (.bool false)),(34,some (.bool false)),(35,none),(36,none),(37,none),(38,some (.bool false)),(39,some (.bool false)),(40,none),(41,none),(42,none),(43,none),(44,none),(45,none),(46,none),(47,none),(48,none),(49,some (.bool false)),(50,some (.bool false))] [4] #[true,true,true,true,true,true,true,true,true,true,true,true,true,true,true,true,true,true,true,true,true,true,true,true,true,true,true,true,true,true,true,true,true,true,true,true,true,true,true,true,true,true,true,true,true,true,true,true,true,true,true] (by rfl) hF241 (by kernel_rfl) (by kernel_rfl) (by exact (And.intro trivial (And.intro trivial (And.intro (fun wS hw=>by kernel_rfl) (And.intro (fun wS hw=>by kernel_rfl) (And.intro trivial (And.intro trivial (And.intro (fun wS hw=>by kernel_rfl) (And.intro (fun wS hw=>by kernel_rfl) (And.intro trivial (And.intro trivial (And.intro trivial (And.intro trivial (And.intro (fun wS hw=>by kernel_rfl) (And.intro (fun wS hw=>by kernel_rfl) (And.intro trivial (And.intro trivial (And.intro (fun wS hw=>by kernel_rfl) (And.intro (fun wS hw=>by kernel_rfl) (And.intro trivial (And.intro trivial (And.intro trivial (And.intro (fun wS hw=>by kernel_rfl) (And.intro (fun wS hw=>by kernel_rfl) (And.intro trivial (And.intro trivial (And.intro trivial (And.intro (fun wS hw=>by kernel_rfl) (And.intro (fun wS hw=>by kernel_rfl) (And.intro trivial (And.intro trivial (And.intro trivial (And.intro trivial (And.intro trivial (And.intro trivial (And.intro trivial (And.intro trivial (And.intro trivial (And.intro (fun wS hw=>by kernel_rfl) (And.intro (fun wS hw=>by kernel_rfl) trivial)))))))))))))))))))))))))))))))))))))))) (fun _ _ _ _ _ h=>h) ⟨_,hS239.pick6.pick6⟩ (l':=[(4,.bool false)]) (by kernel_rfl) ?_
            intro a324 hF323; clear hF241
            refine any_done (by kernel_rfl) ?_
            have hS325:=hS239.drop.drop.drop.drop.drop.drop.drop
            clear hS239
            exact thenN ⟨false,hF323,hS325,hm322⟩
           rw [hc227] at hF225
           have hm326:=ifNot hc227 hm220; clear hm220
           refine any_many 45 [(6,none),(7,none),(8,none),(9,none),(10,some (.bool false)),(11,some (.bool false)),(12,none),(13,none),(14,some (.bool false)),(15,some (.bool false)),(16,none),(17,none),(18,some (.bool false)),(19,some (.bool false)),(20,none),(21,none),(22,none),(23,none),(24,some (.bool false)),(25,some (.bool false)),(26,none),(27,none),(28,some (.bool false)),(29,some (.bool false)),(30,none),(31,none),(32,none),(33,some (.bool false)),(34,some (.bool false)),(35,none),(36,none),(37,none),(38,some (.bool false)),(39,some (.bool false)),(40,none),(41,none),(42,none),(43,none),(44,none),(45,none),(46,none),(47,none),(48,none),(49,some (.bool false)),(50,some (.bool false))] [4] #[true,true,true,true,true,true,true,true,true,true,true,true,true,true,true,true,true,true,true,true,true,true,true,true,true,true,true,true,true,true,true,true,true,true,true,true,true,true,true,true,true,true,true,true,true,true,true,true,true,true,true] (by rfl) hF225 (by kernel_rfl) (by kernel_rfl) (by exact (And.intro trivial (And.intro trivial (And.intro trivial (And.intro trivial (And.intro (fun wS hw=>by kernel_rfl) (And.intro (fun wS hw=>by kernel_rfl) (And.intro trivial (And.intro trivial (And.intro (fun wS hw=>by kernel_rfl) (And.intro (fun wS hw=>by kernel_rfl) (And.intro trivial (And.intro trivial (And.intro (fun wS hw=>by kernel_rfl) (And.intro (fun wS hw=>by kernel_rfl) (And.intro trivial (And.intro trivial (And.intro trivial (And.intro trivial (And.intro (fun wS hw=>by kernel_rfl) (And.intro (fun wS hw=>by kernel_rfl) (And.intro trivial (And.intro trivial (And.intro (fun wS hw=>by kernel_rfl) (And.intro (fun wS hw=>by kernel_rfl) (And.intro trivial (And.intro trivial (And.intro trivial (And.intro (fun wS hw=>by kernel_rfl) (And.intro (fun wS hw=>by kernel_rfl) (And.intro trivial (And.intro trivial (And.intro trivial (And.intro (fun wS hw=>by kernel_rfl) (And.intro (fun wS hw=>by kernel_rfl) (And.intro trivial (And.intro trivial (And.intro trivial (And.intro trivial (And.intro trivial (And.intro trivial (And.intro trivial (And.intro trivial (And.intro trivial (And.intro (fun wS hw=>by kernel_rfl) (And.intro (fun wS hw=>by kernel_rfl) trivial)))))))))))))))))))))))))))))))))))))))))))))) (fun _ _ _ _ _ h=>h) ⟨_,hS224⟩ (l':=[(4,.bool false)]) (by kernel_rfl) ?_
           intro a328 hF327; clear hF225
           refine any_done (by kernel_rfl) ?_
           have hS329:=hS224.drop.drop.drop.drop.drop.drop.drop
           clear hS224
           exact thenN ⟨false,hF327,hS329,hm326⟩
       · skip
         have hS330:=hS186.pick2
         clear hS186
         have hS331:=hS330.drew; clear hS330
         refine any_start (fun wS=>∃ qs,St w0 [] (BlkP z24 77 #[nP z25 0,nP z27 0,.slice p40 L16.length c41,.slice p44 L17.length c45]::qs) wS) 13 #[false,false,false,false,false,false,false,false,false,false,false,false,false] (by kernel_rfl) (by kernel_rfl) (by kernel_rfl) ?_
         refine any_many 5 [(0,some (nP z24 0)),(1,some (nP z24 0)),(2,some (nP z24 0)),(3,some (nP z25 0)),(4,some (nP z24 0))] [0,1,5,7,8,9,10,11,12,13,88,92,93,94,95,96,97] #[true,true,true,true,true,false,false,false,false,false,false,false,false] (by rfl) hF185 (by kernel_rfl) (by kernel_rfl) (by exact ⟨fun wS hw=>by kernel_rfl,fun wS hw=>by kernel_rfl,fun wS hw=>by kernel_rfl,fun wS hw=>hw.elim fun qs hw=>run_loadV rfl rfl (run_loadS rfl rfl (hw.cell 0 rfl 0 rfl)),fun wS hw=>by kernel_rfl,trivial⟩) (fun _ _ _ _ _ h=>h) ⟨_,hS331⟩ (l':=[(93,nP z24 0),(92,nP z25 0),(11,nI x181),(10,nP g169 0),(9,nI x159),(8,nI x158),(7,nI x157),(5,nP z24 0),(0,nI x5),(1,.slice pa1 K1.length ca1)]) (by kernel_rfl) ?_
         intro a333 hF332; clear hF185
         refine any_two 5 10 (by kernel_rfl) ?_ ?_
         · skip
           have hS334:=hS331.pick5.pick5.pick5.pick5.pick4
           clear hS331
           refine op_call 5 #[true,true,true,true,true,true,false,false,false,false,false,false,false] 47 #[nP z24 0,nI 0] hF332 rfl rfl rfl (by kernel_rfl) rfl (by kernel_rfl) (fun w=>by kernel_rfl) (by kernel_rfl) ?_
           obtain ⟨x335,s336,s337,hx338,hm339⟩:=bind3E hm187; clear hm187
           refine (law16_gor.ok hS334 hx338).mono ?_
           rintro _ w340 ⟨rfl,hS342⟩; clear hS334
           refine ⟨⟨_,hS342⟩,?_⟩
           intro a341 hF343; clear hF332
           refine any_two 6 10 (by kernel_rfl) ?_ ?_
           · skip
             have hS344:=hS342.pick1
             clear hS342
             refine op_call 6 #[true,true,true,true,true,true,true,false,false,false,false,false,false] 36 #[nP z25 0,nI x335] hF343 rfl rfl rfl (by kernel_rfl) rfl (by kernel_rfl) (fun w=>by kernel_rfl) (by kernel_rfl) ?_
             obtain ⟨q345,x346,s347,hx348,hm349⟩:=bind3E hm339; clear hm339
             refine (view_Gor.ok hS344 hx348).mono ?_
             rintro _ w350 ⟨rfl,hS352⟩; clear hS344
             refine ⟨⟨_,hS352.pick1⟩,?_⟩
             intro a351 hF353; clear hF343
             refine any_many 3 [(7,some (.tuple #[.agg #[nI (q345.id),nI (q345.status),nI (q345.pc),nI (q345.a),nI (q345.b),nI (q345.c),nI (q345.d),nI (q345.e),nI (q345.f),nI (q345.sudogs)],nI x346])),(8,some (.agg #[nI (q345.id),nI (q345.status),nI (q345.pc),nI (q345.a),nI (q345.b),nI (q345.c),nI (q345.d),nI (q345.e),nI (q345.f),nI (q345.sudogs)])),(9,some (nI x346))] [0,1,5,7,8,9,10,11,12,13,96,97] #[true,true,true,true,true,true,true,true,true,true,false,false,false] (by rfl) hF353 (by kernel_rfl) (by kernel_rfl) (by exact ⟨fun wS hw=>by kernel_rfl,fun wS hw=>by kernel_rfl,fun wS hw=>by kernel_rfl,trivial⟩) (fun _ _ _ _ _ h=>h) ⟨_,hS352.pick1⟩ (l':=[(97,nI x346),(96,.agg #[nI (q345.id),nI (q345.status),nI (q345.pc),nI (q345.a),nI (q345.b),nI (q345.c),nI (q345.d),nI (q345.e),nI (q345.f),nI (q345.sudogs)]),(11,nI x181),(10,nP g169 0),(9,nI x159),(8,nI x158),(7,nI x157),(5,nP z24 0),(0,nI x5),(1,.slice pa1 K1.length ca1)]) (by kernel_rfl) ?_
             intro a355 hF354; clear hF353
             refine any_one 10 (by kernel_rfl) ?_
             have hS356:St w0 [] (BlkP (w350.heap.size) 29 #[nI 0,nI 0,nI 0,nI 0,nI 0,nI 0,nI 0,nI 0,nI 0,nI 0]::HeapP z25 z26 s347::BlkP z24 77 #[nP z25 0,nP z27 0,.slice p40 L16.length c41,.slice p44 L17.length c45]::RHeapP z27 z28 z29 z30 z31 s337::RowP (.slice p40 L16.length c41) L16::RowP (.slice p44 L17.length c45) L17::BlkP g169 57 #[nI x172,nI x173,nI x174,nI x175,nI x176,nI x177,nI x178,nI x179,nI x180]::ps) (w350.alloc (.cells #[nI 0,nI 0,nI 0,nI 0,nI 0,nI 0,nI 0,nI 0,nI 0,nI 0] 29)):=St.new hS352 #[nI 0,nI 0,nI 0,nI 0,nI 0,nI 0,nI 0,nI 0,nI 0,nI 0] 29
             clear hS352
             refine op_step 10 #[true,true,true,true,true,true,true,true,true,true,true,false,false] (nB w350) (w350.alloc (.cells #[nI 0,nI 0,nI 0,nI 0,nI 0,nI 0,nI 0,nI 0,nI 0,nI 0] 29)) hF354 rfl (by kernel_rfl) rfl (by kernel_rfl) (by kernel_rfl) (l':=[(12,nB w350),(97,nI x346),(96,.agg #[nI (q345.id),nI (q345.status),nI (q345.pc),nI (q345.a),nI (q345.b),nI (q345.c),nI (q345.d),nI (q345.e),nI (q345.f),nI (q345.sudogs)]),(11,nI x181),(10,nP g169 0),(9,nI x159),(8,nI x158),(7,nI x157),(5,nP z24 0),(0,nI x5),(1,.slice pa1 K1.length ca1)]) (by kernel_rfl) ⟨_,hS356.pick2⟩ (by kernel_rfl) ?_
             intro a358 hF357; clear hF354
             refine any_one 11 (by kernel_rfl) ?_
             refine op_store 11 #[true,true,true,true,true,true,true,true,true,true,true,true,false] (.agg #[nI (q345.id),nI (q345.status),nI (q345.pc),nI (q345.a),nI (q345.b),nI (q345.c),nI (q345.d),nI (q345.e),nI (q345.f),nI (q345.sudogs)]) #[nI (q345.id),nI (q345.status),nI (q345.pc),nI (q345.a),nI (q345.b),nI (q345.c),nI (q345.d),nI (q345.e),nI (q345.f),nI (q345.sudogs)] hF357 rfl (by kernel_rfl) rfl rfl rfl rfl (by kernel_rfl) hS356 (by kernel_rfl) (by kernel_rfl) (by kernel_rfl) (l':=[(12,nB w350),(97,nI x346),(96,.agg #[nI (q345.id),nI (q345.status),nI (q345.pc),nI (q345.a),nI (q345.b),nI (q345.c),nI (q345.d),nI (q345.e),nI (q345.f),nI (q345.sudogs)]),(11,nI x181),(10,nP g169 0),(9,nI x159),(8,nI x158),(7,nI x157),(5,nP z24 0),(0,nI x5),(1,.slice pa1 K1.length ca1)]) (by kernel_rfl) (by kernel_rfl) ?_
             intro w359 a360 hS361 hF362; clear hF357 hS356
             refine ⟨⟨_,hS361.pick2⟩,?_⟩
             refine any_many 1 [(12,some (nI x346))] [0,1,5,7,8,9,10,11,12,13] #[true,true,true,true,true,true,true,true,true,true,true,true,true] (by rfl) hF362 (by kernel_rfl) (by kernel_rfl) (by exact ⟨fun wS hw=>by kernel_rfl,trivial⟩) (fun _ _ _ _ _ h=>h) ⟨_,hS361.pick2⟩ (l':=[(13,nI x346),(12,nB w350),(11,nI x181),(10,nP g169 0),(9,nI x159),(8,nI x158),(7,nI x157),(5,nP z24 0),(0,nI x5),(1,.slice pa1 K1.length ca1)]) (by kernel_rfl) ?_
             intro a364 hF363; clear hF362
             refine any_done (by kernel_rfl) ?_
             exact thenN ⟨(w350.heap.size),s347,s337,q345.id,q345.status,q345.pc,q345.a,q345.b,q345.c,q345.d,q345.e,q345.f,q345.sudogs,x346,hF363,hS361,hm349⟩
           · skip
             have hS365:St w0 [] (BlkP (w340.heap.size) 29 #[nI 0,nI 0,nI 0,nI 0,nI 0,nI 0,nI 0,nI 0,nI 0,nI 0]::BlkP z24 77 #[nP z25 0,nP z27 0,.slice p40 L16.length c41,.slice p44 L17.length c45]::HeapP z25 z26 s336::RHeapP z27 z28 z29 z30 z31 s337::RowP (.slice p40 L16.length c41) L16::RowP (.slice p44 L17.length c45) L17::BlkP g169 57 #[nI x172,nI x173,nI x174,nI x175,nI x176,nI x177,nI x178,nI x179,nI x180]::ps) (w340.alloc (.cells #[nI 0,nI 0,nI 0,nI 0,nI 0,nI 0,nI 0,nI 0,nI 0,nI 0] 29)):=St.new hS342 #[nI 0,nI 0,nI 0,nI 0,nI 0,nI 0,nI 0,nI 0,nI 0,nI 0] 29
             clear hS342
             refine op_step 10 #[true,true,true,true,true,true,false,false,false,false,true,false,false] (nB w340) (w340.alloc (.cells #[nI 0,nI 0,nI 0,nI 0,nI 0,nI 0,nI 0,nI 0,nI 0,nI 0] 29)) hF343 rfl (by kernel_rfl) rfl (by kernel_rfl) (by kernel_rfl) (l':=[(12,nB w340),(94,nI x335),(93,nP z24 0),(92,nP z25 0),(11,nI x181),(10,nP g169 0),(9,nI x159),(8,nI x158),(7,nI x157),(5,nP z24 0),(0,nI x5),(1,.slice pa1 K1.length ca1)]) (by kernel_rfl) ⟨_,hS365.pick1⟩ (by kernel_rfl) ?_
             intro a367 hF366; clear hF343
             have hS368:=hS365.pick2
             clear hS365
             refine any_call 6 #[true,true,true,true,true,true,true,false,false,false,true,false,false] 36 #[nP z25 0,nI x335] hF366 rfl (by kernel_rfl) rfl rfl (by kernel_rfl) rfl (by kernel_rfl) (fun w=>by kernel_rfl) (by kernel_rfl) ?_
             obtain ⟨q369,x370,s371,hx372,hm373⟩:=bind3E hm339; clear hm339
             refine (view_Gor.ok hS368 hx372).mono ?_
             rintro _ w374 ⟨rfl,hS376⟩; clear hS368
             refine ⟨⟨_,hS376.pick2⟩,?_⟩
             intro a375 hF377; clear hF366
             refine any_many 3 [(7,some (.tuple #[.agg #[nI (q369.id),nI (q369.status),nI (q369.pc),nI (q369.a),nI (q369.b),nI (q369.c),nI (q369.d),nI (q369.e),nI (q369.f),nI (q369.sudogs)],nI x370])),(8,some (.agg #[nI (q369.id),nI (q369.status),nI (q369.pc),nI (q369.a),nI (q369.b),nI (q369.c),nI (q369.d),nI (q369.e),nI (q369.f),nI (q369.sudogs)])),(9,some (nI x370))] [0,1,5,7,8,9,10,11,12,13,96,97] #[true,true,true,true,true,true,true,true,true,true,true,false,false] (by rfl) hF377 (by kernel_rfl) (by kernel_rfl) (by exact ⟨fun wS hw=>by kernel_rfl,fun wS hw=>by kernel_rfl,fun wS hw=>by kernel_rfl,trivial⟩) (fun _ _ _ _ _ h=>h) ⟨_,hS376.pick2⟩ (l':=[(97,nI x370),(96,.agg #[nI (q369.id),nI (q369.status),nI (q369.pc),nI (q369.a),nI (q369.b),nI (q369.c),nI (q369.d),nI (q369.e),nI (q369.f),nI (q369.sudogs)]),(12,nB w340),(11,nI x181),(10,nP g169 0),(9,nI x159),(8,nI x158),(7,nI x157),(5,nP z24 0),(0,nI x5),(1,.slice pa1 K1.length ca1)]) (by kernel_rfl) ?_
             intro a379 hF378; clear hF377
             refine any_one 11 (by kernel_rfl) ?_
             have hS380:=hS376.pick1
             clear hS376
             refine op_store 11 #[true,true,true,true,true,true,true,true,true,true,true,true,false] (.agg #[nI (q369.id),nI (q369.status),nI (q369.pc),nI (q369.a),nI (q369.b),nI (q369.c),nI (q369.d),nI (q369.e),nI (q369.f),nI (q369.sudogs)]) #[nI (q369.id),nI (q369.status),nI (q369.pc),nI (q369.a),nI (q369.b),nI (q369.c),nI (q369.d),nI (q369.e),nI (q369.f),nI (q369.sudogs)] hF378 rfl (by kernel_rfl) rfl rfl rfl rfl (by kernel_rfl) hS380 (by kernel_rfl) (by kernel_rfl) (by kernel_rfl) (l':=[(97,nI x370),(96,.agg #[nI (q369.id),nI (q369.status),nI (q369.pc),nI (q369.a),nI (q369.b),nI (q369.c),nI (q369.d),nI (q369.e),nI (q369.f),nI (q369.sudogs)]),(12,nB w340),(11,nI x181),(10,nP g169 0),(9,nI x159),(8,nI x158),(7,nI x157),(5,nP z24 0),(0,nI x5),(1,.slice pa1 K1.length ca1)]) (by kernel_rfl) (by kernel_rfl) ?_
             intro w381 a382 hS383 hF384; clear hF378 hS380
             refine ⟨⟨_,hS383.pick2⟩,?_⟩
             refine any_many 1 [(12,some (nI x370))] [0,1,5,7,8,9,10,11,12,13] #[true,true,true,true,true,true,true,true,true,true,true,true,true] (by rfl) hF384 (by kernel_rfl) (by kernel_rfl) (by exact ⟨fun wS hw=>by kernel_rfl,trivial⟩) (fun _ _ _ _ _ h=>h) ⟨_,hS383.pick2⟩ (l':=[(13,nI x370),(12,nB w340),(11,nI x181),(10,nP g169 0),(9,nI x159),(8,nI x158),(7,nI x157),(5,nP z24 0),(0,nI x5),(1,.slice pa1 K1.length ca1)]) (by kernel_rfl) ?_
             intro a386 hF385; clear hF384
             refine any_done (by kernel_rfl) ?_
             exact thenN ⟨(w340.heap.size),s371,s337,q369.id,q369.status,q369.pc,q369.a,q369.b,q369.c,q369.d,q369.e,q369.f,q369.sudogs,x370,hF385,hS383,hm373⟩
         · skip
           have hS387:St w0 [] (BlkP ((w184.drew).heap.size) 29 #[nI 0,nI 0,nI 0,nI 0,nI 0,nI 0,nI 0,nI 0,nI 0,nI 0]::BlkP z24 77 #[nP z25 0,nP z27 0,.slice p40 L16.length c41,.slice p44 L17.length c45]::BlkP g169 57 #[nI x172,nI x173,nI x174,nI x175,nI x176,nI x177,nI x178,nI x179,nI x180]::HeapP z25 z26 s170::RHeapP z27 z28 z29 z30 z31 s171::RowP (.slice p40 L16.length c41) L16::RowP (.slice p44 L17.length c45) L17::ps) ((w184.drew).alloc (.cells #[nI 0,nI 0,nI 0,nI 0,nI 0,nI 0,nI 0,nI 0,nI 0,nI 0] 29)):=St.new hS331 #[nI 0,nI 0,nI 0,nI 0,nI 0,nI 0,nI 0,nI 0,nI 0,nI 0] 29
           clear hS331
           refine op_step 10 #[true,true,true,true,true,false,false,false,false,false,true,false,false] (nB (w184.drew)) ((w184.drew).alloc (.cells #[nI 0,nI 0,nI 0,nI 0,nI 0,nI 0,nI 0,nI 0,nI 0,nI 0] 29)) hF332 rfl (by kernel_rfl) rfl (by kernel_rfl) (by kernel_rfl) (l':=[(12,nB (w184.drew)),(93,nP z24 0),(92,nP z25 0),(11,nI x181),(10,nP g169 0),(9,nI x159),(8,nI x158),(7,nI x157),(5,nP z24 0),(0,nI x5),(1,.slice pa1 K1.length ca1)]) (by kernel_rfl) ⟨_,hS387.pick1⟩ (by kernel_rfl) ?_
           intro a389 hF388; clear hF332
           have hS390:=hS387.pick6.pick6.pick6.pick6.pick5
           clear hS387
           refine any_call 5 #[true,true,true,true,true,true,false,false,false,false,true,false,false] 47 #[nP z24 0,nI 0] hF388 rfl (by kernel_rfl) rfl rfl (by kernel_rfl) rfl (by kernel_rfl) (fun w=>by kernel_rfl) (by kernel_rfl) ?_
           obtain ⟨x391,s392,s393,hx394,hm395⟩:=bind3E hm187; clear hm187
           refine (law16_gor.ok hS390 hx394).mono ?_
           rintro _ w396 ⟨rfl,hS398⟩; clear hS390
           refine ⟨⟨_,hS398⟩,?_⟩
           intro a397 hF399; clear hF388
           have hS400:=hS398.pick1
           clear hS398
           refine any_call 6 #[true,true,true,true,true,true,true,false,false,false,true,false,false] 36 #[nP z25 0,nI x391] hF399 rfl (by kernel_rfl) rfl rfl (by kernel_rfl) rfl (by kernel_rfl) (fun w=>by kernel_rfl) (by kernel_rfl) ?_
           obtain ⟨q401,x402,s403,hx404,hm405⟩:=bind3E hm395; clear hm395
           refine (view_Gor.ok hS400 hx404).mono ?_
           rintro _ w406 ⟨rfl,hS408⟩; clear hS400
           refine ⟨⟨_,hS408.pick1⟩,?_⟩
           intro a407 hF409; clear hF399
           refine any_many 3 [(7,some (.tuple #[.agg #[nI (q401.id),nI (q401.status),nI (q401.pc),nI (q401.a),nI (q401.b),nI (q401.c),nI (q401.d),nI (q401.e),nI (q401.f),nI (q401.sudogs)],nI x402])),(8,some (.agg #[nI (q401.id),nI (q401.status),nI (q401.pc),nI (q401.a),nI (q401.b),nI (q401.c),nI (q401.d),nI (q401.e),nI (q401.f),nI (q401.sudogs)])),(9,some (nI x402))] [0,1,5,7,8,9,10,11,12,13,96,97] #[true,true,true,true,true,true,true,true,true,true,true,false,false] (by rfl) hF409 (by kernel_rfl) (by kernel_rfl) (by exact ⟨fun wS hw=>by kernel_rfl,fun wS hw=>by kernel_rfl,fun wS hw=>by kernel_rfl,trivial⟩) (fun _ _ _ _ _ h=>h) ⟨_,hS408.pick1⟩ (l':=[(97,nI x402),(96,.agg #[nI (q401.id),nI (q401.status),nI (q401.pc),nI (q401.a),nI (q401.b),nI (q401.c),nI (q401.d),nI (q401.e),nI (q401.f),nI (q401.sudogs)]),(12,nB (w184.drew)),(11,nI x181),(10,nP g169 0),(9,nI x159),(8,nI x158),(7,nI x157),(5,nP z24 0),(0,nI x5),(1,.slice pa1 K1.length ca1)]) (by kernel_rfl) ?_
           intro a411 hF410; clear hF409
           refine any_one 11 (by kernel_rfl) ?_
           have hS412:=hS408.pick5
           clear hS408
           refine op_store 11 #[true,true,true,true,true,true,true,true,true,true,true,true,false] (.agg #[nI (q401.id),nI (q401.status),nI (q401.pc),nI (q401.a),nI (q401.b),nI (q401.c),nI (q401.d),nI (q401.e),nI (q401.f),nI (q401.sudogs)]) #[nI (q401.id),nI (q401.status),nI (q401.pc),nI (q401.a),nI (q401.b),nI (q401.c),nI (q401.d),nI (q401.e),nI (q401.f),nI (q401.sudogs)] hF410 rfl (by kernel_rfl) rfl rfl rfl rfl (by kernel_rfl) hS412 (by kernel_rfl) (by kernel_rfl) (by kernel_rfl) (l':=[(97,nI x402),(96,.agg #[nI (q401.id),nI (q401.status),nI (q401.pc),nI (q401.a),nI (q401.b),nI (q401.c),nI (q401.d),nI (q401.e),nI (q401.f),nI (q401.sudogs)]),(12,nB (w184.drew)),(11,nI x181),(10,nP g169 0),(9,nI x159),(8,nI x158),(7,nI x157),(5,nP z24 0),(0,nI x5),(1,.slice pa1 K1.length ca1)]) (by kernel_rfl) (by kernel_rfl) ?_
           intro w413 a414 hS415 hF416; clear hF410 hS412
           refine ⟨⟨_,hS415.pick2⟩,?_⟩
           refine any_many 1 [(12,some (nI x402))] [0,1,5,7,8,9,10,11,12,13] #[true,true,true,true,true,true,true,true,true,true,true,true,true] (by rfl) hF416 (by kernel_rfl) (by kernel_rfl) (by exact ⟨fun wS hw=>by kernel_rfl,trivial⟩) (fun _ _ _ _ _ h=>h) ⟨_,hS415.pick2⟩ (l':=[(13,nI x402),(12,nB (w184.drew)),(11,nI x181),(10,nP g169 0),(9,nI x159),(8,nI x158),(7,nI x157),(5,nP z24 0),(0,nI x5),(1,.slice pa1 K1.length ca1)]) (by kernel_rfl) ?_
           intro a418 hF417; clear hF416
           refine any_done (by kernel_rfl) ?_
           exact thenN ⟨((w184.drew).heap.size),s403,s393,q401.id,q401.status,q401.pc,q401.a,q401.b,q401.c,q401.d,q401.e,q401.f,q401.sudogs,x402,hF417,hS415,hm405⟩
     · skip
       have hS419:=hS165.pick1
       clear hS165
       have hS420:=hS419.drew; clear hS419
       refine any_start (fun wS=>∃ qs,St w0 [] (BlkP z24 77 #[nP z25 0,nP z27 0,.slice p40 L16.length c41,.slice p44 L17.length c45]::qs) wS) 13 #[false,false,false,false,false,false,false,false,false,false,false,false,false] (by kernel_rfl) (by kernel_rfl) (by kernel_rfl) ?_
       refine any_many 5 [(0,some (nP z24 0)),(1,some (nP z24 0)),(2,some (nP z24 0)),(3,some (nP z25 0)),(4,some (nP z24 0))] [0,1,5,7,8,9,10,11,78,82,83,84,85,86,87] #[true,true,true,true,true,false,false,false,false,false,false,false,false] (by rfl) hF167 (by kernel_rfl) (by kernel_rfl) (by exact ⟨fun wS hw=>by kernel_rfl,fun wS hw=>by kernel_rfl,fun wS hw=>by kernel_rfl,fun wS hw=>hw.elim fun qs hw=>run_loadV rfl rfl (run_loadS rfl rfl (hw.cell 0 rfl 0 rfl)),fun wS hw=>by kernel_rfl,trivial⟩) (fun _ _ _ _ _ h=>h) ⟨_,hS420⟩ (l':=[(83,nP z24 0),(82,nP z25 0),(9,nI x159),(8,nI x158),(7,nI x157),(5,nP z24 0),(0,nI x5),(1,.slice pa1 K1.length ca1)]) (by kernel_rfl) ?_
       intro a422 hF421; clear hF167
       refine any_two 5 10 (by kernel_rfl) ?_ ?_
       · skip
         refine op_call 5 #[true,true,true,true,true,true,false,false,false,false,false,false,false] 44 #[nP z24 0,nI 0] hF421 rfl rfl rfl (by kernel_rfl) rfl (by kernel_rfl) (fun w=>by kernel_rfl) (by kernel_rfl) ?_
         obtain ⟨x423,s424,s425,hx426,hm427⟩:=bind3E hm162; clear hm162
         refine (law16_ch.ok hS420 hx426).mono ?_
         rintro _ w428 ⟨rfl,hS430⟩; clear hS420
         refine ⟨⟨_,hS430⟩,?_⟩
         intro a429 hF431; clear hF421
         refine any_two 6 10 (by kernel_rfl) ?_ ?_
         · skip
           have hS432:=hS430.pick1
           clear hS430
           refine op_call 6 #[true,true,true,true,true,true,true,false,false,false,false,false,false] 30 #[nP z25 0,nI x423] hF431 rfl rfl rfl (by kernel_rfl) rfl (by kernel_rfl) (fun w=>by kernel_rfl) (by kernel_rfl) ?_
           obtain ⟨q433,x434,hx435,hm436⟩:=bind2E hm427; clear hm427
           refine (p_Chan hS432 hx435).mono ?_
           rintro _ w437 ⟨rfl,hS439⟩; clear hS432
           refine ⟨⟨_,hS439.pick1⟩,?_⟩
           intro a438 hF440; clear hF431
           refine any_many 3 [(7,some (.tuple #[.agg #[nI (q433.cap),nI (q433.closed),nI (q433.count),nI (q433.start),nI (q433.buf),nI (q433.th),nI (q433.tt),nI (q433.sh),nI (q433.st)],nI x434])),(8,some (.agg #[nI (q433.cap),nI (q433.closed),nI (q433.count),nI (q433.start),nI (q433.buf),nI (q433.th),nI (q433.tt),nI (q433.sh),nI (q433.st)])),(9,some (nI x434))] [0,1,5,7,8,9,10,11,86,87] #[true,true,true,true,true,true,true,true,true,true,false,false,false] (by rfl) hF440 (by kernel_rfl) (by kernel_rfl) (by exact ⟨fun wS hw=>by kernel_rfl,fun wS hw=>by kernel_rfl,fun wS hw=>by kernel_rfl,trivial⟩) (fun _ _ _ _ _ h=>h) ⟨_,hS439.pick1⟩ (l':=[(87,nI x434),(86,.agg #[nI (q433.cap),nI (q433.closed),nI (q433.count),nI (q433.start),nI (q433.buf),nI (q433.th),nI (q433.tt),nI (q433.sh),nI (q433.st)]),(9,nI x159),(8,nI x158),(7,nI x157),(5,nP z24 0),(0,nI x5),(1,.slice pa1 K1.length ca1)]) (by kernel_rfl) ?_
           intro a442 hF441; clear hF440
           refine any_one 10 (by kernel_rfl) ?_
           have hS443:St w0 [] (BlkP (w437.heap.size) 57 #[nI 0,nI 0,nI 0,nI 0,nI 0,nI 0,nI 0,nI 0,nI 0]::HeapP z25 z26 s424::BlkP z24 77 #[nP z25 0,nP z27 0,.slice p40 L16.length c41,.slice p44 L17.length c45]::RHeapP z27 z28 z29 z30 z31 s425::RowP (.slice p40 L16.length c41) L16::RowP (.slice p44 L17.length c45) L17::ps) (w437.alloc (.cells #[nI 0,nI 0,nI 0,nI 0,nI 0,nI 0,nI 0,nI 0,nI 0] 57)):=St.new hS439 #[nI 0,nI 0,nI 0,nI 0,nI 0,nI 0,nI 0,nI 0,nI 0] 57
           clear hS439
           refine op_step 10 #[true,true,true,true,true,true,true,true,true,true,true,false,false] (nB w437) (w437.alloc (.cells #[nI 0,nI 0,nI 0,nI 0,nI 0,nI 0,nI 0,nI 0,nI 0] 57)) hF441 rfl (by kernel_rfl) rfl (by kernel_rfl) (by kernel_rfl) (l':=[(10,nB w437),(87,nI x434),(86,.agg #[nI (q433.cap),nI (q433.closed),nI (q433.count),nI (q433.start),nI (q433.buf),nI (q433.th),nI (q433.tt),nI (q433.sh),nI (q433.st)]),(9,nI x159),(8,nI x158),(7,nI x157),(5,nP z24 0),(0,nI x5),(1,.slice pa1 K1.length ca1)]) (by kernel_rfl) ⟨_,hS443.pick2⟩ (by kernel_rfl) ?_
           intro a445 hF444; clear hF441
           refine any_one 11 (by kernel_rfl) ?_
           refine op_store 11 #[true,true,true,true,true,true,true,true,true,true,true,true,false] (.agg #[nI (q433.cap),nI (q433.closed),nI (q433.count),nI (q433.start),nI (q433.buf),nI (q433.th),nI (q433.tt),nI (q433.sh),nI (q433.st)]) #[nI (q433.cap),nI (q433.closed),nI (q433.count),nI (q433.start),nI (q433.buf),nI (q433.th),nI (q433.tt),nI (q433.sh),nI (q433.st)] hF444 rfl (by kernel_rfl) rfl rfl rfl rfl (by kernel_rfl) hS443 (by kernel_rfl) (by kernel_rfl) (by kernel_rfl) (l':=[(10,nB w437),(87,nI x434),(86,.agg #[nI (q433.cap),nI (q433.closed),nI (q433.count),nI (q433.start),nI (q433.buf),nI (q433.th),nI (q433.tt),nI (q433.sh),nI (q433.st)]),(9,nI x159),(8,nI x158),(7,nI x157),(5,nP z24 0),(0,nI x5),(1,.slice pa1 K1.length ca1)]) (by kernel_rfl) (by kernel_rfl) ?_
           intro w446 a447 hS448 hF449; clear hF444 hS443
           refine ⟨⟨_,hS448.pick2⟩,?_⟩
           refine any_many 1 [(12,some (nI x434))] [0,1,5,7,8,9,10,11] #[true,true,true,true,true,true,true,true,true,true,true,true,true] (by rfl) hF449 (by kernel_rfl) (by kernel_rfl) (by exact ⟨fun wS hw=>by kernel_rfl,trivial⟩) (fun _ _ _ _ _ h=>h) ⟨_,hS448.pick2⟩ (l':=[(11,nI x434),(10,nB w437),(9,nI x159),(8,nI x158),(7,nI x157),(5,nP z24 0),(0,nI x5),(1,.slice pa1 K1.length ca1)]) (by kernel_rfl) ?_
           intro a451 hF450; clear hF449
           refine any_done (by kernel_rfl) ?_
           exact thenN ⟨(w437.heap.size),s424,s425,q433.cap,q433.closed,q433.count,q433.start,q433.buf,q433.th,q433.tt,q433.sh,q433.st,x434,hF450,hS448,hm436⟩
         · skip
           have hS452:St w0 [] (BlkP (w428.heap.size) 57 #[nI 0,nI 0,nI 0,nI 0,nI 0,nI 0,nI 0,nI 0,nI 0]::BlkP z24 77 #[nP z25 0,nP z27 0,.slice p40 L16.length c41,.slice p44 L17.length c45]::HeapP z25 z26 s424::RHeapP z27 z28 z29 z30 z31 s425::RowP (.slice p40 L16.length c41) L16::RowP (.slice p44 L17.length c45) L17::ps) (w428.alloc (.cells #[nI 0,nI 0,nI 0,nI 0,nI 0,nI 0,nI 0,nI 0,nI 0] 57)):=St.new hS430 #[nI 0,nI 0,nI 0,nI 0,nI 0,nI 0,nI 0,nI 0,nI 0] 57
           clear hS430
           refine op_step 10 #[true,true,true,true,true,true,false,false,false,false,true,false,false] (nB w428) (w428.alloc (.cells #[nI 0,nI 0,nI 0,nI 0,nI 0,nI 0,nI 0,nI 0,nI 0] 57)) hF431 rfl (by kernel_rfl) rfl (by kernel_rfl) (by kernel_rfl) (l':=[(10,nB w428),(84,nI x423),(83,nP z24 0),(82,nP z25 0),(9,nI x159),(8,nI x158),(7,nI x157),(5,nP z24 0),(0,nI x5),(1,.slice pa1 K1.length ca1)]) (by kernel_rfl) ⟨_,hS452.pick1⟩ (by kernel_rfl) ?_
           intro a454 hF453; clear hF431
           have hS455:=hS452.pick2
           clear hS452
           refine any_call 6 #[true,true,true,true,true,true,true,false,false,false,true,false,false] 30 #[nP z25 0,nI x423] hF453 rfl (by kernel_rfl) rfl rfl (by kernel_rfl) rfl (by kernel_rfl) (fun w=>by kernel_rfl) (by kernel_rfl) ?_
           obtain ⟨q456,x457,hx458,hm459⟩:=bind2E hm427; clear hm427
           refine (p_Chan hS455 hx458).mono ?_
           rintro _ w460 ⟨rfl,hS462⟩; clear hS455
           refine ⟨⟨_,hS462.pick2⟩,?_⟩
           intro a461 hF463; clear hF453
           refine any_many 3 [(7,some (.tuple #[.agg #[nI (q456.cap),nI (q456.closed),nI (q456.count),nI (q456.start),nI (q456.buf),nI (q456.th),nI (q456.tt),nI (q456.sh),nI (q456.st)],nI x457])),(8,some (.agg #[nI (q456.cap),nI (q456.closed),nI (q456.count),nI (q456.start),nI (q456.buf),nI (q456.th),nI (q456.tt),nI (q456.sh),nI (q456.st)])),(9,some (nI x457))] [0,1,5,7,8,9,10,11,86,87] #[true,true,true,true,true,true,true,true,true,true,true,false,false] (by rfl) hF463 (by kernel_rfl) (by kernel_rfl) (by exact ⟨fun wS hw=>by kernel_rfl,fun wS hw=>by kernel_rfl,fun wS hw=>by kernel_rfl,trivial⟩) (fun _ _ _ _ _ h=>h) ⟨_,hS462.pick2⟩ (l':=[(87,nI x457),(86,.agg #[nI (q456.cap),nI (q456.closed),nI (q456.count),nI (q456.start),nI (q456.buf),nI (q456.th),nI (q456.tt),nI (q456.sh),nI (q456.st)]),(10,nB w428),(9,nI x159),(8,nI x158),(7,nI x157),(5,nP z24 0),(0,nI x5),(1,.slice pa1 K1.length ca1)]) (by kernel_rfl) ?_
           intro a465 hF464; clear hF463
           refine any_one 11 (by kernel_rfl) ?_
           have hS466:=hS462.pick1
           clear hS462
           refine op_store 11 #[true,true,true,true,true,true,true,true,true,true,true,true,false] (.agg #[nI (q456.cap),nI (q456.closed),nI (q456.count),nI (q456.start),nI (q456.buf),nI (q456.th),nI (q456.tt),nI (q456.sh),nI (q456.st)]) #[nI (q456.cap),nI (q456.closed),nI (q456.count),nI (q456.start),nI (q456.buf),nI (q456.th),nI (q456.tt),nI (q456.sh),nI (q456.st)] hF464 rfl (by kernel_rfl) rfl rfl rfl rfl (by kernel_rfl) hS466 (by kernel_rfl) (by kernel_rfl) (by kernel_rfl) (l':=[(87,nI x457),(86,.agg #[nI (q456.cap),nI (q456.closed),nI (q456.count),nI (q456.start),nI (q456.buf),nI (q456.th),nI (q456.tt),nI (q456.sh),nI (q456.st)]),(10,nB w428),(9,nI x159),(8,nI x158),(7,nI x157),(5,nP z24 0),(0,nI x5),(1,.slice pa1 K1.length ca1)]) (by kernel_rfl) (by kernel_rfl) ?_
           intro w467 a468 hS469 hF470; clear hF464 hS466
           refine ⟨⟨_,hS469.pick2⟩,?_⟩
           refine any_many 1 [(12,some (nI x457))] [0,1,5,7,8,9,10,11] #[true,true,true,true,true,true,true,true,true,true,true,true,true] (by rfl) hF470 (by kernel_rfl) (by kernel_rfl) (by exact ⟨fun wS hw=>by kernel_rfl,trivial⟩) (fun _ _ _ _ _ h=>h) ⟨_,hS469.pick2⟩ (l':=[(11,nI x457),(10,nB w428),(9,nI x159),(8,nI x158),(7,nI x157),(5,nP z24 0),(0,nI x5),(1,.slice pa1 K1.length ca1)]) (by kernel_rfl) ?_
           intro a472 hF471; clear hF470
           refine any_done (by kernel_rfl) ?_
           exact thenN ⟨(w428.heap.size),s424,s425,q456.cap,q456.closed,q456.count,q456.start,q456.buf,q456.th,q456.tt,q456.sh,q456.st,x457,hF471,hS469,hm459⟩
       · skip
         have hS473:St w0 [] (BlkP ((w163.drew).heap.size) 57 #[nI 0,nI 0,nI 0,nI 0,nI 0,nI 0,nI 0,nI 0,nI 0]::BlkP z24 77 #[nP z25 0,nP z27 0,.slice p40 L16.length c41,.slice p44 L17.length c45]::HeapP z25 z26 s160::RHeapP z27 z28 z29 z30 z31 s147::RowP (.slice p40 L16.length c41) L16::RowP (.slice p44 L17.length c45) L17::ps) ((w163.drew).alloc (.cells #[nI 0,nI 0,nI 0,nI 0,nI 0,nI 0,nI 0,nI 0,nI 0] 57)):=St.new hS420 #[nI 0,nI 0,nI 0,nI 0,nI 0,nI 0,nI 0,nI 0,nI 0] 57
         clear hS420
         refine op_step 10 #[true,true,true,true,true,false,false,false,false,false,true,false,false] (nB (w163.drew)) ((w163.drew).alloc (.cells #[nI 0,nI 0,nI 0,nI 0,nI 0,nI 0,nI 0,nI 0,nI 0] 57)) hF421 rfl (by kernel_rfl) rfl (by kernel_rfl) (by kernel_rfl) (l':=[(10,nB (w163.drew)),(83,nP z24 0),(82,nP z25 0),(9,nI x159),(8,nI x158),(7,nI x157),(5,nP z24 0),(0,nI x5),(1,.slice pa1 K1.length ca1)]) (by kernel_rfl) ⟨_,hS473.pick1⟩ (by kernel_rfl) ?_
         intro a475 hF474; clear hF421
         have hS476:=hS473.pick5.pick5.pick5.pick5.pick5
         clear hS473
         refine any_call 5 #[true,true,true,true,true,true,false,false,false,false,true,false,false] 44 #[nP z24 0,nI 0] hF474 rfl (by kernel_rfl) rfl rfl (by kernel_rfl) rfl (by kernel_rfl) (fun w=>by kernel_rfl) (by kernel_rfl) ?_
         obtain ⟨x477,s478,s479,hx480,hm481⟩:=bind3E hm162; clear hm162
         refine (law16_ch.ok hS476 hx480).mono ?_
         rintro _ w482 ⟨rfl,hS484⟩; clear hS476
         refine ⟨⟨_,hS484⟩,?_⟩
         intro a483 hF485; clear hF474
         have hS486:=hS484.pick1
         clear hS484
         refine any_call 6 #[true,true,true,true,true,true,true,false,false,false,true,false,false] 30 #[nP z25 0,nI x477] hF485 rfl (by kernel_rfl) rfl rfl (by kernel_rfl) rfl (by kernel_rfl) (fun w=>by kernel_rfl) (by kernel_rfl) ?_
         obtain ⟨q487,x488,hx489,hm490⟩:=bind2E hm481; clear hm481
         refine (p_Chan hS486 hx489).mono ?_
         rintro _ w491 ⟨rfl,hS493⟩; clear hS486
         refine ⟨⟨_,hS493.pick1⟩,?_⟩
         intro a492 hF494; clear hF485
         refine any_many 3 [(7,some (.tuple #[.agg #[nI (q487.cap),nI (q487.closed),nI (q487.count),nI (q487.start),nI (q487.buf),nI (q487.th),nI (q487.tt),nI (q487.sh),nI (q487.st)],nI x488])),(8,some (.agg #[nI (q487.cap),nI (q487.closed),nI (q487.count),nI (q487.start),nI (q487.buf),nI (q487.th),nI (q487.tt),nI (q487.sh),nI (q487.st)])),(9,some (nI x488))] [0,1,5,7,8,9,10,11,86,87] #[true,true,true,true,true,true,true,true,true,true,true,false,false] (by rfl) hF494 (by kernel_rfl) (by kernel_rfl) (by exact ⟨fun wS hw=>by kernel_rfl,fun wS hw=>by kernel_rfl,fun wS hw=>by kernel_rfl,trivial⟩) (fun _ _ _ _ _ h=>h) ⟨_,hS493.pick1⟩ (l':=[(87,nI x488),(86,.agg #[nI (q487.cap),nI (q487.closed),nI (q487.count),nI (q487.start),nI (q487.buf),nI (q487.th),nI (q487.tt),nI (q487.sh),nI (q487.st)]),(10,nB (w163.drew)),(9,nI x159),(8,nI x158),(7,nI x157),(5,nP z24 0),(0,nI x5),(1,.slice pa1 K1.length ca1)]) (by kernel_rfl) ?_
         intro a496 hF495; clear hF494
         refine any_one 11 (by kernel_rfl) ?_
         have hS497:=hS493.pick5
         clear hS493
         refine op_store 11 #[true,true,true,true,true,true,true,true,true,true,true,true,false] (.agg #[nI (q487.cap),nI (q487.closed),nI (q487.count),nI (q487.start),nI (q487.buf),nI (q487.th),nI (q487.tt),nI (q487.sh),nI (q487.st)]) #[nI (q487.cap),nI (q487.closed),nI (q487.count),nI (q487.start),nI (q487.buf),nI (q487.th),nI (q487.tt),nI (q487.sh),nI (q487.st)] hF495 rfl (by kernel_rfl) rfl rfl rfl rfl (by kernel_rfl) hS497 (by kernel_rfl) (by kernel_rfl) (by kernel_rfl) (l':=[(87,nI x488),(86,.agg #[nI (q487.cap),nI (q487.closed),nI (q487.count),nI (q487.start),nI (q487.buf),nI (q487.th),nI (q487.tt),nI (q487.sh),nI (q487.st)]),(10,nB (w163.drew)),(9,nI x159),(8,nI x158),(7,nI x157),(5,nP z24 0),(0,nI x5),(1,.slice pa1 K1.length ca1)]) (by kernel_rfl) (by kernel_rfl) ?_
         intro w498 a499 hS500 hF501; clear hF495 hS497
         refine ⟨⟨_,hS500.pick2⟩,?_⟩
         refine any_many 1 [(12,some (nI x488))] [0,1,5,7,8,9,10,11] #[true,true,true,true,true,true,true,true,true,true,true,true,true] (by rfl) hF501 (by kernel_rfl) (by kernel_rfl) (by exact ⟨fun wS hw=>by kernel_rfl,trivial⟩) (fun _ _ _ _ _ h=>h) ⟨_,hS500.pick2⟩ (l':=[(11,nI x488),(10,nB (w163.drew)),(9,nI x159),(8,nI x158),(7,nI x157),(5,nP z24 0),(0,nI x5),(1,.slice pa1 K1.length ca1)]) (by kernel_rfl) ?_
         intro a503 hF502; clear hF501
         refine any_done (by kernel_rfl) ?_
         exact thenN ⟨((w163.drew).heap.size),s478,s479,q487.cap,q487.closed,q487.count,q487.start,q487.buf,q487.th,q487.tt,q487.sh,q487.st,x488,hF502,hS500,hm490⟩
   · skip
     obtain ⟨hc504,hm505⟩:=ifTE hm123; clear hm123
     obtain ⟨b506,o507,rfl⟩:=argK hA1 hc504
     have hS508:=hS83.drew; clear hS83
     refine any_start (fun wS=>∃ qs,St w0 [] qs wS) 13 #[false,false,false,false,false,false,false,false,false,false,false,false,false] (by kernel_rfl) (by kernel_rfl) (by kernel_rfl) ?_
     refine any_many 7 [(0,some (nP z24 0)),(1,some (nP z24 0)),(3,some (nP z24 0)),(7,some (.slice (some ⟨b506,o507,none⟩) K1.length ca1)),(8,some (nI x5)),(9,some (nP b506 ((o507+x5.toNat)))),(10,some (nI (atI K1 x5)))] [0,1,5,52,53,54,55,56,57,58,62,63,64] #[true,true,false,true,false,false,false,true,true,true,true,false,false] (by rfl) hF86 (by kernel_rfl) (by kernel_rfl) (by exact ⟨fun wS hw=>by kernel_rfl,fun wS hw=>by kernel_rfl,fun wS hw=>by kernel_rfl,fun wS hw=>by kernel_rfl,fun wS hw=>by kernel_rfl,fun wS hw=>run_idxO rfl rfl rfl rfl rfl (inR_spec hc504).1 (inR_spec hc504).2 _,fun wS hw=>run_load1 rfl rfl rfl (hw.elim fun qs hw=>argAt hA1 hw hc504),trivial⟩) (fun _ _ _ _ _ h=>h) ⟨_,hS508⟩ (l':=[(62,nI (atI K1 x5)),(55,nP z24 0),(53,nP z24 0),(52,nP z24 0),(5,nP z24 0),(0,nI x5),(1,.slice (some ⟨b506,o507,none⟩) K1.length ca1)]) (by kernel_rfl) ?_
     intro a510 hF509; clear hF86
     refine any_two 2 6 (by kernel_rfl) ?_ ?_
     · skip
       refine op_call 2 #[true,true,true,true,false,false,false,true,true,true,true,false,false] 47 #[nP z24 0,nI 0] hF509 rfl rfl rfl (by kernel_rfl) rfl (by kernel_rfl) (fun w=>by kernel_rfl) (by kernel_rfl) ?_
       obtain ⟨x511,s512,s513,hx514,hm515⟩:=bind3E hm505; clear hm505
       refine (law16_gor.ok hS508 hx514).mono ?_
       rintro _ w516 ⟨rfl,hS518⟩; clear hS508
       refine ⟨⟨_,hS518⟩,?_⟩
       intro a517 hF519; clear hF509
       refine any_two 4 6 (by kernel_rfl) ?_ ?_
       · skip
         refine op_call 4 #[true,true,true,true,true,false,false,true,true,true,true,false,false] 44 #[nP z24 0,nI 0] hF519 rfl rfl rfl (by kernel_rfl) rfl (by kernel_rfl) (fun w=>by kernel_rfl) (by kernel_rfl) ?_
         obtain ⟨x520,s521,s522,hx523,hm524⟩:=bind3E hm515; clear hm515
         refine (law16_ch.ok hS518 hx523).mono ?_
         rintro _ w525 ⟨rfl,hS527⟩; clear hS518
         refine ⟨⟨_,hS527⟩,?_⟩
         intro a526 hF528; clear hF519
         refine any_two 5 6 (by kernel_rfl) ?_ ?_
         · skip
           have hS529:St w0 [] (RowP (.slice (some ⟨w525.heap.size,0,none⟩) 1 1) [x520]::BlkP z24 77 #[nP z25 0,nP z27 0,.slice p40 L16.length c41,.slice p44 L17.length c45]::HeapP z25 z26 s521::RHeapP z27 z28 z29 z30 z31 s522::RowP (.slice p40 L16.length c41) L16::RowP (.slice p44 L17.length c45) L17::ps) (w525.alloc (.cells #[nI x520] 3)):=St.lit hS527 [x520] (by unfold maxLen; simp)
           clear hS527
           refine op_step 5 #[true,true,true,true,true,true,false,true,true,true,true,false,false] (.slice (some ⟨w525.heap.size,0,none⟩) 1 1) (w525.alloc (.cells #[nI x520] 3)) hF528 rfl (by kernel_rfl) rfl (by kernel_rfl) (by kernel_rfl) (l':=[(57,.slice (some ⟨w525.heap.size,0,none⟩) 1 1),(56,nI x520),(54,nI x511),(62,nI (atI K1 x5)),(55,nP z24 0),(53,nP z24 0),(52,nP z24 0),(5,nP z24 0),(0,nI x5),(1,.slice (some ⟨b506,o507,none⟩) K1.length ca1)]) (by kernel_rfl) ⟨_,hS529⟩ (by kernel_rfl) ?_
           intro a531 hF530; clear hF528
           refine any_one 6 (by kernel_rfl) ?_
           have hS532:St w0 [] (BoolsP (.slice (some ⟨(w525.alloc (.cells #[nI x520] 3)).heap.size,0,none⟩) 1 1) [true]::RowP (.slice (some ⟨w525.heap.size,0,none⟩) 1 1) [x520]::BlkP z24 77 #[nP z25 0,nP z27 0,.slice p40 L16.length c41,.slice p44 L17.length c45]::HeapP z25 z26 s521::RHeapP z27 z28 z29 z30 z31 s522::RowP (.slice p40 L16.length c41) L16::RowP (.slice p44 L17.length c45) L17::ps) ((w525.alloc (.cells #[nI x520] 3)).alloc (.cells #[.bool true] 4)):=St.litB hS529 [true] (by unfold maxLen; simp)
           clear hS529
           refine op_step 6 #[true,true,true,true,true,true,true,true,true,true,true,false,false] (.slice (some ⟨(w525.alloc (.cells #[nI x520] 3)).heap.size,0,none⟩) 1 1) ((w525.alloc (.cells #[nI x520] 3)).alloc (.cells #[.bool true] 4)) hF530 rfl (by kernel_rfl) rfl (by kernel_rfl) (by kernel_rfl) (l':=[(58,.slice (some ⟨(w525.alloc (.cells #[nI x520] 3)).heap.size,0,none⟩) 1 1),(57,.slice (some ⟨w525.heap.size,0,none⟩) 1 1),(56,nI x520),(54,nI x511),(62,nI (atI K1 x5)),(55,nP z24 0),(53,nP z24 0),(52,nP z24 0),(5,nP z24 0),(0,nI x5),(1,.slice (some ⟨b506,o507,none⟩) K1.length ca1)]) (by kernel_rfl) ⟨_,hS532⟩ (by kernel_rfl) ?_
           intro a534 hF533; clear hF530
           have hS535:=hS532.pick1.pick6.pick6.pick6.pick6.pick6
           clear hS532
           refine any_call 11 #[true,true,true,true,true,true,true,true,true,true,true,true,false] 48 #[nP z24 0,nI x511,.slice (some ⟨w525.heap.size,0,none⟩) 1 1,.slice (some ⟨(w525.alloc (.cells #[nI x520] 3)).heap.size,0,none⟩) 1 1,nI (atI K1 x5),nI 9] hF533 rfl (by kernel_rfl) rfl rfl (by kernel_rfl) rfl (by kernel_rfl) (fun w=>by kernel_rfl) (by kernel_rfl) ?_
           obtain ⟨y536,s537,s538,hx539,hm540⟩:=bind3E hm524; clear hm524
           refine (law16_wait.ok hS535 hx539).mono ?_
           rintro _ w541 ⟨rfl,hS543⟩; clear hS535
           refine ⟨⟨_,hS543⟩,?_⟩
           intro a542 hF544; clear hF533
           refine any_many 1 [(12,some (.bool (!(y536))))] [0,1,5,64] #[true,true,true,true,true,true,true,true,true,true,true,true,true] (by rfl) hF544 (by kernel_rfl) (by kernel_rfl) (by exact ⟨fun wS hw=>by kernel_rfl,trivial⟩) (fun _ _ _ _ _ h=>h) ⟨_,hS543⟩ (l':=[(64,.bool (!(y536))),(5,nP z24 0),(0,nI x5),(1,.slice (some ⟨b506,o507,none⟩) K1.length ca1)]) (by kernel_rfl) ?_
           intro a546 hF545; clear hF544
           refine any_done (by kernel_rfl) ?_
           have hS547:=hS543.pick5.drop.pick5.drop
           clear hS543
           exact thenN ⟨s537,s538,!(y536),hF545,hS547,hm540⟩
         · skip
           have hS548:St w0 [] (BoolsP (.slice (some ⟨w525.heap.size,0,none⟩) 1 1) [true]::BlkP z24 77 #[nP z25 0,nP z27 0,.slice p40 L16.length c41,.slice p44 L17.length c45]::HeapP z25 z26 s521::RHeapP z27 z28 z29 z30 z31 s522::RowP (.slice p40 L16.length c41) L16::RowP (.slice p44 L17.length c45) L17::ps) (w525.alloc (.cells #[.bool true] 4)):=St.litB hS527 [true] (by unfold maxLen; simp)
           clear hS527
           refine op_step 6 #[true,true,true,true,true,false,true,true,true,true,true,false,false] (.slice (some ⟨w525.heap.size,0,none⟩) 1 1) (w525.alloc (.cells #[.bool true] 4)) hF528 rfl (by kernel_rfl) rfl (by kernel_rfl) (by kernel_rfl) (l':=[(58,.slice (some ⟨w525.heap.size,0,none⟩) 1 1),(56,nI x520),(54,nI x511),(62,nI (atI K1 x5)),(55,nP z24 0),(53,nP z24 0),(52,nP z24 0),(5,nP z24 0),(0,nI x5),(1,.slice (some ⟨b506,o507,none⟩) K1.length ca1)]) (by kernel_rfl) ⟨_,hS548⟩ (by kernel_rfl) ?_
           intro a550 hF549; clear hF528
           refine any_one 5 (by kernel_rfl) ?_
           have hS551:St w0 [] (RowP (.slice (some ⟨(w525.alloc (.cells #[.bool true] 4)).heap.size,0,none⟩) 1 1) [x520]::BoolsP (.slice (some ⟨w525.heap.size,0,none⟩) 1 1) [true]::BlkP z24 77 #[nP z25 0,nP z27 0,.slice p40 L16.length c41,.slice p44 L17.length c45]::HeapP z25 z26 s521::RHeapP z27 z28 z29 z30 z31 s522::RowP (.slice p40 L16.length c41) L16::RowP (.slice p44 L17.length c45) L17::ps) ((w525.alloc (.cells #[.bool true] 4)).alloc (.cells #[nI x520] 3)):=St.lit hS548 [x520] (by unfold maxLen; simp)
           clear hS548
           refine op_step 5 #[true,true,true,true,true,true,true,true,true,true,true,false,false] (.slice (some ⟨(w525.alloc (.cells #[.bool true] 4)).heap.size,0,none⟩) 1 1) ((w525.alloc (.cells #[.bool true] 4)).alloc (.cells #[nI x520] 3)) hF549 rfl (by kernel_rfl) rfl (by kernel_rfl) (by kernel_rfl) (l':=[(57,.slice (some ⟨(w525.alloc (.cells #[.bool true] 4)).heap.size,0,none⟩) 1 1),(58,.slice (some ⟨w525.heap.size,0,none⟩) 1 1),(56,nI x520),(54,nI x511),(62,nI (atI K1 x5)),(55,nP z24 0),(53,nP z24 0),(52,nP z24 0),(5,nP z24 0),(0,nI x5),(1,.slice (some ⟨b506,o507,none⟩) K1.length ca1)]) (by kernel_rfl) ⟨_,hS551⟩ (by kernel_rfl) ?_
           intro a553 hF552; clear hF549
           have hS554:=hS551.pick1.pick1.pick6.pick6.pick6.pick6.pick6
           clear hS551
           refine any_call 11 #[true,true,true,true,true,true,true,true,true,true,true,true,false] 48 #[nP z24 0,nI x511,.slice (some ⟨(w525.alloc (.cells #[.bool true] 4)).heap.size,0,none⟩) 1 1,.slice (some ⟨w525.heap.size,0,none⟩) 1 1,nI (atI K1 x5),nI 9] hF552 rfl (by kernel_rfl) rfl rfl (by kernel_rfl) rfl (by kernel_rfl) (fun w=>by kernel_rfl) (by kernel_rfl) ?_
           obtain ⟨y555,s556,s557,hx558,hm559⟩:=bind3E hm524; clear hm524
           refine (law16_wait.ok hS554 hx558).mono ?_
           rintro _ w560 ⟨rfl,hS562⟩; clear hS554
           refine ⟨⟨_,hS562⟩,?_⟩
           intro a561 hF563; clear hF552
           refine any_many 1 [(12,some (.bool (!(y555))))] [0,1,5,64] #[true,true,true,true,true,true,true,true,true,true,true,true,true] (by rfl) hF563 (by kernel_rfl) (by kernel_rfl) (by exact ⟨fun wS hw=>by kernel_rfl,trivial⟩) (fun _ _ _ _ _ h=>h) ⟨_,hS562⟩ (l':=[(64,.bool (!(y555))),(5,nP z24 0),(0,nI x5),(1,.slice (some ⟨b506,o507,none⟩) K1.length ca1)]) (by kernel_rfl) ?_
           intro a565 hF564; clear hF563
           refine any_done (by kernel_rfl) ?_
           have hS566:=hS562.pick5.drop.pick5.drop
           clear hS562
           exact thenN ⟨s556,s557,!(y555),hF564,hS566,hm559⟩
       · skip
         have hS567:St w0 [] (BoolsP (.slice (some ⟨w516.heap.size,0,none⟩) 1 1) [true]::BlkP z24 77 #[nP z25 0,nP z27 0,.slice p40 L16.length c41,.slice p44 L17.length c45]::HeapP z25 z26 s512::RHeapP z27 z28 z29 z30 z31 s513::RowP (.slice p40 L16.length c41) L16::RowP (.slice p44 L17.length c45) L17::ps) (w516.alloc (.cells #[.bool true] 4)):=St.litB hS518 [true] (by unfold maxLen; simp)
         clear hS518
         refine op_step 6 #[true,true,true,true,false,false,true,true,true,true,true,false,false] (.slice (some ⟨w516.heap.size,0,none⟩) 1 1) (w516.alloc (.cells #[.bool true] 4)) hF519 rfl (by kernel_rfl) rfl (by kernel_rfl) (by kernel_rfl) (l':=[(58,.slice (some ⟨w516.heap.size,0,none⟩) 1 1),(54,nI x511),(62,nI (atI K1 x5)),(55,nP z24 0),(53,nP z24 0),(52,nP z24 0),(5,nP z24 0),(0,nI x5),(1,.slice (some ⟨b506,o507,none⟩) K1.length ca1)]) (by kernel_rfl) ⟨_,hS567⟩ (by kernel_rfl) ?_
         intro a569 hF568; clear hF519
         have hS570:=hS567.pick5.pick5.pick5.pick5.pick5
         clear hS567
         refine any_call 4 #[true,true,true,true,true,false,true,true,true,true,true,false,false] 44 #[nP z24 0,nI 0] hF568 rfl (by kernel_rfl) rfl rfl (by kernel_rfl) rfl (by kernel_rfl) (fun w=>by kernel_rfl) (by kernel_rfl) ?_
         obtain ⟨x571,s572,s573,hx574,hm575⟩:=bind3E hm515; clear hm515
         refine (law16_ch.ok hS570 hx574).mono ?_
         rintro _ w576 ⟨rfl,hS578⟩; clear hS570
         refine ⟨⟨_,hS578⟩,?_⟩
         intro a577 hF579; clear hF568
         refine any_one 5 (by kernel_rfl) ?_
         have hS580:St w0 [] (RowP (.slice (some ⟨w576.heap.size,0,none⟩) 1 1) [x571]::BlkP z24 77 #[nP z25 0,nP z27 0,.slice p40 L16.length c41,.slice p44 L17.length c45]::HeapP z25 z26 s572::RHeapP z27 z28 z29 z30 z31 s573::RowP (.slice p40 L16.length c41) L16::RowP (.slice p44 L17.length c45) L17::BoolsP (.slice (some ⟨w516.heap.size,0,none⟩) 1 1) [true]::ps) (w576.alloc (.cells #[nI x571] 3)):=St.lit hS578 [x571] (by unfold maxLen; simp)
         clear hS578
         refine op_step 5 #[true,true,true,true,true,true,true,true,true,true,true,false,false] (.slice (some ⟨w576.heap.size,0,none⟩) 1 1) (w576.alloc (.cells #[nI x571] 3)) hF579 rfl (by kernel_rfl) rfl (by kernel_rfl) (by kernel_rfl) (l':=[(57,.slice (some ⟨w576.heap.size,0,none⟩) 1 1),(56,nI x571),(58,.slice (some ⟨w516.heap.size,0,none⟩) 1 1),(54,nI x511),(62,nI (atI K1 x5)),(55,nP z24 0),(53,nP z24 0),(52,nP z24 0),(5,nP z24 0),(0,nI x5),(1,.slice (some ⟨b506,o507,none⟩) K1.length ca1)]) (by kernel_rfl) ⟨_,hS580⟩ (by kernel_rfl) ?_
         intro a582 hF581; clear hF579
         have hS583:=hS580.pick6.pick1.pick6.pick6.pick6.pick6.pick6
         clear hS580
         refine any_call 11 #[true,true,true,true,true,true,true,true,true,true,true,true,false] 48 #[nP z24 0,nI x511,.slice (some ⟨w576.heap.size,0,none⟩) 1 1,.slice (some ⟨w516.heap.size,0,none⟩) 1 1,nI (atI K1 x5),nI 9] hF581 rfl (by kernel_rfl) rfl rfl (by kernel_rfl) rfl (by kernel_rfl) (fun w=>by kernel_rfl) (by kernel_rfl) ?_
         obtain ⟨y584,s585,s586,hx587,hm588⟩:=bind3E hm575; clear hm575
         refine (law16_wait.ok hS583 hx587).mono ?_
         rintro _ w589 ⟨rfl,hS591⟩; clear hS583
         refine ⟨⟨_,hS591⟩,?_⟩
         intro a590 hF592; clear hF581
         refine any_many 1 [(12,some (.bool (!(y584))))] [0,1,5,64] #[true,true,true,true,true,true,true,true,true,true,true,true,true] (by rfl) hF592 (by kernel_rfl) (by kernel_rfl) (by exact ⟨fun wS hw=>by kernel_rfl,trivial⟩) (fun _ _ _ _ _ h=>h) ⟨_,hS591⟩ (l':=[(64,.bool (!(y584))),(5,nP z24 0),(0,nI x5),(1,.slice (some ⟨b506,o507,none⟩) K1.length ca1)]) (by kernel_rfl) ?_
         intro a594 hF593; clear hF592
         refine any_done (by kernel_rfl) ?_
         have hS595:=hS591.pick5.drop.pick5.drop
         clear hS591
         exact thenN ⟨s585,s586,!(y584),hF593,hS595,hm588⟩
     · skip
       have hS596:St w0 [] (BoolsP (.slice (some ⟨(w81.drew).heap.size,0,none⟩) 1 1) [true]::BlkP z24 77 #[nP z25 0,nP z27 0,.slice p40 L16.length c41,.slice p44 L17.length c45]::HeapP z25 z26 s76::RHeapP z27 z28 z29 z30 z31 s77::RowP (.slice p40 L16.length c41) L16::RowP (.slice p44 L17.length c45) L17::ps) ((w81.drew).alloc (.cells #[.bool true] 4)):=St.litB hS508 [true] (by unfold maxLen; simp)
       clear hS508
       refine op_step 6 #[true,true,false,true,false,false,true,true,true,true,true,false,false] (.slice (some ⟨(w81.drew).heap.size,0,none⟩) 1 1) ((w81.drew).alloc (.cells #[.bool true] 4)) hF509 rfl (by kernel_rfl) rfl (by kernel_rfl) (by kernel_rfl) (l':=[(58,.slice (some ⟨(w81.drew).heap.size,0,none⟩) 1 1),(62,nI (atI K1 x5)),(55,nP z24 0),(53,nP z24 0),(52,nP z24 0),(5,nP z24 0),(0,nI x5),(1,.slice (some ⟨b506,o507,none⟩) K1.length ca1)]) (by kernel_rfl) ⟨_,hS596⟩ (by kernel_rfl) ?_
       intro a598 hF597; clear hF509
       have hS599:=hS596.pick5.pick5.pick5.pick5.pick5
       clear hS596
       refine any_call 2 #[true,true,true,true,false,false,true,true,true,true,true,false,false] 47 #[nP z24 0,nI 0] hF597 rfl (by kernel_rfl) rfl rfl (by kernel_rfl) rfl (by kernel_rfl) (fun w=>by kernel_rfl) (by kernel_rfl) ?_
       obtain ⟨x600,s601,s602,hx603,hm604⟩:=bind3E hm505; clear hm505
       refine (law16_gor.ok hS599 hx603).mono ?_
       rintro _ w605 ⟨rfl,hS607⟩; clear hS599
       refine ⟨⟨_,hS607⟩,?_⟩
       intro a606 hF608; clear hF597
       refine any_call 4 #[true,true,true,true,true,false,true,true,true,true,true,false,false] 44 #[nP z24 0,nI 0] hF608 rfl (by kernel_rfl) rfl rfl (by kernel_rfl) rfl (by kernel_rfl) (fun w=>by kernel_rfl) (by kernel_rfl) ?_
       obtain ⟨x609,s610,s611,hx612,hm613⟩:=bind3E hm604; clear hm604
       refine (law16_ch.ok hS607 hx612).mono ?_
       rintro _ w614 ⟨rfl,hS616⟩; clear hS607
       refine ⟨⟨_,hS616⟩,?_⟩
       intro a615 hF617; clear hF608
       refine any_one 5 (by kernel_rfl) ?_
       have hS618:St w0 [] (RowP (.slice (some ⟨w614.heap.size,0,none⟩) 1 1) [x609]::BlkP z24 77 #[nP z25 0,nP z27 0,.slice p40 L16.length c41,.slice p44 L17.length c45]::HeapP z25 z26 s610::RHeapP z27 z28 z29 z30 z31 s611::RowP (.slice p40 L16.length c41) L16::RowP (.slice p44 L17.length c45) L17::BoolsP (.slice (some ⟨(w81.drew).heap.size,0,none⟩) 1 1) [true]::ps) (w614.alloc (.cells #[nI x609] 3)):=St.lit hS616 [x609] (by unfold maxLen; simp)
       clear hS616
       refine op_step 5 #[true,true,true,true,true,true,true,true,true,true,true,false,false] (.slice (some ⟨w614.heap.size,0,none⟩) 1 1) (w614.alloc (.cells #[nI x609] 3)) hF617 rfl (by kernel_rfl) rfl (by kernel_rfl) (by kernel_rfl) (l':=[(57,.slice (some ⟨w614.heap.size,0,none⟩) 1 1),(56,nI x609),(54,nI x600),(58,.slice (some ⟨(w81.drew).heap.size,0,none⟩) 1 1),(62,nI (atI K1 x5)),(55,nP z24 0),(53,nP z24 0),(52,nP z24 0),(5,nP z24 0),(0,nI x5),(1,.slice (some ⟨b506,o507,none⟩) K1.length ca1)]) (by kernel_rfl) ⟨_,hS618⟩ (by kernel_rfl) ?_
       intro a620 hF619; clear hF617
       have hS621:=hS618.pick6.pick1.pick6.pick6.pick6.pick6.pick6
       clear hS618
       refine any_call 11 #[true,true,true,true,true,true,true,true,true,true,true,true,false] 48 #[nP z24 0,nI x600,.slice (some ⟨w614.heap.size,0,none⟩) 1 1,.slice (some ⟨(w81.drew).heap.size,0,none⟩) 1 1,nI (atI K1 x5),nI 9] hF619 rfl (by kernel_rfl) rfl rfl (by kernel_rfl) rfl (by kernel_rfl) (fun w=>by kernel_rfl) (by kernel_rfl) ?_
       obtain ⟨y622,s623,s624,hx625,hm626⟩:=bind3E hm613; clear hm613
       refine (law16_wait.ok hS621 hx625).mono ?_
       rintro _ w627 ⟨rfl,hS629⟩; clear hS621
       refine ⟨⟨_,hS629⟩,?_⟩
       intro a628 hF630; clear hF619
       refine any_many 1 [(12,some (.bool (!(y622))))] [0,1,5,64] #[true,true,true,true,true,true,true,true,true,true,true,true,true] (by rfl) hF630 (by kernel_rfl) (by kernel_rfl) (by exact ⟨fun wS hw=>by kernel_rfl,trivial⟩) (fun _ _ _ _ _ h=>h) ⟨_,hS629⟩ (l':=[(64,.bool (!(y622))),(5,nP z24 0),(0,nI x5),(1,.slice (some ⟨b506,o507,none⟩) K1.length ca1)]) (by kernel_rfl) ?_
       intro a632 hF631; clear hF630
       refine any_done (by kernel_rfl) ?_
       have hS633:=hS629.pick5.drop.pick5.drop
       clear hS629
       exact thenN ⟨s623,s624,!(y622),hF631,hS633,hm626⟩
 · skip
   refine wp_region_lit ?_
   refine ev_call 43 #[] hF48 rfl rfl (by kernel_rfl) rfl (by kernel_rfl) (fun w=>by kernel_rfl) ?_
   obtain ⟨y634,hx635,hm636⟩:=bind1E hm19; clear hm19
   refine (law16_awake.ok hS50 hx635).mono ?_
   rintro _ w637 ⟨rfl,hS639⟩ a638 hF640; clear hF48 hS50
   refine ev_runs 2 hF640 (l':=[(24,.bool (!(y634))),(23,.bool (!(y634))),(22,.bool (y634)),(5,nP z24 0),(0,nI x5),(1,.slice pa1 K1.length ca1)]) (w':=w637) (by kernel_rfl) ?_
   intro a642 hF641; clear hF640
   cases hc643:(!(y634))
   case true =>
    rw [hc643] at hF641
    have hm644:=ifYes hc643 hm636; clear hm636
    refine ev_runK 8 hF641 [0,1,5,32] (l':=[(32,.bool true),(5,nP z24 0),(0,nI x5),(1,.slice pa1 K1.length ca1)]) (w':=w637) (by kernel_rfl) ?_
    intro a646 hF645; clear hF641
    refine wpList_nil ?_
    exact thenN ⟨true,hF645,hS639,hm644⟩
   rw [hc643] at hF641
   have hm647:=ifNot hc643 hm636; clear hm636
   refine ev_runK 8 hF641 [0,1,5,32] (l':=[(32,.bool (decide ((K1.length:Int)<5))),(5,nP z24 0),(0,nI x5),(1,.slice pa1 K1.length ca1)]) (w':=w637) (by kernel_rfl) ?_
   intro a649 hF648; clear hF641
   refine wpList_nil ?_
   exact thenN ⟨decide ((K1.length:Int)<5),hF648,hS639,hm647⟩
end Go.Proofs.YtgejcjcpchofiaaGreat
