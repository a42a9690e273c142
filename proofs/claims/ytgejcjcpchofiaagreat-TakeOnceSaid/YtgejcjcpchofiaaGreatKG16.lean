/- G16 GTakeOnce -/
import Derived.Test.YtgejcjcpchofiaaGreatKG16w
import Derived.Test.YtgejcjcpchofiaaGreatKGSend
import Derived.Test.YtgejcjcpchofiaaGreatKGTake
import Derived.Deep.LoopGhost
import Derived.KernelRfl
namespace Go.Proofs.YtgejcjcpchofiaaGreat
open Go.RowKit
set_option linter.unusedVariables false
def law16_awake.j1 (y101:Bool):Option (Bool):=some (y101)
def law16_awake.m (k:Nat):Option (Bool):=bind4 (law16_made.m k [1] 1) fun s7 s8 L9 L10=>bind3 (law16_ch.m k s7 s8 L9 L10 0) fun x50 s51 s52=>bind3 (send_Try.m k s51 (IntKind.i64.wrap ((IntKind.i64.wrap (2 * x50))+1)) 6) fun x62 x63 s64=>bind3 (law16_ch.m k s64 s52 L9 L10 0) fun x77 s78 s79=>bind4 (take_Try.m k s78 (IntKind.i64.wrap ((IntKind.i64.wrap (2 * x77))+1))) fun x89 x90 x91 s92=>(if (x63 == 1) then (if (x89 == 6) then (if (x90 == (-1)) then (if (x91 == 1) then bind2 (take_Ready.m k s92 0) fun y130 s131=>law16_awake.j1 (!(y130)) else law16_awake.j1 false) else law16_awake.j1 false) else law16_awake.j1 false) else law16_awake.j1 false)
set_option maxRecDepth 100000 in
set_option maxHeartbeats 1500000 in
theorem law16_awake.ok {w0 w:World} {F0:List Nat} {ps:List Piece} {k:Nat}  {r0:Bool} (hS:St w0 F0 (ps) w) (hm:law16_awake.m k=some r0) :
    Calls Tryz.prog 43 #[] w fun e w'=>e=.returned (.bool r0)∧St w0 F0 (ps) w':=by
 refine ev_enterL 58 [] Tryz.func43 rfl rfl (by simp) ?_
 intro a hF
 have hF0:Fr 58 a []:=hF; clear hF
 unfold law16_awake.m at hm
 refine wp_seq (wp_region_lit ?_)
 refine ev_runK 1 hF0 [] (l':=[]) (w':=w) (by kernel_rfl) ?_
 intro a2 hF1; clear hF0
 refine wpList_nil (thenN (wp_seq (wp_region_lit ?_)))
 refine ev_runs 1 hF1 (l':=[(7,.slice (some ⟨w.heap.size,0,none⟩) 1 1)]) (w':=w.alloc (.cells #[nI 1] 3)) (by kernel_rfl) ?_
 intro a4 hF3; clear hF1
 have hS6:St w0 F0 (RowP (.slice (some ⟨w.heap.size,0,none⟩) 1 1) [1]::ps) (w.alloc (.cells #[nI 1] 3)):=St.lit hS [1] (by unfold maxLen; simp)
 refine ev_call 42 #[.slice (some ⟨w.heap.size,0,none⟩) 1 1,nI 1] hF3 rfl rfl (by kernel_rfl) rfl (by kernel_rfl) (fun w=>by kernel_rfl) ?_
 obtain ⟨s7,s8,L9,L10,hx11,hm12⟩:=bind4E hm; clear hm
 refine (law16_made.ok hS6 hx11).mono ?_
 rintro _ w13 ⟨z17,z18,z19,z20,z21,z22,z23,z24,z25,z26,rfl,hS15⟩ a14 hF16; clear hF3 hS6
 have hS32:St w0 F0 (RowP (.slice (some ⟨w.heap.size,0,none⟩) 1 1) [1]::BlkP z17 77 #[nP z18 0,nP z20 0,z25,z26]::HeapP z18 z19 s7::RHeapP z20 z21 z22 z23 z24 s8::RowP (z25) L9::RowP (z26) L10::ps) w13:=hS15
 clear hS15
 obtain ⟨hl36,p33,c34,rfl,hp35⟩:=St.shape hS32 4 rfl
 obtain ⟨hl40,p37,c38,rfl,hp39⟩:=St.shape hS32 5 rfl
 refine ev_runK 1 hF16 [1] (l':=[(1,nP z17 0)]) (w':=w13) (by kernel_rfl) ?_
 intro a42 hF41; clear hF16
 refine wpList_nil ?_
 have hS43:=hS32.drop
 clear hS32
 refine thenN (wp_seq (wp_seq (wp_region_lit ?_)))
 refine ev_runK 2 hF41 [1,10] (l':=[(10,.bool false),(1,nP z17 0)]) (w':=w13) (by kernel_rfl) ?_
 intro a45 hF44; clear hF41
 refine wpList_nil (thenN ?_)
 refine ev_condF hF44 rfl rfl ?_
 refine wp_skip ?_
 have hF46:=hF44.keep [1]
 clear hF44
 refine thenN (wp_seq ?_)
 have hS47:=hS43.drew; clear hS43
 refine any_start (fun wS=>∃ qs,St w0 F0 (BlkP z17 77 #[nP z18 0,nP z20 0,.slice p33 L9.length c34,.slice p37 L10.length c38]::qs) wS) 14 #[false,false,false,false,false,false,false,false,false,false,false,false,false,false] (by kernel_rfl) (by kernel_rfl) (by kernel_rfl) ?_
 refine any_many 5 [(0,some (nP z17 0)),(1,some (nP z17 0)),(2,some (nP z17 0)),(3,some (nP z18 0)),(4,some (nP z17 0))] [1,3,11,15,16,17,18,19,20,21,22] #[true,true,true,true,true,false,false,false,false,false,false,false,false,false] (by rfl) hF46 (by kernel_rfl) (by kernel_rfl) (by exact ⟨fun wS hw=>by kernel_rfl,fun wS hw=>by kernel_rfl,fun wS hw=>by kernel_rfl,fun wS hw=>hw.elim fun qs hw=>run_loadV rfl rfl (run_loadS rfl rfl (hw.cell 0 rfl 0 rfl)),fun wS hw=>by kernel_rfl,trivial⟩) (fun _ _ _ _ _ h=>h) ⟨_,hS47⟩ (l':=[(16,nP z17 0),(15,nP z18 0),(1,nP z17 0)]) (by kernel_rfl) ?_
 intro a49 hF48; clear hF46
 refine any_call 5 #[true,true,true,true,true,true,false,false,false,false,false,false,false,false] 44 #[nP z17 0,nI 0] hF48 rfl (by kernel_rfl) rfl rfl (by kernel_rfl) rfl (by kernel_rfl) (fun w=>by kernel_rfl) (by kernel_rfl) ?_
 obtain ⟨x50,s51,s52,hx53,hm54⟩:=bind3E hm12; clear hm12
 refine (law16_ch.ok hS47 hx53).mono ?_
 rintro _ w55 ⟨rfl,hS57⟩; clear hS47
 refine ⟨⟨_,hS57⟩,?_⟩
 intro a56 hF58; clear hF48
 refine any_many 2 [(6,some (nI (IntKind.i64.wrap (2 * x50)))),(7,some (nI (IntKind.i64.wrap ((IntKind.i64.wrap (2 * x50))+1))))] [1,3,11,15,19,20,21,22] #[true,true,true,true,true,true,true,true,false,false,false,false,false,false] (by rfl) hF58 (by kernel_rfl) (by kernel_rfl) (by exact ⟨fun wS hw=>by kernel_rfl,fun wS hw=>by kernel_rfl,trivial⟩) (fun _ _ _ _ _ h=>h) ⟨_,hS57⟩ (l':=[(19,nI (IntKind.i64.wrap ((IntKind.i64.wrap (2 * x50))+1))),(15,nP z18 0),(1,nP z17 0)]) (by kernel_rfl) ?_
 intro a60 hF59; clear hF58
 have hS61:=hS57.pick1
 clear hS57
 refine any_call 8 #[true,true,true,true,true,true,true,true,true,false,false,false,false,false] 28 #[nP z18 0,nI (IntKind.i64.wrap ((IntKind.i64.wrap (2 * x50))+1)),nI 6] hF59 rfl (by kernel_rfl) rfl rfl (by kernel_rfl) rfl (by kernel_rfl) (fun w=>by kernel_rfl) (by kernel_rfl) ?_
 obtain ⟨x62,x63,s64,hx65,hm66⟩:=bind3E hm54; clear hm54
 refine (send_Try.ok hS61 hx65).mono ?_
 rintro _ w67 ⟨rfl,hS69⟩; clear hS61
 refine ⟨⟨_,hS69.pick1⟩,?_⟩
 intro a68 hF70; clear hF59
 refine any_many 5 [(9,some (.tuple #[nI x62,nI x63])),(10,some (nI x62)),(11,some (nI x63)),(12,some (nI x62)),(13,some (nI x63))] [1,3] #[true,true,true,true,true,true,true,true,true,true,true,true,true,true] (by rfl) hF70 (by kernel_rfl) (by kernel_rfl) (by exact ⟨fun wS hw=>by kernel_rfl,fun wS hw=>by kernel_rfl,fun wS hw=>by kernel_rfl,fun wS hw=>by kernel_rfl,fun wS hw=>by kernel_rfl,trivial⟩) (fun _ _ _ _ _ h=>h) ⟨_,hS69.pick1⟩ (l':=[(3,nI x63),(1,nP z17 0)]) (by kernel_rfl) ?_
 intro a72 hF71; clear hF70
 refine any_done (by kernel_rfl) ?_
 refine thenN (wp_seq ?_)
 have hS73:=hS69.pick1
 clear hS69
 have hS74:=hS73.drew; clear hS73
 refine any_start (fun wS=>∃ qs,St w0 F0 (BlkP z17 77 #[nP z18 0,nP z20 0,.slice p33 L9.length c34,.slice p37 L10.length c38]::qs) wS) 16 #[false,false,false,false,false,false,false,false,false,false,false,false,false,false,false,false] (by kernel_rfl) (by kernel_rfl) (by kernel_rfl) ?_
 refine any_many 5 [(0,some (nP z17 0)),(1,some (nP z17 0)),(2,some (nP z17 0)),(3,some (nP z18 0)),(4,some (nP z17 0))] [1,3,4,5,6,23,27,28,29,30,31,32,33,34,35] #[true,true,true,true,true,false,false,false,false,false,false,false,false,false,false,false] (by rfl) hF71 (by kernel_rfl) (by kernel_rfl) (by exact ⟨fun wS hw=>by kernel_rfl,fun wS hw=>by kernel_rfl,fun wS hw=>by kernel_rfl,fun wS hw=>hw.elim fun qs hw=>run_loadV rfl rfl (run_loadS rfl rfl (hw.cell 0 rfl 0 rfl)),fun wS hw=>by kernel_rfl,trivial⟩) (fun _ _ _ _ _ h=>h) ⟨_,hS74⟩ (l':=[(28,nP z17 0),(27,nP z18 0),(3,nI x63),(1,nP z17 0)]) (by kernel_rfl) ?_
 intro a76 hF75; clear hF71
 refine any_call 5 #[true,true,true,true,true,true,false,false,false,false,false,false,false,false,false,false] 44 #[nP z17 0,nI 0] hF75 rfl (by kernel_rfl) rfl rfl (by kernel_rfl) rfl (by kernel_rfl) (fun w=>by kernel_rfl) (by kernel_rfl) ?_
 obtain ⟨x77,s78,s79,hx80,hm81⟩:=bind3E hm66; clear hm66
 refine (law16_ch.ok hS74 hx80).mono ?_
 rintro _ w82 ⟨rfl,hS84⟩; clear hS74
 refine ⟨⟨_,hS84⟩,?_⟩
 intro a83 hF85; clear hF75
 refine any_many 2 [(6,some (nI (IntKind.i64.wrap (2 * x77)))),(7,some (nI (IntKind.i64.wrap ((IntKind.i64.wrap (2 * x77))+1))))] [1,3,4,5,6,23,27,31,32,33,34,35] #[true,true,true,true,true,true,true,true,false,false,false,false,false,false,false,false] (by rfl) hF85 (by kernel_rfl) (by kernel_rfl) (by exact ⟨fun wS hw=>by kernel_rfl,fun wS hw=>by kernel_rfl,trivial⟩) (fun _ _ _ _ _ h=>h) ⟨_,hS84⟩ (l':=[(31,nI (IntKind.i64.wrap ((IntKind.i64.wrap (2 * x77))+1))),(27,nP z18 0),(3,nI x63),(1,nP z17 0)]) (by kernel_rfl) ?_
 intro a87 hF86; clear hF85
 have hS88:=hS84.pick1
 clear hS84
 refine any_call 8 #[true,true,true,true,true,true,true,true,true,false,false,false,false,false,false,false] 45 #[nP z18 0,nI (IntKind.i64.wrap ((IntKind.i64.wrap (2 * x77))+1))] hF86 rfl (by kernel_rfl) rfl rfl (by kernel_rfl) rfl (by kernel_rfl) (fun w=>by kernel_rfl) (by kernel_rfl) ?_
 obtain ⟨x89,x90,x91,s92,hx93,hm94⟩:=bind4E hm81; clear hm81
 refine (take_Try.ok hS88 hx93).mono ?_
 rintro _ w95 ⟨rfl,hS97⟩; clear hS88
 refine ⟨⟨_,hS97.pick1⟩,?_⟩
 intro a96 hF98; clear hF86
 refine any_many 7 [(9,some (.tuple #[nI x89,nI x90,nI x91])),(10,some (nI x89)),(11,some (nI x90)),(12,some (nI x91)),(13,some (nI x89)),(14,some (nI x90)),(15,some (nI x91))] [1,3,4,5,6] #[true,true,true,true,true,true,true,true,true,true,true,true,true,true,true,true] (by rfl) hF98 (by kernel_rfl) (by kernel_rfl) (by exact ⟨fun wS hw=>by kernel_rfl,fun wS hw=>by kernel_rfl,fun wS hw=>by kernel_rfl,fun wS hw=>by kernel_rfl,fun wS hw=>by kernel_rfl,fun wS hw=>by kernel_rfl,fun wS hw=>by kernel_rfl,trivial⟩) (fun _ _ _ _ _ h=>h) ⟨_,hS97.pick1⟩ (l':=[(6,nI x91),(5,nI x90),(4,nI x89),(3,nI x63),(1,nP z17 0)]) (by kernel_rfl) ?_
 intro a100 hF99; clear hF98
 refine any_done (by kernel_rfl) ?_
 refine thenN (wp_seq ?_)
 refine joinQ (fun aI wI=>∃ (y101:Bool),Fr 58 aI [(0,.bool (y101))]∧St w0 F0 (ps) wI∧law16_awake.j1 y101=some r0) ?_ ?_
 rotate_left
 · rintro a103 w104 ⟨y101,hF105,hS106,hm107⟩
   clear hF99 hS97 hm94
   unfold law16_awake.j1 at hm107
   refine thenN ?_
   refine wp_ret ?_
   obtain rfl:=Option.some.inj hm107
   refine ev_ret hF105 [0] (.bool (y101)) rfl rfl rfl ?_
   exact ⟨rfl,hS106⟩
 · skip
   refine wp_region_lit ?_
   refine ev_runs 3 hF99 (l':=[(38,.bool (x63 == 1)),(37,.bool (x63 == 1)),(36,nI x63),(6,nI x91),(5,nI x90),(4,nI x89),(3,nI x63),(1,nP z17 0)]) (w':=w95) (by kernel_rfl) ?_
   intro a111 hF110; clear hF99
   cases hc112:(x63 == 1)
   case true =>
    rw [hc112] at hF110
    have hm113:=ifYes hc112 hm94; clear hm94
    refine ev_runs 4 hF110 (l':=[(42,.bool (x89 == 6)),(41,.bool (x89 == 6)),(40,.bool (x89 == 6)),(39,nI x89),(38,.bool true),(37,.bool true),(36,nI x63),(6,nI x91),(5,nI x90),(4,nI x89),(3,nI x63),(1,nP z17 0)]) (w':=w95) (by kernel_rfl) ?_
    intro a115 hF114; clear hF110
    cases hc116:(x89 == 6)
    case true =>
     rw [hc116] at hF114
     have hm117:=ifYes hc116 hm113; clear hm113
     refine ev_runs 4 hF114 (l':=[(46,.bool (x90 == (-1))),(45,.bool (x90 == (-1))),(44,.bool (x90 == (-1))),(43,nI x90),(42,.bool true),(41,.bool true),(40,.bool true),(39,nI x89),(38,.bool true),(37,.bool true),(36,nI x63),(6,nI x91),(5,nI x90),(4,nI x89),(3,nI x63),(1,nP z17 0)]) (w':=w95) (by kernel_rfl) ?_
     intro a119 hF118; clear hF114
     cases hc120:(x90 == (-1))
     case true =>
      rw [hc120] at hF118
      have hm121:=ifYes hc120 hm117; clear hm117
      refine ev_runs 4 hF118 (l':=[(50,.bool (x91 == 1)),(49,.bool (x91 == 1)),(48,.bool (x91 == 1)),(47,nI x91),(46,.bool true),(45,.bool true),(44,.bool true),(43,nI x90),(42,.bool true),(41,.bool true),(40,.bool true),(39,nI x89),(38,.bool true),(37,.bool true),(36,nI x63),(6,nI x91),(5,nI x90),(4,nI x89),(3,nI x63),(1,nP z17 0)]) (w':=w95) (by kernel_rfl) ?_
      intro a123 hF122; clear hF118
      cases hc124:(x91 == 1)
      case true =>
       rw [hc124] at hF122
       have hm125:=ifYes hc124 hm121; clear hm121
       refine ev_runs 3 hF122 (l':=[(53,nP z17 0),(52,nP z17 0),(51,nP z17 0),(50,.bool true),(49,.bool true),(48,.bool true),(47,nI x91),(46,.bool true),(45,.bool true),(44,.bool true),(43,nI x90),(42,.bool true),(41,.bool true),(40,.bool true),(39,nI x89),(38,.bool true),(37,.bool true),(36,nI x63),(6,nI x91),(5,nI x90),(4,nI x89),(3,nI x63),(1,nP z17 0)]) (w':=w95) (by kernel_rfl) ?_
       intro a127 hF126; clear hF122
       refine ev_one (nP z18 0) w95 hF126 (by kernel_rfl) rfl (by kernel_rfl) (run_loadV rfl rfl (run_loadS rfl rfl (hS97.cell 1 rfl 0 rfl))) (l':=[(54,nP z18 0),(53,nP z17 0),(52,nP z17 0),(51,nP z17 0),(50,.bool true),(49,.bool true),(48,.bool true),(47,nI x91),(46,.bool true),(45,.bool true),(44,.bool true),(43,nI x90),(42,.bool true),(41,.bool true),(40,.bool true),(39,nI x89),(38,.bool true),(37,.bool true),(36,nI x63),(6,nI x91),(5,nI x90),(4,nI x89),(3,nI x63),(1,nP z17 0)]) (by kernel_rfl) ?_
       intro a129 hF128; clear hF126
       refine ev_call 46 #[nP z18 0,nI 0] hF128 rfl rfl (by kernel_rfl) rfl (by kernel_rfl) (fun w=>by kernel_rfl) ?_
       obtain ⟨y130,s131,hx132,hm133⟩:=bind2E hm125; clear hm125
       refine (take_Ready.ok hS97 hx132).mono ?_
       rintro _ w134 ⟨rfl,hS136⟩ a135 hF137; clear hF128 hS97
       refine ev_runK 3 hF137 [0] (l':=[(0,.bool (!(y130)))]) (w':=w134) (by kernel_rfl) ?_
       intro a139 hF138; clear hF137
       refine wpList_nil ?_
       have hS140:=hS136.drop.drop.drop.drop.drop
       clear hS136
       exact thenN ⟨!(y130),hF138,hS140,hm133⟩
      rw [hc124] at hF122
      have hm141:=ifNot hc124 hm121; clear hm121
      refine ev_runK 8 hF122 [0] (l':=[(0,.bool false)]) (w':=w95) (by kernel_rfl) ?_
      intro a143 hF142; clear hF122
      refine wpList_nil ?_
      have hS144:=hS97.drop.drop.drop.drop.drop
      clear hS97
      exact thenN ⟨false,hF142,hS144,hm141⟩
     rw [hc120] at hF118
     have hm145:=ifNot hc120 hm117; clear hm117
     refine ev_runK 12 hF118 [0] (l':=[(0,.bool false)]) (w':=w95) (by kernel_rfl) ?_
     intro a147 hF146; clear hF118
     refine wpList_nil ?_
     have hS148:=hS97.drop.drop.drop.drop.drop
     clear hS97
     exact thenN ⟨false,hF146,hS148,hm145⟩
    rw [hc116] at hF114
    have hm149:=ifNot hc116 hm113; clear hm113
    refine ev_runK 16 hF114 [0] (l':=[(0,.bool false)]) (w':=w95) (by kernel_rfl) ?_
    intro a151 hF150; clear hF114
    refine wpList_nil ?_
    have hS152:=hS97.drop.drop.drop.drop.drop
    clear hS97
    exact thenN ⟨false,hF150,hS152,hm149⟩
   rw [hc112] at hF110
   have hm153:=ifNot hc112 hm94; clear hm94
   refine ev_runK 20 hF110 [0] (l':=[(0,.bool false)]) (w':=w95) (by kernel_rfl) ?_
   intro a155 hF154; clear hF110
   refine wpList_nil ?_
   have hS156:=hS97.drop.drop.drop.drop.drop
   clear hS97
   exact thenN ⟨false,hF154,hS156,hm153⟩
end Go.Proofs.YtgejcjcpchofiaaGreat
namespace Go.Proofs.YtgejcjcpchofiaaGreat
open Go.RowKit
set_option linter.unusedVariables false
def TakeOnce.j4 (y141:Bool):Option (Bool):=some (y141)
def TakeOnce.j3 (k:Nat) (L9:List Int) (L10:List Int) (x46:Int) (x74:Int) (x89:Int) (x90:Int) (x91:Int) (x109:Int) (x110:Int) (s121:HSt) (s122:HSt) (x123:Int) (x124:Int) (x125:Int) (x126:Int) (x127:Int) (x128:Int) (x129:Int) (x130:Int) (x131:Int) (x132:Int) (x133:Int):Option (Bool):=(if (x89 == (IntKind.i64.wrap (x46+(IntKind.i64.wrap (2 * x74))))) then bind3 (law16_gor.m k s121 s122 L9 L10 0) fun x157 s158 s159=>(if (x90 == x157) then (if (x91 == 1) then (if (x109 == (-1)) then (if (x110 == 0) then (if (x133 == 0) then (if (x125 == (IntKind.i64.wrap (20+x74))) then (if (x126 == 0) then TakeOnce.j4 (x127 == 0) else TakeOnce.j4 false) else TakeOnce.j4 false) else TakeOnce.j4 false) else TakeOnce.j4 false) else TakeOnce.j4 false) else TakeOnce.j4 false) else TakeOnce.j4 false) else TakeOnce.j4 false)
def TakeOnce.j2 (k:Nat) (L9:List Int) (L10:List Int) (x46:Int) (s51:HSt) (s52:HSt) (x73:Int) (x74:Int):Option (Bool):=(if (inR x74 L9.length) then bind4 (take_Try.m k s51 (IntKind.i64.wrap ((IntKind.i64.wrap (2 * (atI L9 x74)))+1))) fun x89 x90 x91 s92=>(if (inR x73 L9.length) then bind4 (take_Try.m k s92 (IntKind.i64.wrap ((IntKind.i64.wrap (2 * (atI L9 x73)))+1))) fun x108 x109 x110 s111=>bind3 (law16_gor.m k s111 s52 L9 L10 0) fun x250 s251 s252=>bind3 (view_Gor.m k s251 x250) fun q260 x261 s262=>TakeOnce.j3 k L9 L10 x46 x74 x89 x90 x91 x109 x110 s262 s252 q260.id q260.status q260.pc q260.a q260.b q260.c q260.d q260.e q260.f q260.sudogs x261 else none) else none)
def TakeOnce.j1 (i1:Bool) (k:Nat) (L9:List Int) (L10:List Int) (x46:Int) (s51:HSt) (s52:HSt) (y53:Bool):Option (Bool):=(if (y53) then some (false) else (if (i1) then TakeOnce.j2 k L9 L10 x46 s51 s52 0 1 else TakeOnce.j2 k L9 L10 x46 s51 s52 1 0))
def TakeOnce.m (k:Nat) (i0:Int) (i1:Bool):Option (Bool):=bind4 (law16_made.m k [0,0] 0) fun s7 s8 L9 L10=>bind1 (some (Int.tmod i0 1099511627776)) fun x46=>bind1 (law16_awake.m k ) fun y342=>(if (!(y342)) then TakeOnce.j1 i1 k L9 L10 x46 s7 s8 true else (if (inR (0:Int) L9.length) then (if (inR (1:Int) L9.length) then bind3 (law16_gor.m k s7 s8 L9 L10 0) fun x368 s369 s370=>bind3 (law16_wait.m k s369 s370 L9 L10 x368 [atI L9 (0:Int),atI L9 (1:Int)] [true,true] x46 20) fun y384 s385 s386=>TakeOnce.j1 i1 k L9 L10 x46 s385 s386 (!(y384)) else none) else none))
set_option maxRecDepth 100000 in
set_option maxHeartbeats 40000000 in
theorem TakeOnce.ok {w0 w:World} {F0:List Nat} {ps:List Piece} {k:Nat} {i0:Int} {i1:Bool} {r0:Bool} (hS:St w0 F0 (ps) w) (hm:TakeOnce.m k i0 i1=some r0) :
    Calls Tryz.prog 13 #[nI i0,.bool (i1)] w fun e w'=>e=.returned (.bool r0)∧St w0 F0 (ps) w':=by
 refine ev_enterL 142 [nI i0,.bool (i1)] Tryz.func13 rfl rfl (by simp) ?_
 intro a hF
 have hF0:Fr 142 a [(0,nI i0),(1,.bool (i1))]:=hF; clear hF
 unfold TakeOnce.m at hm
 refine wp_seq (wp_region_lit ?_)
 refine ev_runK 1 hF0 [0,1] (l':=[(0,nI i0),(1,.bool (i1))]) (w':=w) (by kernel_rfl) ?_
 intro a2 hF1; clear hF0
 refine wpList_nil (thenN (wp_seq (wp_region_lit ?_)))
 refine ev_runs 1 hF1 (l':=[(16,.slice (some ⟨w.heap.size,0,none⟩) 2 2),(0,nI i0),(1,.bool (i1))]) (w':=w.alloc (.cells #[nI 0,nI 0] 3)) (by kernel_rfl) ?_
 intro a4 hF3; clear hF1
 have hS6:St w0 F0 (RowP (.slice (some ⟨w.heap.size,0,none⟩) 2 2) [0,0]::ps) (w.alloc (.cells #[nI 0,nI 0] 3)):=St.lit hS [0,0] (by unfold maxLen; simp)
 refine ev_call 42 #[.slice (some ⟨w.heap.size,0,none⟩) 2 2,nI 0] hF3 rfl rfl (by kernel_rfl) rfl (by kernel_rfl) (fun w=>by kernel_rfl) ?_
 obtain ⟨s7,s8,L9,L10,hx11,hm12⟩:=bind4E hm; clear hm
 refine (law16_made.ok hS6 hx11).mono ?_
 rintro _ w13 ⟨z17,z18,z19,z20,z21,z22,z23,z24,z25,z26,rfl,hS15⟩ a14 hF16; clear hF3 hS6
 have hS32:St w0 F0 (RowP (.slice (some ⟨w.heap.size,0,none⟩) 2 2) [0,0]::BlkP z17 77 #[nP z18 0,nP z20 0,z25,z26]::HeapP z18 z19 s7::RHeapP z20 z21 z22 z23 z24 s8::RowP (z25) L9::RowP (z26) L10::ps) w13:=hS15
 clear hS15
 obtain ⟨hl36,p33,c34,rfl,hp35⟩:=St.shape hS32 4 rfl
 obtain ⟨hl40,p37,c38,rfl,hp39⟩:=St.shape hS32 5 rfl
 refine ev_runK 1 hF16 [0,1,5] (l':=[(5,nP z17 0),(0,nI i0),(1,.bool (i1))]) (w':=w13) (by kernel_rfl) ?_
 intro a42 hF41; clear hF16
 refine wpList_nil ?_
 have hS43:=hS32.drop
 clear hS32
 refine thenN (wp_seq (wp_region_lit ?_))
 refine ev_runs 3 hF41 (l':=[(0,nI (Int.tmod i0 1099511627776)),(19,nI (Int.tmod i0 1099511627776)),(18,nI i0),(5,nP z17 0),(1,.bool (i1))]) (w':=w13) (by kernel_rfl) ?_
 intro a45 hF44; clear hF41
 obtain ⟨x46,hx47,hm48⟩:=bind1E hm12; clear hm12
 have hF49:=hF44; rw [Option.some.inj hx47] at hF49; clear hF44
 refine wpList_nil ?_
 have hF50:=hF49.keep [0,1,5]
 clear hF49
 refine thenN (wp_seq (wp_seq ?_))
 refine joinQ (fun aI wI=>∃ (s51:HSt) (s52:HSt) (y53:Bool),Fr 142 aI [(47,.bool (y53)),(0,nI x46),(5,nP z17 0),(1,.bool (i1))]∧St w0 F0 (BlkP z17 77 #[nP z18 0,nP z20 0,.slice p33 L9.length c34,.slice p37 L10.length c38]::RowP (.slice p33 L9.length c34) L9::HeapP z18 z19 s51::RHeapP z20 z21 z22 z23 z24 s52::RowP (.slice p37 L10.length c38) L10::ps) wI∧TakeOnce.j1 i1 k L9 L10 x46 s51 s52 y53=some r0) ?_ ?_
 rotate_left
 · rintro a55 w56 ⟨s51,s52,y53,hF57,hS58,hm59⟩
   clear hF50 hS43 hm48
   unfold TakeOnce.j1 at hm59
   refine thenN ?_
   cases hc61:(y53)
   case true =>
    rw [hc61] at hF57
    have hm62:=ifYes hc61 hm59; clear hm59
    refine ev_condT hF57 rfl rfl ?_
    refine wp_seq (wp_region_lit ?_)
    refine ev_runK 1 hF57 [4] (l':=[(4,.bool false)]) (w':=w56) (by kernel_rfl) ?_
    intro a64 hF63; clear hF57
    refine wpList_nil ?_
    have hS65:=hS58.drop.drop.drop.drop.drop
    clear hS58
    refine thenN ?_
    refine wp_ret ?_
    refine thenR ?_
    obtain rfl:=Option.some.inj hm62
    refine ev_ret hF63 [4] (.bool false) rfl rfl rfl ?_
    exact ⟨rfl,hS65⟩
   rw [hc61] at hF57
   have hm67:=ifNot hc61 hm59; clear hm59
   refine ev_condF hF57 rfl rfl ?_
   refine wp_skip ?_
   have hF68:=hF57.keep [0,1,5]
   clear hF57
   refine thenN (wp_seq (wp_region_lit ?_))
   refine ev_runs 2 hF68 (l':=[(7,nI 1),(6,nI 0),(0,nI x46),(5,nP z17 0),(1,.bool (i1))]) (w':=w56) (by kernel_rfl) ?_
   intro a70 hF69; clear hF68
   refine wpList_nil (thenN (wp_seq (wp_seq (wp_region_lit ?_))))
   refine ev_runK 1 hF69 [0,5,6,7,48] (l':=[(48,.bool (i1)),(7,nI 1),(6,nI 0),(0,nI x46),(5,nP z17 0)]) (w':=w56) (by kernel_rfl) ?_
   intro a72 hF71; clear hF69
   refine wpList_nil (thenN ?_)
   refine joinQ (fun aI wI=>∃ (x73:Int) (x74:Int),Fr 142 aI [(7,nI x73),(6,nI x74),(0,nI x46),(5,nP z17 0)]∧St w0 F0 (BlkP z17 77 #[nP z18 0,nP z20 0,.slice p33 L9.length c34,.slice p37 L10.length c38]::RowP (.slice p33 L9.length c34) L9::HeapP z18 z19 s51::RHeapP z20 z21 z22 z23 z24 s52::RowP (.slice p37 L10.length c38) L10::ps) wI∧TakeOnce.j2 k L9 L10 x46 s51 s52 x73 x74=some r0) ?_ ?_
   rotate_left
   · rintro a76 w77 ⟨x73,x74,hF78,hS79,hm80⟩
     clear hF71 hS58 hm67
     unfold TakeOnce.j2 at hm80
     refine thenN (wp_seq ?_)
     obtain ⟨hc82,hm83⟩:=ifTE hm80; clear hm80
     obtain ⟨g84,rfl⟩:=hp35.resolve_left (by have:=inR_spec hc82; omega)
     have hS85:=hS79.drew; clear hS79
     refine any_start (fun wS=>∃ qs,St w0 F0 (BlkP z17 77 #[nP z18 0,nP z20 0,nS g84 L9 c34,.slice p37 L10.length c38]::RowP (nS g84 L9 c34) L9::qs) wS) 21 #[false,false,false,false,false,false,false,false,false,false,false,false,false,false,false,false,false,false,false,false,false] (by kernel_rfl) (by kernel_rfl) (by kernel_rfl) ?_
     refine any_many 13 [(0,some (nP z17 0)),(1,some (nP z17 0)),(2,some (nP z17 0)),(3,some (nP z18 0)),(4,some (nP z17 0)),(5,some (nP z17 0)),(6,some (nP z17 2)),(7,some (nS g84 L9 c34)),(8,some (nI x74)),(9,some (nP g84 (x74.toNat))),(10,some (nI (atI L9 x74))),(11,some (nI (IntKind.i64.wrap (2 * (atI L9 x74))))),(12,some (nI (IntKind.i64.wrap ((IntKind.i64.wrap (2 * (atI L9 x74)))+1))))] [0,5,6,7,8,9,10,49,53,62,63,64,65,66] #[true,true,true,true,true,true,true,true,true,true,true,true,true,false,false,false,false,false,false,false,false] (by rfl) hF78 (by kernel_rfl) (by kernel_rfl) (by exact ⟨fun wS hw=>by kernel_rfl,fun wS hw=>by kernel_rfl,fun wS hw=>by kernel_rfl,fun wS hw=>hw.elim fun qs hw=>run_loadV rfl rfl (run_loadS rfl rfl (hw.cell 0 rfl 0 rfl)),fun wS hw=>by kernel_rfl,fun wS hw=>by kernel_rfl,fun wS hw=>by kernel_rfl,fun wS hw=>hw.elim fun qs hw=>run_loadV rfl rfl (run_loadS rfl rfl (hw.cell 0 rfl 2 rfl)),fun wS hw=>by kernel_rfl,fun wS hw=>run_idx rfl rfl rfl rfl rfl (inR_spec hc82).1 (inR_spec hc82).2 _,fun wS hw=>run_load1 rfl rfl rfl (hw.elim fun qs hw=>hw.atI 1 rfl hc82),fun wS hw=>by kernel_rfl,fun wS hw=>by kernel_rfl,trivial⟩) (fun _ _ _ _ _ h=>h) ⟨_,hS85⟩ (l':=[(62,nI (IntKind.i64.wrap ((IntKind.i64.wrap (2 * (atI L9 x74)))+1))),(53,nP z18 0),(7,nI x73),(6,nI x74),(0,nI x46),(5,nP z17 0)]) (by kernel_rfl) ?_
     intro a87 hF86; clear hF78
     have hS88:=hS85.pick2
     clear hS85
     refine any_call 13 #[true,true,true,true,true,true,true,true,true,true,true,true,true,true,false,false,false,false,false,false,false] 45 #[nP z18 0,nI (IntKind.i64.wrap ((IntKind.i64.wrap (2 * (atI L9 x74)))+1))] hF86 rfl (by kernel_rfl) rfl rfl (by kernel_rfl) rfl (by kernel_rfl) (fun w=>by kernel_rfl) (by kernel_rfl) ?_
     obtain ⟨x89,x90,x91,s92,hx93,hm94⟩:=bind4E hm83; clear hm83
     refine (take_Try.ok hS88 hx93).mono ?_
     rintro _ w95 ⟨rfl,hS97⟩; clear hS88
     refine ⟨⟨_,hS97.pick2.pick2⟩,?_⟩
     intro a96 hF98; clear hF86
     refine any_many 7 [(14,some (.tuple #[nI x89,nI x90,nI x91])),(15,some (nI x89)),(16,some (nI x90)),(17,some (nI x91)),(18,some (nI x89)),(19,some (nI x90)),(20,some (nI x91))] [0,5,6,7,8,9,10] #[true,true,true,true,true,true,true,true,true,true,true,true,true,true,true,true,true,true,true,true,true] (by rfl) hF98 (by kernel_rfl) (by kernel_rfl) (by exact ⟨fun wS hw=>by kernel_rfl,fun wS hw=>by kernel_rfl,fun wS hw=>by kernel_rfl,fun wS hw=>by kernel_rfl,fun wS hw=>by kernel_rfl,fun wS hw=>by kernel_rfl,fun wS hw=>by kernel_rfl,trivial⟩) (fun _ _ _ _ _ h=>h) ⟨_,hS97.pick2.pick2⟩ (l':=[(10,nI x91),(9,nI x90),(8,nI x89),(7,nI x73),(6,nI x74),(0,nI x46),(5,nP z17 0)]) (by kernel_rfl) ?_
     intro a100 hF99; clear hF98
     refine any_done (by kernel_rfl) ?_
     refine thenN (wp_seq ?_)
     obtain ⟨hc101,hm102⟩:=ifTE hm94; clear hm94
     have hS103:=hS97.pick2.pick2
     clear hS97
     have hS104:=hS103.drew; clear hS103
     refine any_start (fun wS=>∃ qs,St w0 F0 (BlkP z17 77 #[nP z18 0,nP z20 0,nS g84 L9 c34,.slice p37 L10.length c38]::RowP (nS g84 L9 c34) L9::qs) wS) 21 #[false,false,false,false,false,false,false,false,false,false,false,false,false,false,false,false,false,false,false,false,false] (by kernel_rfl) (by kernel_rfl) (by kernel_rfl) ?_
     refine any_many 13 [(0,some (nP z17 0)),(1,some (nP z17 0)),(2,some (nP z17 0)),(3,some (nP z18 0)),(4,some (nP z17 0)),(5,some (nP z17 0)),(6,some (nP z17 2)),(7,some (nS g84 L9 c34)),(8,some (nI x73)),(9,some (nP g84 (x73.toNat))),(10,some (nI (atI L9 x73))),(11,some (nI (IntKind.i64.wrap (2 * (atI L9 x73))))),(12,some (nI (IntKind.i64.wrap ((IntKind.i64.wrap (2 * (atI L9 x73)))+1))))] [0,5,6,8,9,10,12,13,67,71,80,81,82,83,84] #[true,true,true,true,true,true,true,true,true,true,true,true,true,false,false,false,false,false,false,false,false] (by rfl) hF99 (by kernel_rfl) (by kernel_rfl) (by exact ⟨fun wS hw=>by kernel_rfl,fun wS hw=>by kernel_rfl,fun wS hw=>by kernel_rfl,fun wS hw=>hw.elim fun qs hw=>run_loadV rfl rfl (run_loadS rfl rfl (hw.cell 0 rfl 0 rfl)),fun wS hw=>by kernel_rfl,fun wS hw=>by kernel_rfl,fun wS hw=>by kernel_rfl,fun wS hw=>hw.elim fun qs hw=>run_loadV rfl rfl (run_loadS rfl rfl (hw.cell 0 rfl 2 rfl)),fun wS hw=>by kernel_rfl,fun wS hw=>run_idx rfl rfl rfl rfl rfl (inR_spec hc101).1 (inR_spec hc101).2 _,fun wS hw=>run_load1 rfl rfl rfl (hw.elim fun qs hw=>hw.atI 1 rfl hc101),fun wS hw=>by kernel_rfl,fun wS hw=>by kernel_rfl,trivial⟩) (fun _ _ _ _ _ h=>h) ⟨_,hS104⟩ (l':=[(80,nI (IntKind.i64.wrap ((IntKind.i64.wrap (2 * (atI L9 x73)))+1))),(71,nP z18 0),(10,nI x91),(9,nI x90),(8,nI x89),(6,nI x74),(0,nI x46),(5,nP z17 0)]) (by kernel_rfl) ?_
     intro a106 hF105; clear hF99
     have hS107:=hS104.pick2
     clear hS104
     refine any_call 13 #[true,true,true,true,true,true,true,true,true,true,true,true,true,true,false,false,false,false,false,false,false] 45 #[nP z18 0,nI (IntKind.i64.wrap ((IntKind.i64.wrap (2 * (atI L9 x73)))+1))] hF105 rfl (by kernel_rfl) rfl rfl (by kernel_rfl) rfl (by kernel_rfl) (fun w=>by kernel_rfl) (by kernel_rfl) ?_
     obtain ⟨x108,x109,x110,s111,hx112,hm113⟩:=bind4E hm102; clear hm102
     refine (take_Try.ok hS107 hx112).mono ?_
     rintro _ w114 ⟨rfl,hS116⟩; clear hS107
     refine ⟨⟨_,hS116.pick2.pick2⟩,?_⟩
     intro a115 hF117; clear hF105
     refine any_many 7 [(14,some (.tuple #[nI x108,nI x109,nI x110])),(15,some (nI x108)),(16,some (nI x109)),(17,some (nI x110)),(18,some (nI x108)),(19,some (nI x109)),(20,some (nI x110))] [0,5,6,8,9,10,12,13] #[true,true,true,true,true,true,true,true,true,true,true,true,true,true,true,true,true,true,true,true,true] (by rfl) hF117 (by kernel_rfl) (by kernel_rfl) (by exact ⟨fun wS hw=>by kernel_rfl,fun wS hw=>by kernel_rfl,fun wS hw=>by kernel_rfl,fun wS hw=>by kernel_rfl,fun wS hw=>by kernel_rfl,fun wS hw=>by kernel_rfl,fun wS hw=>by kernel_rfl,trivial⟩) (fun _ _ _ _ _ h=>h) ⟨_,hS116.pick2.pick2⟩ (l':=[(13,nI x110),(12,nI x109),(10,nI x91),(9,nI x90),(8,nI x89),(6,nI x74),(0,nI x46),(5,nP z17 0)]) (by kernel_rfl) ?_
     intro a119 hF118; clear hF117
     refine any_done (by kernel_rfl) ?_
     refine thenN (wp_seq ?_)
     refine joinQ (fun aI wI=>∃ (g120:Nat) (s121:HSt) (s122:HSt) (x123:Int) (x124:Int) (x125:Int) (x126:Int) (x127:Int) (x128:Int) (x129:Int) (x130:Int) (x131:Int) (x132:Int) (x133:Int),Fr 142 aI [(15,nI x133),(14,nP g120 0),(13,nI x110),(12,nI x109),(10,nI x91),(9,nI x90),(8,nI x89),(6,nI x74),(0,nI x46),(5,nP z17 0)]∧St w0 F0 (BlkP g120 29 #[nI x123,nI x124,nI x125,nI x126,nI x127,nI x128,nI x129,nI x130,nI x131,nI x132]::HeapP z18 z19 s121::BlkP z17 77 #[nP z18 0,nP z20 0,nS g84 L9 c34,.slice p37 L10.length c38]::RHeapP z20 z21 z22 z23 z24 s122::RowP (nS g84 L9 c34) L9::RowP (.slice p37 L10.length c38) L10::ps) wI∧TakeOnce.j3 k L9 L10 x46 x74 x89 x90 x91 x109 x110 s121 s122 x123 x124 x125 x126 x127 x128 x129 x130 x131 x132 x133=some r0) ?_ ?_
     rotate_left
     · rintro a135 w136 ⟨g120,s121,s122,x123,x124,x125,x126,x127,x128,x129,x130,x131,x132,x133,hF137,hS138,hm139⟩
       clear hF118 hS116 hm113
       unfold TakeOnce.j3 at hm139
       refine thenN (wp_seq ?_)
       refine joinQ (fun aI wI=>∃ (y141:Bool),Fr 142 aI [(4,.bool (y141))]∧St w0 F0 (ps) wI∧TakeOnce.j4 y141=some r0) ?_ ?_
       rotate_left
       · rintro a143 w144 ⟨y141,hF145,hS146,hm147⟩
         clear hF137 hS138 hm139
         unfold TakeOnce.j4 at hm147
         refine thenN ?_
         refine wp_ret ?_
         obtain rfl:=Option.some.inj hm147
         refine ev_ret hF145 [4] (.bool (y141)) rfl rfl rfl ?_
         exact ⟨rfl,hS146⟩
       · skip
         refine wp_region_lit ?_
         refine ev_runs 7 hF137 (l':=[(101,.bool (x89 == (IntKind.i64.wrap (x46+(IntKind.i64.wrap (2 * x74)))))),(100,.bool (x89 == (IntKind.i64.wrap (x46+(IntKind.i64.wrap (2 * x74)))))),(99,nI (IntKind.i64.wrap (x46+(IntKind.i64.wrap (2 * x74))))),(98,nI (IntKind.i64.wrap (2 * x74))),(97,nI x74),(96,nI x46),(95,nI x89),(15,nI x133),(14,nP g120 0),(13,nI x110),(12,nI x109),(10,nI x91),(9,nI x90),(8,nI x89),(6,nI x74),(0,nI x46),(5,nP z17 0)]) (w':=w136) (by kernel_rfl) ?_
         intro a151 hF150; clear hF137
         cases hc152:(x89 == (IntKind.i64.wrap (x46+(IntKind.i64.wrap (2 * x74)))))
         case true =>
          rw [hc152] at hF150
          have hm153:=ifYes hc152 hm139; clear hm139
          refine ev_runs 2 hF150 (l':=[(103,nP z17 0),(102,nI x90),(101,.bool true),(100,.bool true),(99,nI (IntKind.i64.wrap (x46+(IntKind.i64.wrap (2 * x74))))),(98,nI (IntKind.i64.wrap (2 * x74))),(97,nI x74),(96,nI x46),(95,nI x89),(15,nI x133),(14,nP g120 0),(13,nI x110),(12,nI x109),(10,nI x91),(9,nI x90),(8,nI x89),(6,nI x74),(0,nI x46),(5,nP z17 0)]) (w':=w136) (by kernel_rfl) ?_
          intro a155 hF154; clear hF150
          have hS156:=hS138.pick5.pick5.pick5.pick4.pick5
          clear hS138
          refine ev_call 47 #[nP z17 0,nI 0] hF154 rfl rfl (by kernel_rfl) rfl (by kernel_rfl) (fun w=>by kernel_rfl) ?_
          obtain ⟨x157,s158,s159,hx160,hm161⟩:=bind3E hm153; clear hm153
          refine (law16_gor.ok hS156 hx160).mono ?_
          rintro _ w162 ⟨rfl,hS164⟩ a163 hF165; clear hF154 hS156
          refine ev_runs 3 hF165 (l':=[(107,.bool (x90 == x157)),(106,.bool (x90 == x157)),(105,.bool (x90 == x157)),(104,nI x157),(103,nP z17 0),(102,nI x90),(101,.bool true),(100,.bool true),(99,nI (IntKind.i64.wrap (x46+(IntKind.i64.wrap (2 * x74))))),(98,nI (IntKind.i64.wrap (2 * x74))),(97,nI x74),(96,nI x46),(95,nI x89),(15,nI x133),(14,nP g120 0),(13,nI x110),(12,nI x109),(10,nI x91),(9,nI x90),(8,nI x89),(6,nI x74),(0,nI x46),(5,nP z17 0)]) (w':=w162) (by kernel_rfl) ?_
          intro a167 hF166; clear hF165
          cases hc168:(x90 == x157)
          case true =>
           rw [hc168] at hF166
           have hm169:=ifYes hc168 hm161; clear hm161
           refine ev_runs 4 hF166 (l':=[(111,.bool (x91 == 1)),(110,.bool (x91 == 1)),(109,.bool (x91 == 1)),(108,nI x91),(107,.bool true),(106,.bool true),(105,.bool true),(104,nI x157),(103,nP z17 0),(102,nI x90),(101,.bool true),(100,.bool true),(99,nI (IntKind.i64.wrap (x46+(IntKind.i64.wrap (2 * x74))))),(98,nI (IntKind.i64.wrap (2 * x74))),(97,nI x74),(96,nI x46),(95,nI x89),(15,nI x133),(14,nP g120 0),(13,nI x110),(12,nI x109),(10,nI x91),(9,nI x90),(8,nI x89),(6,nI x74),(0,nI x46),(5,nP z17 0)]) (w':=w162) (by kernel_rfl) ?_
           intro a171 hF170; clear hF166
           cases hc172:(x91 == 1)
           case true =>
            rw [hc172] at hF170
            have hm173:=ifYes hc172 hm169; clear hm169
            refine ev_runs 4 hF170 (l':=[(115,.bool (x109 == (-1))),(114,.bool (x109 == (-1))),(113,.bool (x109 == (-1))),(112,nI x109),(111,.bool true),(110,.bool true),(109,.bool true),(108,nI x91),(107,.bool true),(106,.bool true),(105,.bool true),(104,nI x157),(103,nP z17 0),(102,nI x90),(101,.bool true),(100,.bool true),(99,nI (IntKind.i64.wrap (x46+(IntKind.i64.wrap (2 * x74))))),(98,nI (IntKind.i64.wrap (2 * x74))),(97,nI x74),(96,nI x46),(95,nI x89),(15,nI x133),(14,nP g120 0),(13,nI x110),(12,nI x109),(10,nI x91),(9,nI x90),(8,nI x89),(6,nI x74),(0,nI x46),(5,nP z17 0)]) (w':=w162) (by kernel_rfl) ?_
            intro a175 hF174; clear hF170
            cases hc176:(x109 == (-1))
            case true =>
             rw [hc176] at hF174
             have hm177:=ifYes hc176 hm173; clear hm173
             refine ev_runs 4 hF174 (l':=[(119,.bool (x110 == 0)),(118,.bool (x110 == 0)),(117,.bool (x110 == 0)),(116,nI x110),(115,.bool true),(114,.bool true),(113,.bool true),(112,nI x109),(111,.bool true),(110,.bool true),(109,.bool true),(108,nI x91),(107,.bool true),(106,.bool true),(105,.bool true),(104,nI x157),(103,nP z17 0),(102,nI x90),(101,.bool true),(100,.bool true),(99,nI (IntKind.i64.wrap (x46+(IntKind.i64.wrap (2 * x74))))),(98,nI (IntKind.i64.wrap (2 * x74))),(97,nI x74),(96,nI x46),(95,nI x89),(15,nI x133),(14,nP g120 0),(13,nI x110),(12,nI x109),(10,nI x91),(9,nI x90),(8,nI x89),(6,nI x74),(0,nI x46),(5,nP z17 0)]) (w':=w162) (by kernel_rfl) ?_
             intro a179 hF178; clear hF174
             cases hc180:(x110 == 0)
             case true =>
              rw [hc180] at hF178
              have hm181:=ifYes hc180 hm177; clear hm177
              refine ev_runs 4 hF178 (l':=[(123,.bool (x133 == 0)),(122,.bool (x133 == 0)),(121,.bool (x133 == 0)),(120,nI x133),(119,.bool true),(118,.bool true),(117,.bool true),(116,nI x110),(115,.bool true),(114,.bool true),(113,.bool true),(112,nI x109),(111,.bool true),(110,.bool true),(109,.bool true),(108,nI x91),(107,.bool true),(106,.bool true),(105,.bool true),(104,nI x157),(103,nP z17 0),(102,nI x90),(101,.bool true),(100,.bool true),(99,nI (IntKind.i64.wrap (x46+(IntKind.i64.wrap (2 * x74))))),(98,nI (IntKind.i64.wrap (2 * x74))),(97,nI x74),(96,nI x46),(95,nI x89),(15,nI x133),(14,nP g120 0),(13,nI x110),(12,nI x109),(10,nI x91),(9,nI x90),(8,nI x89),(6,nI x74),(0,nI x46),(5,nP z17 0)]) (w':=w162) (by kernel_rfl) ?_
              intro a183 hF182; clear hF178
              cases hc184:(x133 == 0)
              case true =>
               rw [hc184] at hF182
               have hm185:=ifYes hc184 hm181; clear hm181
               refine ev_runs 1 hF182 (l':=[(124,nP g120 2),(123,.bool true),(122,.bool true),(121,.bool true),(120,nI x133),(119,.bool true),(118,.bool true),(117,.bool true),(116,nI x110),(115,.bool true),(114,.bool true),(113,.bool true),(112,nI x109),(111,.bool true),(110,.bool true),(109,.bool true),(108,nI x91),(107,.bool true),(106,.bool true),(105,.bool true),(104,nI x157),(103,nP z17 0),(102,nI x90),(101,.bool true),(100,.bool true),(99,nI (IntKind.i64.wrap (x46+(IntKind.i64.wrap (2 * x74))))),(98,nI (IntKind.i64.wrap (2 * x74))),(97,nI x74),(96,nI x46),(95,nI x89),(15,nI x133),(14,nP g120 0),(13,nI x110),(12,nI x109),(10,nI x91),(9,nI x90),(8,nI x89),(6,nI x74),(0,nI x46),(5,nP z17 0)]) (w':=w162) (by kernel_rfl) ?_
               intro a187 hF186; clear hF182
               refine ev_one (nI x125) w162 hF186 (by kernel_rfl) rfl (by kernel_rfl) (run_loadV rfl rfl (run_loadS rfl rfl (hS164.cell 5 rfl 2 rfl))) (l':=[(125,nI x125),(124,nP g120 2),(123,.bool true),(122,.bool true),(121,.bool true),(120,nI x133),(119,.bool true),(118,.bool true),(117,.bool true),(116,nI x110),(115,.bool true),(114,.bool true),(113,.bool true),(112,nI x109),(111,.bool true),(110,.bool true),(109,.bool true),(108,nI x91),(107,.bool true),(106,.bool true),(105,.bool true),(104,nI x157),(103,nP z17 0),(102,nI x90),(101,.bool true),(100,.bool true),(99,nI (IntKind.i64.wrap (x46+(IntKind.i64.wrap (2 * x74))))),(98,nI (IntKind.i64.wrap (2 * x74))),(97,nI x74),(96,nI x46),(95,nI x89),(15,nI x133),(14,nP g120 0),(13,nI x110),(12,nI x109),(10,nI x91),(9,nI x90),(8,nI x89),(6,nI x74),(0,nI x46),(5,nP z17 0)]) (by kernel_rfl) ?_
               intro a189 hF188; clear hF186
               refine ev_runs 5 hF188 (l':=[(130,.bool (x125 == (IntKind.i64.wrap (20+x74)))),(129,.bool (x125 == (IntKind.i64.wrap (20+x74)))),(128,.bool (x125 == (IntKind.i64.wrap (20+x74)))),(127,nI (IntKind.i64.wrap (20+x74))),(126,nI x74),(125,nI x125),(124,nP g120 2),(123,.bool true),(122,.bool true),(121,.bool true),(120,nI x133),(119,.bool true),(118,.bool true),(117,.bool true),(116,nI x110),(115,.bool true),(114,.bool true),(113,.bool true),(112,nI x109),(111,.bool true),(110,.bool true),(109,.bool true),(108,nI x91),(107,.bool true),(106,.bool true),(105,.bool true),(104,nI x157),(103,nP z17 0),(102,nI x90),(101,.bool true),(100,.bool true),(99,nI (IntKind.i64.wrap (x46+(IntKind.i64.wrap (2 * x74))))),(98,nI (IntKind.i64.wrap (2 * x74))),(97,nI x74),(96,nI x46),(95,nI x89),(15,nI x133),(14,nP g120 0),(13,nI x110),(12,nI x109),(10,nI x91),(9,nI x90),(8,nI x89),(6,nI x74),(0,nI x46),(5,nP z17 0)]) (w':=w162) (by kernel_rfl) ?_
               intro a191 hF190; clear hF188
               cases hc192:(x125 == (IntKind.i64.wrap (20+x74)))
               case true =>
                rw [hc192] at hF190
                have hm193:=ifYes hc192 hm185; clear hm185
                refine ev_runs 1 hF190 (l':=[(131,nP g120 3),(130,.bool true),(129,.bool true),(128,.bool true),(127,nI (IntKind.i64.wrap (20+x74))),(126,nI x74),(125,nI x125),(124,nP g120 2),(123,.bool true),(122,.bool true),(121,.bool true),(120,nI x133),(119,.bool true),(118,.bool true),(117,.bool true),(116,nI x110),(115,.bool true),(114,.bool true),(113,.bool true),(112,nI x109),(111,.bool true),(110,.bool true),(109,.bool true),(108,nI x91),(107,.bool true),(106,.bool true),(105,.bool true),(104,nI x157),(103,nP z17 0),(102,nI x90),(101,.bool true),(100,.bool true),(99,nI (IntKind.i64.wrap (x46+(IntKind.i64.wrap (2 * x74))))),(98,nI (IntKind.i64.wrap (2 * x74))),(97,nI x74),(96,nI x46),(95,nI x89),(15,nI x133),(14,nP g120 0),(13,nI x110),(12,nI x109),(10,nI x91),(9,nI x90),(8,nI x89),(6,nI x74),(0,nI x46),(5,nP z17 0)]) (w':=w162) (by kernel_rfl) ?_
                intro a195 hF194; clear hF190
                refine ev_one (nP g120 3) w162 hF194 (by kernel_rfl) rfl (by kernel_rfl) (run_idxA (q:=0) rfl rfl rfl rfl rfl (by decide) (by decide) (by kernel_rfl) _) (l':=[(132,nP g120 3),(131,nP g120 3),(130,.bool true),(129,.bool true),(128,.bool true),(127,nI (IntKind.i64.wrap (20+x74))),(126,nI x74),(125,nI x125),(124,nP g120 2),(123,.bool true),(122,.bool true),(121,.bool true),(120,nI x133),(119,.bool true),(118,.bool true),(117,.bool true),(116,nI x110),(115,.bool true),(114,.bool true),(113,.bool true),(112,nI x109),(111,.bool true),(110,.bool true),(109,.bool true),(108,nI x91),(107,.bool true),(106,.bool true),(105,.bool true),(104,nI x157),(103,nP z17 0),(102,nI x90),(101,.bool true),(100,.bool true),(99,nI (IntKind.i64.wrap (x46+(IntKind.i64.wrap (2 * x74))))),(98,nI (IntKind.i64.wrap (2 * x74))),(97,nI x74),(96,nI x46),(95,nI x89),(15,nI x133),(14,nP g120 0),(13,nI x110),(12,nI x109),(10,nI x91),(9,nI x90),(8,nI x89),(6,nI x74),(0,nI x46),(5,nP z17 0)]) (by kernel_rfl) ?_
                intro a197 hF196; clear hF194
                refine ev_one (nI x126) w162 hF196 (by kernel_rfl) rfl (by kernel_rfl) (run_loadV rfl rfl (run_loadS rfl rfl (hS164.cell 5 rfl 3 rfl))) (l':=[(133,nI x126),(132,nP g120 3),(131,nP g120 3),(130,.bool true),(129,.bool true),(128,.bool true),(127,nI (IntKind.i64.wrap (20+x74))),(126,nI x74),(125,nI x125),(124,nP g120 2),(123,.bool true),(122,.bool true),(121,.bool true),(120,nI x133),(119,.bool true),(118,.bool true),(117,.bool true),(116,nI x110),(115,.bool true),(114,.bool true),(113,.bool true),(112,nI x109),(111,.bool true),(110,.bool true),(109,.bool true),(108,nI x91),(107,.bool true),(106,.bool true),(105,.bool true),(104,nI x157),(103,nP z17 0),(102,nI x90),(101,.bool true),(100,.bool true),(99,nI (IntKind.i64.wrap (x46+(IntKind.i64.wrap (2 * x74))))),(98,nI (IntKind.i64.wrap (2 * x74))),(97,nI x74),(96,nI x46),(95,nI x89),(15,nI x133),(14,nP g120 0),(13,nI x110),(12,nI x109),(10,nI x91),(9,nI x90),(8,nI x89),(6,nI x74),(0,nI x46),(5,nP z17 0)]) (by kernel_rfl) ?_
                intro a199 hF198; clear hF196
                refine ev_runs 3 hF198 (l':=[(136,.bool (x126 == 0)),(135,.bool (x126 == 0)),(134,.bool (x126 == 0)),(133,nI x126),(132,nP g120 3),(131,nP g120 3),(130,.bool true),(129,.bool true),(128,.bool true),(127,nI (IntKind.i64.wrap (20+x74))),(126,nI x74),(125,nI x125),(124,nP g120 2),(123,.bool true),(122,.bool true),(121,.bool true),(120,nI x133),(119,.bool true),(118,.bool true),(117,.bool true),(116,nI x110),(115,.bool true),(114,.bool true),(113,.bool true),(112,nI x109),(111,.bool true),(110,.bool true),(109,.bool true),(108,nI x91),(107,.bool true),(106,.bool true),(105,.bool true),(104,nI x157),(103,nP z17 0),(102,nI x90),(101,.bool true),(100,.bool true),(99,nI (IntKind.i64.wrap (x46+(IntKind.i64.wrap (2 * x74))))),(98,nI (IntKind.i64.wrap (2 * x74))),(97,nI x74),(96,nI x46),(95,nI x89),(15,nI x133),(14,nP g120 0),(13,nI x110),(12,nI x109),(10,nI x91),(9,nI x90),(8,nI x89),(6,nI x74),(0,nI x46),(5,nP z17 0)]) (w':=w162) (by kernel_rfl) ?_
                intro a201 hF200; clear hF198
                cases hc202:(x126 == 0)
                case true =>
                 rw [hc202] at hF200
                 have hm203:=ifYes hc202 hm193; clear hm193
                 refine ev_runs 1 hF200 (l':=[(137,nP g120 3),(136,.bool true),(135,.bool true),(134,.bool true),(133,nI x126),(132,nP g120 3),(131,nP g120 3),(130,.bool true),(129,.bool true),(128,.bool true),(127,nI (IntKind.i64.wrap (20+x74))),(126,nI x74),(125,nI x125),(124,nP g120 2),(123,.bool true),(122,.bool true),(121,.bool true),(120,nI x133),(119,.bool true),(118,.bool true),(117,.bool true),(116,nI x110),(115,.bool true),(114,.bool true),(113,.bool true),(112,nI x109),(111,.bool true),(110,.bool true),(109,.bool true),(108,nI x91),(107,.bool true),(106,.bool true),(105,.bool true),(104,nI x157),(103,nP z17 0),(102,nI x90),(101,.bool true),(100,.bool true),(99,nI (IntKind.i64.wrap (x46+(IntKind.i64.wrap (2 * x74))))),(98,nI (IntKind.i64.wrap (2 * x74))),(97,nI x74),(96,nI x46),(95,nI x89),(15,nI x133),(14,nP g120 0),(13,nI x110),(12,nI x109),(10,nI x91),(9,nI x90),(8,nI x89),(6,nI x74),(0,nI x46),(5,nP z17 0)]) (w':=w162) (by kernel_rfl) ?_
                 intro a205 hF204; clear hF200
                 refine ev_one (nP g120 4) w162 hF204 (by kernel_rfl) rfl (by kernel_rfl) (run_idxA (q:=1) rfl rfl rfl rfl rfl (by decide) (by decide) (by kernel_rfl) _) (l':=[(138,nP g120 4),(137,nP g120 3),(136,.bool true),(135,.bool true),(134,.bool true),(133,nI x126),(132,nP g120 3),(131,nP g120 3),(130,.bool true),(129,.bool true),(128,.bool true),(127,nI (IntKind.i64.wrap (20+x74))),(126,nI x74),(125,nI x125),(124,nP g120 2),(123,.bool true),(122,.bool true),(121,.bool true),(120,nI x133),(119,.bool true),(118,.bool true),(117,.bool true),(116,nI x110),(115,.bool true),(114,.bool true),(113,.bool true),(112,nI x109),(111,.bool true),(110,.bool true),(109,.bool true),(108,nI x91),(107,.bool true),(106,.bool true),(105,.bool true),(104,nI x157),(103,nP z17 0),(102,nI x90),(101,.bool true),(100,.bool true),(99,nI (IntKind.i64.wrap (x46+(IntKind.i64.wrap (2 * x74))))),(98,nI (IntKind.i64.wrap (2 * x74))),(97,nI x74),(96,nI x46),(95,nI x89),(15,nI x133),(14,nP g120 0),(13,nI x110),(12,nI x109),(10,nI x91),(9,nI x90),(8,nI x89),(6,nI x74),(0,nI x46),(5,nP z17 0)]) (by kernel_rfl) ?_
                 intro a207 hF206; clear hF204
                 refine ev_one (nI x127) w162 hF206 (by kernel_rfl) rfl (by kernel_rfl) (run_loadV rfl rfl (run_loadS rfl rfl (hS164.cell 5 rfl 4 rfl))) (l':=[(139,nI x127),(138,nP g120 4),(137,nP g120 3),(136,.bool true),(135,.bool true),(134,.bool true),(133,nI x126),(132,nP g120 3),(131,nP g120 3),(130,.bool true),(129,.bool true),(128,.bool true),(127,nI (IntKind.i64.wrap (20+x74))),(126,nI x74),(125,nI x125),(124,nP g120 2),(123,.bool true),(122,.bool true),(121,.bool true),(120,nI x133),(119,.bool true),(118,.bool true),(117,.bool true),(116,nI x110),(115,.bool true),(114,.bool true),(113,.bool true),(112,nI x109),(111,.bool true),(110,.bool true),(109,.bool true),(108,nI x91),(107,.bool true),(106,.bool true),(105,.bool true),(104,nI x157),(103,nP z17 0),(102,nI x90),(101,.bool true),(100,.bool true),(99,nI (IntKind.i64.wrap (x46+(IntKind.i64.wrap (2 * x74))))),(98,nI (IntKind.i64.wrap (2 * x74))),(97,nI x74),(96,nI x46),(95,nI x89),(15,nI x133),(14,nP g120 0),(13,nI x110),(12,nI x109),(10,nI x91),(9,nI x90),(8,nI x89),(6,nI x74),(0,nI x46),(5,nP z17 0)]) (by kernel_rfl) ?_
                 intro a209 hF208; clear hF206
                 refine ev_runK 3 hF208 [4] (l':=[(4,.bool (x127 == 0))]) (w':=w162) (by kernel_rfl) ?_
                 intro a211 hF210; clear hF208
                 refine wpList_nil ?_
                 have hS212:=hS164.drop.drop.drop.drop.drop.drop
                 clear hS164
                 exact thenN ⟨x127 == 0,hF210,hS212,hm203⟩
                rw [hc202] at hF200
                have hm213:=ifNot hc202 hm193; clear hm193
                refine ev_runK 6 hF200 [4] (l':=[(4,.bool false)]) (w':=w162) (by kernel_rfl) ?_
                intro a215 hF214; clear hF200
                refine wpList_nil ?_
                have hS216:=hS164.drop.drop.drop.drop.drop.drop
                clear hS164
                exact thenN ⟨false,hF214,hS216,hm213⟩
               rw [hc192] at hF190
               have hm217:=ifNot hc192 hm185; clear hm185
               refine ev_runK 12 hF190 [4] (l':=[(4,.bool false)]) (w':=w162) (by kernel_rfl) ?_
               intro a219 hF218; clear hF190
               refine wpList_nil ?_
               have hS220:=hS164.drop.drop.drop.drop.drop.drop
               clear hS164
               exact thenN ⟨false,hF218,hS220,hm217⟩
              rw [hc184] at hF182
              have hm221:=ifNot hc184 hm181; clear hm181
              refine ev_runK 19 hF182 [4] (l':=[(4,.bool false)]) (w':=w162) (by kernel_rfl) ?_
              intro a223 hF222; clear hF182
              refine wpList_nil ?_
              have hS224:=hS164.drop.drop.drop.drop.drop.drop
              clear hS164
              exact thenN ⟨false,hF222,hS224,hm221⟩
             rw [hc180] at hF178
             have hm225:=ifNot hc180 hm177; clear hm177
             refine ev_runK 23 hF178 [4] (l':=[(4,.bool false)]) (w':=w162) (by kernel_rfl) ?_
             intro a227 hF226; clear hF178
             refine wpList_nil ?_
             have hS228:=hS164.drop.drop.drop.drop.drop.drop
             clear hS164
             exact thenN ⟨false,hF226,hS228,hm225⟩
            rw [hc176] at hF174
            have hm229:=ifNot hc176 hm173; clear hm173
            refine ev_runK 27 hF174 [4] (l':=[(4,.bool false)]) (w':=w162) (by kernel_rfl) ?_
            intro a231 hF230; clear hF174
            refine wpList_nil ?_
            have hS232:=hS164.drop.drop.drop.drop.drop.drop
            clear hS164
            exact thenN ⟨false,hF230,hS232,hm229⟩
           rw [hc172] at hF170
           have hm233:=ifNot hc172 hm169; clear hm169
           refine ev_runK 31 hF170 [4] (l':=[(4,.bool false)]) (w':=w162) (by kernel_rfl) ?_
           intro a235 hF234; clear hF170
           refine wpList_nil ?_
           have hS236:=hS164.drop.drop.drop.drop.drop.drop
           clear hS164
           exact thenN ⟨false,hF234,hS236,hm233⟩
          rw [hc168] at hF166
          have hm237:=ifNot hc168 hm161; clear hm161
          refine ev_runK 35 hF166 [4] (l':=[(4,.bool false)]) (w':=w162) (by kernel_rfl) ?_
          intro a239 hF238; clear hF166
          refine wpList_nil ?_
          have hS240:=hS164.drop.drop.drop.drop.drop.drop
          clear hS164
          exact thenN ⟨false,hF238,hS240,hm237⟩
         rw [hc152] at hF150
         have hm241:=ifNot hc152 hm139; clear hm139
         refine ev_runK 41 hF150 [4] (l':=[(4,.bool false)]) (w':=w136) (by kernel_rfl) ?_
         intro a243 hF242; clear hF150
         refine wpList_nil ?_
         have hS244:=hS138.drop.drop.drop.drop.drop.drop
         clear hS138
         exact thenN ⟨false,hF242,hS244,hm241⟩
     · skip
       have hS245:=hS116.pick1
       clear hS116
       have hS246:=hS245.drew; clear hS245
       refine any_start (fun wS=>∃ qs,St w0 F0 (BlkP z17 77 #[nP z18 0,nP z20 0,nS g84 L9 c34,.slice p37 L10.length c38]::qs) wS) 13 #[false,false,false,false,false,false,false,false,false,false,false,false,false] (by kernel_rfl) (by kernel_rfl) (by kernel_rfl) ?_
       refine any_many 5 [(0,some (nP z17 0)),(1,some (nP z17 0)),(2,some (nP z17 0)),(3,some (nP z18 0)),(4,some (nP z17 0))] [0,5,6,8,9,10,12,13,14,15,85,89,90,91,92,93,94] #[true,true,true,true,true,false,false,false,false,false,false,false,false] (by rfl) hF118 (by kernel_rfl) (by kernel_rfl) (by exact ⟨fun wS hw=>by kernel_rfl,fun wS hw=>by kernel_rfl,fun wS hw=>by kernel_rfl,fun wS hw=>hw.elim fun qs hw=>run_loadV rfl rfl (run_loadS rfl rfl (hw.cell 0 rfl 0 rfl)),fun wS hw=>by kernel_rfl,trivial⟩) (fun _ _ _ _ _ h=>h) ⟨_,hS246⟩ (l':=[(90,nP z17 0),(89,nP z18 0),(13,nI x110),(12,nI x109),(10,nI x91),(9,nI x90),(8,nI x89),(6,nI x74),(0,nI x46),(5,nP z17 0)]) (by kernel_rfl) ?_
       intro a248 hF247; clear hF118
       refine any_two 5 10 (by kernel_rfl) ?_ ?_
       · skip
         have hS249:=hS246.pick4.pick3.pick4.pick4.pick4
         clear hS246
         refine op_call 5 #[true,true,true,true,true,true,false,false,false,false,false,false,false] 47 #[nP z17 0,nI 0] hF247 rfl rfl rfl (by kernel_rfl) rfl (by kernel_rfl) (fun w=>by kernel_rfl) (by kernel_rfl) ?_
         obtain ⟨x250,s251,s252,hx253,hm254⟩:=bind3E hm113; clear hm113
         refine (law16_gor.ok hS249 hx253).mono ?_
         rintro _ w255 ⟨rfl,hS257⟩; clear hS249
         refine ⟨⟨_,hS257⟩,?_⟩
         intro a256 hF258; clear hF247
         refine any_two 6 10 (by kernel_rfl) ?_ ?_
         · skip
           have hS259:=hS257.pick1
           clear hS257
           refine op_call 6 #[true,true,true,true,true,true,true,false,false,false,false,false,false] 36 #[nP z18 0,nI x250] hF258 rfl rfl rfl (by kernel_rfl) rfl (by kernel_rfl) (fun w=>by kernel_rfl) (by kernel_rfl) ?_
           obtain ⟨q260,x261,s262,hx263,hm264⟩:=bind3E hm254; clear hm254
           refine (view_Gor.ok hS259 hx263).mono ?_
           rintro _ w265 ⟨rfl,hS267⟩; clear hS259
           refine ⟨⟨_,hS267.pick1⟩,?_⟩
           intro a266 hF268; clear hF258
           refine any_many 3 [(7,some (.tuple #[.agg #[nI (q260.id),nI (q260.status),nI (q260.pc),nI (q260.a),nI (q260.b),nI (q260.c),nI (q260.d),nI (q260.e),nI (q260.f),nI (q260.sudogs)],nI x261])),(8,some (.agg #[nI (q260.id),nI (q260.status),nI (q260.pc),nI (q260.a),nI (q260.b),nI (q260.c),nI (q260.d),nI (q260.e),nI (q260.f),nI (q260.sudogs)])),(9,some (nI x261))] [0,5,6,8,9,10,12,13,14,15,93,94] #[true,true,true,true,true,true,true,true,true,true,false,false,false] (by rfl) hF268 (by kernel_rfl) (by kernel_rfl) (by exact ⟨fun wS hw=>by kernel_rfl,fun wS hw=>by kernel_rfl,fun wS hw=>by kernel_rfl,trivial⟩) (fun _ _ _ _ _ h=>h) ⟨_,hS267.pick1⟩ (l':=[(94,nI x261),(93,.agg #[nI (q260.id),nI (q260.status),nI (q260.pc),nI (q260.a),nI (q260.b),nI (q260.c),nI (q260.d),nI (q260.e),nI (q260.f),nI (q260.sudogs)]),(13,nI x110),(12,nI x109),(10,nI x91),(9,nI x90),(8,nI x89),(6,nI x74),(0,nI x46),(5,nP z17 0)]) (by kernel_rfl) ?_
           intro a270 hF269; clear hF268
           refine any_one 10 (by kernel_rfl) ?_
           have hS271:St w0 F0 (BlkP (w265.heap.size) 29 #[nI 0,nI 0,nI 0,nI 0,nI 0,nI 0,nI 0,nI 0,nI 0,nI 0]::HeapP z18 z19 s262::BlkP z17 77 #[nP z18 0,nP z20 0,nS g84 L9 c34,.slice p37 L10.length c38]::RHeapP z20 z21 z22 z23 z24 s252::RowP (nS g84 L9 c34) L9::RowP (.slice p37 L10.length c38) L10::ps) (w265.alloc (.cells #[nI 0,nI 0,nI 0,nI 0,nI 0,nI 0,nI 0,nI 0,nI 0,nI 0] 29)):=St.new hS267 #[nI 0,nI 0,nI 0,nI 0,nI 0,nI 0,nI 0,nI 0,nI 0,nI 0] 29
           clear hS267
           refine op_step 10 #[true,true,true,true,true,true,true,true,true,true,true,false,false] (nB w265) (w265.alloc (.cells #[nI 0,nI 0,nI 0,nI 0,nI 0,nI 0,nI 0,nI 0,nI 0,nI 0] 29)) hF269 rfl (by kernel_rfl) rfl (by kernel_rfl) (by kernel_rfl) (l':=[(14,nB w265),(94,nI x261),(93,.agg #[nI (q260.id),nI (q260.status),nI (q260.pc),nI (q260.a),nI (q260.b),nI (q260.c),nI (q260.d),nI (q260.e),nI (q260.f),nI (q260.sudogs)]),(13,nI x110),(12,nI x109),(10,nI x91),(9,nI x90),(8,nI x89),(6,nI x74),(0,nI x46),(5,nP z17 0)]) (by kernel_rfl) ⟨_,hS271.pick2⟩ (by kernel_rfl) ?_
           intro a273 hF272; clear hF269
           refine any_one 11 (by kernel_rfl) ?_
           refine op_store 11 #[true,true,true,true,true,true,true,true,true,true,true,true,false] (.agg #[nI (q260.id),nI (q260.status),nI (q260.pc),nI (q260.a),nI (q260.b),nI (q260.c),nI (q260.d),nI (q260.e),nI (q260.f),nI (q260.sudogs)]) #[nI (q260.id),nI (q260.status),nI (q260.pc),nI (q260.a),nI (q260.b),nI (q260.c),nI (q260.d),nI (q260.e),nI (q260.f),nI (q260.sudogs)] hF272 rfl (by kernel_rfl) rfl rfl rfl rfl (by kernel_rfl) hS271 (by kernel_rfl) (by kernel_rfl) (by kernel_rfl) (l':=[(14,nB w265),(94,nI x261),(93,.agg #[nI (q260.id),nI (q260.status),nI (q260.pc),nI (q260.a),nI (q260.b),nI (q260.c),nI (q260.d),nI (q260.e),nI (q260.f),nI (q260.sudogs)]),(13,nI x110),(12,nI x109),(10,nI x91),(9,nI x90),(8,nI x89),(6,nI x74),(0,nI x46),(5,nP z17 0)]) (by kernel_rfl) (by kernel_rfl) ?_
           intro w274 a275 hS276 hF277; clear hF272 hS271
           refine ⟨⟨_,hS276.pick2⟩,?_⟩
           refine any_many 1 [(12,some (nI x261))] [0,5,6,8,9,10,12,13,14,15] #[true,true,true,true,true,true,true,true,true,true,true,true,true] (by rfl) hF277 (by kernel_rfl) (by kernel_rfl) (by exact ⟨fun wS hw=>by kernel_rfl,trivial⟩) (fun _ _ _ _ _ h=>h) ⟨_,hS276.pick2⟩ (l':=[(15,nI x261),(14,nB w265),(13,nI x110),(12,nI x109),(10,nI x91),(9,nI x90),(8,nI x89),(6,nI x74),(0,nI x46),(5,nP z17 0)]) (by kernel_rfl) ?_
           intro a279 hF278; clear hF277
           refine any_done (by kernel_rfl) ?_
           exact thenN ⟨(w265.heap.size),s262,s252,q260.id,q260.status,q260.pc,q260.a,q260.b,q260.c,q260.d,q260.e,q260.f,q260.sudogs,x261,hF278,hS276,hm264⟩
         · skip
           have hS280:St w0 F0 (BlkP (w255.heap.size) 29 #[nI 0,nI 0,nI 0,nI 0,nI 0,nI 0,nI 0,nI 0,nI 0,nI 0]::BlkP z17 77 #[nP z18 0,nP z20 0,nS g84 L9 c34,.slice p37 L10.length c38]::HeapP z18 z19 s251::RHeapP z20 z21 z22 z23 z24 s252::RowP (nS g84 L9 c34) L9::RowP (.slice p37 L10.length c38) L10::ps) (w255.alloc (.cells #[nI 0,nI 0,nI 0,nI 0,nI 0,nI 0,nI 0,nI 0,nI 0,nI 0] 29)):=St.new hS257 #[nI 0,nI 0,nI 0,nI 0,nI 0,nI 0,nI 0,nI 0,nI 0,nI 0] 29
           clear hS257
           refine op_step 10 #[true,true,true,true,true,true,false,false,false,false,true,false,false] (nB w255) (w255.alloc (.cells #[nI 0,nI 0,nI 0,nI 0,nI 0,nI 0,nI 0,nI 0,nI 0,nI 0] 29)) hF258 rfl (by kernel_rfl) rfl (by kernel_rfl) (by kernel_rfl) (l':=[(14,nB w255),(91,nI x250),(90,nP z17 0),(89,nP z18 0),(13,nI x110),(12,nI x109),(10,nI x91),(9,nI x90),(8,nI x89),(6,nI x74),(0,nI x46),(5,nP z17 0)]) (by kernel_rfl) ⟨_,hS280.pick1⟩ (by kernel_rfl) ?_
           intro a282 hF281; clear hF258
           have hS283:=hS280.pick2
           clear hS280
           refine any_call 6 #[true,true,true,true,true,true,true,false,false,false,true,false,false] 36 #[nP z18 0,nI x250] hF281 rfl (by kernel_rfl) rfl rfl (by kernel_rfl) rfl (by kernel_rfl) (fun w=>by kernel_rfl) (by kernel_rfl) ?_
           obtain ⟨q284,x285,s286,hx287,hm288⟩:=bind3E hm254; clear hm254
           refine (view_Gor.ok hS283 hx287).mono ?_
           rintro _ w289 ⟨rfl,hS291⟩; clear hS283
           refine ⟨⟨_,hS291.pick2⟩,?_⟩
           intro a290 hF292; clear hF281
           refine any_many 3 [(7,some (.tuple #[.agg #[nI (q284.id),nI (q284.status),nI (q284.pc),nI (q284.a),nI (q284.b),nI (q284.c),nI (q284.d),nI (q284.e),nI (q284.f),nI (q284.sudogs)],nI x285])),(8,some (.agg #[nI (q284.id),nI (q284.status),nI (q284.pc),nI (q284.a),nI (q284.b),nI (q284.c),nI (q284.d),nI (q284.e),nI (q284.f),nI (q284.sudogs)])),(9,some (nI x285))] [0,5,6,8,9,10,12,13,14,15,93,94] #[true,true,true,true,true,true,true,true,true,true,true,false,false] (by rfl) hF292 (by kernel_rfl) (by kernel_rfl) (by exact ⟨fun wS hw=>by kernel_rfl,fun wS hw=>by kernel_rfl,fun wS hw=>by kernel_rfl,trivial⟩) (fun _ _ _ _ _ h=>h) ⟨_,hS291.pick2⟩ (l':=[(94,nI x285),(93,.agg #[nI (q284.id),nI (q284.status),nI (q284.pc),nI (q284.a),nI (q284.b),nI (q284.c),nI (q284.d),nI (q284.e),nI (q284.f),nI (q284.sudogs)]),(14,nB w255),(13,nI x110),(12,nI x109),(10,nI x91),(9,nI x90),(8,nI x89),(6,nI x74),(0,nI x46),(5,nP z17 0)]) (by kernel_rfl) ?_
           intro a294 hF293; clear hF292
           refine any_one 11 (by kernel_rfl) ?_
           have hS295:=hS291.pick1
           clear hS291
           refine op_store 11 #[true,true,true,true,true,true,true,true,true,true,true,true,false] (.agg #[nI (q284.id),nI (q284.status),nI (q284.pc),nI (q284.a),nI (q284.b),nI (q284.c),nI (q284.d),nI (q284.e),nI (q284.f),nI (q284.sudogs)]) #[nI (q284.id),nI (q284.status),nI (q284.pc),nI (q284.a),nI (q284.b),nI (q284.c),nI (q284.d),nI (q284.e),nI (q284.f),nI (q284.sudogs)] hF293 rfl (by kernel_rfl) rfl rfl rfl rfl (by kernel_rfl) hS295 (by kernel_rfl) (by kernel_rfl) (by kernel_rfl) (l':=[(94,nI x285),(93,.agg #[nI (q284.id),nI (q284.status),nI (q284.pc),nI (q284.a),nI (q284.b),nI (q284.c),nI (q284.d),nI (q284.e),nI (q284.f),nI (q284.sudogs)]),(14,nB w255),(13,nI x110),(12,nI x109),(10,nI x91),(9,nI x90),(8,nI x89),(6,nI x74),(0,nI x46),(5,nP z17 0)]) (by kernel_rfl) (by kernel_rfl) ?_
           intro w296 a297 hS298 hF299; clear hF293 hS295
           refine ⟨⟨_,hS298.pick2⟩,?_⟩
           refine any_many 1 [(12,some (nI x285))] [0,5,6,8,9,10,12,13,14,15] #[true,true,true,true,true,true,true,true,true,true,true,true,true] (by rfl) hF299 (by kernel_rfl) (by kernel_rfl) (by exact ⟨fun wS hw=>by kernel_rfl,trivial⟩) (fun _ _ _ _ _ h=>h) ⟨_,hS298.pick2⟩ (l':=[(15,nI x285),(14,nB w255),(13,nI x110),(12,nI x109),(10,nI x91),(9,nI x90),(8,nI x89),(6,nI x74),(0,nI x46),(5,nP z17 0)]) (by kernel_rfl) ?_
           intro a301 hF300; clear hF299
           refine any_done (by kernel_rfl) ?_
           exact thenN ⟨(w255.heap.size),s286,s252,q284.id,q284.status,q284.pc,q284.a,q284.b,q284.c,q284.d,q284.e,q284.f,q284.sudogs,x285,hF300,hS298,hm288⟩
       · skip
         have hS302:St w0 F0 (BlkP ((w114.drew).heap.size) 29 #[nI 0,nI 0,nI 0,nI 0,nI 0,nI 0,nI 0,nI 0,nI 0,nI 0]::BlkP z17 77 #[nP z18 0,nP z20 0,nS g84 L9 c34,.slice p37 L10.length c38]::HeapP z18 z19 s111::RowP (nS g84 L9 c34) L9::RHeapP z20 z21 z22 z23 z24 s52::RowP (.slice p37 L10.length c38) L10::ps) ((w114.drew).alloc (.cells #[nI 0,nI 0,nI 0,nI 0,nI 0,nI 0,nI 0,nI 0,nI 0,nI 0] 29)):=St.new hS246 #[nI 0,nI 0,nI 0,nI 0,nI 0,nI 0,nI 0,nI 0,nI 0,nI 0] 29
         clear hS246
         refine op_step 10 #[true,true,true,true,true,false,false,false,false,false,true,false,false] (nB (w114.drew)) ((w114.drew).alloc (.cells #[nI 0,nI 0,nI 0,nI 0,nI 0,nI 0,nI 0,nI 0,nI 0,nI 0] 29)) hF247 rfl (by kernel_rfl) rfl (by kernel_rfl) (by kernel_rfl) (l':=[(14,nB (w114.drew)),(90,nP z17 0),(89,nP z18 0),(13,nI x110),(12,nI x109),(10,nI x91),(9,nI x90),(8,nI x89),(6,nI x74),(0,nI x46),(5,nP z17 0)]) (by kernel_rfl) ⟨_,hS302.pick1⟩ (by kernel_rfl) ?_
         intro a304 hF303; clear hF247
         have hS305:=hS302.pick5.pick4.pick5.pick5.pick5
         clear hS302
         refine any_call 5 #[true,true,true,true,true,true,false,false,false,false,true,false,false] 47 #[nP z17 0,nI 0] hF303 rfl (by kernel_rfl) rfl rfl (by kernel_rfl) rfl (by kernel_rfl) (fun w=>by kernel_rfl) (by kernel_rfl) ?_
         obtain ⟨x306,s307,s308,hx309,hm310⟩:=bind3E hm113; clear hm113
         refine (law16_gor.ok hS305 hx309).mono ?_
         rintro _ w311 ⟨rfl,hS313⟩; clear hS305
         refine ⟨⟨_,hS313⟩,?_⟩
         intro a312 hF314; clear hF303
         have hS315:=hS313.pick1
         clear hS313
         refine any_call 6 #[true,true,true,true,true,true,true,false,false,false,true,false,false] 36 #[nP z18 0,nI x306] hF314 rfl (by kernel_rfl) rfl rfl (by kernel_rfl) rfl (by kernel_rfl) (fun w=>by kernel_rfl) (by kernel_rfl) ?_
         obtain ⟨q316,x317,s318,hx319,hm320⟩:=bind3E hm310; clear hm310
         refine (view_Gor.ok hS315 hx319).mono ?_
         rintro _ w321 ⟨rfl,hS323⟩; clear hS315
         refine ⟨⟨_,hS323.pick1⟩,?_⟩
         intro a322 hF324; clear hF314
         refine any_many 3 [(7,some (.tuple #[.agg #[nI (q316.id),nI (q316.status),nI (q316.pc),nI (q316.a),nI (q316.b),nI (q316.c),nI (q316.d),nI (q316.e),nI (q316.f),nI (q316.sudogs)],nI x317])),(8,some (.agg #[nI (q316.id),nI (q316.status),nI (q316.pc),nI (q316.a),nI (q316.b),nI (q316.c),nI (q316.d),nI (q316.e),nI (q316.f),nI (q316.sudogs)])),(9,some (nI x317))] [0,5,6,8,9,10,12,13,14,15,93,94] #[true,true,true,true,true,true,true,true,true,true,true,false,false] (by rfl) hF324 (by kernel_rfl) (by kernel_rfl) (by exact ⟨fun wS hw=>by kernel_rfl,fun wS hw=>by kernel_rfl,fun wS hw=>by kernel_rfl,trivial⟩) (fun _ _ _ _ _ h=>h) ⟨_,hS323.pick1⟩ (l':=[(94,nI x317),(93,.agg #[nI (q316.id),nI (q316.status),nI (q316.pc),nI (q316.a),nI (q316.b),nI (q316.c),nI (q316.d),nI (q316.e),nI (q316.f),nI (q316.sudogs)]),(14,nB (w114.drew)),(13,nI x110),(12,nI x109),(10,nI x91),(9,nI x90),(8,nI x89),(6,nI x74),(0,nI x46),(5,nP z17 0)]) (by kernel_rfl) ?_
         intro a326 hF325; clear hF324
         refine any_one 11 (by kernel_rfl) ?_
         have hS327:=hS323.pick5
         clear hS323
         refine op_store 11 #[true,true,true,true,true,true,true,true,true,true,true,true,false] (.agg #[nI (q316.id),nI (q316.status),nI (q316.pc),nI (q316.a),nI (q316.b),nI (q316.c),nI (q316.d),nI (q316.e),nI (q316.f),nI (q316.sudogs)]) #[nI (q316.id),nI (q316.status),nI (q316.pc),nI (q316.a),nI (q316.b),nI (q316.c),nI (q316.d),nI (q316.e),nI (q316.f),nI (q316.sudogs)] hF325 rfl (by kernel_rfl) rfl rfl rfl rfl (by kernel_rfl) hS327 (by kernel_rfl) (by kernel_rfl) (by kernel_rfl) (l':=[(94,nI x317),(93,.agg #[nI (q316.id),nI (q316.status),nI (q316.pc),nI (q316.a),nI (q316.b),nI (q316.c),nI (q316.d),nI (q316.e),nI (q316.f),nI (q316.sudogs)]),(14,nB (w114.drew)),(13,nI x110),(12,nI x109),(10,nI x91),(9,nI x90),(8,nI x89),(6,nI x74),(0,nI x46),(5,nP z17 0)]) (by kernel_rfl) (by kernel_rfl) ?_
         intro w328 a329 hS330 hF331; clear hF325 hS327
         refine ⟨⟨_,hS330.pick2⟩,?_⟩
         refine any_many 1 [(12,some (nI x317))] [0,5,6,8,9,10,12,13,14,15] #[true,true,true,true,true,true,true,true,true,true,true,true,true] (by rfl) hF331 (by kernel_rfl) (by kernel_rfl) (by exact ⟨fun wS hw=>by kernel_rfl,trivial⟩) (fun _ _ _ _ _ h=>h) ⟨_,hS330.pick2⟩ (l':=[(15,nI x317),(14,nB (w114.drew)),(13,nI x110),(12,nI x109),(10,nI x91),(9,nI x90),(8,nI x89),(6,nI x74),(0,nI x46),(5,nP z17 0)]) (by kernel_rfl) ?_
         intro a333 hF332; clear hF331
         refine any_done (by kernel_rfl) ?_
         exact thenN ⟨((w114.drew).heap.size),s318,s308,q316.id,q316.status,q316.pc,q316.a,q316.b,q316.c,q316.d,q316.e,q316.f,q316.sudogs,x317,hF332,hS330,hm320⟩
   · skip
     cases hc334:(i1)
     case true =>
      rw [hc334] at hF71
      have hm335:=ifYes hc334 hm67; clear hm67
      refine ev_condT hF71 rfl rfl ?_
      refine wp_region_lit ?_
      refine ev_runK 2 hF71 [0,5,6,7] (l':=[(7,nI 0),(6,nI 1),(0,nI x46),(5,nP z17 0)]) (w':=w56) (by kernel_rfl) ?_
      intro a337 hF336; clear hF71
      refine wpList_nil ?_
      exact thenN ⟨0,1,hF336,hS58,hm335⟩
     rw [hc334] at hF71
     have hm338:=ifNot hc334 hm67; clear hm67
     refine ev_condF hF71 rfl rfl ?_
     refine wp_skip ?_
     have hF339:=hF71.keep [0,5,6,7]
     clear hF71
     exact thenN ⟨1,0,hF339,hS58,hm338⟩
 · skip
   have hS340:=hS43.pick3.pick1
   clear hS43
   have hS341:=hS340.drew; clear hS340
   refine any_start (fun wS=>∃ qs,St w0 F0 (BlkP z17 77 #[nP z18 0,nP z20 0,.slice p33 L9.length c34,.slice p37 L10.length c38]::RowP (.slice p33 L9.length c34) L9::qs) wS) 28 #[false,false,false,false,false,false,false,false,false,false,false,false,false,false,false,false,false,false,false,false,false,false,false,false,false,false,false,false] (by kernel_rfl) (by kernel_rfl) (by kernel_rfl) ?_
   refine any_call 0 #[true,false,false,false,false,false,false,false,false,false,false,false,false,false,false,false,false,false,false,false,false,false,false,false,false,false,false,false] 43 #[] hF50 rfl (by kernel_rfl) rfl rfl (by kernel_rfl) rfl (by kernel_rfl) (fun w=>by kernel_rfl) (by kernel_rfl) ?_
   obtain ⟨y342,hx343,hm344⟩:=bind1E hm48; clear hm48
   refine (law16_awake.ok hS341 hx343).mono ?_
   rintro _ w345 ⟨rfl,hS347⟩; clear hS341
   refine ⟨⟨_,hS347⟩,?_⟩
   intro a346 hF348; clear hF50
   refine any_many 2 [(1,some (.bool (!(y342)))),(2,some (.bool (!(y342))))] [0,1,5,22,23,24,25,26,27,28,29,30,31,32,33,34,35,36,37,38,39,40,41,42,43,44,45,46,47] #[true,true,true,false,false,false,false,false,false,false,false,false,false,false,false,false,false,false,false,false,false,false,false,false,false,false,false,false] (by rfl) hF348 (by kernel_rfl) (by kernel_rfl) (by exact ⟨fun wS hw=>by kernel_rfl,fun wS hw=>by kernel_rfl,trivial⟩) (fun _ _ _ _ _ h=>h) ⟨_,hS347⟩ (l':=[(22,.bool (!(y342))),(0,nI x46),(5,nP z17 0),(1,.bool (i1))]) (by kernel_rfl) ?_
   intro a350 hF349; clear hF348
   cases hc351:(!(y342))
   case true =>
    rw [hc351] at hF349
    have hm352:=ifYes hc351 hm344; clear hm344
    refine any_many 25 [(3,none),(4,none),(5,some (.bool true)),(6,some (.bool true)),(7,none),(8,none),(9,none),(10,none),(11,none),(12,none),(13,none),(14,none),(15,none),(16,none),(17,none),(18,none),(19,none),(20,none),(21,none),(22,none),(23,none),(24,none),(25,none),(26,none),(27,some (.bool true))] [0,1,5,47] #[true,true,true,true,true,true,true,true,true,true,true,true,true,true,true,true,true,true,true,true,true,true,true,true,true,true,true,true] (by rfl) hF349 (by kernel_rfl) (by kernel_rfl) (by exact (And.intro trivial (And.intro trivial (And.intro (fun wS hw=>by kernel_rfl) (And.intro (fun wS hw=>by kernel_rfl) (And.intro trivial (And.intro trivial (And.intro trivial (And.intro trivial (And.intro trivial (And.intro trivial (And.intro trivial (And.intro trivial (And.intro trivial (And.intro trivial (And.intro trivial (And.intro trivial (And.intro trivial (And.intro trivial (And.intro trivial (And.intro trivial (And.intro trivial (And.intro trivial (And.intro trivial (And.intro trivial (And.intro (fun wS hw=>by kernel_rfl) trivial)))))))))))))))))))))))))) (fun _ _ _ _ _ h=>h) ⟨_,hS347⟩ (l':=[(47,.bool true),(0,nI x46),(5,nP z17 0),(1,.bool (i1))]) (by kernel_rfl) ?_
    intro a354 hF353; clear hF349
    refine any_done (by kernel_rfl) ?_
    exact thenN ⟨s7,s8,true,hF353,hS347,hm352⟩
   rw [hc351] at hF349
   have hm355:=ifNot hc351 hm344; clear hm344
   refine any_many 10 [(3,some (nP z17 0)),(4,some (.bool false)),(5,some (.bool false)),(6,some (.bool false)),(7,some (nP z17 0)),(8,some (nP z17 0)),(10,some (nP z17 0)),(11,some (nP z17 0)),(12,some (nP z17 2)),(13,some (.slice p33 L9.length c34))] [0,1,5,26,27,28,29,33,34,35,36,37,38,39,40,41,42,43,44,45,46,47] #[true,true,true,true,true,true,true,true,true,false,true,true,true,true,false,false,false,false,false,false,false,false,false,false,false,false,false,false] (by rfl) hF349 (by kernel_rfl) (by kernel_rfl) (by exact ⟨fun wS hw=>by kernel_rfl,fun wS hw=>by kernel_rfl,fun wS hw=>by kernel_rfl,fun wS hw=>by kernel_rfl,fun wS hw=>by kernel_rfl,fun wS hw=>by kernel_rfl,fun wS hw=>by kernel_rfl,fun wS hw=>by kernel_rfl,fun wS hw=>by kernel_rfl,fun wS hw=>hw.elim fun qs hw=>run_loadV rfl rfl (run_loadS rfl rfl (hw.cell 0 rfl 2 rfl)),trivial⟩) (fun _ _ _ _ _ h=>h) ⟨_,hS347⟩ (l':=[(33,.slice p33 L9.length c34),(28,nP z17 0),(27,nP z17 0),(26,.bool false),(0,nI x46),(5,nP z17 0),(1,.bool (i1))]) (by kernel_rfl) ?_
   intro a357 hF356; clear hF349
   obtain ⟨hc358,hm359⟩:=ifTE hm355; clear hm355
   obtain ⟨g360,rfl⟩:=hp35.resolve_left (by have:=inR_spec hc358; omega)
   refine any_many 6 [(14,some (nP g360 ((0:Int).toNat))),(15,some (nI (atI L9 (0:Int)))),(16,some (nP z17 0)),(17,some (nP z17 0)),(18,some (nP z17 2)),(19,some (nS g360 L9 c34))] [0,1,5,26,27,28,29,35,39,40,41,42,43,44,45,46,47] #[true,true,true,true,true,true,true,true,true,false,true,true,true,true,true,true,true,true,true,true,false,false,false,false,false,false,false,false] (by rfl) hF356 (by kernel_rfl) (by kernel_rfl) (by exact ⟨fun wS hw=>run_idx rfl rfl rfl rfl rfl (inR_spec hc358).1 (inR_spec hc358).2 _,fun wS hw=>run_load1 rfl rfl rfl (hw.elim fun qs hw=>hw.atI 1 rfl hc358),fun wS hw=>by kernel_rfl,fun wS hw=>by kernel_rfl,fun wS hw=>by kernel_rfl,fun wS hw=>hw.elim fun qs hw=>run_loadV rfl rfl (run_loadS rfl rfl (hw.cell 0 rfl 2 rfl)),trivial⟩) (fun _ _ _ _ _ h=>h) ⟨_,hS347⟩ (l':=[(39,nS g360 L9 c34),(35,nI (atI L9 (0:Int))),(28,nP z17 0),(27,nP z17 0),(26,.bool false),(0,nI x46),(5,nP z17 0),(1,.bool (i1))]) (by kernel_rfl) ?_
   intro a362 hF361; clear hF356
   obtain ⟨hc363,hm364⟩:=ifTE hm359; clear hm359
   refine any_many 3 [(20,some (nP g360 ((1:Int).toNat))),(21,some (nI (atI L9 (1:Int)))),(24,some (nI x46))] [0,1,5,26,27,28,29,35,41,42,43,44,45,46,47] #[true,true,true,true,true,true,true,true,true,false,true,true,true,true,true,true,true,true,true,true,true,true,false,false,true,false,false,false] (by rfl) hF361 (by kernel_rfl) (by kernel_rfl) (by exact ⟨fun wS hw=>run_idx rfl rfl rfl rfl rfl (inR_spec hc363).1 (inR_spec hc363).2 _,fun wS hw=>run_load1 rfl rfl rfl (hw.elim fun qs hw=>hw.atI 1 rfl hc363),fun wS hw=>by kernel_rfl,trivial⟩) (fun _ _ _ _ _ h=>h) ⟨_,hS347⟩ (l':=[(44,nI x46),(41,nI (atI L9 (1:Int))),(35,nI (atI L9 (0:Int))),(28,nP z17 0),(27,nP z17 0),(26,.bool false),(0,nI x46),(5,nP z17 0),(1,.bool (i1))]) (by kernel_rfl) ?_
   intro a366 hF365; clear hF361
   refine any_three 9 22 23 (by kernel_rfl) ?_ ?_ ?_
   · skip
     have hS367:=hS347.pick4.pick2.pick4.pick4.pick4
     clear hS347
     refine op_call 9 #[true,true,true,true,true,true,true,true,true,true,true,true,true,true,true,true,true,true,true,true,true,true,false,false,true,false,false,false] 47 #[nP z17 0,nI 0] hF365 rfl rfl rfl (by kernel_rfl) rfl (by kernel_rfl) (fun w=>by kernel_rfl) (by kernel_rfl) ?_
     obtain ⟨x368,s369,s370,hx371,hm372⟩:=bind3E hm364; clear hm364
     refine (law16_gor.ok hS367 hx371).mono ?_
     rintro _ w373 ⟨rfl,hS375⟩; clear hS367
     refine ⟨⟨_,hS375.pick3.pick1⟩,?_⟩
     intro a374 hF376; clear hF365
     refine any_two 22 23 (by kernel_rfl) ?_ ?_
     · skip
       have hS377:St w0 F0 (RowP (.slice (some ⟨w373.heap.size,0,none⟩) 2 2) [atI L9 (0:Int),atI L9 (1:Int)]::BlkP z17 77 #[nP z18 0,nP z20 0,nS g360 L9 c34,.slice p37 L10.length c38]::HeapP z18 z19 s369::RHeapP z20 z21 z22 z23 z24 s370::RowP (nS g360 L9 c34) L9::RowP (.slice p37 L10.length c38) L10::ps) (w373.alloc (.cells #[nI (atI L9 (0:Int)),nI (atI L9 (1:Int))] 3)):=St.lit hS375 [atI L9 (0:Int),atI L9 (1:Int)] (by unfold maxLen; simp)
       clear hS375
       refine op_step 22 #[true,true,true,true,true,true,true,true,true,true,true,true,true,true,true,true,true,true,true,true,true,true,true,false,true,false,false,false] (.slice (some ⟨w373.heap.size,0,none⟩) 2 2) (w373.alloc (.cells #[nI (atI L9 (0:Int)),nI (atI L9 (1:Int))] 3)) hF376 rfl (by kernel_rfl) rfl (by kernel_rfl) (by kernel_rfl) (l':=[(42,.slice (some ⟨w373.heap.size,0,none⟩) 2 2),(29,nI x368),(44,nI x46),(41,nI (atI L9 (1:Int))),(35,nI (atI L9 (0:Int))),(28,nP z17 0),(27,nP z17 0),(26,.bool false),(0,nI x46),(5,nP z17 0),(1,.bool (i1))]) (by kernel_rfl) ⟨_,hS377.pick4.pick2⟩ (by kernel_rfl) ?_
       intro a379 hF378; clear hF376
       refine any_one 23 (by kernel_rfl) ?_
       have hS380:St w0 F0 (BoolsP (.slice (some ⟨(w373.alloc (.cells #[nI (atI L9 (0:Int)),nI (atI L9 (1:Int))] 3)).heap.size,0,none⟩) 2 2) [true,true]::RowP (.slice (some ⟨w373.heap.size,0,none⟩) 2 2) [atI L9 (0:Int),atI L9 (1:Int)]::BlkP z17 77 #[nP z18 0,nP z20 0,nS g360 L9 c34,.slice p37 L10.length c38]::HeapP z18 z19 s369::RHeapP z20 z21 z22 z23 z24 s370::RowP (nS g360 L9 c34) L9::RowP (.slice p37 L10.length c38) L10::ps) ((w373.alloc (.cells #[nI (atI L9 (0:Int)),nI (atI L9 (1:Int))] 3)).alloc (.cells #[.bool true,.bool true] 4)):=St.litB hS377 [true,true] (by unfold maxLen; simp)
       clear hS377
       refine op_step 23 #[true,true,true,true,true,true,true,true,true,true,true,true,true,true,true,true,true,true,true,true,true,true,true,true,true,false,false,false] (.slice (some ⟨(w373.alloc (.cells #[nI (atI L9 (0:Int)),nI (atI L9 (1:Int))] 3)).heap.size,0,none⟩) 2 2) ((w373.alloc (.cells #[nI (atI L9 (0:Int)),nI (atI L9 (1:Int))] 3)).alloc (.cells #[.bool true,.bool true] 4)) hF378 rfl (by kernel_rfl) rfl (by kernel_rfl) (by kernel_rfl) (l':=[(43,.slice (some ⟨(w373.alloc (.cells #[nI (atI L9 (0:Int)),nI (atI L9 (1:Int))] 3)).heap.size,0,none⟩) 2 2),(42,.slice (some ⟨w373.heap.size,0,none⟩) 2 2),(29,nI x368),(44,nI x46),(41,nI (atI L9 (1:Int))),(35,nI (atI L9 (0:Int))),(28,nP z17 0),(27,nP z17 0),(26,.bool false),(0,nI x46),(5,nP z17 0),(1,.bool (i1))]) (by kernel_rfl) ⟨_,hS380.pick5.pick3⟩ (by kernel_rfl) ?_
       intro a382 hF381; clear hF378
       have hS383:=hS380.pick1.pick6.pick6.pick6.pick6.pick6
       clear hS380
       refine any_call 25 #[true,true,true,true,true,true,true,true,true,true,true,true,true,true,true,true,true,true,true,true,true,true,true,true,true,true,false,false] 48 #[nP z17 0,nI x368,.slice (some ⟨w373.heap.size,0,none⟩) 2 2,.slice (some ⟨(w373.alloc (.cells #[nI (atI L9 (0:Int)),nI (atI L9 (1:Int))] 3)).heap.size,0,none⟩) 2 2,nI x46,nI 20] hF381 rfl (by kernel_rfl) rfl rfl (by kernel_rfl) rfl (by kernel_rfl) (fun w=>by kernel_rfl) (by kernel_rfl) ?_
       obtain ⟨y384,s385,s386,hx387,hm388⟩:=bind3E hm372; clear hm372
       refine (law16_wait.ok hS383 hx387).mono ?_
       rintro _ w389 ⟨rfl,hS391⟩; clear hS383
       refine ⟨⟨_,hS391.pick3.pick1⟩,?_⟩
       intro a390 hF392; clear hF381
       refine any_many 2 [(26,some (.bool (!(y384)))),(27,some (.bool (!(y384))))] [0,1,5,47] #[true,true,true,true,true,true,true,true,true,true,true,true,true,true,true,true,true,true,true,true,true,true,true,true,true,true,true,true] (by rfl) hF392 (by kernel_rfl) (by kernel_rfl) (by exact ⟨fun wS hw=>by kernel_rfl,fun wS hw=>by kernel_rfl,trivial⟩) (fun _ _ _ _ _ h=>h) ⟨_,hS391.pick3.pick1⟩ (l':=[(47,.bool (!(y384))),(0,nI x46),(5,nP z17 0),(1,.bool (i1))]) (by kernel_rfl) ?_
       intro a394 hF393; clear hF392
       refine any_done (by kernel_rfl) ?_
       have hS395:=hS391.pick5.drop.pick5.drop
       clear hS391
       have hS396:=hS395.pick4.pick3.pick3.pick4.pick4
       clear hS395
       exact thenN ⟨s385,s386,!(y384),hF393,hS396,hm388⟩
     · skip
       have hS397:St w0 F0 (BoolsP (.slice (some ⟨w373.heap.size,0,none⟩) 2 2) [true,true]::BlkP z17 77 #[nP z18 0,nP z20 0,nS g360 L9 c34,.slice p37 L10.length c38]::HeapP z18 z19 s369::RHeapP z20 z21 z22 z23 z24 s370::RowP (nS g360 L9 c34) L9::RowP (.slice p37 L10.length c38) L10::ps) (w373.alloc (.cells #[.bool true,.bool true] 4)):=St.litB hS375 [true,true] (by unfold maxLen; simp)
       clear hS375
       refine op_step 23 #[true,true,true,true,true,true,true,true,true,true,true,true,true,true,true,true,true,true,true,true,true,true,false,true,true,false,false,false] (.slice (some ⟨w373.heap.size,0,none⟩) 2 2) (w373.alloc (.cells #[.bool true,.bool true] 4)) hF376 rfl (by kernel_rfl) rfl (by kernel_rfl) (by kernel_rfl) (l':=[(43,.slice (some ⟨w373.heap.size,0,none⟩) 2 2),(29,nI x368),(44,nI x46),(41,nI (atI L9 (1:Int))),(35,nI (atI L9 (0:Int))),(28,nP z17 0),(27,nP z17 0),(26,.bool false),(0,nI x46),(5,nP z17 0),(1,.bool (i1))]) (by kernel_rfl) ⟨_,hS397.pick4.pick2⟩ (by kernel_rfl) ?_
       intro a399 hF398; clear hF376
       refine any_one 22 (by kernel_rfl) ?_
       have hS400:St w0 F0 (RowP (.slice (some ⟨(w373.alloc (.cells #[.bool true,.bool true] 4)).heap.size,0,none⟩) 2 2) [atI L9 (0:Int),atI L9 (1:Int)]::BoolsP (.slice (some ⟨w373.heap.size,0,none⟩) 2 2) [true,true]::BlkP z17 77 #[nP z18 0,nP z20 0,nS g360 L9 c34,.slice p37 L10.length c38]::HeapP z18 z19 s369::RHeapP z20 z21 z22 z23 z24 s370::RowP (nS g360 L9 c34) L9::RowP (.slice p37 L10.length c38) L10::ps) ((w373.alloc (.cells #[.bool true,.bool true] 4)).alloc (.cells #[nI (atI L9 (0:Int)),nI (atI L9 (1:Int))] 3)):=St.lit hS397 [atI L9 (0:Int),atI L9 (1:Int)] (by unfold maxLen; simp)
       clear hS397
       refine op_step 22 #[true,true,true,true,true,true,true,true,true,true,true,true,true,true,true,true,true,true,true,true,true,true,true,true,true,false,false,false] (.slice (some ⟨(w373.alloc (.cells #[.bool true,.bool true] 4)).heap.size,0,none⟩) 2 2) ((w373.alloc (.cells #[.bool true,.bool true] 4)).alloc (.cells #[nI (atI L9 (0:Int)),nI (atI L9 (1:Int))] 3)) hF398 rfl (by kernel_rfl) rfl (by kernel_rfl) (by kernel_rfl) (l':=[(42,.slice (some ⟨(w373.alloc (.cells #[.bool true,.bool true] 4)).heap.size,0,none⟩) 2 2),(43,.slice (some ⟨w373.heap.size,0,none⟩) 2 2),(29,nI x368),(44,nI x46),(41,nI (atI L9 (1:Int))),(35,nI (atI L9 (0:Int))),(28,nP z17 0),(27,nP z17 0),(26,.bool false),(0,nI x46),(5,nP z17 0),(1,.bool (i1))]) (by kernel_rfl) ⟨_,hS400.pick5.pick3⟩ (by kernel_rfl) ?_
       intro a402 hF401; clear hF398
       have hS403:=hS400.pick1.pick1.pick6.pick6.pick6.pick6.pick6
       clear hS400
       refine any_call 25 #[true,true,true,true,true,true,true,true,true,true,true,true,true,true,true,true,true,true,true,true,true,true,true,true,true,true,false,false] 48 #[nP z17 0,nI x368,.slice (some ⟨(w373.alloc (.cells #[.bool true,.bool true] 4)).heap.size,0,none⟩) 2 2,.slice (some ⟨w373.heap.size,0,none⟩) 2 2,nI x46,nI 20] hF401 rfl (by kernel_rfl) rfl rfl (by kernel_rfl) rfl (by kernel_rfl) (fun w=>by kernel_rfl) (by kernel_rfl) ?_
       obtain ⟨y404,s405,s406,hx407,hm408⟩:=bind3E hm372; clear hm372
       refine (law16_wait.ok hS403 hx407).mono ?_
       rintro _ w409 ⟨rfl,hS411⟩; clear hS403
       refine ⟨⟨_,hS411.pick3.pick1⟩,?_⟩
       intro a410 hF412; clear hF401
       refine any_many 2 [(26,some (.bool (!(y404)))),(27,some (.bool (!(y404))))] [0,1,5,47] #[true,true,true,true,true,true,true,true,true,true,true,true,true,true,true,true,true,true,true,true,true,true,true,true,true,true,true,true] (by rfl) hF412 (by kernel_rfl) (by kernel_rfl) (by exact ⟨fun wS hw=>by kernel_rfl,fun wS hw=>by kernel_rfl,trivial⟩) (fun _ _ _ _ _ h=>h) ⟨_,hS411.pick3.pick1⟩ (l':=[(47,.bool (!(y404))),(0,nI x46),(5,nP z17 0),(1,.bool (i1))]) (by kernel_rfl) ?_
       intro a414 hF413; clear hF412
       refine any_done (by kernel_rfl) ?_
       have hS415:=hS411.pick5.drop.pick5.drop
       clear hS411
       have hS416:=hS415.pick4.pick3.pick3.pick4.pick4
       clear hS415
       exact thenN ⟨s405,s406,!(y404),hF413,hS416,hm408⟩
   · skip
     have hS417:St w0 F0 (RowP (.slice (some ⟨w345.heap.size,0,none⟩) 2 2) [atI L9 (0:Int),atI L9 (1:Int)]::BlkP z17 77 #[nP z18 0,nP z20 0,nS g360 L9 c34,.slice p37 L10.length c38]::RowP (nS g360 L9 c34) L9::HeapP z18 z19 s7::RHeapP z20 z21 z22 z23 z24 s8::RowP (.slice p37 L10.length c38) L10::ps) (w345.alloc (.cells #[nI (atI L9 (0:Int)),nI (atI L9 (1:Int))] 3)):=St.lit hS347 [atI L9 (0:Int),atI L9 (1:Int)] (by unfold maxLen; simp)
     clear hS347
     refine op_step 22 #[true,true,true,true,true,true,true,true,true,false,true,true,true,true,true,true,true,true,true,true,true,true,true,false,true,false,false,false] (.slice (some ⟨w345.heap.size,0,none⟩) 2 2) (w345.alloc (.cells #[nI (atI L9 (0:Int)),nI (atI L9 (1:Int))] 3)) hF365 rfl (by kernel_rfl) rfl (by kernel_rfl) (by kernel_rfl) (l':=[(42,.slice (some ⟨w345.heap.size,0,none⟩) 2 2),(44,nI x46),(41,nI (atI L9 (1:Int))),(35,nI (atI L9 (0:Int))),(28,nP z17 0),(27,nP z17 0),(26,.bool false),(0,nI x46),(5,nP z17 0),(1,.bool (i1))]) (by kernel_rfl) ⟨_,hS417.pick2.pick2⟩ (by kernel_rfl) ?_
     intro a419 hF418; clear hF365
     refine any_two 9 23 (by kernel_rfl) ?_ ?_
     · skip
       have hS420:=hS417.pick5.pick3.pick5.pick5.pick5
       clear hS417
       refine op_call 9 #[true,true,true,true,true,true,true,true,true,true,true,true,true,true,true,true,true,true,true,true,true,true,true,false,true,false,false,false] 47 #[nP z17 0,nI 0] hF418 rfl rfl rfl (by kernel_rfl) rfl (by kernel_rfl) (fun w=>by kernel_rfl) (by kernel_rfl) ?_
       obtain ⟨x421,s422,s423,hx424,hm425⟩:=bind3E hm364; clear hm364
       refine (law16_gor.ok hS420 hx424).mono ?_
       rintro _ w426 ⟨rfl,hS428⟩; clear hS420
       refine ⟨⟨_,hS428.pick3.pick1⟩,?_⟩
       intro a427 hF429; clear hF418
       refine any_one 23 (by kernel_rfl) ?_
       have hS430:St w0 F0 (BoolsP (.slice (some ⟨w426.heap.size,0,none⟩) 2 2) [true,true]::BlkP z17 77 #[nP z18 0,nP z20 0,nS g360 L9 c34,.slice p37 L10.length c38]::HeapP z18 z19 s422::RHeapP z20 z21 z22 z23 z24 s423::RowP (nS g360 L9 c34) L9::RowP (.slice p37 L10.length c38) L10::RowP (.slice (some ⟨w345.heap.size,0,none⟩) 2 2) [atI L9 (0:Int),atI L9 (1:Int)]::ps) (w426.alloc (.cells #[.bool true,.bool true] 4)):=St.litB hS428 [true,true] (by unfold maxLen; simp)
       clear hS428
       refine op_step 23 #[true,true,true,true,true,true,true,true,true,true,true,true,true,true,true,true,true,true,true,true,true,true,true,true,true,false,false,false] (.slice (some ⟨w426.heap.size,0,none⟩) 2 2) (w426.alloc (.cells #[.bool true,.bool true] 4)) hF429 rfl (by kernel_rfl) rfl (by kernel_rfl) (by kernel_rfl) (l':=[(43,.slice (some ⟨w426.heap.size,0,none⟩) 2 2),(29,nI x421),(42,.slice (some ⟨w345.heap.size,0,none⟩) 2 2),(44,nI x46),(41,nI (atI L9 (1:Int))),(35,nI (atI L9 (0:Int))),(28,nP z17 0),(27,nP z17 0),(26,.bool false),(0,nI x46),(5,nP z17 0),(1,.bool (i1))]) (by kernel_rfl) ⟨_,hS430.pick4.pick2⟩ (by kernel_rfl) ?_
       intro a432 hF431; clear hF429
       have hS433:=hS430.pick6.pick6.pick6.pick6.pick6.pick6
       clear hS430
       refine any_call 25 #[true,true,true,true,true,true,true,true,true,true,true,true,true,true,true,true,true,true,true,true,true,true,true,true,true,true,false,false] 48 #[nP z17 0,nI x421,.slice (some ⟨w345.heap.size,0,none⟩) 2 2,.slice (some ⟨w426.heap.size,0,none⟩) 2 2,nI x46,nI 20] hF431 rfl (by kernel_rfl) rfl rfl (by kernel_rfl) rfl (by kernel_rfl) (fun w=>by kernel_rfl) (by kernel_rfl) ?_
       obtain ⟨y434,s435,s436,hx437,hm438⟩:=bind3E hm425; clear hm425
       refine (law16_wait.ok hS433 hx437).mono ?_
       rintro _ w439 ⟨rfl,hS441⟩; clear hS433
       refine ⟨⟨_,hS441.pick3.pick1⟩,?_⟩
       intro a440 hF442; clear hF431
       refine any_many 2 [(26,some (.bool (!(y434)))),(27,some (.bool (!(y434))))] [0,1,5,47] #[true,true,true,true,true,true,true,true,true,true,true,true,true,true,true,true,true,true,true,true,true,true,true,true,true,true,true,true] (by rfl) hF442 (by kernel_rfl) (by kernel_rfl) (by exact ⟨fun wS hw=>by kernel_rfl,fun wS hw=>by kernel_rfl,trivial⟩) (fun _ _ _ _ _ h=>h) ⟨_,hS441.pick3.pick1⟩ (l':=[(47,.bool (!(y434))),(0,nI x46),(5,nP z17 0),(1,.bool (i1))]) (by kernel_rfl) ?_
       intro a444 hF443; clear hF442
       refine any_done (by kernel_rfl) ?_
       have hS445:=hS441.pick5.drop.pick5.drop
       clear hS441
       have hS446:=hS445.pick4.pick3.pick3.pick4.pick4
       clear hS445
       exact thenN ⟨s435,s436,!(y434),hF443,hS446,hm438⟩
     · skip
       have hS447:St w0 F0 (BoolsP (.slice (some ⟨(w345.alloc (.cells #[nI (atI L9 (0:Int)),nI (atI L9 (1:Int))] 3)).heap.size,0,none⟩) 2 2) [true,true]::RowP (.slice (some ⟨w345.heap.size,0,none⟩) 2 2) [atI L9 (0:Int),atI L9 (1:Int)]::BlkP z17 77 #[nP z18 0,nP z20 0,nS g360 L9 c34,.slice p37 L10.length c38]::RowP (nS g360 L9 c34) L9::HeapP z18 z19 s7::RHeapP z20 z21 z22 z23 z24 s8::RowP (.slice p37 L10.length c38) L10::ps) ((w345.alloc (.cells #[nI (atI L9 (0:Int)),nI (atI L9 (1:Int))] 3)).alloc (.cells #[.bool true,.bool true] 4)):=St.litB hS417 [true,true] (by unfold maxLen; simp)
       clear hS417
       refine op_step 23 #[true,true,true,true,true,true,true,true,true,false,true,true,true,true,true,true,true,true,true,true,true,true,true,true,true,false,false,false] (.slice (some ⟨(w345.alloc (.cells #[nI (atI L9 (0:Int)),nI (atI L9 (1:Int))] 3)).heap.size,0,none⟩) 2 2) ((w345.alloc (.cells #[nI (atI L9 (0:Int)),nI (atI L9 (1:Int))] 3)).alloc (.cells #[.bool true,.bool true] 4)) hF418 rfl (by kernel_rfl) rfl (by kernel_rfl) (by kernel_rfl) (l':=[(43,.slice (some ⟨(w345.alloc (.cells #[nI (atI L9 (0:Int)),nI (atI L9 (1:Int))] 3)).heap.size,0,none⟩) 2 2),(42,.slice (some ⟨w345.heap.size,0,none⟩) 2 2),(44,nI x46),(41,nI (atI L9 (1:Int))),(35,nI (atI L9 (0:Int))),(28,nP z17 0),(27,nP z17 0),(26,.bool false),(0,nI x46),(5,nP z17 0),(1,.bool (i1))]) (by kernel_rfl) ⟨_,hS447.pick3.pick3⟩ (by kernel_rfl) ?_
       intro a449 hF448; clear hF418
       have hS450:=hS447.pick6.pick4.pick6.pick6.pick6
       clear hS447
       refine any_call 9 #[true,true,true,true,true,true,true,true,true,true,true,true,true,true,true,true,true,true,true,true,true,true,true,true,true,false,false,false] 47 #[nP z17 0,nI 0] hF448 rfl (by kernel_rfl) rfl rfl (by kernel_rfl) rfl (by kernel_rfl) (fun w=>by kernel_rfl) (by kernel_rfl) ?_
       obtain ⟨x451,s452,s453,hx454,hm455⟩:=bind3E hm364; clear hm364
       refine (law16_gor.ok hS450 hx454).mono ?_
       rintro _ w456 ⟨rfl,hS458⟩; clear hS450
       refine ⟨⟨_,hS458.pick3.pick1⟩,?_⟩
       intro a457 hF459; clear hF448
       have hS460:=hS458.pick5.pick6.pick6.pick6.pick6.pick6.pick6
       clear hS458
       refine any_call 25 #[true,true,true,true,true,true,true,true,true,true,true,true,true,true,true,true,true,true,true,true,true,true,true,true,true,true,false,false] 48 #[nP z17 0,nI x451,.slice (some ⟨w345.heap.size,0,none⟩) 2 2,.slice (some ⟨(w345.alloc (.cells #[nI (atI L9 (0:Int)),nI (atI L9 (1:Int))] 3)).heap.size,0,none⟩) 2 2,nI x46,nI 20] hF459 rfl (by kernel_rfl) rfl rfl (by kernel_rfl) rfl (by kernel_rfl) (fun w=>by kernel_rfl) (by kernel_rfl) ?_
       obtain ⟨y461,s462,s463,hx464,hm465⟩:=bind3E hm455; clear hm455
       refine (law16_wait.ok hS460 hx464).mono ?_
       rintro _ w466 ⟨rfl,hS468⟩; clear hS460
       refine ⟨⟨_,hS468.pick3.pick1⟩,?_⟩
       intro a467 hF469; clear hF459
       refine any_many 2 [(26,some (.bool (!(y461)))),(27,some (.bool (!(y461))))] [0,1,5,47] #[true,true,true,true,true,true,true,true,true,true,true,true,true,true,true,true,true,true,true,true,true,true,true,true,true,true,true,true] (by rfl) hF469 (by kernel_rfl) (by kernel_rfl) (by exact ⟨fun wS hw=>by kernel_rfl,fun wS hw=>by kernel_rfl,trivial⟩) (fun _ _ _ _ _ h=>h) ⟨_,hS468.pick3.pick1⟩ (l':=[(47,.bool (!(y461))),(0,nI x46),(5,nP z17 0),(1,.bool (i1))]) (by kernel_rfl) ?_
       intro a471 hF470; clear hF469
       refine any_done (by kernel_rfl) ?_
       have hS472:=hS468.pick5.drop.pick5.drop
       clear hS468
       have hS473:=hS472.pick4.pick3.pick3.pick4.pick4
       clear hS472
       exact thenN ⟨s462,s463,!(y461),hF470,hS473,hm465⟩
   · skip
     have hS474:St w0 F0 (BoolsP (.slice (some ⟨w345.heap.size,0,none⟩) 2 2) [true,true]::BlkP z17 77 #[nP z18 0,nP z20 0,nS g360 L9 c34,.slice p37 L10.length c38]::RowP (nS g360 L9 c34) L9::HeapP z18 z19 s7::RHeapP z20 z21 z22 z23 z24 s8::RowP (.slice p37 L10.length c38) L10::ps) (w345.alloc (.cells #[.bool true,.bool true] 4)):=St.litB hS347 [true,true] (by unfold maxLen; simp)
     clear hS347
     refine op_step 23 #[true,true,true,true,true,true,true,true,true,false,true,true,true,true,true,true,true,true,true,true,true,true,false,true,true,false,false,false] (.slice (some ⟨w345.heap.size,0,none⟩) 2 2) (w345.alloc (.cells #[.bool true,.bool true] 4)) hF365 rfl (by kernel_rfl) rfl (by kernel_rfl) (by kernel_rfl) (l':=[(43,.slice (some ⟨w345.heap.size,0,none⟩) 2 2),(44,nI x46),(41,nI (atI L9 (1:Int))),(35,nI (atI L9 (0:Int))),(28,nP z17 0),(27,nP z17 0),(26,.bool false),(0,nI x46),(5,nP z17 0),(1,.bool (i1))]) (by kernel_rfl) ⟨_,hS474.pick2.pick2⟩ (by kernel_rfl) ?_
     intro a476 hF475; clear hF365
     refine any_two 9 22 (by kernel_rfl) ?_ ?_
     · skip
       have hS477:=hS474.pick5.pick3.pick5.pick5.pick5
       clear hS474
       refine op_call 9 #[true,true,true,true,true,true,true,true,true,true,true,true,true,true,true,true,true,true,true,true,true,true,false,true,true,false,false,false] 47 #[nP z17 0,nI 0] hF475 rfl rfl rfl (by kernel_rfl) rfl (by kernel_rfl) (fun w=>by kernel_rfl) (by kernel_rfl) ?_
       obtain ⟨x478,s479,s480,hx481,hm482⟩:=bind3E hm364; clear hm364
       refine (law16_gor.ok hS477 hx481).mono ?_
       rintro _ w483 ⟨rfl,hS485⟩; clear hS477
       refine ⟨⟨_,hS485.pick3.pick1⟩,?_⟩
       intro a484 hF486; clear hF475
       refine any_one 22 (by kernel_rfl) ?_
       have hS487:St w0 F0 (RowP (.slice (some ⟨w483.heap.size,0,none⟩) 2 2) [atI L9 (0:Int),atI L9 (1:Int)]::BlkP z17 77 #[nP z18 0,nP z20 0,nS g360 L9 c34,.slice p37 L10.length c38]::HeapP z18 z19 s479::RHeapP z20 z21 z22 z23 z24 s480::RowP (nS g360 L9 c34) L9::RowP (.slice p37 L10.length c38) L10::BoolsP (.slice (some ⟨w345.heap.size,0,none⟩) 2 2) [true,true]::ps) (w483.alloc (.cells #[nI (atI L9 (0:Int)),nI (atI L9 (1:Int))] 3)):=St.lit hS485 [atI L9 (0:Int),atI L9 (1:Int)] (by unfold maxLen; simp)
       clear hS485
       refine op_step 22 #[true,true,true,true,true,true,true,true,true,true,true,true,true,true,true,true,true,true,true,true,true,true,true,true,true,false,false,false] (.slice (some ⟨w483.heap.size,0,none⟩) 2 2) (w483.alloc (.cells #[nI (atI L9 (0:Int)),nI (atI L9 (1:Int))] 3)) hF486 rfl (by kernel_rfl) rfl (by kernel_rfl) (by kernel_rfl) (l':=[(42,.slice (some ⟨w483.heap.size,0,none⟩) 2 2),(29,nI x478),(43,.slice (some ⟨w345.heap.size,0,none⟩) 2 2),(44,nI x46),(41,nI (atI L9 (1:Int))),(35,nI (atI L9 (0:Int))),(28,nP z17 0),(27,nP z17 0),(26,.bool false),(0,nI x46),(5,nP z17 0),(1,.bool (i1))]) (by kernel_rfl) ⟨_,hS487.pick4.pick2⟩ (by kernel_rfl) ?_
       intro a489 hF488; clear hF486
       have hS490:=hS487.pick6.pick1.pick6.pick6.pick6.pick6.pick6
       clear hS487
       refine any_call 25 #[true,true,true,true,true,true,true,true,true,true,true,true,true,true,true,true,true,true,true,true,true,true,true,true,true,true,false,false] 48 #[nP z17 0,nI x478,.slice (some ⟨w483.heap.size,0,none⟩) 2 2,.slice (some ⟨w345.heap.size,0,none⟩) 2 2,nI x46,nI 20] hF488 rfl (by kernel_rfl) rfl rfl (by kernel_rfl) rfl (by kernel_rfl) (fun w=>by kernel_rfl) (by kernel_rfl) ?_
       obtain ⟨y491,s492,s493,hx494,hm495⟩:=bind3E hm482; clear hm482
       refine (law16_wait.ok hS490 hx494).mono ?_
       rintro _ w496 ⟨rfl,hS498⟩; clear hS490
       refine ⟨⟨_,hS498.pick3.pick1⟩,?_⟩
       intro a497 hF499; clear hF488
       refine any_many 2 [(26,some (.bool (!(y491)))),(27,some (.bool (!(y491))))] [0,1,5,47] #[true,true,true,true,true,true,true,true,true,true,true,true,true,true,true,true,true,true,true,true,true,true,true,true,true,true,true,true] (by rfl) hF499 (by kernel_rfl) (by kernel_rfl) (by exact ⟨fun wS hw=>by kernel_rfl,fun wS hw=>by kernel_rfl,trivial⟩) (fun _ _ _ _ _ h=>h) ⟨_,hS498.pick3.pick1⟩ (l':=[(47,.bool (!(y491))),(0,nI x46),(5,nP z17 0),(1,.bool (i1))]) (by kernel_rfl) ?_
       intro a501 hF500; clear hF499
       refine any_done (by kernel_rfl) ?_
       have hS502:=hS498.pick5.drop.pick5.drop
       clear hS498
       have hS503:=hS502.pick4.pick3.pick3.pick4.pick4
       clear hS502
       exact thenN ⟨s492,s493,!(y491),hF500,hS503,hm495⟩
     · skip
       have hS504:St w0 F0 (RowP (.slice (some ⟨(w345.alloc (.cells #[.bool true,.bool true] 4)).heap.size,0,none⟩) 2 2) [atI L9 (0:Int),atI L9 (1:Int)]::BoolsP (.slice (some ⟨w345.heap.size,0,none⟩) 2 2) [true,true]::BlkP z17 77 #[nP z18 0,nP z20 0,nS g360 L9 c34,.slice p37 L10.length c38]::RowP (nS g360 L9 c34) L9::HeapP z18 z19 s7::RHeapP z20 z21 z22 z23 z24 s8::RowP (.slice p37 L10.length c38) L10::ps) ((w345.alloc (.cells #[.bool true,.bool true] 4)).alloc (.cells #[nI (atI L9 (0:Int)),nI (atI L9 (1:Int))] 3)):=St.lit hS474 [atI L9 (0:Int),atI L9 (1:Int)] (by unfold maxLen; simp)
       clear hS474
       refine op_step 22 #[true,true,true,true,true,true,true,true,true,false,true,true,true,true,true,true,true,true,true,true,true,true,true,true,true,false,false,false] (.slice (some ⟨(w345.alloc (.cells #[.bool true,.bool true] 4)).heap.size,0,none⟩) 2 2) ((w345.alloc (.cells #[.bool true,.bool true] 4)).alloc (.cells #[nI (atI L9 (0:Int)),nI (atI L9 (1:Int))] 3)) hF475 rfl (by kernel_rfl) rfl (by kernel_rfl) (by kernel_rfl) (l':=[(42,.slice (some ⟨(w345.alloc (.cells #[.bool true,.bool true] 4)).heap.size,0,none⟩) 2 2),(43,.slice (some ⟨w345.heap.size,0,none⟩) 2 2),(44,nI x46),(41,nI (atI L9 (1:Int))),(35,nI (atI L9 (0:Int))),(28,nP z17 0),(27,nP z17 0),(26,.bool false),(0,nI x46),(5,nP z17 0),(1,.bool (i1))]) (by kernel_rfl) ⟨_,hS504.pick3.pick3⟩ (by kernel_rfl) ?_
       intro a506 hF505; clear hF475
       have hS507:=hS504.pick6.pick4.pick6.pick6.pick6
       clear hS504
       refine any_call 9 #[true,true,true,true,true,true,true,true,true,true,true,true,true,true,true,true,true,true,true,true,true,true,true,true,true,false,false,false] 47 #[nP z17 0,nI 0] hF505 rfl (by kernel_rfl) rfl rfl (by kernel_rfl) rfl (by kernel_rfl) (fun w=>by kernel_rfl) (by kernel_rfl) ?_
       obtain ⟨x508,s509,s510,hx511,hm512⟩:=bind3E hm364; clear hm364
       refine (law16_gor.ok hS507 hx511).mono ?_
       rintro _ w513 ⟨rfl,hS515⟩; clear hS507
       refine ⟨⟨_,hS515.pick3.pick1⟩,?_⟩
       intro a514 hF516; clear hF505
       refine any_call 25 #[true,true,true,true,true,true,true,true,true,true,true,true,true,true,true,true,true,true,true,true,true,true,true,true,true,true,false,false] 48 #[nP z17 0,nI x508,.slice (some ⟨(w345.alloc (.cells #[.bool true,.bool true] 4)).heap.size,0,none⟩) 2 2,.slice (some ⟨w345.heap.size,0,none⟩) 2 2,nI x46,nI 20] hF516 rfl (by kernel_rfl) rfl rfl (by kernel_rfl) rfl (by kernel_rfl) (fun w=>by kernel_rfl) (by kernel_rfl) ?_
       obtain ⟨y517,s518,s519,hx520,hm521⟩:=bind3E hm512; clear hm512
       refine (law16_wait.ok hS515 hx520).mono ?_
       rintro _ w522 ⟨rfl,hS524⟩; clear hS515
       refine ⟨⟨_,hS524.pick3.pick1⟩,?_⟩
       intro a523 hF525; clear hF516
       refine any_many 2 [(26,some (.bool (!(y517)))),(27,some (.bool (!(y517))))] [0,1,5,47] #[true,true,true,true,true,true,true,true,true,true,true,true,true,true,true,true,true,true,true,true,true,true,true,true,true,true,true,true] (by rfl) hF525 (by kernel_rfl) (by kernel_rfl) (by exact ⟨fun wS hw=>by kernel_rfl,fun wS hw=>by kernel_rfl,trivial⟩) (fun _ _ _ _ _ h=>h) ⟨_,hS524.pick3.pick1⟩ (l':=[(47,.bool (!(y517))),(0,nI x46),(5,nP z17 0),(1,.bool (i1))]) (by kernel_rfl) ?_
       intro a527 hF526; clear hF525
       refine any_done (by kernel_rfl) ?_
       have hS528:=hS524.pick5.drop.pick5.drop
       clear hS524
       have hS529:=hS528.pick4.pick3.pick3.pick4.pick4
       clear hS528
       exact thenN ⟨s518,s519,!(y517),hF526,hS529,hm521⟩
end Go.Proofs.YtgejcjcpchofiaaGreat
