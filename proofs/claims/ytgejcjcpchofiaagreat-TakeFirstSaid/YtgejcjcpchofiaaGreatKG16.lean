/- G16 GTakeFirst -/
import Derived.Test.YtgejcjcpchofiaaGreatKG16w
import Derived.Test.YtgejcjcpchofiaaGreatKGSend
import Derived.Test.YtgejcjcpchofiaaGreatKGTake
import Derived.Deep.LoopGhost
import Derived.KernelRfl
namespace Go.Proofs.YtgejcjcpchofiaaGreat
open Go.RowKit
set_option linter.unusedVariables false
def law16_awake.j1 (y101:Bool):Option (Bool):=some (y101)
def law16_awake.m (k:Nat):Option (Bool):=bind4 (law16_made.m k [1] 1) fun s7 s8 L9 L10=>bind3 (law16_ch.m k s7 s8 L9 L10 0) fun x50 s51 s52=>bind3 (send_Try.m k s51 (IntKind.i64.wrap ((IntKind.i64.wrap (2 * x50)) + 1)) 6) fun x62 x63 s64=>bind3 (law16_ch.m k s64 s52 L9 L10 0) fun x77 s78 s79=>bind4 (take_Try.m k s78 (IntKind.i64.wrap ((IntKind.i64.wrap (2 * x77)) + 1))) fun x89 x90 x91 s92=>(if (x63 == 1) then (if (x89 == 6) then (if (x90 == (-1)) then (if (x91 == 1) then bind2 (take_Ready.m k s92 0) fun y130 s131=>law16_awake.j1 (!(y130)) else law16_awake.j1 false) else law16_awake.j1 false) else law16_awake.j1 false) else law16_awake.j1 false)
set_option maxRecDepth 100000 in
set_option maxHeartbeats 1500000 in
theorem law16_awake.ok {w0 w:World} {F0:List Nat} {ps:List Piece} {k:Nat}  {r0:Bool} (hS:St w0 F0 (ps) w) (hm:law16_awake.m k = some r0) :
    Calls Tryz.prog 43 #[] w fun e w'=>e = .returned (.bool r0)∧St w0 F0 (ps) w':=by
 refine ev_enterL 58 [] Tryz.func43 rfl rfl (by simp) ?_
 intro a hF
 have hF0:Fr 58 a []:=hF; clear hF
 unfold law16_awake.m at hm
 refine wp_seq (wp_region_lit ?_)
 refine ev_runK 1 hF0 [] (l':=[]) (w':=w) (by kernel_rfl) ?_
 intro a2 hF1; clear hF0
 refine wpList_nil (thenN (wp_seq (wp_region_lit ?_)))
 refine ev_runs 1 hF1 (l':=[(7,.slice (some ⟨w.heap.size,0,none⟩) 1 1)]) (w':=w.alloc (.cells #[nI 1] 3)) (by kernel_rfl) ?_
 intro a4 hF3; clear hF1
 have hS6:St w0 F0 (RowP (.slice (some ⟨w.heap.size,0,none⟩) 1 1) [1]::ps) (w.alloc (.cells #[nI 1] 3)):=St.lit hS [1] (by unfold maxLen; simp)
 refine ev_call 42 #[.slice (some ⟨w.heap.size,0,none⟩) 1 1,nI 1] hF3 rfl rfl (by kernel_rfl) rfl (by kernel_rfl) (fun w=>by kernel_rfl) ?_
 obtain ⟨s7,s8,L9,L10,hx11,hm12⟩:=bind4E hm; clear hm
 refine (law16_made.ok hS6 hx11).mono ?_
 rintro _ w13 ⟨z17,z18,z19,z20,z21,z22,z23,z24,z25,z26,rfl,hS15⟩ a14 hF16; clear hF3 hS6
 have hS32:St w0 F0 (RowP (.slice (some ⟨w.heap.size,0,none⟩) 1 1) [1]::BlkP z17 77 #[nP z18 0,nP z20 0,z25,z26]::HeapP z18 z19 s7::RHeapP z20 z21 z22 z23 z24 s8::RowP (z25) L9::RowP (z26) L10::ps) w13:=hS15
 clear hS15
 obtain ⟨hl36,p33,c34,rfl,hp35⟩:=St.shape hS32 4 rfl
 obtain ⟨hl40,p37,c38,rfl,hp39⟩:=St.shape hS32 5 rfl
 refine ev_runK 1 hF16 [1] (l':=[(1,nP z17 0)]) (w':=w13) (by kernel_rfl) ?_
 intro a42 hF41; clear hF16
 refine wpList_nil ?_
 have hS43:=hS32.drop
 clear hS32
 refine thenN (wp_seq (wp_seq (wp_region_lit ?_)))
 refine ev_runK 2 hF41 [1,10] (l':=[(10,.bool false),(1,nP z17 0)]) (w':=w13) (by kernel_rfl) ?_
 intro a45 hF44; clear hF41
 refine wpList_nil (thenN ?_)
 refine ev_condF hF44 rfl rfl ?_
 refine wp_skip ?_
 have hF46:=hF44.keep [1]
 clear hF44
 refine thenN (wp_seq ?_)
 have hS47:=hS43.drew; clear hS43
 refine any_start (fun wS=>∃ qs,St w0 F0 (BlkP z17 77 #[nP z18 0,nP z20 0,.slice p33 L9.length c34,.slice p37 L10.length c38]::qs) wS) 14 #[false,false,false,false,false,false,false,false,false,false,false,false,false,false] (by kernel_rfl) (by kernel_rfl) (by kernel_rfl) ?_
 refine any_many 5 [(0,some (nP z17 0)),(1,some (nP z17 0)),(2,some (nP z17 0)),(3,some (nP z18 0)),(4,some (nP z17 0))] [1,3,11,15,16,17,18,19,20,21,22] #[true,true,true,true,true,false,false,false,false,false,false,false,false,false] (by rfl) hF46 (by kernel_rfl) (by kernel_rfl) (by exact ⟨fun wS hw=>by kernel_rfl,fun wS hw=>by kernel_rfl,fun wS hw=>by kernel_rfl,fun wS hw=>hw.elim fun qs hw=>run_loadV rfl rfl (run_loadS rfl rfl (hw.cell 0 rfl 0 rfl)),fun wS hw=>by kernel_rfl,trivial⟩) (fun _ _ _ _ _ h=>h) ⟨_,hS47⟩ (l':=[(16,nP z17 0),(15,nP z18 0),(1,nP z17 0)]) (by kernel_rfl) ?_
 intro a49 hF48; clear hF46
 refine any_call 5 #[true,true,true,true,true,true,false,false,false,false,false,false,false,false] 44 #[nP z17 0,nI 0] hF48 rfl (by kernel_rfl) rfl rfl (by kernel_rfl) rfl (by kernel_rfl) (fun w=>by kernel_rfl) (by kernel_rfl) ?_
 obtain ⟨x50,s51,s52,hx53,hm54⟩:=bind3E hm12; clear hm12
 refine (law16_ch.ok hS47 hx53).mono ?_
 rintro _ w55 ⟨rfl,hS57⟩; clear hS47
 refine ⟨⟨_,hS57⟩,?_⟩
 intro a56 hF58; clear hF48
 refine any_many 2 [(6,some (nI (IntKind.i64.wrap (2 * x50)))),(7,some (nI (IntKind.i64.wrap ((IntKind.i64.wrap (2 * x50)) + 1))))] [1,3,11,15,19,20,21,22] #[true,true,true,true,true,true,true,true,false,false,false,false,false,false] (by rfl) hF58 (by kernel_rfl) (by kernel_rfl) (by exact ⟨fun wS hw=>by kernel_rfl,fun wS hw=>by kernel_rfl,trivial⟩) (fun _ _ _ _ _ h=>h) ⟨_,hS57⟩ (l':=[(19,nI (IntKind.i64.wrap ((IntKind.i64.wrap (2 * x50)) + 1))),(15,nP z18 0),(1,nP z17 0)]) (by kernel_rfl) ?_
 intro a60 hF59; clear hF58
 have hS61:=hS57.pick1
 clear hS57
 refine any_call 8 #[true,true,true,true,true,true,true,true,true,false,false,false,false,false] 28 #[nP z18 0,nI (IntKind.i64.wrap ((IntKind.i64.wrap (2 * x50)) + 1)),nI 6] hF59 rfl (by kernel_rfl) rfl rfl (by kernel_rfl) rfl (by kernel_rfl) (fun w=>by kernel_rfl) (by kernel_rfl) ?_
 obtain ⟨x62,x63,s64,hx65,hm66⟩:=bind3E hm54; clear hm54
 refine (send_Try.ok hS61 hx65).mono ?_
 rintro _ w67 ⟨rfl,hS69⟩; clear hS61
 refine ⟨⟨_,hS69.pick1⟩,?_⟩
 intro a68 hF70; clear hF59
 refine any_many 5 [(9,some (.tuple #[nI x62,nI x63])),(10,some (nI x62)),(11,some (nI x63)),(12,some (nI x62)),(13,some (nI x63))] [1,3] #[true,true,true,true,true,true,true,true,true,true,true,true,true,true] (by rfl) hF70 (by kernel_rfl) (by kernel_rfl) (by exact ⟨fun wS hw=>by kernel_rfl,fun wS hw=>by kernel_rfl,fun wS hw=>by kernel_rfl,fun wS hw=>by kernel_rfl,fun wS hw=>by kernel_rfl,trivial⟩) (fun _ _ _ _ _ h=>h) ⟨_,hS69.pick1⟩ (l':=[(3,nI x63),(1,nP z17 0)]) (by kernel_rfl) ?_
 intro a72 hF71; clear hF70
 refine any_done (by kernel_rfl) ?_
 refine thenN (wp_seq ?_)
 have hS73:=hS69.pick1
 clear hS69
 have hS74:=hS73.drew; clear hS73
 refine any_start (fun wS=>∃ qs,St w0 F0 (BlkP z17 77 #[nP z18 0,nP z20 0,.slice p33 L9.length c34,.slice p37 L10.length c38]::qs) wS) 16 #[false,false,false,false,false,false,false,false,false,false,false,false,false,false,false,false] (by kernel_rfl) (by kernel_rfl) (by kernel_rfl) ?_
 refine any_many 5 [(0,some (nP z17 0)),(1,some (nP z17 0)),(2,some (nP z17 0)),(3,some (nP z18 0)),(4,some (nP z17 0))] [1,3,4,5,6,23,27,28,29,30,31,32,33,34,35] #[true,true,true,true,true,false,false,false,false,false,false,false,false,false,false,false] (by rfl) hF71 (by kernel_rfl) (by kernel_rfl) (by exact ⟨fun wS hw=>by kernel_rfl,fun wS hw=>by kernel_rfl,fun wS hw=>by kernel_rfl,fun wS hw=>hw.elim fun qs hw=>run_loadV rfl rfl (run_loadS rfl rfl (hw.cell 0 rfl 0 rfl)),fun wS hw=>by kernel_rfl,trivial⟩) (fun _ _ _ _ _ h=>h) ⟨_,hS74⟩ (l':=[(28,nP z17 0),(27,nP z18 0),(3,nI x63),(1,nP z17 0)]) (by kernel_rfl) ?_
 intro a76 hF75; clear hF71
 refine any_call 5 #[true,true,true,true,true,true,false,false,false,false,false,false,false,false,false,false] 44 #[nP z17 0,nI 0] hF75 rfl (by kernel_rfl) rfl rfl (by kernel_rfl) rfl (by kernel_rfl) (fun w=>by kernel_rfl) (by kernel_rfl) ?_
 obtain ⟨x77,s78,s79,hx80,hm81⟩:=bind3E hm66; clear hm66
 refine (law16_ch.ok hS74 hx80).mono ?_
 rintro _ w82 ⟨rfl,hS84⟩; clear hS74
 refine ⟨⟨_,hS84⟩,?_⟩
 intro a83 hF85; clear hF75
 refine any_many 2 [(6,some (nI (IntKind.i64.wrap (2 * x77)))),(7,some (nI (IntKind.i64.wrap ((IntKind.i64.wrap (2 * x77)) + 1))))] [1,3,4,5,6,23,27,31,32,33,34,35] #[true,true,true,true,true,true,true,true,false,false,false,false,false,false,false,false] (by rfl) hF85 (by kernel_rfl) (by kernel_rfl) (by exact ⟨fun wS hw=>by kernel_rfl,fun wS hw=>by kernel_rfl,trivial⟩) (fun _ _ _ _ _ h=>h) ⟨_,hS84⟩ (l':=[(31,nI (IntKind.i64.wrap ((IntKind.i64.wrap (2 * x77)) + 1))),(27,nP z18 0),(3,nI x63),(1,nP z17 0)]) (by kernel_rfl) ?_
 intro a87 hF86; clear hF85
 have hS88:=hS84.pick1
 clear hS84
 refine any_call 8 #[true,true,true,true,true,true,true,true,true,false,false,false,false,false,false,false] 45 #[nP z18 0,nI (IntKind.i64.wrap ((IntKind.i64.wrap (2 * x77)) + 1))] hF86 rfl (by kernel_rfl) rfl rfl (by kernel_rfl) rfl (by kernel_rfl) (fun w=>by kernel_rfl) (by kernel_rfl) ?_
 obtain ⟨x89,x90,x91,s92,hx93,hm94⟩:=bind4E hm81; clear hm81
 refine (take_Try.ok hS88 hx93).mono ?_
 rintro _ w95 ⟨rfl,hS97⟩; clear hS88
 refine ⟨⟨_,hS97.pick1⟩,?_⟩
 intro a96 hF98; clear hF86
 refine any_many 7 [(9,some (.tuple #[nI x89,nI x90,nI x91])),(10,some (nI x89)),(11,some (nI x90)),(12,some (nI x91)),(13,some (nI x89)),(14,some (nI x90)),(15,some (nI x91))] [1,3,4,5,6] #[true,true,true,true,true,true,true,true,true,true,true,true,true,true,true,true] (by rfl) hF98 (by kernel_rfl) (by kernel_rfl) (by exact ⟨fun wS hw=>by kernel_rfl,fun wS hw=>by kernel_rfl,fun wS hw=>by kernel_rfl,fun wS hw=>by kernel_rfl,fun wS hw=>by kernel_rfl,fun wS hw=>by kernel_rfl,fun wS hw=>by kernel_rfl,trivial⟩) (fun _ _ _ _ _ h=>h) ⟨_,hS97.pick1⟩ (l':=[(6,nI x91),(5,nI x90),(4,nI x89),(3,nI x63),(1,nP z17 0)]) (by kernel_rfl) ?_
 intro a100 hF99; clear hF98
 refine any_done (by kernel_rfl) ?_
 refine thenN (wp_seq ?_)
 refine joinQ (fun aI wI=>∃ (y101:Bool),Fr 58 aI [(0,.bool (y101))]∧St w0 F0 (ps) wI∧law16_awake.j1 y101 = some r0) ?_ ?_
 rotate_left
 · rintro a103 w104 ⟨y101,hF105,hS106,hm107⟩
   clear hF99 hS97 hm94
   unfold law16_awake.j1 at hm107
   refine thenN ?_
   refine wp_ret ?_
   obtain rfl:=Option.some.inj hm107
   refine ev_ret hF105 [0] (.bool (y101)) rfl rfl rfl ?_
   exact ⟨rfl,hS106⟩
 · skip
   refine wp_region_lit ?_
   refine ev_runs 3 hF99 (l':=[(38,.bool (x63 == 1)),(37,.bool (x63 == 1)),(36,nI x63),(6,nI x91),(5,nI x90),(4,nI x89),(3,nI x63),(1,nP z17 0)]) (w':=w95) (by kernel_rfl) ?_
   intro a111 hF110; clear hF99
   cases hc112:(x63 == 1)
   case true =>
    rw [hc112] at hF110
    have hm113:=ifYes hc112 hm94; clear hm94
    refine ev_runs 4 hF110 (l':=[(42,.bool (x89 == 6)),(41,.bool (x89 == 6)),(40,.bool (x89 == 6)),(39,nI x89),(38,.bool true),(37,.bool true),(36,nI x63),(6,nI x91),(5,nI x90),(4,nI x89),(3,nI x63),(1,nP z17 0)]) (w':=w95) (by kernel_rfl) ?_
    intro a115 hF114; clear hF110
    cases hc116:(x89 == 6)
    case true =>
     rw [hc116] at hF114
     have hm117:=ifYes hc116 hm113; clear hm113
     refine ev_runs 4 hF114 (l':=[(46,.bool (x90 == (-1))),(45,.bool (x90 == (-1))),(44,.bool (x90 == (-1))),(43,nI x90),(42,.bool true),(41,.bool true),(40,.bool true),(39,nI x89),(38,.bool true),(37,.bool true),(36,nI x63),(6,nI x91),(5,nI x90),(4,nI x89),(3,nI x63),(1,nP z17 0)]) (w':=w95) (by kernel_rfl) ?_
     intro a119 hF118; clear hF114
     cases hc120:(x90 == (-1))
     case true =>
      rw [hc120] at hF118
      have hm121:=ifYes hc120 hm117; clear hm117
      refine ev_runs 4 hF118 (l':=[(50,.bool (x91 == 1)),(49,.bool (x91 == 1)),(48,.bool (x91 == 1)),(47,nI x91),(46,.bool true),(45,.bool true),(44,.bool true),(43,nI x90),(42,.bool true),(41,.bool true),(40,.bool true),(39,nI x89),(38,.bool true),(37,.bool true),(36,nI x63),(6,nI x91),(5,nI x90),(4,nI x89),(3,nI x63),(1,nP z17 0)]) (w':=w95) (by kernel_rfl) ?_
      intro a123 hF122; clear hF118
      cases hc124:(x91 == 1)
      case true =>
       rw [hc124] at hF122
       have hm125:=ifYes hc124 hm121; clear hm121
       refine ev_runs 3 hF122 (l':=[(53,nP z17 0),(52,nP z17 0),(51,nP z17 0),(50,.bool true),(49,.bool true),(48,.bool true),(47,nI x91),(46,.bool true),(45,.bool true),(44,.bool true),(43,nI x90),(42,.bool true),(41,.bool true),(40,.bool true),(39,nI x89),(38,.bool true),(37,.bool true),(36,nI x63),(6,nI x91),(5,nI x90),(4,nI x89),(3,nI x63),(1,nP z17 0)]) (w':=w95) (by kernel_rfl) ?_
       intro a127 hF126; clear hF122
       refine ev_one (nP z18 0) w95 hF126 (by kernel_rfl) rfl (by kernel_rfl) (run_loadV rfl rfl (run_loadS rfl rfl (hS97.cell 1 rfl 0 rfl))) (l':=[(54,nP z18 0),(53,nP z17 0),(52,nP z17 0),(51,nP z17 0),(50,.bool true),(49,.bool true),(48,.bool true),(47,nI x91),(46,.bool true),(45,.bool true),(44,.bool true),(43,nI x90),(42,.bool true),(41,.bool true),(40,.bool true),(39,nI x89),(38,.bool true),(37,.bool true),(36,nI x63),(6,nI x91),(5,nI x90),(4,nI x89),(3,nI x63),(1,nP z17 0)]) (by kernel_rfl) ?_
       intro a129 hF128; clear hF126
       refine ev_call 46 #[nP z18 0,nI 0] hF128 rfl rfl (by kernel_rfl) rfl (by kernel_rfl) (fun w=>by kernel_rfl) ?_
       obtain ⟨y130,s131,hx132,hm133⟩:=bind2E hm125; clear hm125
       refine (take_Ready.ok hS97 hx132).mono ?_
       rintro _ w134 ⟨rfl,hS136⟩ a135 hF137; clear hF128 hS97
       refine ev_runK 3 hF137 [0] (l':=[(0,.bool (!(y130)))]) (w':=w134) (by kernel_rfl) ?_
       intro a139 hF138; clear hF137
       refine wpList_nil ?_
       have hS140:=hS136.drop.drop.drop.drop.drop
       clear hS136
       exact thenN ⟨!(y130),hF138,hS140,hm133⟩
      rw [hc124] at hF122
      have hm141:=ifNot hc124 hm121; clear hm121
      refine ev_runK 8 hF122 [0] (l':=[(0,.bool false)]) (w':=w95) (by kernel_rfl) ?_
      intro a143 hF142; clear hF122
      refine wpList_nil ?_
      have hS144:=hS97.drop.drop.drop.drop.drop
      clear hS97
      exact thenN ⟨false,hF142,hS144,hm141⟩
     rw [hc120] at hF118
     have hm145:=ifNot hc120 hm117; clear hm117
     refine ev_runK 12 hF118 [0] (l':=[(0,.bool false)]) (w':=w95) (by kernel_rfl) ?_
     intro a147 hF146; clear hF118
     refine wpList_nil ?_
     have hS148:=hS97.drop.drop.drop.drop.drop
     clear hS97
     exact thenN ⟨false,hF146,hS148,hm145⟩
    rw [hc116] at hF114
    have hm149:=ifNot hc116 hm113; clear hm113
    refine ev_runK 16 hF114 [0] (l':=[(0,.bool false)]) (w':=w95) (by kernel_rfl) ?_
    intro a151 hF150; clear hF114
    refine wpList_nil ?_
    have hS152:=hS97.drop.drop.drop.drop.drop
    clear hS97
    exact thenN ⟨false,hF150,hS152,hm149⟩
   rw [hc112] at hF110
   have hm153:=ifNot hc112 hm94; clear hm94
   refine ev_runK 20 hF110 [0] (l':=[(0,.bool false)]) (w':=w95) (by kernel_rfl) ?_
   intro a155 hF154; clear hF110
   refine wpList_nil ?_
   have hS156:=hS97.drop.drop.drop.drop.drop
   clear hS97
   exact thenN ⟨false,hF154,hS156,hm153⟩
end Go.Proofs.YtgejcjcpchofiaaGreat
namespace Go.Proofs.YtgejcjcpchofiaaGreat
open Go.RowKit
set_option linter.unusedVariables false
def TakeFirst.j6 (x141:Int) (rec144:HSt→HSt→Int→Option (Bool)) (s158:HSt) (s159:HSt) (y160:Bool):Option (Bool):=(if (y160) then some (false) else rec144 s158 s159 (IntKind.i64.wrap (x141 + 1)))
def TakeFirst.j13 (x271:Int) (rec274:HSt→HSt→Int→Option (Bool)) (s293:HSt) (s306:HSt) (y331:Bool):Option (Bool):=(if (y331) then some (false) else rec274 s306 s293 (IntKind.i64.wrap (x271 + 1)))
def TakeFirst.j12 (K2:List Int) (x271:Int) (rec274:HSt→HSt→Int→Option (Bool)) (s293:HSt) (x303:Int) (x304:Int) (x305:Int) (s306:HSt) (x323:Int):Option (Bool):=(if (inR x271 K2.length) then (if (x303 != (atI K2 x271)) then TakeFirst.j13 x271 rec274 s293 s306 true else (if (x304 != x323) then TakeFirst.j13 x271 rec274 s293 s306 true else TakeFirst.j13 x271 rec274 s293 s306 (x305 != 1))) else none)
def TakeFirst.j14 (y424:Bool):Option (Bool):=some (y424)
def TakeFirst.l11b (K2:List Int) (k:Nat) (x5:Int) (L18:List Int) (L19:List Int) (rec274:HSt→HSt→Int→Option (Bool)) (s269:HSt) (s270:HSt) (x271:Int):Option (Bool):=(if (decide (x271 < (IntKind.i64.wrap (x5 + (L19.length:Int))))) then bind3 (law16_ch.m k s269 s270 L18 L19 0) fun x291 s292 s293=>bind4 (take_Try.m k s292 (IntKind.i64.wrap ((IntKind.i64.wrap (2 * x291)) + 1))) fun x303 x304 x305 s306=>(if (decide (x271 < (L19.length:Int))) then (if (inR x271 L19.length) then TakeFirst.j12 K2 x271 rec274 s293 x303 x304 x305 s306 (atI L19 x271) else none) else TakeFirst.j12 K2 x271 rec274 s293 x303 x304 x305 s306 (-1)) else bind3 (law16_ch.m k s269 s270 L18 L19 0) fun x399 s400 s401=>bind4 (take_Try.m k s400 (IntKind.i64.wrap ((IntKind.i64.wrap (2 * x399)) + 1))) fun x411 x412 x413 s414=>(if (x411 == 0) then (if (x412 == (-1)) then TakeFirst.j14 (x413 == 0) else TakeFirst.j14 false) else TakeFirst.j14 false))
def TakeFirst.l11 (K2:List Int) (k:Nat) (x5:Int) (L18:List Int) (L19:List Int):Nat→HSt→HSt→Int→Option (Bool)
  | 0=>fun _ _ _=>none
  | kI + 1=>TakeFirst.l11b K2 k x5 L18 L19 (TakeFirst.l11 K2 k x5 L18 L19 kI)
def TakeFirst.l5b (K2:List Int) (k:Nat) (x5:Int) (L18:List Int) (L19:List Int) (rec144:HSt→HSt→Int→Option (Bool)) (s139:HSt) (s140:HSt) (x141:Int):Option (Bool):=(if (decide (x141 < (L19.length:Int))) then (if (inR x141 L19.length) then (if (inR (IntKind.i64.wrap (x5 + x141)) K2.length) then bind3 (law16_ch.m k s139 s140 L18 L19 0) fun x190 s191 s192=>bind3 (law16_wait.m k s191 s192 L18 L19 (atI L19 x141) [x190] [true] (atI K2 (IntKind.i64.wrap (x5 + x141))) x141) fun y206 s207 s208=>TakeFirst.j6 x141 rec144 s207 s208 (!(y206)) else none) else none) else TakeFirst.l11 K2 k x5 L18 L19 k s139 s140 0)
def TakeFirst.l5 (K2:List Int) (k:Nat) (x5:Int) (L18:List Int) (L19:List Int):Nat→HSt→HSt→Int→Option (Bool)
  | 0=>fun _ _ _=>none
  | kI + 1=>TakeFirst.l5b K2 k x5 L18 L19 (TakeFirst.l5 K2 k x5 L18 L19 kI)
def TakeFirst.l2b (K2:List Int) (k:Nat) (x5:Int) (L18:List Int) (L19:List Int) (rec83:HSt→HSt→Int→Option (Bool)) (s78:HSt) (s79:HSt) (x80:Int):Option (Bool):=(if (decide (x80 < x5)) then (if (inR x80 K2.length) then bind3 (law16_ch.m k s78 s79 L18 L19 0) fun x100 s101 s102=>bind3 (send_Try.m k s101 (IntKind.i64.wrap ((IntKind.i64.wrap (2 * x100)) + 1)) (atI K2 x80)) fun x112 x113 s114=>(if (x113 != 1) then some (false) else rec83 s114 s102 (IntKind.i64.wrap (x80 + 1))) else none) else TakeFirst.l5 K2 k x5 L18 L19 k s78 s79 0)
def TakeFirst.l2 (K2:List Int) (k:Nat) (x5:Int) (L18:List Int) (L19:List Int):Nat→HSt→HSt→Int→Option (Bool)
  | 0=>fun _ _ _=>none
  | kI + 1=>TakeFirst.l2b K2 k x5 L18 L19 (TakeFirst.l2 K2 k x5 L18 L19 kI)
def TakeFirst.j1 (K2:List Int) (k:Nat) (x5:Int) (s16:HSt) (s17:HSt) (L18:List Int) (L19:List Int) (y53:Bool):Option (Bool):=(if (y53) then bind1 (law16_awake.m k ) fun y63=>some (y63) else TakeFirst.l2 K2 k x5 L18 L19 k s16 s17 0)
def TakeFirst.m (k:Nat) (i0:Int) (i1:Int) (K2:List Int):Option (Bool):=bind1 (some (IntKind.i64.wrap (Int.tmod (IntKind.u64.wrap i0) 4))) fun x5=>bind4 (law16_made.m k [x5] i1) fun s16 s17 L18 L19=>bind1 (law16_awake.m k ) fun y449=>(if (!(y449)) then TakeFirst.j1 K2 k x5 s16 s17 L18 L19 true else TakeFirst.j1 K2 k x5 s16 s17 L18 L19 (decide ((K2.length:Int) < 10)))
set_option maxRecDepth 100000 in
set_option maxHeartbeats 40000000 in
theorem TakeFirst.ok {w0 w:World} {ps:List Piece} {k:Nat} {i0:Int} {i1:Int} {pa2:Option Addr} {ca2:Nat} {K2:List Int} (hA2:ArgInts w0 (.slice pa2 K2.length ca2) K2) {r0:Bool} (hS:St w0 [] (ps) w) (hm:TakeFirst.m k i0 i1 K2 = some r0) :
    Calls Tryz.prog 11 #[nI i0,nI i1,.slice pa2 K2.length ca2] w fun e w'=>e = .returned (.bool r0)∧St w0 [] (ps) w':=by
 refine ev_enterL 169 [nI i0,nI i1,.slice pa2 K2.length ca2] Tryz.func11 rfl rfl (by simp) ?_
 intro a hF
 have hF0:Fr 169 a [(0,nI i0),(1,nI i1),(2,.slice pa2 K2.length ca2)]:=hF; clear hF
 unfold TakeFirst.m at hm
 refine wp_seq (wp_region_lit ?_)
 refine ev_runK 1 hF0 [0,1,2] (l':=[(0,nI i0),(1,nI i1),(2,.slice pa2 K2.length ca2)]) (w':=w) (by kernel_rfl) ?_
 intro a2 hF1; clear hF0
 refine wpList_nil (thenN (wp_seq (wp_region_lit ?_)))
 refine ev_runs 5 hF1 (l':=[(0,nI (IntKind.i64.wrap (Int.tmod (IntKind.u64.wrap i0) 4))),(23,nI (IntKind.i64.wrap (Int.tmod (IntKind.u64.wrap i0) 4))),(22,.int .u64 (Int.tmod (IntKind.u64.wrap i0) 4)),(21,.int .u64 (IntKind.u64.wrap i0)),(20,nI i0),(1,nI i1),(2,.slice pa2 K2.length ca2)]) (w':=w) (by kernel_rfl) ?_
 intro a4 hF3; clear hF1
 obtain ⟨x5,hx6,hm7⟩:=bind1E hm; clear hm
 have hF8:=hF3; rw [Option.some.inj hx6] at hF8; clear hF3
 refine wpList_nil ?_
 have hF9:=hF8.keep [0,1,2]
 clear hF8
 refine thenN (wp_seq (wp_region_lit ?_))
 refine ev_runs 2 hF9 (l':=[(25,.slice (some ⟨w.heap.size,0,none⟩) 1 1),(24,nI x5),(0,nI x5),(1,nI i1),(2,.slice pa2 K2.length ca2)]) (w':=w.alloc (.cells #[nI x5] 3)) (by kernel_rfl) ?_
 intro a11 hF10; clear hF9
 have hS13:St w0 [] (RowP (.slice (some ⟨w.heap.size,0,none⟩) 1 1) [x5]::ps) (w.alloc (.cells #[nI x5] 3)):=St.lit hS [x5] (by unfold maxLen; simp)
 refine ev_runs 1 hF10 (l':=[(26,nI i1),(25,.slice (some ⟨w.heap.size,0,none⟩) 1 1),(24,nI x5),(0,nI x5),(1,nI i1),(2,.slice pa2 K2.length ca2)]) (w':=w.alloc (.cells #[nI x5] 3)) (by kernel_rfl) ?_
 intro a15 hF14; clear hF10
 refine ev_call 42 #[.slice (some ⟨w.heap.size,0,none⟩) 1 1,nI i1] hF14 rfl rfl (by kernel_rfl) rfl (by kernel_rfl) (fun w=>by kernel_rfl) ?_
 obtain ⟨s16,s17,L18,L19,hx20,hm21⟩:=bind4E hm7; clear hm7
 refine (law16_made.ok hS13 hx20).mono ?_
 rintro _ w22 ⟨z26,z27,z28,z29,z30,z31,z32,z33,z34,z35,rfl,hS24⟩ a23 hF25; clear hF14 hS13
 have hS41:St w0 [] (RowP (.slice (some ⟨w.heap.size,0,none⟩) 1 1) [x5]::BlkP z26 77 #[nP z27 0,nP z29 0,z34,z35]::HeapP z27 z28 s16::RHeapP z29 z30 z31 z32 z33 s17::RowP (z34) L18::RowP (z35) L19::ps) w22:=hS24
 clear hS24
 obtain ⟨hl45,p42,c43,rfl,hp44⟩:=St.shape hS41 4 rfl
 obtain ⟨hl49,p46,c47,rfl,hp48⟩:=St.shape hS41 5 rfl
 refine ev_runK 1 hF25 [0,2,7] (l':=[(7,nP z26 0),(0,nI x5),(2,.slice pa2 K2.length ca2)]) (w':=w22) (by kernel_rfl) ?_
 intro a51 hF50; clear hF25
 refine wpList_nil ?_
 have hS52:=hS41.drop
 clear hS41
 refine thenN (wp_seq (wp_seq ?_))
 refine joinQ (fun aI wI=>∃ (y53:Bool),Fr 169 aI [(38,.bool (y53)),(7,nP z26 0),(0,nI x5),(2,.slice pa2 K2.length ca2)]∧St w0 [] (BlkP z26 77 #[nP z27 0,nP z29 0,.slice p42 L18.length c43,.slice p46 L19.length c47]::HeapP z27 z28 s16::RHeapP z29 z30 z31 z32 z33 s17::RowP (.slice p42 L18.length c43) L18::RowP (.slice p46 L19.length c47) L19::ps) wI∧TakeFirst.j1 K2 k x5 s16 s17 L18 L19 y53 = some r0) ?_ ?_
 rotate_left
 · rintro a55 w56 ⟨y53,hF57,hS58,hm59⟩
   clear hF50 hS52 hm21
   unfold TakeFirst.j1 at hm59
   refine thenN ?_
   cases hc61:(y53)
   case true =>
    rw [hc61] at hF57
    have hm62:=ifYes hc61 hm59; clear hm59
    refine ev_condT hF57 rfl rfl ?_
    refine wp_seq (wp_region_lit ?_)
    refine ev_call 43 #[] hF57 rfl rfl (by kernel_rfl) rfl (by kernel_rfl) (fun w=>by kernel_rfl) ?_
    obtain ⟨y63,hx64,hm65⟩:=bind1E hm62; clear hm62
    refine (law16_awake.ok hS58 hx64).mono ?_
    rintro _ w66 ⟨rfl,hS68⟩ a67 hF69; clear hF57 hS58
    refine ev_runK 1 hF69 [6] (l':=[(6,.bool (y63))]) (w':=w66) (by kernel_rfl) ?_
    intro a71 hF70; clear hF69
    refine wpList_nil ?_
    have hS72:=hS68.drop.drop.drop.drop.drop
    clear hS68
    refine thenN ?_
    refine wp_ret ?_
    refine thenR ?_
    obtain rfl:=Option.some.inj hm65
    refine ev_ret hF70 [6] (.bool (y63)) rfl rfl rfl ?_
    exact ⟨rfl,hS72⟩
   rw [hc61] at hF57
   have hm74:=ifNot hc61 hm59; clear hm59
   refine ev_condF hF57 rfl rfl ?_
   refine wp_skip ?_
   have hF75:=hF57.keep [0,2,7]
   clear hF57
   refine thenN (wp_seq (wp_seq (wp_region_lit ?_)))
   refine ev_runs 1 hF75 (l':=[(8,nI 0),(7,nP z26 0),(0,nI x5),(2,.slice pa2 K2.length ca2)]) (w':=w56) (by kernel_rfl) ?_
   intro a77 hF76; clear hF75
   refine wpList_nil (thenN ?_)
   refine wp_block ?_
   refine wp_loop_ghost (fun kI aI wI=>∃ (s78:HSt) (s79:HSt) (x80:Int),Fr 169 aI [(8,nI x80),(7,nP z26 0),(0,nI x5),(2,.slice pa2 K2.length ca2)]∧St w0 [] (BlkP z26 77 #[nP z27 0,nP z29 0,.slice p42 L18.length c43,.slice p46 L19.length c47]::HeapP z27 z28 s78::RHeapP z29 z30 z31 z32 z33 s79::RowP (.slice p42 L18.length c43) L18::RowP (.slice p46 L19.length c47) L19::ps) wI∧TakeFirst.l2 K2 k x5 L18 L19 kI s78 s79 x80 = some r0) k ⟨s16,s17,0,hF76,hS58,hm74⟩ ?_
   rintro k81 a82 w83 ⟨s78,s79,x80,hF84,hS85,hm86⟩
   clear hF76 hS58 hm74
   rcases k81 with _ | k81
   · cases hm86
   have hm87:TakeFirst.l2b K2 k x5 L18 L19 (TakeFirst.l2 K2 k x5 L18 L19 k81) s78 s79 x80 = some r0:=hm86
   clear hm86
   unfold TakeFirst.l2b at hm87
   refine wp_seq (wp_seq (wp_region_lit ?_))
   refine ev_runK 3 hF84 [0,2,7,8,42] (l':=[(42,.bool (decide (x80 < x5))),(8,nI x80),(7,nP z26 0),(0,nI x5),(2,.slice pa2 K2.length ca2)]) (w':=w83) (by kernel_rfl) ?_
   intro a89 hF88; clear hF84
   refine wpList_nil (thenN ?_)
   cases hc90:(decide (x80 < x5))
   case true =>
    rw [hc90] at hF88
    have hm91:=ifYes hc90 hm87; clear hm87
    refine ev_condT hF88 rfl rfl ?_
    refine wp_skip ?_
    have hF92:=hF88.keep [0,2,7,8]
    clear hF88
    refine thenN (wp_seq ?_)
    refine wp_block ?_
    refine wp_seq ?_
    obtain ⟨hc93,hm94⟩:=ifTE hm91; clear hm91
    obtain ⟨b95,o96,rfl⟩:=argK hA2 hc93
    have hS97:=hS85.drew; clear hS85
    refine any_start (fun wS=>∃ qs,St w0 [] (BlkP z26 77 #[nP z27 0,nP z29 0,.slice p42 L18.length c43,.slice p46 L19.length c47]::qs) wS) 18 #[false,false,false,false,false,false,false,false,false,false,false,false,false,false,false,false,false,false] (by kernel_rfl) (by kernel_rfl) (by kernel_rfl) ?_
    refine any_many 9 [(0,some (nP z26 0)),(1,some (nP z26 0)),(2,some (nP z26 0)),(3,some (nP z27 0)),(4,some (nP z26 0)),(8,some (.slice (some ⟨b95,o96,none⟩) K2.length ca2)),(9,some (nI x80)),(10,some (nP b95 ((o96 + x80.toNat)))),(11,some (nI (atI K2 x80)))] [0,2,7,8,10,45,49,50,51,52,53,57,58,59,60] #[true,true,true,true,true,false,false,false,true,true,true,true,false,false,false,false,false,false] (by rfl) hF92 (by kernel_rfl) (by kernel_rfl) (by exact ⟨fun wS hw=>by kernel_rfl,fun wS hw=>by kernel_rfl,fun wS hw=>by kernel_rfl,fun wS hw=>hw.elim fun qs hw=>run_loadV rfl rfl (run_loadS rfl rfl (hw.cell 0 rfl 0 rfl)),fun wS hw=>by kernel_rfl,fun wS hw=>by kernel_rfl,fun wS hw=>by kernel_rfl,fun wS hw=>run_idxO rfl rfl rfl rfl rfl (inR_spec hc93).1 (inR_spec hc93).2 _,fun wS hw=>run_load1 rfl rfl rfl (hw.elim fun qs hw=>argAt hA2 hw hc93),trivial⟩) (fun _ _ _ _ _ h=>h) ⟨_,hS97⟩ (l':=[(57,nI (atI K2 x80)),(50,nP z26 0),(49,nP z27 0),(8,nI x80),(7,nP z26 0),(0,nI x5),(2,.slice (some ⟨b95,o96,none⟩) K2.length ca2)]) (by kernel_rfl) ?_
    intro a99 hF98; clear hF92
    refine any_call 5 #[true,true,true,true,true,true,false,false,true,true,true,true,false,false,false,false,false,false] 44 #[nP z26 0,nI 0] hF98 rfl (by kernel_rfl) rfl rfl (by kernel_rfl) rfl (by kernel_rfl) (fun w=>by kernel_rfl) (by kernel_rfl) ?_
    obtain ⟨x100,s101,s102,hx103,hm104⟩:=bind3E hm94; clear hm94
    refine (law16_ch.ok hS97 hx103).mono ?_
    rintro _ w105 ⟨rfl,hS107⟩; clear hS97
    refine ⟨⟨_,hS107⟩,?_⟩
    intro a106 hF108; clear hF98
    refine any_many 2 [(6,some (nI (IntKind.i64.wrap (2 * x100)))),(7,some (nI (IntKind.i64.wrap ((IntKind.i64.wrap (2 * x100)) + 1))))] [0,2,7,8,10,45,49,53,57,58,59,60] #[true,true,true,true,true,true,true,true,true,true,true,true,false,false,false,false,false,false] (by rfl) hF108 (by kernel_rfl) (by kernel_rfl) (by exact ⟨fun wS hw=>by kernel_rfl,fun wS hw=>by kernel_rfl,trivial⟩) (fun _ _ _ _ _ h=>h) ⟨_,hS107⟩ (l':=[(53,nI (IntKind.i64.wrap ((IntKind.i64.wrap (2 * x100)) + 1))),(57,nI (atI K2 x80)),(49,nP z27 0),(8,nI x80),(7,nP z26 0),(0,nI x5),(2,.slice (some ⟨b95,o96,none⟩) K2.length ca2)]) (by kernel_rfl) ?_
    intro a110 hF109; clear hF108
    have hS111:=hS107.pick1
    clear hS107
    refine any_call 12 #[true,true,true,true,true,true,true,true,true,true,true,true,true,false,false,false,false,false] 28 #[nP z27 0,nI (IntKind.i64.wrap ((IntKind.i64.wrap (2 * x100)) + 1)),nI (atI K2 x80)] hF109 rfl (by kernel_rfl) rfl rfl (by kernel_rfl) rfl (by kernel_rfl) (fun w=>by kernel_rfl) (by kernel_rfl) ?_
    obtain ⟨x112,x113,s114,hx115,hm116⟩:=bind3E hm104; clear hm104
    refine (send_Try.ok hS111 hx115).mono ?_
    rintro _ w117 ⟨rfl,hS119⟩; clear hS111
    refine ⟨⟨_,hS119.pick1⟩,?_⟩
    intro a118 hF120; clear hF109
    refine any_many 5 [(13,some (.tuple #[nI x112,nI x113])),(14,some (nI x112)),(15,some (nI x113)),(16,some (nI x112)),(17,some (nI x113))] [0,2,7,8,10] #[true,true,true,true,true,true,true,true,true,true,true,true,true,true,true,true,true,true] (by rfl) hF120 (by kernel_rfl) (by kernel_rfl) (by exact ⟨fun wS hw=>by kernel_rfl,fun wS hw=>by kernel_rfl,fun wS hw=>by kernel_rfl,fun wS hw=>by kernel_rfl,fun wS hw=>by kernel_rfl,trivial⟩) (fun _ _ _ _ _ h=>h) ⟨_,hS119.pick1⟩ (l':=[(10,nI x113),(8,nI x80),(7,nP z26 0),(0,nI x5),(2,.slice (some ⟨b95,o96,none⟩) K2.length ca2)]) (by kernel_rfl) ?_
    intro a122 hF121; clear hF120
    refine any_done (by kernel_rfl) ?_
    refine thenN (wp_seq (wp_region_lit ?_))
    refine ev_runK 2 hF121 [0,2,7,8,62] (l':=[(62,.bool (x113 != 1)),(8,nI x80),(7,nP z26 0),(0,nI x5),(2,.slice (some ⟨b95,o96,none⟩) K2.length ca2)]) (w':=w117) (by kernel_rfl) ?_
    intro a124 hF123; clear hF121
    refine wpList_nil (thenN ?_)
    cases hc125:(x113 != 1)
    case true =>
     rw [hc125] at hF123
     have hm126:=ifYes hc125 hm116; clear hm116
     refine ev_condT hF123 rfl rfl ?_
     refine wp_seq (wp_region_lit ?_)
     refine ev_runK 1 hF123 [6] (l':=[(6,.bool false)]) (w':=w117) (by kernel_rfl) ?_
     intro a128 hF127; clear hF123
     refine wpList_nil ?_
     have hS129:=hS119.drop.drop.drop.drop.drop
     clear hS119
     refine thenN ?_
     refine wp_ret ?_
     refine blockR ?_
     refine thenR (thenR ?_)
     refine blockR ?_
     refine thenR ?_
     obtain rfl:=Option.some.inj hm126
     refine ev_ret hF127 [6] (.bool false) rfl rfl rfl ?_
     exact ⟨rfl,hS129⟩
    rw [hc125] at hF123
    have hm131:=ifNot hc125 hm116; clear hm116
    refine ev_condF hF123 rfl rfl ?_
    refine wp_skip ?_
    have hF132:=hF123.keep [0,2,7,8]
    clear hF123
    refine blockN ?_
    refine thenN (wp_region_lit ?_)
    refine ev_runK 3 hF132 [0,2,7,8] (l':=[(8,nI (IntKind.i64.wrap (x80 + 1))),(7,nP z26 0),(0,nI x5),(2,.slice (some ⟨b95,o96,none⟩) K2.length ca2)]) (w':=w117) (by kernel_rfl) ?_
    intro a134 hF133; clear hF132
    refine wpList_nil ?_
    have hS135:=hS119.pick4.pick4.pick4.pick3.pick4
    clear hS119
    exact thenN ⟨k81,Nat.lt_succ_self _,s114,s102,IntKind.i64.wrap (x80 + 1),hF133,hS135,hm131⟩
   rw [hc90] at hF88
   have hm136:=ifNot hc90 hm87; clear hm87
   refine ev_condF hF88 rfl rfl ?_
   refine wp_exit ?_
   refine thenE ?_
   refine thenE ?_
   refine blockE ?_
   refine thenN (wp_seq (wp_seq (wp_region_lit ?_)))
   refine ev_runK 1 hF88 [0,2,7,11] (l':=[(11,nI 0),(7,nP z26 0),(0,nI x5),(2,.slice pa2 K2.length ca2)]) (w':=w83) (by kernel_rfl) ?_
   intro a138 hF137; clear hF88
   refine wpList_nil (thenN ?_)
   refine wp_block ?_
   refine wp_loop_ghost (fun kI aI wI=>∃ (s139:HSt) (s140:HSt) (x141:Int),Fr 169 aI [(11,nI x141),(7,nP z26 0),(0,nI x5),(2,.slice pa2 K2.length ca2)]∧St w0 [] (BlkP z26 77 #[nP z27 0,nP z29 0,.slice p42 L18.length c43,.slice p46 L19.length c47]::HeapP z27 z28 s139::RHeapP z29 z30 z31 z32 z33 s140::RowP (.slice p42 L18.length c43) L18::RowP (.slice p46 L19.length c47) L19::ps) wI∧TakeFirst.l5 K2 k x5 L18 L19 kI s139 s140 x141 = some r0) k ⟨s78,s79,0,hF137,hS85,hm136⟩ ?_
   rintro k142 a143 w144 ⟨s139,s140,x141,hF145,hS146,hm147⟩
   clear hF137 hS85 hm136
   rcases k142 with _ | k142
   · cases hm147
   have hm148:TakeFirst.l5b K2 k x5 L18 L19 (TakeFirst.l5 K2 k x5 L18 L19 k142) s139 s140 x141 = some r0:=hm147
   clear hm147
   unfold TakeFirst.l5b at hm148
   refine wp_seq (wp_seq (wp_region_lit ?_))
   refine ev_runs 4 hF145 (l':=[(66,nP z26 3),(65,nP z26 0),(64,nP z26 0),(63,nI x141),(11,nI x141),(7,nP z26 0),(0,nI x5),(2,.slice pa2 K2.length ca2)]) (w':=w144) (by kernel_rfl) ?_
   intro a150 hF149; clear hF145
   refine ev_one (.slice p46 L19.length c47) w144 hF149 (by kernel_rfl) rfl (by kernel_rfl) (run_loadV rfl rfl (run_loadS rfl rfl (hS146.cell 0 rfl 3 rfl))) (l':=[(67,.slice p46 L19.length c47),(66,nP z26 3),(65,nP z26 0),(64,nP z26 0),(63,nI x141),(11,nI x141),(7,nP z26 0),(0,nI x5),(2,.slice pa2 K2.length ca2)]) (by kernel_rfl) ?_
   intro a152 hF151; clear hF149
   refine ev_runK 2 hF151 [0,2,7,11,69] (l':=[(69,.bool (decide (x141 < (L19.length:Int)))),(11,nI x141),(7,nP z26 0),(0,nI x5),(2,.slice pa2 K2.length ca2)]) (w':=w144) (by kernel_rfl) ?_
   intro a154 hF153; clear hF151
   refine wpList_nil (thenN ?_)
   cases hc155:(decide (x141 < (L19.length:Int)))
   case true =>
    rw [hc155] at hF153
    have hm156:=ifYes hc155 hm148; clear hm148
    refine ev_condT hF153 rfl rfl ?_
    refine wp_skip ?_
    have hF157:=hF153.keep [0,2,7,11]
    clear hF153
    refine thenN (wp_seq ?_)
    refine wp_block ?_
    refine wp_seq ?_
    refine joinQ (fun aI wI=>∃ (s158:HSt) (s159:HSt) (y160:Bool),Fr 169 aI [(92,.bool (y160)),(11,nI x141),(7,nP z26 0),(0,nI x5),(2,.slice pa2 K2.length ca2)]∧St w0 [] (BlkP z26 77 #[nP z27 0,nP z29 0,.slice p42 L18.length c43,.slice p46 L19.length c47]::HeapP z27 z28 s158::RHeapP z29 z30 z31 z32 z33 s159::RowP (.slice p42 L18.length c43) L18::RowP (.slice p46 L19.length c47) L19::ps) wI∧TakeFirst.j6 x141 (TakeFirst.l5 K2 k x5 L18 L19 k142) s158 s159 y160 = some r0) ?_ ?_
    rotate_left
    · rintro a162 w163 ⟨s158,s159,y160,hF164,hS165,hm166⟩
      clear hF157 hS146 hm156
      unfold TakeFirst.j6 at hm166
      refine thenN ?_
      cases hc168:(y160)
      case true =>
       rw [hc168] at hF164
       have hm169:=ifYes hc168 hm166; clear hm166
       refine ev_condT hF164 rfl rfl ?_
       refine wp_seq (wp_region_lit ?_)
       refine ev_runK 1 hF164 [6] (l':=[(6,.bool false)]) (w':=w163) (by kernel_rfl) ?_
       intro a171 hF170; clear hF164
       refine wpList_nil ?_
       have hS172:=hS165.drop.drop.drop.drop.drop
       clear hS165
       refine thenN ?_
       refine wp_ret ?_
       refine blockR ?_
       refine thenR (thenR ?_)
       refine blockR ?_
       refine thenR ?_
       obtain rfl:=Option.some.inj hm169
       refine ev_ret hF170 [6] (.bool false) rfl rfl rfl ?_
       exact ⟨rfl,hS172⟩
      rw [hc168] at hF164
      have hm174:=ifNot hc168 hm166; clear hm166
      refine ev_condF hF164 rfl rfl ?_
      refine wp_skip ?_
      have hF175:=hF164.keep [0,2,7,11]
      clear hF164
      refine blockN ?_
      refine thenN (wp_region_lit ?_)
      refine ev_runK 3 hF175 [0,2,7,11] (l':=[(11,nI (IntKind.i64.wrap (x141 + 1))),(7,nP z26 0),(0,nI x5),(2,.slice pa2 K2.length ca2)]) (w':=w163) (by kernel_rfl) ?_
      intro a177 hF176; clear hF175
      refine wpList_nil ?_
      exact thenN ⟨k142,Nat.lt_succ_self _,s158,s159,IntKind.i64.wrap (x141 + 1),hF176,hS165,hm174⟩
    · skip
      obtain ⟨hc178,hm179⟩:=ifTE hm156; clear hm156
      obtain ⟨g180,rfl⟩:=hp48.resolve_left (by have:=inR_spec hc178; omega)
      obtain ⟨hc181,hm182⟩:=ifTE hm179; clear hm179
      obtain ⟨b183,o184,rfl⟩:=argK hA2 hc181
      have hS185:=hS146.pick4.pick1
      clear hS146
      have hS186:=hS185.drew; clear hS185
      refine any_start (fun wS=>∃ qs,St w0 [] (BlkP z26 77 #[nP z27 0,nP z29 0,.slice p42 L18.length c43,nS g180 L19 c47]::RowP (nS g180 L19 c47) L19::qs) wS) 21 #[false,false,false,false,false,false,false,false,false,false,false,false,false,false,false,false,false,false,false,false,false] (by kernel_rfl) (by kernel_rfl) (by kernel_rfl) ?_
      refine any_many 16 [(0,some (nP z26 0)),(1,some (nP z26 0)),(2,some (nP z26 0)),(3,some (nP z26 3)),(4,some (nS g180 L19 c47)),(5,some (nI x141)),(6,some (nP g180 (x141.toNat))),(7,some (nI (atI L19 x141))),(8,some (nP z26 0)),(12,some (.slice (some ⟨b183,o184,none⟩) K2.length ca2)),(13,some (nI x5)),(14,some (nI x141)),(15,some (nI (IntKind.i64.wrap (x5 + x141)))),(16,some (nP b183 ((o184 + (IntKind.i64.wrap (x5 + x141)).toNat)))),(17,some (nI (atI K2 (IntKind.i64.wrap (x5 + x141))))),(18,some (nI x141))] [0,2,7,11,72,79,80,81,82,83,89,90,91,92] #[true,true,true,true,true,true,true,true,true,false,false,false,true,true,true,true,true,true,true,false,false] (by rfl) hF157 (by kernel_rfl) (by kernel_rfl) (by exact ⟨fun wS hw=>by kernel_rfl,fun wS hw=>by kernel_rfl,fun wS hw=>by kernel_rfl,fun wS hw=>by kernel_rfl,fun wS hw=>hw.elim fun qs hw=>run_loadV rfl rfl (run_loadS rfl rfl (hw.cell 0 rfl 3 rfl)),fun wS hw=>by kernel_rfl,fun wS hw=>run_idx rfl rfl rfl rfl rfl (inR_spec hc178).1 (inR_spec hc178).2 _,fun wS hw=>run_load1 rfl rfl rfl (hw.elim fun qs hw=>hw.atI 1 rfl hc178),fun wS hw=>by kernel_rfl,fun wS hw=>by kernel_rfl,fun wS hw=>by kernel_rfl,fun wS hw=>by kernel_rfl,fun wS hw=>by kernel_rfl,fun wS hw=>run_idxO rfl rfl rfl rfl rfl (inR_spec hc181).1 (inR_spec hc181).2 _,fun wS hw=>run_load1 rfl rfl rfl (hw.elim fun qs hw=>argAt hA2 hw hc181),fun wS hw=>by kernel_rfl,trivial⟩) (fun _ _ _ _ _ h=>h) ⟨_,hS186⟩ (l':=[(90,nI x141),(89,nI (atI K2 (IntKind.i64.wrap (x5 + x141)))),(80,nP z26 0),(79,nI (atI L19 x141)),(72,nP z26 0),(11,nI x141),(7,nP z26 0),(0,nI x5),(2,.slice (some ⟨b183,o184,none⟩) K2.length ca2)]) (by kernel_rfl) ?_
      intro a188 hF187; clear hF157
      refine any_two 9 11 (by kernel_rfl) ?_ ?_
      · skip
        have hS189:=hS186.pick1.pick4.pick4.pick4.pick4
        clear hS186
        refine op_call 9 #[true,true,true,true,true,true,true,true,true,true,false,false,true,true,true,true,true,true,true,false,false] 44 #[nP z26 0,nI 0] hF187 rfl rfl rfl (by kernel_rfl) rfl (by kernel_rfl) (fun w=>by kernel_rfl) (by kernel_rfl) ?_
        obtain ⟨x190,s191,s192,hx193,hm194⟩:=bind3E hm182; clear hm182
        refine (law16_ch.ok hS189 hx193).mono ?_
        rintro _ w195 ⟨rfl,hS197⟩; clear hS189
        refine ⟨⟨_,hS197.pick4.pick1⟩,?_⟩
        intro a196 hF198; clear hF187
        refine any_two 10 11 (by kernel_rfl) ?_ ?_
        · skip
          have hS199:St w0 [] (RowP (.slice (some ⟨w195.heap.size,0,none⟩) 1 1) [x190]::BlkP z26 77 #[nP z27 0,nP z29 0,.slice p42 L18.length c43,nS g180 L19 c47]::HeapP z27 z28 s191::RHeapP z29 z30 z31 z32 z33 s192::RowP (.slice p42 L18.length c43) L18::RowP (nS g180 L19 c47) L19::ps) (w195.alloc (.cells #[nI x190] 3)):=St.lit hS197 [x190] (by unfold maxLen; simp)
          clear hS197
          refine op_step 10 #[true,true,true,true,true,true,true,true,true,true,true,false,true,true,true,true,true,true,true,false,false] (.slice (some ⟨w195.heap.size,0,none⟩) 1 1) (w195.alloc (.cells #[nI x190] 3)) hF198 rfl (by kernel_rfl) rfl (by kernel_rfl) (by kernel_rfl) (l':=[(82,.slice (some ⟨w195.heap.size,0,none⟩) 1 1),(81,nI x190),(90,nI x141),(89,nI (atI K2 (IntKind.i64.wrap (x5 + x141)))),(80,nP z26 0),(79,nI (atI L19 x141)),(72,nP z26 0),(11,nI x141),(7,nP z26 0),(0,nI x5),(2,.slice (some ⟨b183,o184,none⟩) K2.length ca2)]) (by kernel_rfl) ⟨_,hS199.pick5.pick2⟩ (by kernel_rfl) ?_
          intro a201 hF200; clear hF198
          refine any_one 11 (by kernel_rfl) ?_
          have hS202:St w0 [] (BoolsP (.slice (some ⟨(w195.alloc (.cells #[nI x190] 3)).heap.size,0,none⟩) 1 1) [true]::RowP (.slice (some ⟨w195.heap.size,0,none⟩) 1 1) [x190]::BlkP z26 77 #[nP z27 0,nP z29 0,.slice p42 L18.length c43,nS g180 L19 c47]::HeapP z27 z28 s191::RHeapP z29 z30 z31 z32 z33 s192::RowP (.slice p42 L18.length c43) L18::RowP (nS g180 L19 c47) L19::ps) ((w195.alloc (.cells #[nI x190] 3)).alloc (.cells #[.bool true] 4)):=St.litB hS199 [true] (by unfold maxLen; simp)
          clear hS199
          refine op_step 11 #[true,true,true,true,true,true,true,true,true,true,true,true,true,true,true,true,true,true,true,false,false] (.slice (some ⟨(w195.alloc (.cells #[nI x190] 3)).heap.size,0,none⟩) 1 1) ((w195.alloc (.cells #[nI x190] 3)).alloc (.cells #[.bool true] 4)) hF200 rfl (by kernel_rfl) rfl (by kernel_rfl) (by kernel_rfl) (l':=[(83,.slice (some ⟨(w195.alloc (.cells #[nI x190] 3)).heap.size,0,none⟩) 1 1),(82,.slice (some ⟨w195.heap.size,0,none⟩) 1 1),(81,nI x190),(90,nI x141),(89,nI (atI K2 (IntKind.i64.wrap (x5 + x141)))),(80,nP z26 0),(79,nI (atI L19 x141)),(72,nP z26 0),(11,nI x141),(7,nP z26 0),(0,nI x5),(2,.slice (some ⟨b183,o184,none⟩) K2.length ca2)]) (by kernel_rfl) ⟨_,hS202.pick6.pick3⟩ (by kernel_rfl) ?_
          intro a204 hF203; clear hF200
          have hS205:=hS202.pick1.pick6.pick6.pick6.pick6.pick6
          clear hS202
          refine any_call 19 #[true,true,true,true,true,true,true,true,true,true,true,true,true,true,true,true,true,true,true,true,false] 48 #[nP z26 0,nI (atI L19 x141),.slice (some ⟨w195.heap.size,0,none⟩) 1 1,.slice (some ⟨(w195.alloc (.cells #[nI x190] 3)).heap.size,0,none⟩) 1 1,nI (atI K2 (IntKind.i64.wrap (x5 + x141))),nI x141] hF203 rfl (by kernel_rfl) rfl rfl (by kernel_rfl) rfl (by kernel_rfl) (fun w=>by kernel_rfl) (by kernel_rfl) ?_
          obtain ⟨y206,s207,s208,hx209,hm210⟩:=bind3E hm194; clear hm194
          refine (law16_wait.ok hS205 hx209).mono ?_
          rintro _ w211 ⟨rfl,hS213⟩; clear hS205
          refine ⟨⟨_,hS213.pick4.pick1⟩,?_⟩
          intro a212 hF214; clear hF203
          refine any_many 1 [(20,some (.bool (!(y206))))] [0,2,7,11,92] #[true,true,true,true,true,true,true,true,true,true,true,true,true,true,true,true,true,true,true,true,true] (by rfl) hF214 (by kernel_rfl) (by kernel_rfl) (by exact ⟨fun wS hw=>by kernel_rfl,trivial⟩) (fun _ _ _ _ _ h=>h) ⟨_,hS213.pick4.pick1⟩ (l':=[(92,.bool (!(y206))),(11,nI x141),(7,nP z26 0),(0,nI x5),(2,.slice (some ⟨b183,o184,none⟩) K2.length ca2)]) (by kernel_rfl) ?_
          intro a216 hF215; clear hF214
          refine any_done (by kernel_rfl) ?_
          have hS217:=hS213.pick5.drop.pick5.drop
          clear hS213
          exact thenN ⟨s207,s208,!(y206),hF215,hS217,hm210⟩
        · skip
          have hS218:St w0 [] (BoolsP (.slice (some ⟨w195.heap.size,0,none⟩) 1 1) [true]::BlkP z26 77 #[nP z27 0,nP z29 0,.slice p42 L18.length c43,nS g180 L19 c47]::HeapP z27 z28 s191::RHeapP z29 z30 z31 z32 z33 s192::RowP (.slice p42 L18.length c43) L18::RowP (nS g180 L19 c47) L19::ps) (w195.alloc (.cells #[.bool true] 4)):=St.litB hS197 [true] (by unfold maxLen; simp)
          clear hS197
          refine op_step 11 #[true,true,true,true,true,true,true,true,true,true,false,true,true,true,true,true,true,true,true,false,false] (.slice (some ⟨w195.heap.size,0,none⟩) 1 1) (w195.alloc (.cells #[.bool true] 4)) hF198 rfl (by kernel_rfl) rfl (by kernel_rfl) (by kernel_rfl) (l':=[(83,.slice (some ⟨w195.heap.size,0,none⟩) 1 1),(81,nI x190),(90,nI x141),(89,nI (atI K2 (IntKind.i64.wrap (x5 + x141)))),(80,nP z26 0),(79,nI (atI L19 x141)),(72,nP z26 0),(11,nI x141),(7,nP z26 0),(0,nI x5),(2,.slice (some ⟨b183,o184,none⟩) K2.length ca2)]) (by kernel_rfl) ⟨_,hS218.pick5.pick2⟩ (by kernel_rfl) ?_
          intro a220 hF219; clear hF198
          refine any_one 10 (by kernel_rfl) ?_
          have hS221:St w0 [] (RowP (.slice (some ⟨(w195.alloc (.cells #[.bool true] 4)).heap.size,0,none⟩) 1 1) [x190]::BoolsP (.slice (some ⟨w195.heap.size,0,none⟩) 1 1) [true]::BlkP z26 77 #[nP z27 0,nP z29 0,.slice p42 L18.length c43,nS g180 L19 c47]::HeapP z27 z28 s191::RHeapP z29 z30 z31 z32 z33 s192::RowP (.slice p42 L18.length c43) L18::RowP (nS g180 L19 c47) L19::ps) ((w195.alloc (.cells #[.bool true] 4)).alloc (.cells #[nI x190] 3)):=St.lit hS218 [x190] (by unfold maxLen; simp)
          clear hS218
          refine op_step 10 #[true,true,true,true,true,true,true,true,true,true,true,true,true,true,true,true,true,true,true,false,false] (.slice (some ⟨(w195.alloc (.cells #[.bool true] 4)).heap.size,0,none⟩) 1 1) ((w195.alloc (.cells #[.bool true] 4)).alloc (.cells #[nI x190] 3)) hF219 rfl (by kernel_rfl) rfl (by kernel_rfl) (by kernel_rfl) (l':=[(82,.slice (some ⟨(w195.alloc (.cells #[.bool true] 4)).heap.size,0,none⟩) 1 1),(83,.slice (some ⟨w195.heap.size,0,none⟩) 1 1),(81,nI x190),(90,nI x141),(89,nI (atI K2 (IntKind.i64.wrap (x5 + x141)))),(80,nP z26 0),(79,nI (atI L19 x141)),(72,nP z26 0),(11,nI x141),(7,nP z26 0),(0,nI x5),(2,.slice (some ⟨b183,o184,none⟩) K2.length ca2)]) (by kernel_rfl) ⟨_,hS221.pick6.pick3⟩ (by kernel_rfl) ?_
          intro a223 hF222; clear hF219
          have hS224:=hS221.pick1.pick1.pick6.pick6.pick6.pick6.pick6
          clear hS221
          refine any_call 19 #[true,true,true,true,true,true,true,true,true,true,true,true,true,true,true,true,true,true,true,true,false] 48 #[nP z26 0,nI (atI L19 x141),.slice (some ⟨(w195.alloc (.cells #[.bool true] 4)).heap.size,0,none⟩) 1 1,.slice (some ⟨w195.heap.size,0,none⟩) 1 1,nI (atI K2 (IntKind.i64.wrap (x5 + x141))),nI x141] hF222 rfl (by kernel_rfl) rfl rfl (by kernel_rfl) rfl (by kernel_rfl) (fun w=>by kernel_rfl) (by kernel_rfl) ?_
          obtain ⟨y225,s226,s227,hx228,hm229⟩:=bind3E hm194; clear hm194
          refine (law16_wait.ok hS224 hx228).mono ?_
          rintro _ w230 ⟨rfl,hS232⟩; clear hS224
          refine ⟨⟨_,hS232.pick4.pick1⟩,?_⟩
          intro a231 hF233; clear hF222
          refine any_many 1 [(20,some (.bool (!(y225))))] [0,2,7,11,92] #[true,true,true,true,true,true,true,true,true,true,true,true,true,true,true,true,true,true,true,true,true] (by rfl) hF233 (by kernel_rfl) (by kernel_rfl) (by exact ⟨fun wS hw=>by kernel_rfl,trivial⟩) (fun _ _ _ _ _ h=>h) ⟨_,hS232.pick4.pick1⟩ (l':=[(92,.bool (!(y225))),(11,nI x141),(7,nP z26 0),(0,nI x5),(2,.slice (some ⟨b183,o184,none⟩) K2.length ca2)]) (by kernel_rfl) ?_
          intro a235 hF234; clear hF233
          refine any_done (by kernel_rfl) ?_
          have hS236:=hS232.pick5.drop.pick5.drop
          clear hS232
          exact thenN ⟨s226,s227,!(y225),hF234,hS236,hm229⟩
      · skip
        have hS237:St w0 [] (BoolsP (.slice (some ⟨(w144.drew).heap.size,0,none⟩) 1 1) [true]::BlkP z26 77 #[nP z27 0,nP z29 0,.slice p42 L18.length c43,nS g180 L19 c47]::RowP (nS g180 L19 c47) L19::HeapP z27 z28 s139::RHeapP z29 z30 z31 z32 z33 s140::RowP (.slice p42 L18.length c43) L18::ps) ((w144.drew).alloc (.cells #[.bool true] 4)):=St.litB hS186 [true] (by unfold maxLen; simp)
        clear hS186
        refine op_step 11 #[true,true,true,true,true,true,true,true,true,false,false,true,true,true,true,true,true,true,true,false,false] (.slice (some ⟨(w144.drew).heap.size,0,none⟩) 1 1) ((w144.drew).alloc (.cells #[.bool true] 4)) hF187 rfl (by kernel_rfl) rfl (by kernel_rfl) (by kernel_rfl) (l':=[(83,.slice (some ⟨(w144.drew).heap.size,0,none⟩) 1 1),(90,nI x141),(89,nI (atI K2 (IntKind.i64.wrap (x5 + x141)))),(80,nP z26 0),(79,nI (atI L19 x141)),(72,nP z26 0),(11,nI x141),(7,nP z26 0),(0,nI x5),(2,.slice (some ⟨b183,o184,none⟩) K2.length ca2)]) (by kernel_rfl) ⟨_,hS237.pick2.pick2⟩ (by kernel_rfl) ?_
        intro a239 hF238; clear hF187
        have hS240:=hS237.pick2.pick5.pick5.pick5.pick5
        clear hS237
        refine any_call 9 #[true,true,true,true,true,true,true,true,true,true,false,true,true,true,true,true,true,true,true,false,false] 44 #[nP z26 0,nI 0] hF238 rfl (by kernel_rfl) rfl rfl (by kernel_rfl) rfl (by kernel_rfl) (fun w=>by kernel_rfl) (by kernel_rfl) ?_
        obtain ⟨x241,s242,s243,hx244,hm245⟩:=bind3E hm182; clear hm182
        refine (law16_ch.ok hS240 hx244).mono ?_
        rintro _ w246 ⟨rfl,hS248⟩; clear hS240
        refine ⟨⟨_,hS248.pick4.pick1⟩,?_⟩
        intro a247 hF249; clear hF238
        refine any_one 10 (by kernel_rfl) ?_
        have hS250:St w0 [] (RowP (.slice (some ⟨w246.heap.size,0,none⟩) 1 1) [x241]::BlkP z26 77 #[nP z27 0,nP z29 0,.slice p42 L18.length c43,nS g180 L19 c47]::HeapP z27 z28 s242::RHeapP z29 z30 z31 z32 z33 s243::RowP (.slice p42 L18.length c43) L18::RowP (nS g180 L19 c47) L19::BoolsP (.slice (some ⟨(w144.drew).heap.size,0,none⟩) 1 1) [true]::ps) (w246.alloc (.cells #[nI x241] 3)):=St.lit hS248 [x241] (by unfold maxLen; simp)
        clear hS248
        refine op_step 10 #[true,true,true,true,true,true,true,true,true,true,true,true,true,true,true,true,true,true,true,false,false] (.slice (some ⟨w246.heap.size,0,none⟩) 1 1) (w246.alloc (.cells #[nI x241] 3)) hF249 rfl (by kernel_rfl) rfl (by kernel_rfl) (by kernel_rfl) (l':=[(82,.slice (some ⟨w246.heap.size,0,none⟩) 1 1),(81,nI x241),(83,.slice (some ⟨(w144.drew).heap.size,0,none⟩) 1 1),(90,nI x141),(89,nI (atI K2 (IntKind.i64.wrap (x5 + x141)))),(80,nP z26 0),(79,nI (atI L19 x141)),(72,nP z26 0),(11,nI x141),(7,nP z26 0),(0,nI x5),(2,.slice (some ⟨b183,o184,none⟩) K2.length ca2)]) (by kernel_rfl) ⟨_,hS250.pick5.pick2⟩ (by kernel_rfl) ?_
        intro a252 hF251; clear hF249
        have hS253:=hS250.pick6.pick1.pick6.pick6.pick6.pick6.pick6
        clear hS250
        refine any_call 19 #[true,true,true,true,true,true,true,true,true,true,true,true,true,true,true,true,true,true,true,true,false] 48 #[nP z26 0,nI (atI L19 x141),.slice (some ⟨w246.heap.size,0,none⟩) 1 1,.slice (some ⟨(w144.drew).heap.size,0,none⟩) 1 1,nI (atI K2 (IntKind.i64.wrap (x5 + x141))),nI x141] hF251 rfl (by kernel_rfl) rfl rfl (by kernel_rfl) rfl (by kernel_rfl) (fun w=>by kernel_rfl) (by kernel_rfl) ?_
        obtain ⟨y254,s255,s256,hx257,hm258⟩:=bind3E hm245; clear hm245
        refine (law16_wait.ok hS253 hx257).mono ?_
        rintro _ w259 ⟨rfl,hS261⟩; clear hS253
        refine ⟨⟨_,hS261.pick4.pick1⟩,?_⟩
        intro a260 hF262; clear hF251
        refine any_many 1 [(20,some (.bool (!(y254))))] [0,2,7,11,92] #[true,true,true,true,true,true,true,true,true,true,true,true,true,true,true,true,true,true,true,true,true] (by rfl) hF262 (by kernel_rfl) (by kernel_rfl) (by exact ⟨fun wS hw=>by kernel_rfl,trivial⟩) (fun _ _ _ _ _ h=>h) ⟨_,hS261.pick4.pick1⟩ (l':=[(92,.bool (!(y254))),(11,nI x141),(7,nP z26 0),(0,nI x5),(2,.slice (some ⟨b183,o184,none⟩) K2.length ca2)]) (by kernel_rfl) ?_
        intro a264 hF263; clear hF262
        refine any_done (by kernel_rfl) ?_
        have hS265:=hS261.pick5.drop.pick5.drop
        clear hS261
        exact thenN ⟨s255,s256,!(y254),hF263,hS265,hm258⟩
   rw [hc155] at hF153
   have hm266:=ifNot hc155 hm148; clear hm148
   refine ev_condF hF153 rfl rfl ?_
   refine wp_exit ?_
   refine thenE ?_
   refine thenE ?_
   refine blockE ?_
   refine thenN (wp_seq (wp_seq (wp_region_lit ?_)))
   refine ev_runK 1 hF153 [0,2,7,12] (l':=[(12,nI 0),(7,nP z26 0),(0,nI x5),(2,.slice pa2 K2.length ca2)]) (w':=w144) (by kernel_rfl) ?_
   intro a268 hF267; clear hF153
   refine wpList_nil (thenN ?_)
   refine wp_block ?_
   refine wp_loop_ghost (fun kI aI wI=>∃ (s269:HSt) (s270:HSt) (x271:Int),Fr 169 aI [(12,nI x271),(7,nP z26 0),(0,nI x5),(2,.slice pa2 K2.length ca2)]∧St w0 [] (BlkP z26 77 #[nP z27 0,nP z29 0,.slice p42 L18.length c43,.slice p46 L19.length c47]::HeapP z27 z28 s269::RHeapP z29 z30 z31 z32 z33 s270::RowP (.slice p42 L18.length c43) L18::RowP (.slice p46 L19.length c47) L19::ps) wI∧TakeFirst.l11 K2 k x5 L18 L19 kI s269 s270 x271 = some r0) k ⟨s139,s140,0,hF267,hS146,hm266⟩ ?_
   rintro k272 a273 w274 ⟨s269,s270,x271,hF275,hS276,hm277⟩
   clear hF267 hS146 hm266
   rcases k272 with _ | k272
   · cases hm277
   have hm278:TakeFirst.l11b K2 k x5 L18 L19 (TakeFirst.l11 K2 k x5 L18 L19 k272) s269 s270 x271 = some r0:=hm277
   clear hm277
   unfold TakeFirst.l11b at hm278
   refine wp_seq (wp_seq (wp_region_lit ?_))
   refine ev_runs 5 hF275 (l':=[(97,nP z26 3),(96,nP z26 0),(95,nP z26 0),(94,nI x5),(93,nI x271),(12,nI x271),(7,nP z26 0),(0,nI x5),(2,.slice pa2 K2.length ca2)]) (w':=w274) (by kernel_rfl) ?_
   intro a280 hF279; clear hF275
   refine ev_one (.slice p46 L19.length c47) w274 hF279 (by kernel_rfl) rfl (by kernel_rfl) (run_loadV rfl rfl (run_loadS rfl rfl (hS276.cell 0 rfl 3 rfl))) (l':=[(98,.slice p46 L19.length c47),(97,nP z26 3),(96,nP z26 0),(95,nP z26 0),(94,nI x5),(93,nI x271),(12,nI x271),(7,nP z26 0),(0,nI x5),(2,.slice pa2 K2.length ca2)]) (by kernel_rfl) ?_
   intro a282 hF281; clear hF279
   refine ev_runK 3 hF281 [0,2,7,12,101] (l':=[(101,.bool (decide (x271 < (IntKind.i64.wrap (x5 + (L19.length:Int)))))),(12,nI x271),(7,nP z26 0),(0,nI x5),(2,.slice pa2 K2.length ca2)]) (w':=w274) (by kernel_rfl) ?_
   intro a284 hF283; clear hF281
   refine wpList_nil (thenN ?_)
   cases hc285:(decide (x271 < (IntKind.i64.wrap (x5 + (L19.length:Int)))))
   case true =>
    rw [hc285] at hF283
    have hm286:=ifYes hc285 hm278; clear hm278
    refine ev_condT hF283 rfl rfl ?_
    refine wp_skip ?_
    have hF287:=hF283.keep [0,2,7,12]
    clear hF283
    refine thenN (wp_seq ?_)
    refine wp_block ?_
    refine wp_seq ?_
    have hS288:=hS276.drew; clear hS276
    refine any_start (fun wS=>∃ qs,St w0 [] (BlkP z26 77 #[nP z27 0,nP z29 0,.slice p42 L18.length c43,.slice p46 L19.length c47]::qs) wS) 16 #[false,false,false,false,false,false,false,false,false,false,false,false,false,false,false,false] (by kernel_rfl) (by kernel_rfl) (by kernel_rfl) ?_
    refine any_many 5 [(0,some (nP z26 0)),(1,some (nP z26 0)),(2,some (nP z26 0)),(3,some (nP z27 0)),(4,some (nP z26 0))] [0,2,7,12,13,14,15,104,108,109,110,111,112,113,114,115,116] #[true,true,true,true,true,false,false,false,false,false,false,false,false,false,false,false] (by rfl) hF287 (by kernel_rfl) (by kernel_rfl) (by exact ⟨fun wS hw=>by kernel_rfl,fun wS hw=>by kernel_rfl,fun wS hw=>by kernel_rfl,fun wS hw=>hw.elim fun qs hw=>run_loadV rfl rfl (run_loadS rfl rfl (hw.cell 0 rfl 0 rfl)),fun wS hw=>by kernel_rfl,trivial⟩) (fun _ _ _ _ _ h=>h) ⟨_,hS288⟩ (l':=[(109,nP z26 0),(108,nP z27 0),(12,nI x271),(7,nP z26 0),(0,nI x5),(2,.slice pa2 K2.length ca2)]) (by kernel_rfl) ?_
    intro a290 hF289; clear hF287
    refine any_call 5 #[true,true,true,true,true,true,false,false,false,false,false,false,false,false,false,false] 44 #[nP z26 0,nI 0] hF289 rfl (by kernel_rfl) rfl rfl (by kernel_rfl) rfl (by kernel_rfl) (fun w=>by kernel_rfl) (by kernel_rfl) ?_
    obtain ⟨x291,s292,s293,hx294,hm295⟩:=bind3E hm286; clear hm286
    refine (law16_ch.ok hS288 hx294).mono ?_
    rintro _ w296 ⟨rfl,hS298⟩; clear hS288
    refine ⟨⟨_,hS298⟩,?_⟩
    intro a297 hF299; clear hF289
    refine any_many 2 [(6,some (nI (IntKind.i64.wrap (2 * x291)))),(7,some (nI (IntKind.i64.wrap ((IntKind.i64.wrap (2 * x291)) + 1))))] [0,2,7,12,13,14,15,104,108,112,113,114,115,116] #[true,true,true,true,true,true,true,true,false,false,false,false,false,false,false,false] (by rfl) hF299 (by kernel_rfl) (by kernel_rfl) (by exact ⟨fun wS hw=>by kernel_rfl,fun wS hw=>by kernel_rfl,trivial⟩) (fun _ _ _ _ _ h=>h) ⟨_,hS298⟩ (l':=[(112,nI (IntKind.i64.wrap ((IntKind.i64.wrap (2 * x291)) + 1))),(108,nP z27 0),(12,nI x271),(7,nP z26 0),(0,nI x5),(2,.slice pa2 K2.length ca2)]) (by kernel_rfl) ?_
    intro a301 hF300; clear hF299
    have hS302:=hS298.pick1
    clear hS298
    refine any_call 8 #[true,true,true,true,true,true,true,true,true,false,false,false,false,false,false,false] 45 #[nP z27 0,nI (IntKind.i64.wrap ((IntKind.i64.wrap (2 * x291)) + 1))] hF300 rfl (by kernel_rfl) rfl rfl (by kernel_rfl) rfl (by kernel_rfl) (fun w=>by kernel_rfl) (by kernel_rfl) ?_
    obtain ⟨x303,x304,x305,s306,hx307,hm308⟩:=bind4E hm295; clear hm295
    refine (take_Try.ok hS302 hx307).mono ?_
    rintro _ w309 ⟨rfl,hS311⟩; clear hS302
    refine ⟨⟨_,hS311.pick1⟩,?_⟩
    intro a310 hF312; clear hF300
    refine any_many 7 [(9,some (.tuple #[nI x303,nI x304,nI x305])),(10,some (nI x303)),(11,some (nI x304)),(12,some (nI x305)),(13,some (nI x303)),(14,some (nI x304)),(15,some (nI x305))] [0,2,7,12,13,14,15] #[true,true,true,true,true,true,true,true,true,true,true,true,true,true,true,true] (by rfl) hF312 (by kernel_rfl) (by kernel_rfl) (by exact ⟨fun wS hw=>by kernel_rfl,fun wS hw=>by kernel_rfl,fun wS hw=>by kernel_rfl,fun wS hw=>by kernel_rfl,fun wS hw=>by kernel_rfl,fun wS hw=>by kernel_rfl,fun wS hw=>by kernel_rfl,trivial⟩) (fun _ _ _ _ _ h=>h) ⟨_,hS311.pick1⟩ (l':=[(15,nI x305),(14,nI x304),(13,nI x303),(12,nI x271),(7,nP z26 0),(0,nI x5),(2,.slice pa2 K2.length ca2)]) (by kernel_rfl) ?_
    intro a314 hF313; clear hF312
    refine any_done (by kernel_rfl) ?_
    refine thenN (wp_seq (wp_region_lit ?_))
    refine ev_runs 1 hF313 (l':=[(16,nI (-1)),(15,nI x305),(14,nI x304),(13,nI x303),(12,nI x271),(7,nP z26 0),(0,nI x5),(2,.slice pa2 K2.length ca2)]) (w':=w309) (by kernel_rfl) ?_
    intro a316 hF315; clear hF313
    refine wpList_nil (thenN (wp_seq (wp_seq (wp_region_lit ?_))))
    refine ev_runs 4 hF315 (l':=[(120,nP z26 3),(119,nP z26 0),(118,nP z26 0),(117,nI x271),(16,nI (-1)),(15,nI x305),(14,nI x304),(13,nI x303),(12,nI x271),(7,nP z26 0),(0,nI x5),(2,.slice pa2 K2.length ca2)]) (w':=w309) (by kernel_rfl) ?_
    intro a318 hF317; clear hF315
    refine ev_one (.slice p46 L19.length c47) w309 hF317 (by kernel_rfl) rfl (by kernel_rfl) (run_loadV rfl rfl (run_loadS rfl rfl (hS311.cell 1 rfl 3 rfl))) (l':=[(121,.slice p46 L19.length c47),(120,nP z26 3),(119,nP z26 0),(118,nP z26 0),(117,nI x271),(16,nI (-1)),(15,nI x305),(14,nI x304),(13,nI x303),(12,nI x271),(7,nP z26 0),(0,nI x5),(2,.slice pa2 K2.length ca2)]) (by kernel_rfl) ?_
    intro a320 hF319; clear hF317
    refine ev_runK 2 hF319 [0,2,7,12,13,14,15,16,123] (l':=[(123,.bool (decide (x271 < (L19.length:Int)))),(16,nI (-1)),(15,nI x305),(14,nI x304),(13,nI x303),(12,nI x271),(7,nP z26 0),(0,nI x5),(2,.slice pa2 K2.length ca2)]) (w':=w309) (by kernel_rfl) ?_
    intro a322 hF321; clear hF319
    refine wpList_nil (thenN ?_)
    refine joinQ (fun aI wI=>∃ (x323:Int),Fr 169 aI [(16,nI x323),(15,nI x305),(14,nI x304),(13,nI x303),(12,nI x271),(7,nP z26 0),(0,nI x5),(2,.slice pa2 K2.length ca2)]∧St w0 [] (HeapP z27 z28 s306::BlkP z26 77 #[nP z27 0,nP z29 0,.slice p42 L18.length c43,.slice p46 L19.length c47]::RHeapP z29 z30 z31 z32 z33 s293::RowP (.slice p42 L18.length c43) L18::RowP (.slice p46 L19.length c47) L19::ps) wI∧TakeFirst.j12 K2 x271 (TakeFirst.l11 K2 k x5 L18 L19 k272) s293 x303 x304 x305 s306 x323 = some r0) ?_ ?_
    rotate_left
    · rintro a325 w326 ⟨x323,hF327,hS328,hm329⟩
      clear hF321 hS311 hm308
      unfold TakeFirst.j12 at hm329
      refine thenN (wp_seq ?_)
      refine joinQ (fun aI wI=>∃ (y331:Bool),Fr 169 aI [(145,.bool (y331)),(12,nI x271),(7,nP z26 0),(0,nI x5),(2,.slice pa2 K2.length ca2)]∧St w0 [] (HeapP z27 z28 s306::BlkP z26 77 #[nP z27 0,nP z29 0,.slice p42 L18.length c43,.slice p46 L19.length c47]::RHeapP z29 z30 z31 z32 z33 s293::RowP (.slice p42 L18.length c43) L18::RowP (.slice p46 L19.length c47) L19::ps) wI∧TakeFirst.j13 x271 (TakeFirst.l11 K2 k x5 L18 L19 k272) s293 s306 y331 = some r0) ?_ ?_
      rotate_left
      · rintro a333 w334 ⟨y331,hF335,hS336,hm337⟩
        clear hF327 hS328 hm329
        unfold TakeFirst.j13 at hm337
        refine thenN ?_
        cases hc339:(y331)
        case true =>
         rw [hc339] at hF335
         have hm340:=ifYes hc339 hm337; clear hm337
         refine ev_condT hF335 rfl rfl ?_
         refine wp_seq (wp_region_lit ?_)
         refine ev_runK 1 hF335 [6] (l':=[(6,.bool false)]) (w':=w334) (by kernel_rfl) ?_
         intro a342 hF341; clear hF335
         refine wpList_nil ?_
         have hS343:=hS336.drop.drop.drop.drop.drop
         clear hS336
         refine thenN ?_
         refine wp_ret ?_
         refine blockR ?_
         refine thenR (thenR ?_)
         refine blockR ?_
         refine thenR ?_
         obtain rfl:=Option.some.inj hm340
         refine ev_ret hF341 [6] (.bool false) rfl rfl rfl ?_
         exact ⟨rfl,hS343⟩
        rw [hc339] at hF335
        have hm345:=ifNot hc339 hm337; clear hm337
        refine ev_condF hF335 rfl rfl ?_
        refine wp_skip ?_
        have hF346:=hF335.keep [0,2,7,12]
        clear hF335
        refine blockN ?_
        refine thenN (wp_region_lit ?_)
        refine ev_runK 3 hF346 [0,2,7,12] (l':=[(12,nI (IntKind.i64.wrap (x271 + 1))),(7,nP z26 0),(0,nI x5),(2,.slice pa2 K2.length ca2)]) (w':=w334) (by kernel_rfl) ?_
        intro a348 hF347; clear hF346
        refine wpList_nil ?_
        have hS349:=hS336.pick4.pick4.pick4.pick3.pick4
        clear hS336
        exact thenN ⟨k272,Nat.lt_succ_self _,s306,s293,IntKind.i64.wrap (x271 + 1),hF347,hS349,hm345⟩
      · skip
        refine wp_region_lit ?_
        refine ev_runs 3 hF327 (l':=[(133,nI x271),(132,.slice pa2 K2.length ca2),(131,nI x303),(16,nI x323),(15,nI x305),(14,nI x304),(13,nI x303),(12,nI x271),(7,nP z26 0),(0,nI x5),(2,.slice pa2 K2.length ca2)]) (w':=w326) (by kernel_rfl) ?_
        intro a351 hF350; clear hF327
        obtain ⟨hc352,hm353⟩:=ifTE hm329; clear hm329
        obtain ⟨b354,o355,rfl⟩:=argK hA2 hc352
        refine ev_one (nP b354 ((o355 + x271.toNat))) w326 hF350 (by kernel_rfl) rfl (by kernel_rfl) (run_idxO rfl rfl rfl rfl rfl (inR_spec hc352).1 (inR_spec hc352).2 _) (l':=[(134,nP b354 ((o355 + x271.toNat))),(133,nI x271),(132,.slice (some ⟨b354,o355,none⟩) K2.length ca2),(131,nI x303),(16,nI x323),(15,nI x305),(14,nI x304),(13,nI x303),(12,nI x271),(7,nP z26 0),(0,nI x5),(2,.slice (some ⟨b354,o355,none⟩) K2.length ca2)]) (by kernel_rfl) ?_
        intro a357 hF356; clear hF350
        refine ev_one (nI (atI K2 x271)) w326 hF356 (by kernel_rfl) rfl (by kernel_rfl) (run_load1 rfl rfl rfl (argAt hA2 hS328 hc352)) (l':=[(135,nI (atI K2 x271)),(134,nP b354 ((o355 + x271.toNat))),(133,nI x271),(132,.slice (some ⟨b354,o355,none⟩) K2.length ca2),(131,nI x303),(16,nI x323),(15,nI x305),(14,nI x304),(13,nI x303),(12,nI x271),(7,nP z26 0),(0,nI x5),(2,.slice (some ⟨b354,o355,none⟩) K2.length ca2)]) (by kernel_rfl) ?_
        intro a359 hF358; clear hF356
        refine ev_runs 2 hF358 (l':=[(137,.bool (x303 != (atI K2 x271))),(136,.bool (x303 != (atI K2 x271))),(135,nI (atI K2 x271)),(134,nP b354 ((o355 + x271.toNat))),(133,nI x271),(132,.slice (some ⟨b354,o355,none⟩) K2.length ca2),(131,nI x303),(16,nI x323),(15,nI x305),(14,nI x304),(13,nI x303),(12,nI x271),(7,nP z26 0),(0,nI x5),(2,.slice (some ⟨b354,o355,none⟩) K2.length ca2)]) (w':=w326) (by kernel_rfl) ?_
        intro a361 hF360; clear hF358
        cases hc362:(x303 != (atI K2 x271))
        case true =>
         rw [hc362] at hF360
         have hm363:=ifYes hc362 hm353; clear hm353
         refine ev_runK 8 hF360 [0,2,7,12,145] (l':=[(145,.bool true),(12,nI x271),(7,nP z26 0),(0,nI x5),(2,.slice (some ⟨b354,o355,none⟩) K2.length ca2)]) (w':=w326) (by kernel_rfl) ?_
         intro a365 hF364; clear hF360
         refine wpList_nil ?_
         exact thenN ⟨true,hF364,hS328,hm363⟩
        rw [hc362] at hF360
        have hm366:=ifNot hc362 hm353; clear hm353
        refine ev_runs 5 hF360 (l':=[(142,.bool (x304 != x323)),(141,.bool (x304 != x323)),(140,.bool (x304 != x323)),(139,nI x323),(138,nI x304),(137,.bool false),(136,.bool false),(135,nI (atI K2 x271)),(134,nP b354 ((o355 + x271.toNat))),(133,nI x271),(132,.slice (some ⟨b354,o355,none⟩) K2.length ca2),(131,nI x303),(16,nI x323),(15,nI x305),(14,nI x304),(13,nI x303),(12,nI x271),(7,nP z26 0),(0,nI x5),(2,.slice (some ⟨b354,o355,none⟩) K2.length ca2)]) (w':=w326) (by kernel_rfl) ?_
        intro a368 hF367; clear hF360
        cases hc369:(x304 != x323)
        case true =>
         rw [hc369] at hF367
         have hm370:=ifYes hc369 hm366; clear hm366
         refine ev_runK 3 hF367 [0,2,7,12,145] (l':=[(145,.bool true),(12,nI x271),(7,nP z26 0),(0,nI x5),(2,.slice (some ⟨b354,o355,none⟩) K2.length ca2)]) (w':=w326) (by kernel_rfl) ?_
         intro a372 hF371; clear hF367
         refine wpList_nil ?_
         exact thenN ⟨true,hF371,hS328,hm370⟩
        rw [hc369] at hF367
        have hm373:=ifNot hc369 hm366; clear hm366
        refine ev_runK 3 hF367 [0,2,7,12,145] (l':=[(145,.bool (x305 != 1)),(12,nI x271),(7,nP z26 0),(0,nI x5),(2,.slice (some ⟨b354,o355,none⟩) K2.length ca2)]) (w':=w326) (by kernel_rfl) ?_
        intro a375 hF374; clear hF367
        refine wpList_nil ?_
        exact thenN ⟨x305 != 1,hF374,hS328,hm373⟩
    · skip
      cases hc376:(decide (x271 < (L19.length:Int)))
      case true =>
       rw [hc376] at hF321
       have hm377:=ifYes hc376 hm308; clear hm308
       refine ev_condT hF321 rfl rfl ?_
       refine wp_region_lit ?_
       refine ev_runs 3 hF321 (l':=[(126,nP z26 3),(125,nP z26 0),(124,nP z26 0),(123,.bool true),(16,nI (-1)),(15,nI x305),(14,nI x304),(13,nI x303),(12,nI x271),(7,nP z26 0),(0,nI x5),(2,.slice pa2 K2.length ca2)]) (w':=w309) (by kernel_rfl) ?_
       intro a379 hF378; clear hF321
       refine ev_one (.slice p46 L19.length c47) w309 hF378 (by kernel_rfl) rfl (by kernel_rfl) (run_loadV rfl rfl (run_loadS rfl rfl (hS311.cell 1 rfl 3 rfl))) (l':=[(127,.slice p46 L19.length c47),(126,nP z26 3),(125,nP z26 0),(124,nP z26 0),(123,.bool true),(16,nI (-1)),(15,nI x305),(14,nI x304),(13,nI x303),(12,nI x271),(7,nP z26 0),(0,nI x5),(2,.slice pa2 K2.length ca2)]) (by kernel_rfl) ?_
       intro a381 hF380; clear hF378
       refine ev_runs 1 hF380 (l':=[(128,nI x271),(127,.slice p46 L19.length c47),(126,nP z26 3),(125,nP z26 0),(124,nP z26 0),(123,.bool true),(16,nI (-1)),(15,nI x305),(14,nI x304),(13,nI x303),(12,nI x271),(7,nP z26 0),(0,nI x5),(2,.slice pa2 K2.length ca2)]) (w':=w309) (by kernel_rfl) ?_
       intro a383 hF382; clear hF380
       obtain ⟨hc384,hm385⟩:=ifTE hm377; clear hm377
       obtain ⟨g386,rfl⟩:=hp48.resolve_left (by have:=inR_spec hc384; omega)
       refine ev_one (nP g386 (x271.toNat)) w309 hF382 (by kernel_rfl) rfl (by kernel_rfl) (run_idx rfl rfl rfl rfl rfl (inR_spec hc384).1 (inR_spec hc384).2 _) (l':=[(129,nP g386 (x271.toNat)),(128,nI x271),(127,nS g386 L19 c47),(126,nP z26 3),(125,nP z26 0),(124,nP z26 0),(123,.bool true),(16,nI (-1)),(15,nI x305),(14,nI x304),(13,nI x303),(12,nI x271),(7,nP z26 0),(0,nI x5),(2,.slice pa2 K2.length ca2)]) (by kernel_rfl) ?_
       intro a388 hF387; clear hF382
       refine ev_one (nI (atI L19 x271)) w309 hF387 (by kernel_rfl) rfl (by kernel_rfl) (run_load1 rfl rfl rfl (hS311.atI 4 rfl hc384)) (l':=[(130,nI (atI L19 x271)),(129,nP g386 (x271.toNat)),(128,nI x271),(127,nS g386 L19 c47),(126,nP z26 3),(125,nP z26 0),(124,nP z26 0),(123,.bool true),(16,nI (-1)),(15,nI x305),(14,nI x304),(13,nI x303),(12,nI x271),(7,nP z26 0),(0,nI x5),(2,.slice pa2 K2.length ca2)]) (by kernel_rfl) ?_
       intro a390 hF389; clear hF387
       refine ev_runK 1 hF389 [0,2,7,12,13,14,15,16] (l':=[(16,nI (atI L19 x271)),(15,nI x305),(14,nI x304),(13,nI x303),(12,nI x271),(7,nP z26 0),(0,nI x5),(2,.slice pa2 K2.length ca2)]) (w':=w309) (by kernel_rfl) ?_
       intro a392 hF391; clear hF389
       refine wpList_nil ?_
       exact thenN ⟨atI L19 x271,hF391,hS311,hm385⟩
      rw [hc376] at hF321
      have hm393:=ifNot hc376 hm308; clear hm308
      refine ev_condF hF321 rfl rfl ?_
      refine wp_skip ?_
      have hF394:=hF321.keep [0,2,7,12,13,14,15,16]
      clear hF321
      exact thenN ⟨-1,hF394,hS311,hm393⟩
   rw [hc285] at hF283
   have hm395:=ifNot hc285 hm278; clear hm278
   refine ev_condF hF283 rfl rfl ?_
   refine wp_exit ?_
   refine thenE ?_
   refine thenE ?_
   refine blockE ?_
   refine thenN (wp_seq ?_)
   have hS396:=hS276.drew; clear hS276
   refine any_start (fun wS=>∃ qs,St w0 [] (BlkP z26 77 #[nP z27 0,nP z29 0,.slice p42 L18.length c43,.slice p46 L19.length c47]::qs) wS) 16 #[false,false,false,false,false,false,false,false,false,false,false,false,false,false,false,false] (by kernel_rfl) (by kernel_rfl) (by kernel_rfl) ?_
   refine any_many 5 [(0,some (nP z26 0)),(1,some (nP z26 0)),(2,some (nP z26 0)),(3,some (nP z27 0)),(4,some (nP z26 0))] [17,18,19,146,150,151,152,153,154,155,156,157,158] #[true,true,true,true,true,false,false,false,false,false,false,false,false,false,false,false] (by rfl) hF283 (by kernel_rfl) (by kernel_rfl) (by exact ⟨fun wS hw=>by kernel_rfl,fun wS hw=>by kernel_rfl,fun wS hw=>by kernel_rfl,fun wS hw=>hw.elim fun qs hw=>run_loadV rfl rfl (run_loadS rfl rfl (hw.cell 0 rfl 0 rfl)),fun wS hw=>by kernel_rfl,trivial⟩) (fun _ _ _ _ _ h=>h) ⟨_,hS396⟩ (l':=[(151,nP z26 0),(150,nP z27 0)]) (by kernel_rfl) ?_
   intro a398 hF397; clear hF283
   refine any_call 5 #[true,true,true,true,true,true,false,false,false,false,false,false,false,false,false,false] 44 #[nP z26 0,nI 0] hF397 rfl (by kernel_rfl) rfl rfl (by kernel_rfl) rfl (by kernel_rfl) (fun w=>by kernel_rfl) (by kernel_rfl) ?_
   obtain ⟨x399,s400,s401,hx402,hm403⟩:=bind3E hm395; clear hm395
   refine (law16_ch.ok hS396 hx402).mono ?_
   rintro _ w404 ⟨rfl,hS406⟩; clear hS396
   refine ⟨⟨_,hS406⟩,?_⟩
   intro a405 hF407; clear hF397
   refine any_many 2 [(6,some (nI (IntKind.i64.wrap (2 * x399)))),(7,some (nI (IntKind.i64.wrap ((IntKind.i64.wrap (2 * x399)) + 1))))] [17,18,19,146,150,154,155,156,157,158] #[true,true,true,true,true,true,true,true,false,false,false,false,false,false,false,false] (by rfl) hF407 (by kernel_rfl) (by kernel_rfl) (by exact ⟨fun wS hw=>by kernel_rfl,fun wS hw=>by kernel_rfl,trivial⟩) (fun _ _ _ _ _ h=>h) ⟨_,hS406⟩ (l':=[(154,nI (IntKind.i64.wrap ((IntKind.i64.wrap (2 * x399)) + 1))),(150,nP z27 0)]) (by kernel_rfl) ?_
   intro a409 hF408; clear hF407
   have hS410:=hS406.pick1
   clear hS406
   refine any_call 8 #[true,true,true,true,true,true,true,true,true,false,false,false,false,false,false,false] 45 #[nP z27 0,nI (IntKind.i64.wrap ((IntKind.i64.wrap (2 * x399)) + 1))] hF408 rfl (by kernel_rfl) rfl rfl (by kernel_rfl) rfl (by kernel_rfl) (fun w=>by kernel_rfl) (by kernel_rfl) ?_
   obtain ⟨x411,x412,x413,s414,hx415,hm416⟩:=bind4E hm403; clear hm403
   refine (take_Try.ok hS410 hx415).mono ?_
   rintro _ w417 ⟨rfl,hS419⟩; clear hS410
   refine ⟨⟨_,hS419.pick1⟩,?_⟩
   intro a418 hF420; clear hF408
   refine any_many 7 [(9,some (.tuple #[nI x411,nI x412,nI x413])),(10,some (nI x411)),(11,some (nI x412)),(12,some (nI x413)),(13,some (nI x411)),(14,some (nI x412)),(15,some (nI x413))] [17,18,19] #[true,true,true,true,true,true,true,true,true,true,true,true,true,true,true,true] (by rfl) hF420 (by kernel_rfl) (by kernel_rfl) (by exact ⟨fun wS hw=>by kernel_rfl,fun wS hw=>by kernel_rfl,fun wS hw=>by kernel_rfl,fun wS hw=>by kernel_rfl,fun wS hw=>by kernel_rfl,fun wS hw=>by kernel_rfl,fun wS hw=>by kernel_rfl,trivial⟩) (fun _ _ _ _ _ h=>h) ⟨_,hS419.pick1⟩ (l':=[(19,nI x413),(18,nI x412),(17,nI x411)]) (by kernel_rfl) ?_
   intro a422 hF421; clear hF420
   refine any_done (by kernel_rfl) ?_
   have hS423:=hS419.drop.drop.drop.drop.drop
   clear hS419
   refine thenN (wp_seq ?_)
   refine joinQ (fun aI wI=>∃ (y424:Bool),Fr 169 aI [(6,.bool (y424))]∧St w0 [] (ps) wI∧TakeFirst.j14 y424 = some r0) ?_ ?_
   rotate_left
   · rintro a426 w427 ⟨y424,hF428,hS429,hm430⟩
     clear hF421 hS423 hm416
     unfold TakeFirst.j14 at hm430
     refine thenN ?_
     refine wp_ret ?_
     obtain rfl:=Option.some.inj hm430
     refine ev_ret hF428 [6] (.bool (y424)) rfl rfl rfl ?_
     exact ⟨rfl,hS429⟩
   · skip
     refine wp_region_lit ?_
     refine ev_runs 3 hF421 (l':=[(161,.bool (x411 == 0)),(160,.bool (x411 == 0)),(159,nI x411),(19,nI x413),(18,nI x412),(17,nI x411)]) (w':=w417) (by kernel_rfl) ?_
     intro a434 hF433; clear hF421
     cases hc435:(x411 == 0)
     case true =>
      rw [hc435] at hF433
      have hm436:=ifYes hc435 hm416; clear hm416
      refine ev_runs 4 hF433 (l':=[(165,.bool (x412 == (-1))),(164,.bool (x412 == (-1))),(163,.bool (x412 == (-1))),(162,nI x412),(161,.bool true),(160,.bool true),(159,nI x411),(19,nI x413),(18,nI x412),(17,nI x411)]) (w':=w417) (by kernel_rfl) ?_
      intro a438 hF437; clear hF433
      cases hc439:(x412 == (-1))
      case true =>
       rw [hc439] at hF437
       have hm440:=ifYes hc439 hm436; clear hm436
       refine ev_runK 4 hF437 [6] (l':=[(6,.bool (x413 == 0))]) (w':=w417) (by kernel_rfl) ?_
       intro a442 hF441; clear hF437
       refine wpList_nil ?_
       exact thenN ⟨x413 == 0,hF441,hS423,hm440⟩
      rw [hc439] at hF437
      have hm443:=ifNot hc439 hm436; clear hm436
      refine ev_runK 4 hF437 [6] (l':=[(6,.bool false)]) (w':=w417) (by kernel_rfl) ?_
      intro a445 hF444; clear hF437
      refine wpList_nil ?_
      exact thenN ⟨false,hF444,hS423,hm443⟩
     rw [hc435] at hF433
     have hm446:=ifNot hc435 hm416; clear hm416
     refine ev_runK 8 hF433 [6] (l':=[(6,.bool false)]) (w':=w417) (by kernel_rfl) ?_
     intro a448 hF447; clear hF433
     refine wpList_nil ?_
     exact thenN ⟨false,hF447,hS423,hm446⟩
 · skip
   refine wp_region_lit ?_
   refine ev_call 43 #[] hF50 rfl rfl (by kernel_rfl) rfl (by kernel_rfl) (fun w=>by kernel_rfl) ?_
   obtain ⟨y449,hx450,hm451⟩:=bind1E hm21; clear hm21
   refine (law16_awake.ok hS52 hx450).mono ?_
   rintro _ w452 ⟨rfl,hS454⟩ a453 hF455; clear hF50 hS52
   refine ev_runs 2 hF455 (l':=[(30,.bool (!(y449))),(29,.bool (!(y449))),(28,.bool (y449)),(7,nP z26 0),(0,nI x5),(2,.slice pa2 K2.length ca2)]) (w':=w452) (by kernel_rfl) ?_
   intro a457 hF456; clear hF455
   cases hc458:(!(y449))
   case true =>
    rw [hc458] at hF456
    have hm459:=ifYes hc458 hm451; clear hm451
    refine ev_runK 8 hF456 [0,2,7,38] (l':=[(38,.bool true),(7,nP z26 0),(0,nI x5),(2,.slice pa2 K2.length ca2)]) (w':=w452) (by kernel_rfl) ?_
    intro a461 hF460; clear hF456
    refine wpList_nil ?_
    exact thenN ⟨true,hF460,hS454,hm459⟩
   rw [hc458] at hF456
   have hm462:=ifNot hc458 hm451; clear hm451
   refine ev_runK 8 hF456 [0,2,7,38] (l':=[(38,.bool (decide ((K2.length:Int) < 10))),(7,nP z26 0),(0,nI x5),(2,.slice pa2 K2.length ca2)]) (w':=w452) (by kernel_rfl) ?_
   intro a464 hF463; clear hF456
   refine wpList_nil ?_
   exact thenN ⟨decide ((K2.length:Int) < 10),hF463,hS454,hm462⟩
end Go.Proofs.YtgejcjcpchofiaaGreat
