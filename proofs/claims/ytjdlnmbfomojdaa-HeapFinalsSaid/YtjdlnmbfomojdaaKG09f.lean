/- G09f GHeapFinals HfBL HfB0 -/
import Derived.Test.YtjdlnmbfomojdaaKGHelp
import Derived.Test.YtjdlnmbfomojdaaKRowW
import Derived.Test.YtjdlnmbfomojdaaKPrimV
import Derived.Deep.LoopGhost
import Derived.KernelRfl
namespace Go.Proofs.Ytjdlnmbfomojdaa
open Go.RowKit
set_option linter.unusedVariables false
def law09_awake.j1 (y53:Bool):Option (Bool):=some (y53)
def law09_awake.m (k:Nat):Option (Bool):=bind1 (pNew 2) fun s3=>bind3 (pAlloc 5 2 s3) fun x26 x27 s28=>bind2 (pBegin s28 [x26]) fun x42 s43=>(if (x27 == 0) then (if (x42 == 0) then (if (s43.ph == 1) then bind1 (pColour x26 s43) fun x82=>(if (x82 == 1) then bind2 (pStep s43) fun L95 s96=>(if ((L95.length:Int) == 0) then bind1 (pColour x26 s96) fun x115=>law09_awake.j1 (x115 == 2) else law09_awake.j1 false) else law09_awake.j1 false) else law09_awake.j1 false) else law09_awake.j1 false) else law09_awake.j1 false)
set_option maxRecDepth 100000 in
set_option maxHeartbeats 1500000 in
theorem law09_awake.ok {w0 w:World} {F0:List Nat} {ps:List Piece} {k:Nat}  {r0:Bool} (hS:St w0 F0 (ps) w) (hm:law09_awake.m k=some r0) :
    Calls Try.prog 34 #[] w fun e w'=>e=.returned (.bool r0)∧St w0 F0 (ps) w':=by
 refine ev_enterL 59 [] Try.func34 rfl rfl (by simp) ?_
 intro a hF
 have hF0:Fr 59 a []:=hF; clear hF
 unfold law09_awake.m at hm
 refine wp_seq (wp_region_lit ?_)
 refine ev_runK 1 hF0 [] (l':=[]) (w':=w) (by kernel_rfl) ?_
 intro a2 hF1; clear hF0
 refine wpList_nil (thenN (wp_seq (wp_region_lit ?_)))
 refine ev_call 8 #[nI 2] hF1 rfl rfl (by kernel_rfl) rfl (by kernel_rfl) (fun w=>by kernel_rfl) ?_
 obtain ⟨s3,hx4,hm5⟩:=bind1E hm; clear hm
 refine (p_New hS hx4).mono ?_
 rintro _ w6 ⟨z10,z11,rfl,hS8⟩ a7 hF9; clear hF1 hS
 refine ev_runK 5 hF9 [1,2] (l':=[(2,nI 0),(1,nP z10 0)]) (w':=w6) (by kernel_rfl) ?_
 intro a14 hF13; clear hF9
 refine wpList_nil (thenN (wp_seq (wp_seq (wp_region_lit ?_))))
 refine ev_runs 8 hF13 (l':=[(17,nP z10 0),(16,.bool false),(15,.bool false),(14,.bool false),(13,nP z10 0),(12,.bool false),(11,.bool false),(10,nI 0),(2,nI 0),(1,nP z10 0)]) (w':=w6) (by kernel_rfl) ?_
 intro a16 hF15; clear hF13
 refine ev_call 10 #[nP z10 0] hF15 rfl rfl (by kernel_rfl) rfl (by kernel_rfl) (fun w=>by kernel_rfl) ?_
 refine (p_Arena hS8).mono ?_
 rintro _ w17 ⟨rfl,hS19⟩ a18 hF20; clear hF15 hS8
 refine ev_runK 2 hF20 [1,20] (l':=[(20,.bool false),(1,nP z10 0)]) (w':=w17) (by kernel_rfl) ?_
 intro a22 hF21; clear hF20
 refine wpList_nil (thenN ?_)
 refine ev_condF hF21 rfl rfl ?_
 refine wp_skip ?_
 have hF23:=hF21.keep [1]
 clear hF21
 refine thenN (wp_seq (wp_region_lit ?_))
 refine ev_runs 1 hF23 (l':=[(22,nP z10 0),(1,nP z10 0)]) (w':=w17) (by kernel_rfl) ?_
 intro a25 hF24; clear hF23
 refine ev_call 11 #[nP z10 0,nI 5,nI 2] hF24 rfl rfl (by kernel_rfl) rfl (by kernel_rfl) (fun w=>by kernel_rfl) ?_
 obtain ⟨x26,x27,s28,hx29,hm30⟩:=bind3E hm5; clear hm5
 refine (p_Alloc hS19 hx29).mono ?_
 rintro _ w31 ⟨rfl,hS33⟩ a32 hF34; clear hF24 hS19
 refine ev_runK 5 hF34 [1,3,4] (l':=[(4,nI x27),(3,nI x26),(1,nP z10 0)]) (w':=w31) (by kernel_rfl) ?_
 intro a36 hF35; clear hF34
 refine wpList_nil (thenN (wp_seq (wp_region_lit ?_)))
 refine ev_runs 3 hF35 (l':=[(28,.slice (some ⟨w31.heap.size,0,none⟩) 1 1),(27,nI x26),(26,nP z10 0),(4,nI x27),(3,nI x26),(1,nP z10 0)]) (w':=w31.alloc (.cells #[nI x26] 3)) (by kernel_rfl) ?_
 intro a38 hF37; clear hF35
 have hS40:St w0 F0 (RowP (.slice (some ⟨w31.heap.size,0,none⟩) 1 1) [x26]::HeapP z10 z11 s28::ps) (w31.alloc (.cells #[nI x26] 3)):=St.lit hS33 [x26] (by unfold maxLen; simp)
 clear hS33
 have hS41:=hS40.pick1
 clear hS40
 refine ev_call 31 #[nP z10 0,.slice (some ⟨w31.heap.size,0,none⟩) 1 1] hF37 rfl rfl (by kernel_rfl) rfl (by kernel_rfl) (fun w=>by kernel_rfl) ?_
 obtain ⟨x42,s43,hx44,hm45⟩:=bind2E hm30; clear hm30
 refine (p_Begin hS41 hx44).mono ?_
 rintro _ w46 ⟨rfl,hS48⟩ a47 hF49; clear hF37 hS41
 refine ev_runK 1 hF49 [1,3,4,5] (l':=[(5,nI x42),(4,nI x27),(3,nI x26),(1,nP z10 0)]) (w':=w46) (by kernel_rfl) ?_
 intro a51 hF50; clear hF49
 refine wpList_nil ?_
 have hS52:=hS48.pick1.drop
 clear hS48
 refine thenN (wp_seq ?_)
 refine joinQ (fun aI wI=>∃ (y53:Bool),Fr 59 aI [(0,.bool (y53))]∧St w0 F0 (ps) wI∧law09_awake.j1 y53=some r0) ?_ ?_
 rotate_left
 · rintro a55 w56 ⟨y53,hF57,hS58,hm59⟩
   clear hF50 hS52 hm45
   unfold law09_awake.j1 at hm59
   refine thenN ?_
   refine wp_ret ?_
   obtain rfl:=Option.some.inj hm59
   refine ev_ret hF57 [0] (.bool (y53)) rfl rfl rfl ?_
   exact ⟨rfl,hS58⟩
 · skip
   refine wp_region_lit ?_
   refine ev_runs 3 hF50 (l':=[(32,.bool (x27 == 0)),(31,.bool (x27 == 0)),(30,nI x27),(5,nI x42),(4,nI x27),(3,nI x26),(1,nP z10 0)]) (w':=w46) (by kernel_rfl) ?_
   intro a63 hF62; clear hF50
   cases hc64:(x27 == 0)
   case true =>
    rw [hc64] at hF62
    have hm65:=ifYes hc64 hm45; clear hm45
    refine ev_runs 4 hF62 (l':=[(36,.bool (x42 == 0)),(35,.bool (x42 == 0)),(34,.bool (x42 == 0)),(33,nI x42),(32,.bool true),(31,.bool true),(30,nI x27),(5,nI x42),(4,nI x27),(3,nI x26),(1,nP z10 0)]) (w':=w46) (by kernel_rfl) ?_
    intro a67 hF66; clear hF62
    cases hc68:(x42 == 0)
    case true =>
     rw [hc68] at hF66
     have hm69:=ifYes hc68 hm65; clear hm65
     refine ev_runs 1 hF66 (l':=[(37,nP z10 0),(36,.bool true),(35,.bool true),(34,.bool true),(33,nI x42),(32,.bool true),(31,.bool true),(30,nI x27),(5,nI x42),(4,nI x27),(3,nI x26),(1,nP z10 0)]) (w':=w46) (by kernel_rfl) ?_
     intro a71 hF70; clear hF66
     refine ev_call 37 #[nP z10 0] hF70 rfl rfl (by kernel_rfl) rfl (by kernel_rfl) (fun w=>by kernel_rfl) ?_
     refine (p_Phase hS52).mono ?_
     rintro _ w72 ⟨rfl,hS74⟩ a73 hF75; clear hF70 hS52
     refine ev_runs 3 hF75 (l':=[(41,.bool (s43.ph == 1)),(40,.bool (s43.ph == 1)),(39,.bool (s43.ph == 1)),(38,nI (s43.ph)),(37,nP z10 0),(36,.bool true),(35,.bool true),(34,.bool true),(33,nI x42),(32,.bool true),(31,.bool true),(30,nI x27),(5,nI x42),(4,nI x27),(3,nI x26),(1,nP z10 0)]) (w':=w72) (by kernel_rfl) ?_
     intro a77 hF76; clear hF75
     cases hc78:(s43.ph == 1)
     case true =>
      rw [hc78] at hF76
      have hm79:=ifYes hc78 hm69; clear hm69
      refine ev_runs 2 hF76 (l':=[(43,nI x26),(42,nP z10 0),(41,.bool true),(40,.bool true),(39,.bool true),(38,nI (s43.ph)),(37,nP z10 0),(36,.bool true),(35,.bool true),(34,.bool true),(33,nI x42),(32,.bool true),(31,.bool true),(30,nI x27),(5,nI x42),(4,nI x27),(3,nI x26),(1,nP z10 0)]) (w':=w72) (by kernel_rfl) ?_
      intro a81 hF80; clear hF76
      refine ev_call 33 #[nP z10 0,nI x26] hF80 rfl rfl (by kernel_rfl) rfl (by kernel_rfl) (fun w=>by kernel_rfl) ?_
      obtain ⟨x82,hx83,hm84⟩:=bind1E hm79; clear hm79
      refine (p_Colour hS74 hx83).mono ?_
      rintro _ w85 ⟨rfl,hS87⟩ a86 hF88; clear hF80 hS74
      refine ev_runs 3 hF88 (l':=[(47,.bool (x82 == 1)),(46,.bool (x82 == 1)),(45,.bool (x82 == 1)),(44,nI x82),(43,nI x26),(42,nP z10 0),(41,.bool true),(40,.bool true),(39,.bool true),(38,nI (s43.ph)),(37,nP z10 0),(36,.bool true),(35,.bool true),(34,.bool true),(33,nI x42),(32,.bool true),(31,.bool true),(30,nI x27),(5,nI x42),(4,nI x27),(3,nI x26),(1,nP z10 0)]) (w':=w85) (by kernel_rfl) ?_
      intro a90 hF89; clear hF88
      cases hc91:(x82 == 1)
      case true =>
       rw [hc91] at hF89
       have hm92:=ifYes hc91 hm84; clear hm84
       refine ev_runs 1 hF89 (l':=[(48,nP z10 0),(47,.bool true),(46,.bool true),(45,.bool true),(44,nI x82),(43,nI x26),(42,nP z10 0),(41,.bool true),(40,.bool true),(39,.bool true),(38,nI (s43.ph)),(37,nP z10 0),(36,.bool true),(35,.bool true),(34,.bool true),(33,nI x42),(32,.bool true),(31,.bool true),(30,nI x27),(5,nI x42),(4,nI x27),(3,nI x26),(1,nP z10 0)]) (w':=w85) (by kernel_rfl) ?_
       intro a94 hF93; clear hF89
       refine ev_call 38 #[nP z10 0] hF93 rfl rfl (by kernel_rfl) rfl (by kernel_rfl) (fun w=>by kernel_rfl) ?_
       obtain ⟨L95,s96,hx97,hm98⟩:=bind2E hm92; clear hm92
       refine (p_Step hS87 hx97).mono ?_
       rintro _ w99 ⟨z103,rfl,hS101⟩ a100 hF102; clear hF93 hS87
       obtain ⟨hl108,p105,c106,rfl,hp107⟩:=St.shapeG (k:=1) hS101 rfl
       refine ev_runs 4 hF102 (l':=[(53,.bool ((L95.length:Int) == 0)),(52,.bool ((L95.length:Int) == 0)),(51,.bool ((L95.length:Int) == 0)),(50,nI ((L95.length:Int))),(49,.slice p105 L95.length c106),(48,nP z10 0),(47,.bool true),(46,.bool true),(45,.bool true),(44,nI x82),(43,nI x26),(42,nP z10 0),(41,.bool true),(40,.bool true),(39,.bool true),(38,nI (s43.ph)),(37,nP z10 0),(36,.bool true),(35,.bool true),(34,.bool true),(33,nI x42),(32,.bool true),(31,.bool true),(30,nI x27),(5,nI x42),(4,nI x27),(3,nI x26),(1,nP z10 0)]) (w':=w99) (by kernel_rfl) ?_
       intro a110 hF109; clear hF102
       cases hc111:((L95.length:Int) == 0)
       case true =>
        rw [hc111] at hF109
        have hm112:=ifYes hc111 hm98; clear hm98
        refine ev_runs 2 hF109 (l':=[(55,nI x26),(54,nP z10 0),(53,.bool true),(52,.bool true),(51,.bool true),(50,nI ((L95.length:Int))),(49,.slice p105 L95.length c106),(48,nP z10 0),(47,.bool true),(46,.bool true),(45,.bool true),(44,nI x82),(43,nI x26),(42,nP z10 0),(41,.bool true),(40,.bool true),(39,.bool true),(38,nI (s43.ph)),(37,nP z10 0),(36,.bool true),(35,.bool true),(34,.bool true),(33,nI x42),(32,.bool true),(31,.bool true),(30,nI x27),(5,nI x42),(4,nI x27),(3,nI x26),(1,nP z10 0)]) (w':=w99) (by kernel_rfl) ?_
        intro a114 hF113; clear hF109
        refine ev_call 33 #[nP z10 0,nI x26] hF113 rfl rfl (by kernel_rfl) rfl (by kernel_rfl) (fun w=>by kernel_rfl) ?_
        obtain ⟨x115,hx116,hm117⟩:=bind1E hm112; clear hm112
        refine (p_Colour hS101 hx116).mono ?_
        rintro _ w118 ⟨rfl,hS120⟩ a119 hF121; clear hF113 hS101
        refine ev_runK 3 hF121 [0] (l':=[(0,.bool (x115 == 2))]) (w':=w118) (by kernel_rfl) ?_
        intro a123 hF122; clear hF121
        refine wpList_nil ?_
        have hS124:=hS120.drop.drop
        clear hS120
        exact thenN ⟨x115 == 2,hF122,hS124,hm117⟩
       rw [hc111] at hF109
       have hm125:=ifNot hc111 hm98; clear hm98
       refine ev_runK 6 hF109 [0] (l':=[(0,.bool false)]) (w':=w99) (by kernel_rfl) ?_
       intro a127 hF126; clear hF109
       refine wpList_nil ?_
       have hS128:=hS101.drop.drop
       clear hS101
       exact thenN ⟨false,hF126,hS128,hm125⟩
      rw [hc91] at hF89
      have hm129:=ifNot hc91 hm84; clear hm84
      refine ev_runK 12 hF89 [0] (l':=[(0,.bool false)]) (w':=w85) (by kernel_rfl) ?_
      intro a131 hF130; clear hF89
      refine wpList_nil ?_
      have hS132:=hS87.drop
      clear hS87
      exact thenN ⟨false,hF130,hS132,hm129⟩
     rw [hc78] at hF76
     have hm133:=ifNot hc78 hm69; clear hm69
     refine ev_runK 18 hF76 [0] (l':=[(0,.bool false)]) (w':=w72) (by kernel_rfl) ?_
     intro a135 hF134; clear hF76
     refine wpList_nil ?_
     have hS136:=hS74.drop
     clear hS74
     exact thenN ⟨false,hF134,hS136,hm133⟩
    rw [hc68] at hF66
    have hm137:=ifNot hc68 hm65; clear hm65
    refine ev_runK 23 hF66 [0] (l':=[(0,.bool false)]) (w':=w46) (by kernel_rfl) ?_
    intro a139 hF138; clear hF66
    refine wpList_nil ?_
    have hS140:=hS52.drop
    clear hS52
    exact thenN ⟨false,hF138,hS140,hm137⟩
   rw [hc64] at hF62
   have hm141:=ifNot hc64 hm45; clear hm45
   refine ev_runK 27 hF62 [0] (l':=[(0,.bool false)]) (w':=w46) (by kernel_rfl) ?_
   intro a143 hF142; clear hF62
   refine wpList_nil ?_
   have hS144:=hS52.drop
   clear hS52
   exact thenN ⟨false,hF142,hS144,hm141⟩
def HeapFinals_cycle.j3 (s30:HSt) (L31:List Gn) (x33:Int) (rec36:HSt→List Gn→Int→Option (List Gn×HSt)) (y45:Bool):Option (List Gn×HSt):=(if (y45) then bind2 (pStep s30) fun L60 s61=>bind1 (appX L31 L60) fun L75=>rec36 s61 L75 (IntKind.i64.wrap (x33+1)) else some (L31,s30))
def HeapFinals_cycle.l2b (rec36:HSt→List Gn→Int→Option (List Gn×HSt)) (s30:HSt) (L31:List Gn) (x33:Int):Option (List Gn×HSt):=(if (decide (x33<300)) then HeapFinals_cycle.j3 s30 L31 x33 rec36 (s30.ph != 0) else HeapFinals_cycle.j3 s30 L31 x33 rec36 false)
def HeapFinals_cycle.l2:Nat→HSt→List Gn→Int→Option (List Gn×HSt)
  | 0=>fun _ _ _=>none
  | kI+1=>HeapFinals_cycle.l2b (HeapFinals_cycle.l2 kI)
def HeapFinals_cycle.m (k:Nat) (L0:List Int) (s1:HSt):Option (List Gn×HSt):=bind2 (pBegin s1 L0) fun x19 s20=>HeapFinals_cycle.l2 k s20 [] 0
set_option maxRecDepth 100000 in
set_option maxHeartbeats 1500000 in
theorem HeapFinals_cycle.ok {w0 w:World} {F0:List Nat} {ps:List Piece} {k:Nat} {v0:Value} {L0:List Int} {bb1 b1 ab1:Nat} {s1:HSt} {r0:List Gn} {t0:HSt} (hS:St w0 F0 (RowP (v0) L0::BlkP bb1 23 #[nP b1 0]::HeapP b1 ab1 s1::ps) w) (hm:HeapFinals_cycle.m k L0 s1=some (r0,t0)) :
    Calls Try.prog 36 #[v0,nP bb1 0] w fun e w'=>∃ vr0,e=.returned (vr0)∧St w0 F0 (RowP (v0) L0::BlkP bb1 23 #[nP b1 0]::HeapP b1 ab1 t0::GonesP vr0 r0::ps) w':=by
 refine ev_enterL 23 [v0,nP bb1 0] Try.func36 rfl rfl (by simp) ?_
 intro a hF
 have hF0:Fr 23 a [(0,v0),(1,nP bb1 0)]:=hF; clear hF
 unfold HeapFinals_cycle.m at hm
 obtain ⟨hl4,p1,c2,rfl,hp3⟩:=St.shape hS 0 rfl
 refine wp_seq (wp_region_lit ?_)
 have hS6:St w0 F0 (GonesP (.slice none 0 0) []::RowP (.slice p1 L0.length c2) L0::BlkP bb1 23 #[nP b1 0]::HeapP b1 ab1 s1::ps) w:=St.nilG hS
 refine ev_runK 1 hF0 [0,1] (l':=[(0,.slice p1 L0.length c2),(1,nP bb1 0)]) (w':=w) (by kernel_rfl) ?_
 intro a8 hF7; clear hF0
 refine wpList_nil ?_
 have hS9:=hS6.drop
 clear hS6
 refine thenN (wp_seq (wp_region_lit ?_))
 have hS11:St w0 F0 (GonesP (.slice none 0 0) []::RowP (.slice p1 L0.length c2) L0::BlkP bb1 23 #[nP b1 0]::HeapP b1 ab1 s1::ps) w:=St.nilG hS9
 clear hS9
 refine ev_runs 1 hF7 (l':=[(4,.slice none 0 0),(0,.slice p1 L0.length c2),(1,nP bb1 0)]) (w':=w) (by kernel_rfl) ?_
 intro a13 hF12; clear hF7
 refine wpList_nil (thenN (wp_seq (wp_region_lit ?_)))
 refine ev_one (nP b1 0) w hF12 (by kernel_rfl) rfl (by kernel_rfl) (run_loadV rfl rfl (run_loadS rfl rfl (hS11.cell 2 rfl 0 rfl))) (l':=[(6,nP b1 0),(4,.slice none 0 0),(0,.slice p1 L0.length c2),(1,nP bb1 0)]) (by kernel_rfl) ?_
 intro a15 hF14; clear hF12
 refine ev_runs 1 hF14 (l':=[(7,.slice p1 L0.length c2),(6,nP b1 0),(4,.slice none 0 0),(0,.slice p1 L0.length c2),(1,nP bb1 0)]) (w':=w) (by kernel_rfl) ?_
 intro a17 hF16; clear hF14
 have hS18:=hS11.pick1.pick3
 clear hS11
 refine ev_call 31 #[nP b1 0,.slice p1 L0.length c2] hF16 rfl rfl (by kernel_rfl) rfl (by kernel_rfl) (fun w=>by kernel_rfl) ?_
 obtain ⟨x19,s20,hx21,hm22⟩:=bind2E hm; clear hm
 refine (p_Begin hS18 hx21).mono ?_
 rintro _ w23 ⟨rfl,hS25⟩ a24 hF26; clear hF16 hS18
 refine wpList_nil ?_
 have hF27:=hF26.keep [1,4]
 clear hF26
 refine thenN (wp_seq (wp_seq (wp_region_lit ?_)))
 refine ev_runs 1 hF27 (l':=[(5,nI 0),(4,.slice none 0 0),(1,nP bb1 0)]) (w':=w23) (by kernel_rfl) ?_
 intro a29 hF28; clear hF27
 refine wpList_nil (thenN ?_)
 refine wp_block ?_
 refine wp_loop_ghost (fun kI aI wI=>∃ (s30:HSt) (v32:Value) (L31:List Gn) (x33:Int),Fr 23 aI [(5,nI x33),(4,v32),(1,nP bb1 0)]∧St w0 F0 (HeapP b1 ab1 s30::RowP (.slice p1 L0.length c2) L0::GonesP (v32) L31::BlkP bb1 23 #[nP b1 0]::ps) wI∧HeapFinals_cycle.l2 kI s30 L31 x33=some (r0,t0)) k ⟨s20,.slice none 0 0,[],0,hF28,hS25,hm22⟩ ?_
 rintro k34 a35 w36 ⟨s30,v32,L31,x33,hF37,hS38,hm39⟩
 clear hF28 hS25 hm22
 rcases k34 with _ | k34
 · cases hm39
 have hm40:HeapFinals_cycle.l2b (HeapFinals_cycle.l2 k34) s30 L31 x33=some (r0,t0):=hm39
 clear hm39
 unfold HeapFinals_cycle.l2b at hm40
 obtain ⟨hl44,p41,c42,rfl,hp43⟩:=St.shapeG (k:=2) hS38 rfl
 refine wp_seq (wp_seq ?_)
 refine joinQ (fun aI wI=>∃ (y45:Bool),Fr 23 aI [(15,.bool (y45)),(5,nI x33),(4,.slice p41 L31.length c42),(1,nP bb1 0)]∧St w0 F0 (HeapP b1 ab1 s30::RowP (.slice p1 L0.length c2) L0::GonesP (.slice p41 L31.length c42) L31::BlkP bb1 23 #[nP b1 0]::ps) wI∧HeapFinals_cycle.j3 s30 L31 x33 (HeapFinals_cycle.l2 k34) y45=some (r0,t0)) ?_ ?_
 rotate_left
 · rintro a47 w48 ⟨y45,hF49,hS50,hm51⟩
   clear hF37 hS38 hm40
   unfold HeapFinals_cycle.j3 at hm51
   refine thenN ?_
   cases hc53:(y45)
   case true =>
    rw [hc53] at hF49
    have hm54:=ifYes hc53 hm51; clear hm51
    refine ev_condT hF49 rfl rfl ?_
    refine wp_skip ?_
    have hF55:=hF49.keep [1,4,5]
    clear hF49
    refine thenN (wp_seq ?_)
    refine wp_block ?_
    refine wp_region_lit ?_
    refine ev_runs 1 hF55 (l':=[(18,.slice p41 L31.length c42),(5,nI x33),(4,.slice p41 L31.length c42),(1,nP bb1 0)]) (w':=w48) (by kernel_rfl) ?_
    intro a57 hF56; clear hF55
    refine ev_one (nP b1 0) w48 hF56 (by kernel_rfl) rfl (by kernel_rfl) (run_loadV rfl rfl (run_loadS rfl rfl (hS50.cell 3 rfl 0 rfl))) (l':=[(19,nP b1 0),(18,.slice p41 L31.length c42),(5,nI x33),(4,.slice p41 L31.length c42),(1,nP bb1 0)]) (by kernel_rfl) ?_
    intro a59 hF58; clear hF56
    refine ev_call 38 #[nP b1 0] hF58 rfl rfl (by kernel_rfl) rfl (by kernel_rfl) (fun w=>by kernel_rfl) ?_
    obtain ⟨L60,s61,hx62,hm63⟩:=bind2E hm54; clear hm54
    refine (p_Step hS50 hx62).mono ?_
    rintro _ w64 ⟨z68,rfl,hS66⟩ a65 hF67; clear hF58 hS50
    obtain ⟨hl73,p70,c71,rfl,hp72⟩:=St.shapeG (k:=1) hS66 rfl
    have hS74:=hS66.pick1.pick3
    clear hS66
    obtain ⟨L75,hx76,hm77⟩:=bind1E hm63; clear hm63
    refine ev_appG 67 rfl 21 (.tmp 18) (.tmp 20) hF67 rfl rfl (by kernel_rfl) rfl rfl rfl rfl rfl hS74 hx76 ?_
    intro v78 w79 a80 hS81 hF82; clear hF67 hS74
    obtain ⟨hl86,p83,c84,rfl,hp85⟩:=St.shapeG (k:=0) hS81 rfl
    have hF87:=hF82.keep [1,5,19,21]; clear hF82
    refine ev_runK 1 hF87 [1,4,5] (l':=[(4,.slice p83 L75.length c84),(5,nI x33),(1,nP bb1 0)]) (w':=w79) (by kernel_rfl) ?_
    intro a89 hF88; clear hF87
    refine wpList_nil ?_
    refine blockN ?_
    refine thenN (wp_region_lit ?_)
    refine ev_runK 3 hF88 [1,4,5] (l':=[(5,nI (IntKind.i64.wrap (x33+1))),(4,.slice p83 L75.length c84),(1,nP bb1 0)]) (w':=w79) (by kernel_rfl) ?_
    intro a91 hF90; clear hF88
    refine wpList_nil ?_
    have hS92:=hS81.pick3.pick1.pick3.pick3
    clear hS81
    exact thenN ⟨k34,Nat.lt_succ_self _,s61,.slice p83 L75.length c84,L75,IntKind.i64.wrap (x33+1),hF90,hS92,hm77⟩
   rw [hc53] at hF49
   have hm93:=ifNot hc53 hm51; clear hm51
   refine ev_condF hF49 rfl rfl ?_
   refine wp_exit ?_
   refine thenE ?_
   refine thenE ?_
   refine blockE ?_
   refine thenN (wp_seq (wp_region_lit ?_))
   refine ev_runK 2 hF49 [3] (l':=[(3,.slice p41 L31.length c42)]) (w':=w48) (by kernel_rfl) ?_
   intro a95 hF94; clear hF49
   refine wpList_nil (thenN ?_)
   refine wp_ret ?_
   have hS96:=hS50.pick2.pick1.pick3.pick3
   clear hS50
   simp only [Option.some.injEq,Prod.mk.injEq] at hm93
   obtain ⟨rfl,rfl⟩:=hm93
   refine ev_ret hF94 [3] (.slice p41 L31.length c42) rfl rfl rfl ?_
   exact ⟨_,rfl,hS96⟩
 · skip
   refine wp_region_lit ?_
   refine ev_runs 3 hF37 (l':=[(11,.bool (decide (x33<300))),(10,.bool (decide (x33<300))),(9,nI x33),(5,nI x33),(4,.slice p41 L31.length c42),(1,nP bb1 0)]) (w':=w36) (by kernel_rfl) ?_
   intro a100 hF99; clear hF37
   cases hc101:(decide (x33<300))
   case true =>
    rw [hc101] at hF99
    have hm102:=ifYes hc101 hm40; clear hm40
    refine ev_one (nP b1 0) w36 hF99 (by kernel_rfl) rfl (by kernel_rfl) (run_loadV rfl rfl (run_loadS rfl rfl (hS38.cell 3 rfl 0 rfl))) (l':=[(12,nP b1 0),(11,.bool true),(10,.bool true),(9,nI x33),(5,nI x33),(4,.slice p41 L31.length c42),(1,nP bb1 0)]) (by kernel_rfl) ?_
    intro a104 hF103; clear hF99
    refine ev_call 37 #[nP b1 0] hF103 rfl rfl (by kernel_rfl) rfl (by kernel_rfl) (fun w=>by kernel_rfl) ?_
    refine (p_Phase hS38).mono ?_
    rintro _ w105 ⟨rfl,hS107⟩ a106 hF108; clear hF103 hS38
    refine ev_runK 2 hF108 [1,4,5,15] (l':=[(15,.bool (s30.ph != 0)),(5,nI x33),(4,.slice p41 L31.length c42),(1,nP bb1 0)]) (w':=w105) (by kernel_rfl) ?_
    intro a110 hF109; clear hF108
    refine wpList_nil ?_
    exact thenN ⟨s30.ph != 0,hF109,hS107,hm102⟩
   rw [hc101] at hF99
   have hm111:=ifNot hc101 hm40; clear hm40
   refine ev_runK 4 hF99 [1,4,5,15] (l':=[(15,.bool false),(5,nI x33),(4,.slice p41 L31.length c42),(1,nP bb1 0)]) (w':=w36) (by kernel_rfl) ?_
   intro a113 hF112; clear hF99
   refine wpList_nil ?_
   exact thenN ⟨false,hF112,hS38,hm111⟩
end Go.Proofs.Ytjdlnmbfomojdaa
namespace Go.Proofs.Ytjdlnmbfomojdaa
open Go.RowKit
set_option linter.unusedVariables false
def HeapFinals.j8 (x57:Int) (rec61:List Int→HSt→Int→Int→Option (Bool)) (s128:HSt) (L129:List Int) (x131:Int):Option (Bool):=rec61 L129 s128 (IntKind.i64.wrap (x57+1)) x131
def HeapFinals.j7 (L54:List Int) (x57:Int) (x58:Int) (rec61:List Int→HSt→Int→Int→Option (Bool)) (x78:Int) (s112:HSt) (y120:Bool):Option (Bool):=(if (y120) then bind2 (pStore x78 1 (wrap64 ((IntKind.i64.wrap (x57+1)) * 2)) s112) fun x157 s158=>bind1 (pushM L54 x78) fun L169=>HeapFinals.j8 x57 rec61 s158 L169 (IntKind.i64.wrap (x58+1)) else HeapFinals.j8 x57 rec61 s112 L54 x58)
def HeapFinals.j14 (x234:Int) (rec238:Int→Int→Option (Bool)) (x260:Int):Option (Bool):=rec238 (IntKind.i64.wrap (x234+1)) x260
def HeapFinals.j15 (x234:Int) (x235:Int) (rec238:Int→Int→Option (Bool)) (y276:Bool):Option (Bool):=(if (y276) then some (false) else HeapFinals.j14 x234 rec238 (IntKind.i64.wrap (x235+1)))
def HeapFinals.j17 (y528:Bool):Option (Bool):=some (y528)
def HeapFinals.l16b (x58:Int) (s216:HSt) (x235:Int) (L416:List Gn) (L437:List Gn) (s438:HSt) (rec459:Int→Option (Bool)) (x456:Int):Option (Bool):=(if (decide (x456<(IntKind.i64.wrap ((L416.length:Int)+(L437.length:Int))))) then bind1 (appX [] L416) fun L474=>bind1 (appX L474 L437) fun L490=>(if (inR x456 L490.length) then (if ((atG L490 x456).kept) then some (false) else rec459 (IntKind.i64.wrap (x456+1))) else none) else (if (x235 == x58) then (if (((hObjsF s216.a).length:Int) == (IntKind.i64.wrap (2 * x58))) then (if ((L416.length:Int) == 0) then (if ((L437.length:Int) == (IntKind.i64.wrap (2 * x58))) then HeapFinals.j17 (((hObjsF s438.a).length:Int) == 0) else HeapFinals.j17 false) else HeapFinals.j17 false) else HeapFinals.j17 false) else HeapFinals.j17 false))
def HeapFinals.l16 (x58:Int) (s216:HSt) (x235:Int) (L416:List Gn) (L437:List Gn) (s438:HSt):Nat→Int→Option (Bool)
  | 0=>fun _=>none
  | kI+1=>HeapFinals.l16b x58 s216 x235 L416 L437 s438 (HeapFinals.l16 x58 s216 x235 L416 L437 s438 kI)
def HeapFinals.l13b (k:Nat) (L54:List Int) (x58:Int) (L215:List Gn) (s216:HSt) (rec238:Int→Int→Option (Bool)) (x234:Int) (x235:Int):Option (Bool):=(if (decide (x234<(L215.length:Int))) then (if (inR x234 L215.length) then (if ((atG L215 x234).kept) then bind1 (help_In.m k L54 ((atG L215 x234).at')) fun y301=>(if (!(y301)) then HeapFinals.j15 x234 x235 rec238 true else (if ((((atG L215 x234).words).length:Int) != 2) then HeapFinals.j15 x234 x235 rec238 true else (if (inR (0:Int) ((atG L215 x234).words).length) then (if (!(vIsPtr (atI ((atG L215 x234).words) (0:Int)))) then HeapFinals.j15 x234 x235 rec238 true else (if (inR (1:Int) ((atG L215 x234).words).length) then HeapFinals.j15 x234 x235 rec238 ((atI ((atG L215 x234).words) (1:Int)) == 0) else none)) else none))) else HeapFinals.j14 x234 rec238 x235) else none) else bind2 (HeapFinals_cycle.m k L54 s216) fun L416 s417=>bind2 (HeapFinals_cycle.m k [] s417) fun L437 s438=>HeapFinals.l16 x58 s216 x235 L416 L437 s438 k 0)
def HeapFinals.l13 (k:Nat) (L54:List Int) (x58:Int) (L215:List Gn) (s216:HSt):Nat→Int→Int→Option (Bool)
  | 0=>fun _ _=>none
  | kI+1=>HeapFinals.l13b k L54 x58 L215 s216 (HeapFinals.l13 k L54 x58 L215 s216 kI)
def HeapFinals.l6b (K1:List Bool) (k:Nat) (x5:Int) (rec61:List Int→HSt→Int→Int→Option (Bool)) (L54:List Int) (s56:HSt) (x57:Int) (x58:Int):Option (Bool):=(if (decide (x57<x5)) then bind3 (pAlloc 5 2 s56) fun x78 x79 s80=>bind3 (pAlloc 5 2 s80) fun x91 x92 s93=>bind2 (pStore x78 0 (wrap64 (wrap64 (x91 * 2)+1)) s93) fun x111 s112=>(if (decide (x57<(K1.length:Int))) then (if (inR x57 K1.length) then HeapFinals.j7 L54 x57 x58 rec61 x78 s112 (atB K1 x57) else none) else HeapFinals.j7 L54 x57 x58 rec61 x78 s112 false) else bind2 (HeapFinals_cycle.m k [] s56) fun L215 s216=>HeapFinals.l13 k L54 x58 L215 s216 k 0 0)
def HeapFinals.l6 (K1:List Bool) (k:Nat) (x5:Int):Nat→List Int→HSt→Int→Int→Option (Bool)
  | 0=>fun _ _ _ _=>none
  | kI+1=>HeapFinals.l6b K1 k x5 (HeapFinals.l6 K1 k x5 kI)
def HeapFinals.j1 (K1:List Bool) (k:Nat) (x5:Int) (s10:HSt) (y30:Bool):Option (Bool):=(if (y30) then some (false) else HeapFinals.l6 K1 k x5 k [] s10 0 0)
def HeapFinals.m (k:Nat) (i0:Int) (K1:List Bool):Option (Bool):=bind1 (some (IntKind.i64.wrap (1+(IntKind.i64.wrap (Int.tmod (IntKind.u64.wrap i0) 10))))) fun x5=>bind1 (pNew 20) fun s10=>bind1 (law09_awake.m k ) fun y589=>(if (!(y589)) then HeapFinals.j1 K1 k x5 s10 true else HeapFinals.j1 K1 k x5 s10 false)
set_option maxRecDepth 100000 in
set_option maxHeartbeats 40000000 in
theorem HeapFinals.ok {w0 w:World} {ps:List Piece} {k:Nat} {i0:Int} {pa1:Option Addr} {ca1:Nat} {K1:List Bool} (hA1:ArgBools w0 (.slice pa1 K1.length ca1) K1) {r0:Bool} (hS:St w0 [] (ps) w) (hm:HeapFinals.m k i0 K1=some r0) :
    Calls Try.prog 7 #[nI i0,.slice pa1 K1.length ca1] w fun e w'=>e=.returned (.bool r0)∧St w0 [] (ps) w':=by
 refine ev_enterL 196 [nI i0,.slice pa1 K1.length ca1] Try.func7 rfl rfl (by simp) ?_
 intro a hF
 have hF0:Fr 196 a [(0,nI i0),(1,.slice pa1 K1.length ca1)]:=hF; clear hF
 unfold HeapFinals.m at hm
 refine wp_seq (wp_region_lit ?_)
 refine ev_runK 1 hF0 [0,1] (l':=[(0,nI i0),(1,.slice pa1 K1.length ca1)]) (w':=w) (by kernel_rfl) ?_
 intro a2 hF1; clear hF0
 refine wpList_nil (thenN (wp_seq (wp_region_lit ?_)))
 refine ev_runs 6 hF1 (l':=[(0,nI (IntKind.i64.wrap (1+(IntKind.i64.wrap (Int.tmod (IntKind.u64.wrap i0) 10))))),(26,nI (IntKind.i64.wrap (1+(IntKind.i64.wrap (Int.tmod (IntKind.u64.wrap i0) 10))))),(25,nI (IntKind.i64.wrap (Int.tmod (IntKind.u64.wrap i0) 10))),(24,.int .u64 (Int.tmod (IntKind.u64.wrap i0) 10)),(23,.int .u64 (IntKind.u64.wrap i0)),(22,nI i0),(1,.slice pa1 K1.length ca1)]) (w':=w) (by kernel_rfl) ?_
 intro a4 hF3; clear hF1
 obtain ⟨x5,hx6,hm7⟩:=bind1E hm; clear hm
 have hF8:=hF3; rw [Option.some.inj hx6] at hF8; clear hF3
 refine wpList_nil ?_
 have hF9:=hF8.keep [0,1]
 clear hF8
 refine thenN (wp_seq (wp_region_lit ?_))
 refine ev_call 8 #[nI 20] hF9 rfl rfl (by kernel_rfl) rfl (by kernel_rfl) (fun w=>by kernel_rfl) ?_
 obtain ⟨s10,hx11,hm12⟩:=bind1E hm7; clear hm7
 refine (p_New hS hx11).mono ?_
 rintro _ w13 ⟨z17,z18,rfl,hS15⟩ a14 hF16; clear hF9 hS
 refine ev_runs 4 hF16 (l':=[(5,nB w13),(30,nI 0),(29,nP z17 0),(27,.tuple #[nP z17 0,nI 0]),(28,.tuple #[nP z17 0,nI 0]),(0,nI x5),(1,.slice pa1 K1.length ca1)]) (w':=w13.alloc (.cells #[.pointer none] 23)) (by kernel_rfl) ?_
 intro a21 hF20; clear hF16
 have hS23:St w0 [] (BlkP (w13.heap.size) 23 #[.pointer none]::HeapP z17 z18 s10::ps) (w13.alloc (.cells #[.pointer none] 23)):=St.new hS15 #[.pointer none] 23
 clear hS15
 refine ev_store (nP z17 0) #[nP z17 0] hF20 (by kernel_rfl) rfl rfl rfl rfl (by kernel_rfl) hS23 (by kernel_rfl) (by kernel_rfl) (by kernel_rfl) (l':=[(5,nB w13),(30,nI 0),(29,nP z17 0),(27,.tuple #[nP z17 0,nI 0]),(28,.tuple #[nP z17 0,nI 0]),(0,nI x5),(1,.slice pa1 K1.length ca1)]) (by kernel_rfl) ?_
 intro w24 a25 hS26 hF27; clear hF20 hS23
 refine ev_runK 1 hF27 [0,1,5,6] (l':=[(6,nI 0),(5,nB w13),(0,nI x5),(1,.slice pa1 K1.length ca1)]) (w':=w24) (by kernel_rfl) ?_
 intro a29 hF28; clear hF27
 refine wpList_nil (thenN (wp_seq (wp_seq ?_)))
 refine joinQ (fun aI wI=>∃ (y30:Bool),Fr 196 aI [(45,.bool (y30)),(5,nB w13),(0,nI x5),(1,.slice pa1 K1.length ca1)]∧St w0 [] (BlkP (w13.heap.size) 23 #[nP z17 0]::HeapP z17 z18 s10::ps) wI∧HeapFinals.j1 K1 k x5 s10 y30=some r0) ?_ ?_
 rotate_left
 · rintro a32 w33 ⟨y30,hF34,hS35,hm36⟩
   clear hF28 hS26 hm12
   unfold HeapFinals.j1 at hm36
   refine thenN ?_
   cases hc38:(y30)
   case true =>
    rw [hc38] at hF34
    have hm39:=ifYes hc38 hm36; clear hm36
    refine ev_condT hF34 rfl rfl ?_
    refine wp_seq (wp_region_lit ?_)
    refine ev_runK 1 hF34 [4] (l':=[(4,.bool false)]) (w':=w33) (by kernel_rfl) ?_
    intro a41 hF40; clear hF34
    refine wpList_nil ?_
    have hS42:=hS35.drop.drop
    clear hS35
    refine thenN ?_
    refine wp_ret ?_
    refine thenR ?_
    obtain rfl:=Option.some.inj hm39
    refine ev_ret hF40 [4] (.bool false) rfl rfl rfl ?_
    exact ⟨rfl,hS42⟩
   rw [hc38] at hF34
   have hm44:=ifNot hc38 hm36; clear hm36
   refine ev_condF hF34 rfl rfl ?_
   refine wp_skip ?_
   have hF45:=hF34.keep [0,1,5]
   clear hF34
   refine thenN (wp_seq (wp_region_lit ?_))
   have hS47:St w0 [] (RowP (.slice none 0 0) []::BlkP (w13.heap.size) 23 #[nP z17 0]::HeapP z17 z18 s10::ps) w33:=St.nil hS35
   clear hS35
   refine ev_runs 1 hF45 (l':=[(7,.slice none 0 0),(5,nB w13),(0,nI x5),(1,.slice pa1 K1.length ca1)]) (w':=w33) (by kernel_rfl) ?_
   intro a49 hF48; clear hF45
   refine wpList_nil (thenN (wp_seq (wp_region_lit ?_)))
   refine ev_runs 1 hF48 (l':=[(8,nI 0),(7,.slice none 0 0),(5,nB w13),(0,nI x5),(1,.slice pa1 K1.length ca1)]) (w':=w33) (by kernel_rfl) ?_
   intro a51 hF50; clear hF48
   refine wpList_nil (thenN (wp_seq (wp_seq (wp_region_lit ?_))))
   refine ev_runs 1 hF50 (l':=[(9,nI 0),(8,nI 0),(7,.slice none 0 0),(5,nB w13),(0,nI x5),(1,.slice pa1 K1.length ca1)]) (w':=w33) (by kernel_rfl) ?_
   intro a53 hF52; clear hF50
   refine wpList_nil (thenN ?_)
   refine wp_block ?_
   refine wp_loop_ghost (fun kI aI wI=>∃ (v55:Value) (L54:List Int) (s56:HSt) (x57:Int) (x58:Int),Fr 196 aI [(9,nI x57),(8,nI x58),(7,v55),(5,nB w13),(0,nI x5),(1,.slice pa1 K1.length ca1)]∧St w0 [] (RowP (v55) L54::BlkP (w13.heap.size) 23 #[nP z17 0]::HeapP z17 z18 s56::ps) wI∧HeapFinals.l6 K1 k x5 kI L54 s56 x57 x58=some r0) k ⟨.slice none 0 0,[],s10,0,0,hF52,hS47,hm44⟩ ?_
   rintro k59 a60 w61 ⟨v55,L54,s56,x57,x58,hF62,hS63,hm64⟩
   clear hF52 hS47 hm44
   rcases k59 with _ | k59
   · cases hm64
   have hm65:HeapFinals.l6b K1 k x5 (HeapFinals.l6 K1 k x5 k59) L54 s56 x57 x58=some r0:=hm64
   clear hm64
   unfold HeapFinals.l6b at hm65
   obtain ⟨hl69,p66,c67,rfl,hp68⟩:=St.shape hS63 0 rfl
   refine wp_seq (wp_seq (wp_region_lit ?_))
   refine ev_runK 3 hF62 [0,1,5,7,8,9,48] (l':=[(48,.bool (decide (x57<x5))),(9,nI x57),(8,nI x58),(7,.slice p66 L54.length c67),(5,nB w13),(0,nI x5),(1,.slice pa1 K1.length ca1)]) (w':=w61) (by kernel_rfl) ?_
   intro a71 hF70; clear hF62
   refine wpList_nil (thenN ?_)
   cases hc72:(decide (x57<x5))
   case true =>
    rw [hc72] at hF70
    have hm73:=ifYes hc72 hm65; clear hm65
    refine ev_condT hF70 rfl rfl ?_
    refine wp_skip ?_
    have hF74:=hF70.keep [0,1,5,7,8,9]
    clear hF70
    refine thenN (wp_seq ?_)
    refine wp_block ?_
    refine wp_seq (wp_region_lit ?_)
    refine ev_one (nP z17 0) w61 hF74 (by kernel_rfl) rfl (by kernel_rfl) (run_loadV rfl rfl (run_loadS rfl rfl (hS63.cell 1 rfl 0 rfl))) (l':=[(52,nP z17 0),(9,nI x57),(8,nI x58),(7,.slice p66 L54.length c67),(5,nB w13),(0,nI x5),(1,.slice pa1 K1.length ca1)]) (by kernel_rfl) ?_
    intro a76 hF75; clear hF74
    have hS77:=hS63.pick2
    clear hS63
    refine ev_call 11 #[nP z17 0,nI 5,nI 2] hF75 rfl rfl (by kernel_rfl) rfl (by kernel_rfl) (fun w=>by kernel_rfl) ?_
    obtain ⟨x78,x79,s80,hx81,hm82⟩:=bind3E hm73; clear hm73
    refine (p_Alloc hS77 hx81).mono ?_
    rintro _ w83 ⟨rfl,hS85⟩ a84 hF86; clear hF75 hS77
    refine ev_runK 5 hF86 [0,1,5,7,8,9,10] (l':=[(10,nI x78),(9,nI x57),(8,nI x58),(7,.slice p66 L54.length c67),(5,nB w13),(0,nI x5),(1,.slice pa1 K1.length ca1)]) (w':=w83) (by kernel_rfl) ?_
    intro a88 hF87; clear hF86
    refine wpList_nil (thenN (wp_seq (wp_region_lit ?_)))
    refine ev_one (nP z17 0) w83 hF87 (by kernel_rfl) rfl (by kernel_rfl) (run_loadV rfl rfl (run_loadS rfl rfl (hS85.cell 2 rfl 0 rfl))) (l':=[(57,nP z17 0),(10,nI x78),(9,nI x57),(8,nI x58),(7,.slice p66 L54.length c67),(5,nB w13),(0,nI x5),(1,.slice pa1 K1.length ca1)]) (by kernel_rfl) ?_
    intro a90 hF89; clear hF87
    refine ev_call 11 #[nP z17 0,nI 5,nI 2] hF89 rfl rfl (by kernel_rfl) rfl (by kernel_rfl) (fun w=>by kernel_rfl) ?_
    obtain ⟨x91,x92,s93,hx94,hm95⟩:=bind3E hm82; clear hm82
    refine (p_Alloc hS85 hx94).mono ?_
    rintro _ w96 ⟨rfl,hS98⟩ a97 hF99; clear hF89 hS85
    refine ev_runK 5 hF99 [0,1,5,7,8,9,10,12] (l':=[(12,nI x91),(10,nI x78),(9,nI x57),(8,nI x58),(7,.slice p66 L54.length c67),(5,nB w13),(0,nI x5),(1,.slice pa1 K1.length ca1)]) (w':=w96) (by kernel_rfl) ?_
    intro a101 hF100; clear hF99
    refine wpList_nil (thenN (wp_seq ?_))
    have hS102:=hS98.pick2
    clear hS98
    have hS103:=hS102.drew; clear hS102
    refine any_start (fun wS=>∃ qs,St w0 [] (BlkP (w13.heap.size) 23 #[nP z17 0]::qs) wS) 5 #[false,false,false,false,false] (by kernel_rfl) (by kernel_rfl) (by kernel_rfl) ?_
    refine any_many 3 [(0,some (nP z17 0)),(1,some (nI x78)),(2,some (nI x91))] [0,1,5,7,8,9,10,61,62,63,64] #[true,true,true,false,false] (by rfl) hF100 (by kernel_rfl) (by kernel_rfl) (by exact ⟨fun wS hw=>hw.elim fun qs hw=>run_loadV rfl rfl (run_loadS rfl rfl (hw.cell 0 rfl 0 rfl)),fun wS hw=>by kernel_rfl,fun wS hw=>by kernel_rfl,trivial⟩) (fun _ _ _ _ _ h=>h) ⟨_,hS103⟩ (l':=[(63,nI x91),(62,nI x78),(61,nP z17 0),(10,nI x78),(9,nI x57),(8,nI x58),(7,.slice p66 L54.length c67),(5,nB w13),(0,nI x5),(1,.slice pa1 K1.length ca1)]) (by kernel_rfl) ?_
    intro a105 hF104; clear hF100
    refine any_call 3 #[true,true,true,true,false] 13 #[nI x91] hF104 rfl (by kernel_rfl) rfl rfl (by kernel_rfl) rfl (by kernel_rfl) (fun w=>by kernel_rfl) (by kernel_rfl) ?_
    refine (p_rPtr hS103).mono ?_
    rintro _ w106 ⟨rfl,hS108⟩; clear hS103
    refine ⟨⟨_,hS108⟩,?_⟩
    intro a107 hF109; clear hF104
    have hS110:=hS108.pick1
    clear hS108
    refine any_call 4 #[true,true,true,true,true] 12 #[nP z17 0,nI x78,nI 0,nI (wrap64 (wrap64 (x91 * 2)+1))] hF109 rfl (by kernel_rfl) rfl rfl (by kernel_rfl) rfl (by kernel_rfl) (fun w=>by kernel_rfl) (by kernel_rfl) ?_
    obtain ⟨x111,s112,hx113,hm114⟩:=bind2E hm95; clear hm95
    refine (p_Store hS110 hx113).mono ?_
    rintro _ w115 ⟨rfl,hS117⟩; clear hS110
    refine ⟨⟨_,hS117.pick1⟩,?_⟩
    intro a116 hF118; clear hF109
    refine any_done (by kernel_rfl) ?_
    have hF119:=hF118.keep [0,1,5,7,8,9,10]
    clear hF118
    refine thenN (wp_seq ?_)
    refine joinQ (fun aI wI=>∃ (y120:Bool),Fr 196 aI [(75,.bool (y120)),(10,nI x78),(9,nI x57),(8,nI x58),(7,.slice p66 L54.length c67),(5,nB w13),(0,nI x5),(1,.slice pa1 K1.length ca1)]∧St w0 [] (HeapP z17 z18 s112::BlkP (w13.heap.size) 23 #[nP z17 0]::RowP (.slice p66 L54.length c67) L54::ps) wI∧HeapFinals.j7 L54 x57 x58 (HeapFinals.l6 K1 k x5 k59) x78 s112 y120=some r0) ?_ ?_
    rotate_left
    · rintro a122 w123 ⟨y120,hF124,hS125,hm126⟩
      clear hF119 hS117 hm114
      unfold HeapFinals.j7 at hm126
      refine thenN ?_
      refine joinQ (fun aI wI=>∃ (s128:HSt) (v130:Value) (L129:List Int) (x131:Int),Fr 196 aI [(9,nI x57),(8,nI x131),(7,v130),(5,nB w13),(0,nI x5),(1,.slice pa1 K1.length ca1)]∧St w0 [] (HeapP z17 z18 s128::BlkP (w13.heap.size) 23 #[nP z17 0]::RowP (v130) L129::ps) wI∧HeapFinals.j8 x57 (HeapFinals.l6 K1 k x5 k59) s128 L129 x131=some r0) ?_ ?_
      rotate_left
      · rintro a133 w134 ⟨s128,v130,L129,x131,hF135,hS136,hm137⟩
        clear hF124 hS125 hm126
        unfold HeapFinals.j8 at hm137
        obtain ⟨hl142,p139,c140,rfl,hp141⟩:=St.shape hS136 2 rfl
        refine blockN ?_
        refine thenN (wp_region_lit ?_)
        refine ev_runK 3 hF135 [0,1,5,7,8,9] (l':=[(9,nI (IntKind.i64.wrap (x57+1))),(8,nI x131),(7,.slice p139 L129.length c140),(5,nB w13),(0,nI x5),(1,.slice pa1 K1.length ca1)]) (w':=w134) (by kernel_rfl) ?_
        intro a144 hF143; clear hF135
        refine wpList_nil ?_
        have hS145:=hS136.pick1.pick2
        clear hS136
        exact thenN ⟨k59,Nat.lt_succ_self _,.slice p139 L129.length c140,L129,s128,IntKind.i64.wrap (x57+1),x131,hF143,hS145,hm137⟩
      · skip
        cases hc146:(y120)
        case true =>
         rw [hc146] at hF124
         have hm147:=ifYes hc146 hm126; clear hm126
         refine ev_condT hF124 rfl rfl ?_
         refine wp_seq ?_
         have hS148:=hS125.pick1
         clear hS125
         have hS149:=hS148.drew; clear hS148
         refine any_start (fun wS=>∃ qs,St w0 [] (BlkP (w13.heap.size) 23 #[nP z17 0]::qs) wS) 6 #[false,false,false,false,false,false] (by kernel_rfl) (by kernel_rfl) (by kernel_rfl) ?_
         refine any_many 4 [(0,some (nP z17 0)),(1,some (nI x78)),(2,some (nI x57)),(3,some (nI (IntKind.i64.wrap (x57+1))))] [0,1,5,7,8,9,10,76,77,79,80] #[true,true,true,true,false,false] (by rfl) hF124 (by kernel_rfl) (by kernel_rfl) (by exact ⟨fun wS hw=>hw.elim fun qs hw=>run_loadV rfl rfl (run_loadS rfl rfl (hw.cell 0 rfl 0 rfl)),fun wS hw=>by kernel_rfl,fun wS hw=>by kernel_rfl,fun wS hw=>by kernel_rfl,trivial⟩) (fun _ _ _ _ _ h=>h) ⟨_,hS149⟩ (l':=[(79,nI (IntKind.i64.wrap (x57+1))),(77,nI x78),(76,nP z17 0),(10,nI x78),(9,nI x57),(8,nI x58),(7,.slice p66 L54.length c67),(5,nB w13),(0,nI x5),(1,.slice pa1 K1.length ca1)]) (by kernel_rfl) ?_
         intro a151 hF150; clear hF124
         refine any_call 4 #[true,true,true,true,true,false] 35 #[nI (IntKind.i64.wrap (x57+1))] hF150 rfl (by kernel_rfl) rfl rfl (by kernel_rfl) rfl (by kernel_rfl) (fun w=>by kernel_rfl) (by kernel_rfl) ?_
         refine (p_rInt hS149).mono ?_
         rintro _ w152 ⟨rfl,hS154⟩; clear hS149
         refine ⟨⟨_,hS154⟩,?_⟩
         intro a153 hF155; clear hF150
         have hS156:=hS154.pick1
         clear hS154
         refine any_call 5 #[true,true,true,true,true,true] 12 #[nP z17 0,nI x78,nI 1,nI (wrap64 ((IntKind.i64.wrap (x57+1)) * 2))] hF155 rfl (by kernel_rfl) rfl rfl (by kernel_rfl) rfl (by kernel_rfl) (fun w=>by kernel_rfl) (by kernel_rfl) ?_
         obtain ⟨x157,s158,hx159,hm160⟩:=bind2E hm147; clear hm147
         refine (p_Store hS156 hx159).mono ?_
         rintro _ w161 ⟨rfl,hS163⟩; clear hS156
         refine ⟨⟨_,hS163.pick1⟩,?_⟩
         intro a162 hF164; clear hF155
         refine any_done (by kernel_rfl) ?_
         have hF165:=hF164.keep [0,1,5,7,8,9,10]
         clear hF164
         refine thenN (wp_seq (wp_region_lit ?_))
         refine ev_runs 3 hF165 (l':=[(84,.slice (some ⟨w161.heap.size,0,none⟩) 1 1),(83,nI x78),(82,.slice p66 L54.length c67),(10,nI x78),(9,nI x57),(8,nI x58),(7,.slice p66 L54.length c67),(5,nB w13),(0,nI x5),(1,.slice pa1 K1.length ca1)]) (w':=w161.alloc (.cells #[nI x78] 3)) (by kernel_rfl) ?_
         intro a167 hF166; clear hF165
         have hS168:=hS163.pick2
         clear hS163
         obtain ⟨L169,hx170,hm171⟩:=bind1E hm160; clear hm160
         refine ev_push 85 (.tmp 82) (.tmp 84) hF166 rfl rfl rfl rfl rfl rfl rfl rfl hS168 hx170 ?_
         intro g172 c173 w174 a175 hS176 hF177; clear hF166 hS168
         refine ev_runK 1 hF177 [0,1,5,7,8,9] (l':=[(7,nS g172 L169 c173),(9,nI x57),(8,nI x58),(5,nB w13),(0,nI x5),(1,.slice pa1 K1.length ca1)]) (w':=w174) (by kernel_rfl) ?_
         intro a179 hF178; clear hF177
         refine wpList_nil (thenN (wp_region_lit ?_))
         refine ev_runK 3 hF178 [0,1,5,7,8,9] (l':=[(8,nI (IntKind.i64.wrap (x58+1))),(7,nS g172 L169 c173),(9,nI x57),(5,nB w13),(0,nI x5),(1,.slice pa1 K1.length ca1)]) (w':=w174) (by kernel_rfl) ?_
         intro a181 hF180; clear hF178
         refine wpList_nil ?_
         have hF182:Fr 196 a181 [(9,nI x57),(8,nI (IntKind.i64.wrap (x58+1))),(7,nS g172 L169 c173),(5,nB w13),(0,nI x5),(1,.slice pa1 K1.length ca1)]:=Fr.re hF180 (by kernel_rfl)
         clear hF180
         have hS183:=hS176.pick2.pick2
         clear hS176
         exact thenN ⟨s158,nS g172 L169 c173,L169,IntKind.i64.wrap (x58+1),hF182,hS183,hm171⟩
        rw [hc146] at hF124
        have hm184:=ifNot hc146 hm126; clear hm126
        refine ev_condF hF124 rfl rfl ?_
        refine wp_skip ?_
        have hF185:=hF124.keep [0,1,5,7,8,9]
        clear hF124
        exact thenN ⟨s112,.slice p66 L54.length c67,L54,x58,hF185,hS125,hm184⟩
    · skip
      refine wp_region_lit ?_
      refine ev_runs 5 hF119 (l':=[(70,.bool (decide (x57<(K1.length:Int)))),(69,.bool (decide (x57<(K1.length:Int)))),(68,nI ((K1.length:Int))),(67,.slice pa1 K1.length ca1),(66,nI x57),(10,nI x78),(9,nI x57),(8,nI x58),(7,.slice p66 L54.length c67),(5,nB w13),(0,nI x5),(1,.slice pa1 K1.length ca1)]) (w':=w115) (by kernel_rfl) ?_
      intro a187 hF186; clear hF119
      cases hc188:(decide (x57<(K1.length:Int)))
      case true =>
       rw [hc188] at hF186
       have hm189:=ifYes hc188 hm114; clear hm114
       refine ev_runs 2 hF186 (l':=[(72,nI x57),(71,.slice pa1 K1.length ca1),(70,.bool true),(69,.bool true),(68,nI ((K1.length:Int))),(67,.slice pa1 K1.length ca1),(66,nI x57),(10,nI x78),(9,nI x57),(8,nI x58),(7,.slice p66 L54.length c67),(5,nB w13),(0,nI x5),(1,.slice pa1 K1.length ca1)]) (w':=w115) (by kernel_rfl) ?_
       intro a191 hF190; clear hF186
       obtain ⟨hc192,hm193⟩:=ifTE hm189; clear hm189
       obtain ⟨b194,o195,rfl⟩:=argKB hA1 hc192
       refine ev_one (nP b194 ((o195+x57.toNat))) w115 hF190 (by kernel_rfl) rfl (by kernel_rfl) (run_idxO rfl rfl rfl rfl rfl (inR_spec hc192).1 (inR_spec hc192).2 _) (l':=[(73,nP b194 ((o195+x57.toNat))),(72,nI x57),(71,.slice (some ⟨b194,o195,none⟩) K1.length ca1),(70,.bool true),(69,.bool true),(68,nI ((K1.length:Int))),(67,.slice (some ⟨b194,o195,none⟩) K1.length ca1),(66,nI x57),(10,nI x78),(9,nI x57),(8,nI x58),(7,.slice p66 L54.length c67),(5,nB w13),(0,nI x5),(1,.slice (some ⟨b194,o195,none⟩) K1.length ca1)]) (by kernel_rfl) ?_
       intro a197 hF196; clear hF190
       refine ev_one (.bool (atB K1 x57)) w115 hF196 (by kernel_rfl) rfl (by kernel_rfl) (run_loadB rfl rfl rfl (argAtB hA1 hS117 hc192)) (l':=[(74,.bool (atB K1 x57)),(73,nP b194 ((o195+x57.toNat))),(72,nI x57),(71,.slice (some ⟨b194,o195,none⟩) K1.length ca1),(70,.bool true),(69,.bool true),(68,nI ((K1.length:Int))),(67,.slice (some ⟨b194,o195,none⟩) K1.length ca1),(66,nI x57),(10,nI x78),(9,nI x57),(8,nI x58),(7,.slice p66 L54.length c67),(5,nB w13),(0,nI x5),(1,.slice (some ⟨b194,o195,none⟩) K1.length ca1)]) (by kernel_rfl) ?_
       intro a199 hF198; clear hF196
       refine ev_runK 1 hF198 [0,1,5,7,8,9,10,75] (l':=[(75,.bool (atB K1 x57)),(10,nI x78),(9,nI x57),(8,nI x58),(7,.slice p66 L54.length c67),(5,nB w13),(0,nI x5),(1,.slice (some ⟨b194,o195,none⟩) K1.length ca1)]) (w':=w115) (by kernel_rfl) ?_
       intro a201 hF200; clear hF198
       refine wpList_nil ?_
       exact thenN ⟨atB K1 x57,hF200,hS117,hm193⟩
      rw [hc188] at hF186
      have hm202:=ifNot hc188 hm114; clear hm114
      refine ev_runK 5 hF186 [0,1,5,7,8,9,10,75] (l':=[(75,.bool false),(10,nI x78),(9,nI x57),(8,nI x58),(7,.slice p66 L54.length c67),(5,nB w13),(0,nI x5),(1,.slice pa1 K1.length ca1)]) (w':=w115) (by kernel_rfl) ?_
      intro a204 hF203; clear hF186
      refine wpList_nil ?_
      exact thenN ⟨false,hF203,hS117,hm202⟩
   rw [hc72] at hF70
   have hm205:=ifNot hc72 hm65; clear hm65
   refine ev_condF hF70 rfl rfl ?_
   refine wp_exit ?_
   refine thenE ?_
   refine thenE ?_
   refine blockE ?_
   refine thenN (wp_seq (wp_region_lit ?_))
   refine ev_runK 2 hF70 [5,7,8,14] (l':=[(14,.func (.func 36) #[] #[nB w13]),(8,nI x58),(7,.slice p66 L54.length c67),(5,nB w13)]) (w':=w61) (by kernel_rfl) ?_
   intro a207 hF206; clear hF70
   refine wpList_nil (thenN (wp_seq (wp_region_lit ?_)))
   refine ev_runs 1 hF206 (l':=[(15,nI 0),(14,.func (.func 36) #[] #[nB w13]),(8,nI x58),(7,.slice p66 L54.length c67),(5,nB w13)]) (w':=w61) (by kernel_rfl) ?_
   intro a209 hF208; clear hF206
   refine wpList_nil (thenN (wp_seq (wp_region_lit ?_)))
   refine ev_runs 1 hF208 (l':=[(89,.func (.func 36) #[] #[nB w13]),(15,nI 0),(14,.func (.func 36) #[] #[nB w13]),(8,nI x58),(7,.slice p66 L54.length c67),(5,nB w13)]) (w':=w61) (by kernel_rfl) ?_
   intro a211 hF210; clear hF208
   have hS213:St w0 [] (RowP (.slice none 0 0) []::RowP (.slice p66 L54.length c67) L54::BlkP (w13.heap.size) 23 #[nP z17 0]::HeapP z17 z18 s56::ps) w61:=St.nil hS63
   clear hS63
   have hS214:=hS213.pick3.pick3.pick2
   clear hS213
   refine ev_call 36 #[.slice none 0 0,nB w13] hF210 rfl rfl (by kernel_rfl) rfl (by kernel_rfl) (fun w=>by kernel_rfl) ?_
   obtain ⟨L215,s216,hx217,hm218⟩:=bind2E hm205; clear hm205
   refine (HeapFinals_cycle.ok hS214 hx217).mono ?_
   rintro _ w219 ⟨z223,rfl,hS221⟩ a220 hF222; clear hF210 hS214
   obtain ⟨hl228,p225,c226,rfl,hp227⟩:=St.shapeG (k:=3) hS221 rfl
   refine ev_runK 1 hF222 [5,7,8,14,15,16] (l':=[(16,.slice p225 L215.length c226),(15,nI 0),(14,.func (.func 36) #[] #[nB w13]),(8,nI x58),(7,.slice p66 L54.length c67),(5,nB w13)]) (w':=w219) (by kernel_rfl) ?_
   intro a230 hF229; clear hF222
   refine wpList_nil ?_
   have hS231:=hS221.drop
   clear hS221
   refine thenN (wp_seq (wp_seq (wp_region_lit ?_)))
   refine ev_runs 1 hF229 (l':=[(17,nI 0),(16,.slice p225 L215.length c226),(15,nI 0),(14,.func (.func 36) #[] #[nB w13]),(8,nI x58),(7,.slice p66 L54.length c67),(5,nB w13)]) (w':=w219) (by kernel_rfl) ?_
   intro a233 hF232; clear hF229
   refine wpList_nil (thenN ?_)
   refine wp_block ?_
   refine wp_loop_ghost (fun kI aI wI=>∃ (x234:Int) (x235:Int),Fr 196 aI [(17,nI x234),(16,.slice p225 L215.length c226),(15,nI x235),(14,.func (.func 36) #[] #[nB w13]),(8,nI x58),(7,.slice p66 L54.length c67),(5,nB w13)]∧St w0 [] (BlkP (w13.heap.size) 23 #[nP z17 0]::HeapP z17 z18 s216::GonesP (.slice p225 L215.length c226) L215::RowP (.slice p66 L54.length c67) L54::ps) wI∧HeapFinals.l13 k L54 x58 L215 s216 kI x234 x235=some r0) k ⟨0,0,hF232,hS231,hm218⟩ ?_
   rintro k236 a237 w238 ⟨x234,x235,hF239,hS240,hm241⟩
   clear hF232 hS231 hm218
   rcases k236 with _ | k236
   · cases hm241
   have hm242:HeapFinals.l13b k L54 x58 L215 s216 (HeapFinals.l13 k L54 x58 L215 s216 k236) x234 x235=some r0:=hm241
   clear hm241
   unfold HeapFinals.l13b at hm242
   refine wp_seq (wp_seq (wp_region_lit ?_))
   refine ev_runK 4 hF239 [5,7,8,14,15,16,17,94] (l':=[(94,.bool (decide (x234<(L215.length:Int)))),(17,nI x234),(16,.slice p225 L215.length c226),(15,nI x235),(14,.func (.func 36) #[] #[nB w13]),(8,nI x58),(7,.slice p66 L54.length c67),(5,nB w13)]) (w':=w238) (by kernel_rfl) ?_
   intro a244 hF243; clear hF239
   refine wpList_nil (thenN ?_)
   cases hc245:(decide (x234<(L215.length:Int)))
   case true =>
    rw [hc245] at hF243
    have hm246:=ifYes hc245 hm242; clear hm242
    refine ev_condT hF243 rfl rfl ?_
    refine wp_skip ?_
    have hF247:=hF243.keep [5,7,8,14,15,16,17]
    clear hF243
    refine thenN (wp_seq ?_)
    refine wp_block ?_
    refine wp_seq (wp_region_lit ?_)
    refine ev_runs 2 hF247 (l':=[(98,nI x234),(97,.slice p225 L215.length c226),(17,nI x234),(16,.slice p225 L215.length c226),(15,nI x235),(14,.func (.func 36) #[] #[nB w13]),(8,nI x58),(7,.slice p66 L54.length c67),(5,nB w13)]) (w':=w238) (by kernel_rfl) ?_
    intro a249 hF248; clear hF247
    obtain ⟨hc250,hm251⟩:=ifTE hm246; clear hm246
    obtain ⟨g252,rfl⟩:=hp227.resolve_left (by have:=inR_spec hc250; omega)
    refine ev_one (nP g252 ((x234.toNat * 4))) w238 hF248 (by kernel_rfl) rfl (by kernel_rfl) (run_idxX rfl rfl (by kernel_rfl) rfl rfl (inR_spec hc250).1 (inR_spec hc250).2 _) (l':=[(99,nP g252 ((x234.toNat * 4))),(98,nI x234),(97,.slice (some ⟨g252,0,none⟩) L215.length c226),(17,nI x234),(16,.slice (some ⟨g252,0,none⟩) L215.length c226),(15,nI x235),(14,.func (.func 36) #[] #[nB w13]),(8,nI x58),(7,.slice p66 L54.length c67),(5,nB w13)]) (by kernel_rfl) ?_
    intro a254 hF253; clear hF248
    refine ev_runs 1 hF253 (l':=[(100,nP g252 ((x234.toNat * 4+3))),(99,nP g252 ((x234.toNat * 4))),(98,nI x234),(97,.slice (some ⟨g252,0,none⟩) L215.length c226),(17,nI x234),(16,.slice (some ⟨g252,0,none⟩) L215.length c226),(15,nI x235),(14,.func (.func 36) #[] #[nB w13]),(8,nI x58),(7,.slice p66 L54.length c67),(5,nB w13)]) (w':=w238) (by kernel_rfl) ?_
    intro a256 hF255; clear hF253
    refine ev_one (.bool ((atG L215 x234).kept)) w238 hF255 (by kernel_rfl) rfl (by kernel_rfl) (run_loadV rfl rfl (run_loadS rfl rfl (St.atGf (k:=2) hS240 rfl hc250).2.2)) (l':=[(101,.bool ((atG L215 x234).kept)),(100,nP g252 ((x234.toNat * 4+3))),(99,nP g252 ((x234.toNat * 4))),(98,nI x234),(97,.slice (some ⟨g252,0,none⟩) L215.length c226),(17,nI x234),(16,.slice (some ⟨g252,0,none⟩) L215.length c226),(15,nI x235),(14,.func (.func 36) #[] #[nB w13]),(8,nI x58),(7,.slice p66 L54.length c67),(5,nB w13)]) (by kernel_rfl) ?_
    intro a258 hF257; clear hF255
    refine wpList_nil ?_
    have hF259:=hF257.keep [5,7,8,14,15,16,17,101]
    clear hF257
    refine thenN ?_
    refine joinQ (fun aI wI=>∃ (x260:Int),Fr 196 aI [(15,nI x260),(17,nI x234),(16,.slice (some ⟨g252,0,none⟩) L215.length c226),(14,.func (.func 36) #[] #[nB w13]),(8,nI x58),(7,.slice p66 L54.length c67),(5,nB w13)]∧St w0 [] (RowP (.slice p66 L54.length c67) L54::BlkP (w13.heap.size) 23 #[nP z17 0]::HeapP z17 z18 s216::GonesP (.slice (some ⟨g252,0,none⟩) L215.length c226) L215::ps) wI∧HeapFinals.j14 x234 (HeapFinals.l13 k L54 x58 L215 s216 k236) x260=some r0) ?_ ?_
    rotate_left
    · rintro a262 w263 ⟨x260,hF264,hS265,hm266⟩
      clear hF259 hS240 hm251
      unfold HeapFinals.j14 at hm266
      refine blockN ?_
      refine thenN (wp_region_lit ?_)
      refine ev_runK 3 hF264 [5,7,8,14,15,16,17] (l':=[(17,nI (IntKind.i64.wrap (x234+1))),(15,nI x260),(16,.slice (some ⟨g252,0,none⟩) L215.length c226),(14,.func (.func 36) #[] #[nB w13]),(8,nI x58),(7,.slice p66 L54.length c67),(5,nB w13)]) (w':=w263) (by kernel_rfl) ?_
      intro a269 hF268; clear hF264
      refine wpList_nil ?_
      have hF270:Fr 196 a269 [(17,nI (IntKind.i64.wrap (x234+1))),(16,.slice (some ⟨g252,0,none⟩) L215.length c226),(15,nI x260),(14,.func (.func 36) #[] #[nB w13]),(8,nI x58),(7,.slice p66 L54.length c67),(5,nB w13)]:=Fr.re hF268 (by kernel_rfl)
      clear hF268
      have hS271:=hS265.pick3.pick3.pick3
      clear hS265
      exact thenN ⟨k236,Nat.lt_succ_self _,IntKind.i64.wrap (x234+1),x260,hF270,hS271,hm266⟩
    · skip
      cases hc272:((atG L215 x234).kept)
      case true =>
       rw [hc272] at hF259
       have hm273:=ifYes hc272 hm251; clear hm251
       refine ev_condT hF259 rfl rfl ?_
       refine wp_seq (wp_region_lit ?_)
       refine ev_runK 3 hF259 [5,7,8,14,15,16,17] (l':=[(15,nI (IntKind.i64.wrap (x235+1))),(17,nI x234),(16,.slice (some ⟨g252,0,none⟩) L215.length c226),(14,.func (.func 36) #[] #[nB w13]),(8,nI x58),(7,.slice p66 L54.length c67),(5,nB w13)]) (w':=w238) (by kernel_rfl) ?_
       intro a275 hF274; clear hF259
       refine wpList_nil (thenN (wp_seq ?_))
       refine joinQ (fun aI wI=>∃ (y276:Bool),Fr 196 aI [(141,.bool (y276)),(15,nI (IntKind.i64.wrap (x235+1))),(17,nI x234),(16,.slice (some ⟨g252,0,none⟩) L215.length c226),(14,.func (.func 36) #[] #[nB w13]),(8,nI x58),(7,.slice p66 L54.length c67),(5,nB w13)]∧St w0 [] (RowP (.slice p66 L54.length c67) L54::BlkP (w13.heap.size) 23 #[nP z17 0]::HeapP z17 z18 s216::GonesP (.slice (some ⟨g252,0,none⟩) L215.length c226) L215::ps) wI∧HeapFinals.j15 x234 x235 (HeapFinals.l13 k L54 x58 L215 s216 k236) y276=some r0) ?_ ?_
       rotate_left
       · rintro a278 w279 ⟨y276,hF280,hS281,hm282⟩
         clear hF274 hS240 hm273
         unfold HeapFinals.j15 at hm282
         refine thenN ?_
         cases hc284:(y276)
         case true =>
          rw [hc284] at hF280
          have hm285:=ifYes hc284 hm282; clear hm282
          refine ev_condT hF280 rfl rfl ?_
          refine wp_seq (wp_region_lit ?_)
          refine ev_runK 1 hF280 [4] (l':=[(4,.bool false)]) (w':=w279) (by kernel_rfl) ?_
          intro a287 hF286; clear hF280
          refine wpList_nil ?_
          have hS288:=hS281.drop.drop.drop.drop
          clear hS281
          refine thenN ?_
          refine wp_ret ?_
          refine thenR ?_
          refine blockR ?_
          refine thenR (thenR ?_)
          refine blockR ?_
          refine thenR ?_
          obtain rfl:=Option.some.inj hm285
          refine ev_ret hF286 [4] (.bool false) rfl rfl rfl ?_
          exact ⟨rfl,hS288⟩
         rw [hc284] at hF280
         have hm290:=ifNot hc284 hm282; clear hm282
         refine ev_condF hF280 rfl rfl ?_
         refine wp_skip ?_
         have hF291:=hF280.keep [5,7,8,14,15,16,17]
         clear hF280
         exact thenN ⟨IntKind.i64.wrap (x235+1),hF291,hS281,hm290⟩
       · skip
         refine wp_region_lit ?_
         refine ev_runs 3 hF274 (l':=[(106,nI x234),(105,.slice (some ⟨g252,0,none⟩) L215.length c226),(104,.slice p66 L54.length c67),(15,nI (IntKind.i64.wrap (x235+1))),(17,nI x234),(16,.slice (some ⟨g252,0,none⟩) L215.length c226),(14,.func (.func 36) #[] #[nB w13]),(8,nI x58),(7,.slice p66 L54.length c67),(5,nB w13)]) (w':=w238) (by kernel_rfl) ?_
         intro a293 hF292; clear hF274
         refine ev_one (nP g252 ((x234.toNat * 4))) w238 hF292 (by kernel_rfl) rfl (by kernel_rfl) (run_idxX rfl rfl (by kernel_rfl) rfl rfl (inR_spec hc250).1 (inR_spec hc250).2 _) (l':=[(107,nP g252 ((x234.toNat * 4))),(106,nI x234),(105,.slice (some ⟨g252,0,none⟩) L215.length c226),(104,.slice p66 L54.length c67),(15,nI (IntKind.i64.wrap (x235+1))),(17,nI x234),(16,.slice (some ⟨g252,0,none⟩) L215.length c226),(14,.func (.func 36) #[] #[nB w13]),(8,nI x58),(7,.slice p66 L54.length c67),(5,nB w13)]) (by kernel_rfl) ?_
         intro a295 hF294; clear hF292
         refine ev_runs 1 hF294 (l':=[(108,nP g252 ((x234.toNat * 4+1))),(107,nP g252 ((x234.toNat * 4))),(106,nI x234),(105,.slice (some ⟨g252,0,none⟩) L215.length c226),(104,.slice p66 L54.length c67),(15,nI (IntKind.i64.wrap (x235+1))),(17,nI x234),(16,.slice (some ⟨g252,0,none⟩) L215.length c226),(14,.func (.func 36) #[] #[nB w13]),(8,nI x58),(7,.slice p66 L54.length c67),(5,nB w13)]) (w':=w238) (by kernel_rfl) ?_
         intro a297 hF296; clear hF294
         refine ev_one (nI ((atG L215 x234).at')) w238 hF296 (by kernel_rfl) rfl (by kernel_rfl) (run_loadV rfl rfl (run_loadS rfl rfl (St.atGf (k:=2) hS240 rfl hc250).2.1)) (l':=[(109,nI ((atG L215 x234).at')),(108,nP g252 ((x234.toNat * 4+1))),(107,nP g252 ((x234.toNat * 4))),(106,nI x234),(105,.slice (some ⟨g252,0,none⟩) L215.length c226),(104,.slice p66 L54.length c67),(15,nI (IntKind.i64.wrap (x235+1))),(17,nI x234),(16,.slice (some ⟨g252,0,none⟩) L215.length c226),(14,.func (.func 36) #[] #[nB w13]),(8,nI x58),(7,.slice p66 L54.length c67),(5,nB w13)]) (by kernel_rfl) ?_
         intro a299 hF298; clear hF296
         have hS300:=hS240.pick3
         clear hS240
         refine ev_call 39 #[.slice p66 L54.length c67,nI ((atG L215 x234).at')] hF298 rfl rfl (by kernel_rfl) rfl (by kernel_rfl) (fun w=>by kernel_rfl) ?_
         obtain ⟨y301,hx302,hm303⟩:=bind1E hm273; clear hm273
         refine (help_In.ok hS300 hx302).mono ?_
         rintro _ w304 ⟨rfl,hS306⟩ a305 hF307; clear hF298 hS300
         refine ev_runs 2 hF307 (l':=[(112,.bool (!(y301))),(111,.bool (!(y301))),(110,.bool (y301)),(109,nI ((atG L215 x234).at')),(108,nP g252 ((x234.toNat * 4+1))),(107,nP g252 ((x234.toNat * 4))),(106,nI x234),(105,.slice (some ⟨g252,0,none⟩) L215.length c226),(104,.slice p66 L54.length c67),(15,nI (IntKind.i64.wrap (x235+1))),(17,nI x234),(16,.slice (some ⟨g252,0,none⟩) L215.length c226),(14,.func (.func 36) #[] #[nB w13]),(8,nI x58),(7,.slice p66 L54.length c67),(5,nB w13)]) (w':=w304) (by kernel_rfl) ?_
         intro a309 hF308; clear hF307
         cases hc310:(!(y301))
         case true =>
          rw [hc310] at hF308
          have hm311:=ifYes hc310 hm303; clear hm303
          refine ev_runK 29 hF308 [5,7,8,14,15,16,17,141] (l':=[(141,.bool true),(15,nI (IntKind.i64.wrap (x235+1))),(17,nI x234),(16,.slice (some ⟨g252,0,none⟩) L215.length c226),(14,.func (.func 36) #[] #[nB w13]),(8,nI x58),(7,.slice p66 L54.length c67),(5,nB w13)]) (w':=w304) (by kernel_rfl) ?_
          intro a313 hF312; clear hF308
          refine wpList_nil ?_
          exact thenN ⟨true,hF312,hS306,hm311⟩
         rw [hc310] at hF308
         have hm314:=ifNot hc310 hm303; clear hm303
         refine ev_runs 2 hF308 (l':=[(114,nI x234),(113,.slice (some ⟨g252,0,none⟩) L215.length c226),(112,.bool false),(111,.bool false),(110,.bool (y301)),(109,nI ((atG L215 x234).at')),(108,nP g252 ((x234.toNat * 4+1))),(107,nP g252 ((x234.toNat * 4))),(106,nI x234),(105,.slice (some ⟨g252,0,none⟩) L215.length c226),(104,.slice p66 L54.length c67),(15,nI (IntKind.i64.wrap (x235+1))),(17,nI x234),(16,.slice (some ⟨g252,0,none⟩) L215.length c226),(14,.func (.func 36) #[] #[nB w13]),(8,nI x58),(7,.slice p66 L54.length c67),(5,nB w13)]) (w':=w304) (by kernel_rfl) ?_
         intro a316 hF315; clear hF308
         refine ev_one (nP g252 ((x234.toNat * 4))) w304 hF315 (by kernel_rfl) rfl (by kernel_rfl) (run_idxX rfl rfl (by kernel_rfl) rfl rfl (inR_spec hc250).1 (inR_spec hc250).2 _) (l':=[(115,nP g252 ((x234.toNat * 4))),(114,nI x234),(113,.slice (some ⟨g252,0,none⟩) L215.length c226),(112,.bool false),(111,.bool false),(110,.bool (y301)),(109,nI ((atG L215 x234).at')),(108,nP g252 ((x234.toNat * 4+1))),(107,nP g252 ((x234.toNat * 4))),(106,nI x234),(105,.slice (some ⟨g252,0,none⟩) L215.length c226),(104,.slice p66 L54.length c67),(15,nI (IntKind.i64.wrap (x235+1))),(17,nI x234),(16,.slice (some ⟨g252,0,none⟩) L215.length c226),(14,.func (.func 36) #[] #[nB w13]),(8,nI x58),(7,.slice p66 L54.length c67),(5,nB w13)]) (by kernel_rfl) ?_
         intro a318 hF317; clear hF315
         refine ev_runs 1 hF317 (l':=[(116,nP g252 ((x234.toNat * 4+2))),(115,nP g252 ((x234.toNat * 4))),(114,nI x234),(113,.slice (some ⟨g252,0,none⟩) L215.length c226),(112,.bool false),(111,.bool false),(110,.bool (y301)),(109,nI ((atG L215 x234).at')),(108,nP g252 ((x234.toNat * 4+1))),(107,nP g252 ((x234.toNat * 4))),(106,nI x234),(105,.slice (some ⟨g252,0,none⟩) L215.length c226),(104,.slice p66 L54.length c67),(15,nI (IntKind.i64.wrap (x235+1))),(17,nI x234),(16,.slice (some ⟨g252,0,none⟩) L215.length c226),(14,.func (.func 36) #[] #[nB w13]),(8,nI x58),(7,.slice p66 L54.length c67),(5,nB w13)]) (w':=w304) (by kernel_rfl) ?_
         intro a320 hF319; clear hF317
         obtain ⟨p321,c322,hc323,hp324,hw325⟩:=St.wordsG (k:=3) hS306 rfl hc250
         refine ev_one (.slice p321 ((atG L215 x234).words).length c322) w304 hF319 (by kernel_rfl) rfl (by kernel_rfl) (run_loadV rfl rfl (run_loadS rfl rfl hc323)) (l':=[(117,.slice p321 ((atG L215 x234).words).length c322),(116,nP g252 ((x234.toNat * 4+2))),(115,nP g252 ((x234.toNat * 4))),(114,nI x234),(113,.slice (some ⟨g252,0,none⟩) L215.length c226),(112,.bool false),(111,.bool false),(110,.bool (y301)),(109,nI ((atG L215 x234).at')),(108,nP g252 ((x234.toNat * 4+1))),(107,nP g252 ((x234.toNat * 4))),(106,nI x234),(105,.slice (some ⟨g252,0,none⟩) L215.length c226),(104,.slice p66 L54.length c67),(15,nI (IntKind.i64.wrap (x235+1))),(17,nI x234),(16,.slice (some ⟨g252,0,none⟩) L215.length c226),(14,.func (.func 36) #[] #[nB w13]),(8,nI x58),(7,.slice p66 L54.length c67),(5,nB w13)]) (by kernel_rfl) ?_
         intro a327 hF326; clear hF319
         refine ev_runs 4 hF326 (l':=[(121,.bool ((((atG L215 x234).words).length:Int) != 2)),(120,.bool ((((atG L215 x234).words).length:Int) != 2)),(119,.bool ((((atG L215 x234).words).length:Int) != 2)),(118,nI ((((atG L215 x234).words).length:Int))),(117,.slice p321 ((atG L215 x234).words).length c322),(116,nP g252 ((x234.toNat * 4+2))),(115,nP g252 ((x234.toNat * 4))),(114,nI x234),(113,.slice (some ⟨g252,0,none⟩) L215.length c226),(112,.bool false),(111,.bool false),(110,.bool (y301)),(109,nI ((atG L215 x234).at')),(108,nP g252 ((x234.toNat * 4+1))),(107,nP g252 ((x234.toNat * 4))),(106,nI x234),(105,.slice (some ⟨g252,0,none⟩) L215.length c226),(104,.slice p66 L54.length c67),(15,nI (IntKind.i64.wrap (x235+1))),(17,nI x234),(16,.slice (some ⟨g252,0,none⟩) L215.length c226),(14,.func (.func 36) #[] #[nB w13]),(8,nI x58),(7,.slice p66 L54.length c67),(5,nB w13)]) (w':=w304) (by kernel_rfl) ?_
         intro a329 hF328; clear hF326
         cases hc330:((((atG L215 x234).words).length:Int) != 2)
         case true =>
          rw [hc330] at hF328
          have hm331:=ifYes hc330 hm314; clear hm314
          refine ev_runK 20 hF328 [5,7,8,14,15,16,17,141] (l':=[(141,.bool true),(15,nI (IntKind.i64.wrap (x235+1))),(17,nI x234),(16,.slice (some ⟨g252,0,none⟩) L215.length c226),(14,.func (.func 36) #[] #[nB w13]),(8,nI x58),(7,.slice p66 L54.length c67),(5,nB w13)]) (w':=w304) (by kernel_rfl) ?_
          intro a333 hF332; clear hF328
          refine wpList_nil ?_
          exact thenN ⟨true,hF332,hS306,hm331⟩
         rw [hc330] at hF328
         have hm334:=ifNot hc330 hm314; clear hm314
         refine ev_runs 2 hF328 (l':=[(123,nI x234),(122,.slice (some ⟨g252,0,none⟩) L215.length c226),(121,.bool false),(120,.bool false),(119,.bool false),(118,nI ((((atG L215 x234).words).length:Int))),(117,.slice p321 ((atG L215 x234).words).length c322),(116,nP g252 ((x234.toNat * 4+2))),(115,nP g252 ((x234.toNat * 4))),(114,nI x234),(113,.slice (some ⟨g252,0,none⟩) L215.length c226),(112,.bool false),(111,.bool false),(110,.bool (y301)),(109,nI ((atG L215 x234).at')),(108,nP g252 ((x234.toNat * 4+1))),(107,nP g252 ((x234.toNat * 4))),(106,nI x234),(105,.slice (some ⟨g252,0,none⟩) L215.length c226),(104,.slice p66 L54.length c67),(15,nI (IntKind.i64.wrap (x235+1))),(17,nI x234),(16,.slice (some ⟨g252,0,none⟩) L215.length c226),(14,.func (.func 36) #[] #[nB w13]),(8,nI x58),(7,.slice p66 L54.length c67),(5,nB w13)]) (w':=w304) (by kernel_rfl) ?_
         intro a336 hF335; clear hF328
         refine ev_one (nP g252 ((x234.toNat * 4))) w304 hF335 (by kernel_rfl) rfl (by kernel_rfl) (run_idxX rfl rfl (by kernel_rfl) rfl rfl (inR_spec hc250).1 (inR_spec hc250).2 _) (l':=[(124,nP g252 ((x234.toNat * 4))),(123,nI x234),(122,.slice (some ⟨g252,0,none⟩) L215.length c226),(121,.bool false),(120,.bool false),(119,.bool false),(118,nI ((((atG L215 x234).words).length:Int))),(117,.slice p321 ((atG L215 x234).words).length c322),(116,nP g252 ((x234.toNat * 4+2))),(115,nP g252 ((x234.toNat * 4))),(114,nI x234),(113,.slice (some ⟨g252,0,none⟩) L215.length c226),(112,.bool false),(111,.bool false),(110,.bool (y301)),(109,nI ((atG L215 x234).at')),(108,nP g252 ((x234.toNat * 4+1))),(107,nP g252 ((x234.toNat * 4))),(106,nI x234),(105,.slice (some ⟨g252,0,none⟩) L215.length c226),(104,.slice p66 L54.length c67),(15,nI (IntKind.i64.wrap (x235+1))),(17,nI x234),(16,.slice (some ⟨g252,0,none⟩) L215.length c226),(14,.func (.func 36) #[] #[nB w13]),(8,nI x58),(7,.slice p66 L54.length c67),(5,nB w13)]) (by kernel_rfl) ?_
         intro a338 hF337; clear hF335
         refine ev_runs 1 hF337 (l':=[(125,nP g252 ((x234.toNat * 4+2))),(124,nP g252 ((x234.toNat * 4))),(123,nI x234),(122,.slice (some ⟨g252,0,none⟩) L215.length c226),(121,.bool false),(120,.bool false),(119,.bool false),(118,nI ((((atG L215 x234).words).length:Int))),(117,.slice p321 ((atG L215 x234).words).length c322),(116,nP g252 ((x234.toNat * 4+2))),(115,nP g252 ((x234.toNat * 4))),(114,nI x234),(113,.slice (some ⟨g252,0,none⟩) L215.length c226),(112,.bool false),(111,.bool false),(110,.bool (y301)),(109,nI ((atG L215 x234).at')),(108,nP g252 ((x234.toNat * 4+1))),(107,nP g252 ((x234.toNat * 4))),(106,nI x234),(105,.slice (some ⟨g252,0,none⟩) L215.length c226),(104,.slice p66 L54.length c67),(15,nI (IntKind.i64.wrap (x235+1))),(17,nI x234),(16,.slice (some ⟨g252,0,none⟩) L215.length c226),(14,.func (.func 36) #[] #[nB w13]),(8,nI x58),(7,.slice p66 L54.length c67),(5,nB w13)]) (w':=w304) (by kernel_rfl) ?_
         intro a340 hF339; clear hF337
         obtain ⟨p341,c342,hc343,hp344,hw345⟩:=St.wordsG (k:=3) hS306 rfl hc250
         refine ev_one (.slice p341 ((atG L215 x234).words).length c342) w304 hF339 (by kernel_rfl) rfl (by kernel_rfl) (run_loadV rfl rfl (run_loadS rfl rfl hc343)) (l':=[(126,.slice p341 ((atG L215 x234).words).length c342),(125,nP g252 ((x234.toNat * 4+2))),(124,nP g252 ((x234.toNat * 4))),(123,nI x234),(122,.slice (some ⟨g252,0,none⟩) L215.length c226),(121,.bool false),(120,.bool false),(119,.bool false),(118,nI ((((atG L215 x234).words).length:Int))),(117,.slice p321 ((atG L215 x234).words).length c322),(116,nP g252 ((x234.toNat * 4+2))),(115,nP g252 ((x234.toNat * 4))),(114,nI x234),(113,.slice (some ⟨g252,0,none⟩) L215.length c226),(112,.bool false),(111,.bool false),(110,.bool (y301)),(109,nI ((atG L215 x234).at')),(108,nP g252 ((x234.toNat * 4+1))),(107,nP g252 ((x234.toNat * 4))),(106,nI x234),(105,.slice (some ⟨g252,0,none⟩) L215.length c226),(104,.slice p66 L54.length c67),(15,nI (IntKind.i64.wrap (x235+1))),(17,nI x234),(16,.slice (some ⟨g252,0,none⟩) L215.length c226),(14,.func (.func 36) #[] #[nB w13]),(8,nI x58),(7,.slice p66 L54.length c67),(5,nB w13)]) (by kernel_rfl) ?_
         intro a347 hF346; clear hF339
         obtain ⟨hc348,hm349⟩:=ifTE hm334; clear hm334
         obtain ⟨g350,rfl⟩:=hp344.resolve_left (by have:=inR_spec hc348; omega)
         refine ev_one (nP g350 ((0:Int).toNat)) w304 hF346 (by kernel_rfl) rfl (by kernel_rfl) (run_idx rfl rfl rfl rfl rfl (inR_spec hc348).1 (inR_spec hc348).2 _) (l':=[(127,nP g350 ((0:Int).toNat)),(126,.slice (some ⟨g350,0,none⟩) ((atG L215 x234).words).length c342),(125,nP g252 ((x234.toNat * 4+2))),(124,nP g252 ((x234.toNat * 4))),(123,nI x234),(122,.slice (some ⟨g252,0,none⟩) L215.length c226),(121,.bool false),(120,.bool false),(119,.bool false),(118,nI ((((atG L215 x234).words).length:Int))),(117,.slice p321 ((atG L215 x234).words).length c322),(116,nP g252 ((x234.toNat * 4+2))),(115,nP g252 ((x234.toNat * 4))),(114,nI x234),(113,.slice (some ⟨g252,0,none⟩) L215.length c226),(112,.bool false),(111,.bool false),(110,.bool (y301)),(109,nI ((atG L215 x234).at')),(108,nP g252 ((x234.toNat * 4+1))),(107,nP g252 ((x234.toNat * 4))),(106,nI x234),(105,.slice (some ⟨g252,0,none⟩) L215.length c226),(104,.slice p66 L54.length c67),(15,nI (IntKind.i64.wrap (x235+1))),(17,nI x234),(16,.slice (some ⟨g252,0,none⟩) L215.length c226),(14,.func (.func 36) #[] #[nB w13]),(8,nI x58),(7,.slice p66 L54.length c67),(5,nB w13)]) (by kernel_rfl) ?_
         intro a352 hF351; clear hF346
         refine ev_one (nI (atI ((atG L215 x234).words) (0:Int))) w304 hF351 (by kernel_rfl) rfl (by kernel_rfl) (run_load1 rfl rfl rfl (hw345 _ (0:Int) rfl hc348)) (l':=[(128,nI (atI ((atG L215 x234).words) (0:Int))),(127,nP g350 ((0:Int).toNat)),(126,.slice (some ⟨g350,0,none⟩) ((atG L215 x234).words).length c342),(125,nP g252 ((x234.toNat * 4+2))),(124,nP g252 ((x234.toNat * 4))),(123,nI x234),(122,.slice (some ⟨g252,0,none⟩) L215.length c226),(121,.bool false),(120,.bool false),(119,.bool false),(118,nI ((((atG L215 x234).words).length:Int))),(117,.slice p321 ((atG L215 x234).words).length c322),(116,nP g252 ((x234.toNat * 4+2))),(115,nP g252 ((x234.toNat * 4))),(114,nI x234),(113,.slice (some ⟨g252,0,none⟩) L215.length c226),(112,.bool false),(111,.bool false),(110,.bool (y301)),(109,nI ((atG L215 x234).at')),(108,nP g252 ((x234.toNat * 4+1))),(107,nP g252 ((x234.toNat * 4))),(106,nI x234),(105,.slice (some ⟨g252,0,none⟩) L215.length c226),(104,.slice p66 L54.length c67),(15,nI (IntKind.i64.wrap (x235+1))),(17,nI x234),(16,.slice (some ⟨g252,0,none⟩) L215.length c226),(14,.func (.func 36) #[] #[nB w13]),(8,nI x58),(7,.slice p66 L54.length c67),(5,nB w13)]) (by kernel_rfl) ?_
         intro a354 hF353; clear hF351
         refine ev_call 40 #[nI (atI ((atG L215 x234).words) (0:Int))] hF353 rfl rfl (by kernel_rfl) rfl (by kernel_rfl) (fun w=>by kernel_rfl) ?_
         refine (p_rIsPtr hS306).mono ?_
         rintro _ w355 ⟨rfl,hS357⟩ a356 hF358; clear hF353 hS306
         refine ev_runs 3 hF358 (l':=[(132,.bool (!(vIsPtr (atI ((atG L215 x234).words) (0:Int))))),(131,.bool (!(vIsPtr (atI ((atG L215 x234).words) (0:Int))))),(130,.bool (!(vIsPtr (atI ((atG L215 x234).words) (0:Int))))),(129,.bool (vIsPtr (atI ((atG L215 x234).words) (0:Int)))),(128,nI (atI ((atG L215 x234).words) (0:Int))),(127,nP g350 ((0:Int).toNat)),(126,.slice (some ⟨g350,0,none⟩) ((atG L215 x234).words).length c342),(125,nP g252 ((x234.toNat * 4+2))),(124,nP g252 ((x234.toNat * 4))),(123,nI x234),(122,.slice (some ⟨g252,0,none⟩) L215.length c226),(121,.bool false),(120,.bool false),(119,.bool false),(118,nI ((((atG L215 x234).words).length:Int))),(117,.slice p321 ((atG L215 x234).words).length c322),(116,nP g252 ((x234.toNat * 4+2))),(115,nP g252 ((x234.toNat * 4))),(114,nI x234),(113,.slice (some ⟨g252,0,none⟩) L215.length c226),(112,.bool false),(111,.bool false),(110,.bool (y301)),(109,nI ((atG L215 x234).at')),(108,nP g252 ((x234.toNat * 4+1))),(107,nP g252 ((x234.toNat * 4))),(106,nI x234),(105,.slice (some ⟨g252,0,none⟩) L215.length c226),(104,.slice p66 L54.length c67),(15,nI (IntKind.i64.wrap (x235+1))),(17,nI x234),(16,.slice (some ⟨g252,0,none⟩) L215.length c226),(14,.func (.func 36) #[] #[nB w13]),(8,nI x58),(7,.slice p66 L54.length c67),(5,nB w13)]) (w':=w355) (by kernel_rfl) ?_
         intro a360 hF359; clear hF358
         cases hc361:(!(vIsPtr (atI ((atG L215 x234).words) (0:Int))))
         case true =>
          rw [hc361] at hF359
          have hm362:=ifYes hc361 hm349; clear hm349
          refine ev_runK 9 hF359 [5,7,8,14,15,16,17,141] (l':=[(141,.bool true),(15,nI (IntKind.i64.wrap (x235+1))),(17,nI x234),(16,.slice (some ⟨g252,0,none⟩) L215.length c226),(14,.func (.func 36) #[] #[nB w13]),(8,nI x58),(7,.slice p66 L54.length c67),(5,nB w13)]) (w':=w355) (by kernel_rfl) ?_
          intro a364 hF363; clear hF359
          refine wpList_nil ?_
          exact thenN ⟨true,hF363,hS357,hm362⟩
         rw [hc361] at hF359
         have hm365:=ifNot hc361 hm349; clear hm349
         refine ev_runs 2 hF359 (l':=[(134,nI x234),(133,.slice (some ⟨g252,0,none⟩) L215.length c226),(132,.bool false),(131,.bool false),(130,.bool false),(129,.bool (vIsPtr (atI ((atG L215 x234).words) (0:Int)))),(128,nI (atI ((atG L215 x234).words) (0:Int))),(127,nP g350 ((0:Int).toNat)),(126,.slice (some ⟨g350,0,none⟩) ((atG L215 x234).words).length c342),(125,nP g252 ((x234.toNat * 4+2))),(124,nP g252 ((x234.toNat * 4))),(123,nI x234),(122,.slice (some ⟨g252,0,none⟩) L215.length c226),(121,.bool false),(120,.bool false),(119,.bool false),(118,nI ((((atG L215 x234).words).length:Int))),(117,.slice p321 ((atG L215 x234).words).length c322),(116,nP g252 ((x234.toNat * 4+2))),(115,nP g252 ((x234.toNat * 4))),(114,nI x234),(113,.slice (some ⟨g252,0,none⟩) L215.length c226),(112,.bool false),(111,.bool false),(110,.bool (y301)),(109,nI ((atG L215 x234).at')),(108,nP g252 ((x234.toNat * 4+1))),(107,nP g252 ((x234.toNat * 4))),(106,nI x234),(105,.slice (some ⟨g252,0,none⟩) L215.length c226),(104,.slice p66 L54.length c67),(15,nI (IntKind.i64.wrap (x235+1))),(17,nI x234),(16,.slice (some ⟨g252,0,none⟩) L215.length c226),(14,.func (.func 36) #[] #[nB w13]),(8,nI x58),(7,.slice p66 L54.length c67),(5,nB w13)]) (w':=w355) (by kernel_rfl) ?_
         intro a367 hF366; clear hF359
         refine ev_one (nP g252 ((x234.toNat * 4))) w355 hF366 (by kernel_rfl) rfl (by kernel_rfl) (run_idxX rfl rfl (by kernel_rfl) rfl rfl (inR_spec hc250).1 (inR_spec hc250).2 _) (l':=[(135,nP g252 ((x234.toNat * 4))),(134,nI x234),(133,.slice (some ⟨g252,0,none⟩) L215.length c226),(132,.bool false),(131,.bool false),(130,.bool false),(129,.bool (vIsPtr (atI ((atG L215 x234).words) (0:Int)))),(128,nI (atI ((atG L215 x234).words) (0:Int))),(127,nP g350 ((0:Int).toNat)),(126,.slice (some ⟨g350,0,none⟩) ((atG L215 x234).words).length c342),(125,nP g252 ((x234.toNat * 4+2))),(124,nP g252 ((x234.toNat * 4))),(123,nI x234),(122,.slice (some ⟨g252,0,none⟩) L215.length c226),(121,.bool false),(120,.bool false),(119,.bool false),(118,nI ((((atG L215 x234).words).length:Int))),(117,.slice p321 ((atG L215 x234).words).length c322),(116,nP g252 ((x234.toNat * 4+2))),(115,nP g252 ((x234.toNat * 4))),(114,nI x234),(113,.slice (some ⟨g252,0,none⟩) L215.length c226),(112,.bool false),(111,.bool false),(110,.bool (y301)),(109,nI ((atG L215 x234).at')),(108,nP g252 ((x234.toNat * 4+1))),(107,nP g252 ((x234.toNat * 4))),(106,nI x234),(105,.slice (some ⟨g252,0,none⟩) L215.length c226),(104,.slice p66 L54.length c67),(15,nI (IntKind.i64.wrap (x235+1))),(17,nI x234),(16,.slice (some ⟨g252,0,none⟩) L215.length c226),(14,.func (.func 36) #[] #[nB w13]),(8,nI x58),(7,.slice p66 L54.length c67),(5,nB w13)]) (by kernel_rfl) ?_
         intro a369 hF368; clear hF366
         refine ev_runs 1 hF368 (l':=[(136,nP g252 ((x234.toNat * 4+2))),(135,nP g252 ((x234.toNat * 4))),(134,nI x234),(133,.slice (some ⟨g252,0,none⟩) L215.length c226),(132,.bool false),(131,.bool false),(130,.bool false),(129,.bool (vIsPtr (atI ((atG L215 x234).words) (0:Int)))),(128,nI (atI ((atG L215 x234).words) (0:Int))),(127,nP g350 ((0:Int).toNat)),(126,.slice (some ⟨g350,0,none⟩) ((atG L215 x234).words).length c342),(125,nP g252 ((x234.toNat * 4+2))),(124,nP g252 ((x234.toNat * 4))),(123,nI x234),(122,.slice (some ⟨g252,0,none⟩) L215.length c226),(121,.bool false),(120,.bool false),(119,.bool false),(118,nI ((((atG L215 x234).words).length:Int))),(117,.slice p321 ((atG L215 x234).words).length c322),(116,nP g252 ((x234.toNat * 4+2))),(115,nP g252 ((x234.toNat * 4))),(114,nI x234),(113,.slice (some ⟨g252,0,none⟩) L215.length c226),(112,.bool false),(111,.bool false),(110,.bool (y301)),(109,nI ((atG L215 x234).at')),(108,nP g252 ((x234.toNat * 4+1))),(107,nP g252 ((x234.toNat * 4))),(106,nI x234),(105,.slice (some ⟨g252,0,none⟩) L215.length c226),(104,.slice p66 L54.length c67),(15,nI (IntKind.i64.wrap (x235+1))),(17,nI x234),(16,.slice (some ⟨g252,0,none⟩) L215.length c226),(14,.func (.func 36) #[] #[nB w13]),(8,nI x58),(7,.slice p66 L54.length c67),(5,nB w13)]) (w':=w355) (by kernel_rfl) ?_
         intro a371 hF370; clear hF368
         obtain ⟨p372,c373,hc374,hp375,hw376⟩:=St.wordsG (k:=3) hS357 rfl hc250
         refine ev_one (.slice p372 ((atG L215 x234).words).length c373) w355 hF370 (by kernel_rfl) rfl (by kernel_rfl) (run_loadV rfl rfl (run_loadS rfl rfl hc374)) (l':=[(137,.slice p372 ((atG L215 x234).words).length c373),(136,nP g252 ((x234.toNat * 4+2))),(135,nP g252 ((x234.toNat * 4))),(134,nI x234),(133,.slice (some ⟨g252,0,none⟩) L215.length c226),(132,.bool false),(131,.bool false),(130,.bool false),(129,.bool (vIsPtr (atI ((atG L215 x234).words) (0:Int)))),(128,nI (atI ((atG L215 x234).words) (0:Int))),(127,nP g350 ((0:Int).toNat)),(126,.slice (some ⟨g350,0,none⟩) ((atG L215 x234).words).length c342),(125,nP g252 ((x234.toNat * 4+2))),(124,nP g252 ((x234.toNat * 4))),(123,nI x234),(122,.slice (some ⟨g252,0,none⟩) L215.length c226),(121,.bool false),(120,.bool false),(119,.bool false),(118,nI ((((atG L215 x234).words).length:Int))),(117,.slice p321 ((atG L215 x234).words).length c322),(116,nP g252 ((x234.toNat * 4+2))),(115,nP g252 ((x234.toNat * 4))),(114,nI x234),(113,.slice (some ⟨g252,0,none⟩) L215.length c226),(112,.bool false),(111,.bool false),(110,.bool (y301)),(109,nI ((atG L215 x234).at')),(108,nP g252 ((x234.toNat * 4+1))),(107,nP g252 ((x234.toNat * 4))),(106,nI x234),(105,.slice (some ⟨g252,0,none⟩) L215.length c226),(104,.slice p66 L54.length c67),(15,nI (IntKind.i64.wrap (x235+1))),(17,nI x234),(16,.slice (some ⟨g252,0,none⟩) L215.length c226),(14,.func (.func 36) #[] #[nB w13]),(8,nI x58),(7,.slice p66 L54.length c67),(5,nB w13)]) (by kernel_rfl) ?_
         intro a378 hF377; clear hF370
         obtain ⟨hc379,hm380⟩:=ifTE hm365; clear hm365
         obtain ⟨g381,rfl⟩:=hp375.resolve_left (by have:=inR_spec hc379; omega)
         refine ev_one (nP g381 ((1:Int).toNat)) w355 hF377 (by kernel_rfl) rfl (by kernel_rfl) (run_idx rfl rfl rfl rfl rfl (inR_spec hc379).1 (inR_spec hc379).2 _) (l':=[(138,nP g381 ((1:Int).toNat)),(137,.slice (some ⟨g381,0,none⟩) ((atG L215 x234).words).length c373),(136,nP g252 ((x234.toNat * 4+2))),(135,nP g252 ((x234.toNat * 4))),(134,nI x234),(133,.slice (some ⟨g252,0,none⟩) L215.length c226),(132,.bool false),(131,.bool false),(130,.bool false),(129,.bool (vIsPtr (atI ((atG L215 x234).words) (0:Int)))),(128,nI (atI ((atG L215 x234).words) (0:Int))),(127,nP g350 ((0:Int).toNat)),(126,.slice (some ⟨g350,0,none⟩) ((atG L215 x234).words).length c342),(125,nP g252 ((x234.toNat * 4+2))),(124,nP g252 ((x234.toNat * 4))),(123,nI x234),(122,.slice (some ⟨g252,0,none⟩) L215.length c226),(121,.bool false),(120,.bool false),(119,.bool false),(118,nI ((((atG L215 x234).words).length:Int))),(117,.slice p321 ((atG L215 x234).words).length c322),(116,nP g252 ((x234.toNat * 4+2))),(115,nP g252 ((x234.toNat * 4))),(114,nI x234),(113,.slice (some ⟨g252,0,none⟩) L215.length c226),(112,.bool false),(111,.bool false),(110,.bool (y301)),(109,nI ((atG L215 x234).at')),(108,nP g252 ((x234.toNat * 4+1))),(107,nP g252 ((x234.toNat * 4))),(106,nI x234),(105,.slice (some ⟨g252,0,none⟩) L215.length c226),(104,.slice p66 L54.length c67),(15,nI (IntKind.i64.wrap (x235+1))),(17,nI x234),(16,.slice (some ⟨g252,0,none⟩) L215.length c226),(14,.func (.func 36) #[] #[nB w13]),(8,nI x58),(7,.slice p66 L54.length c67),(5,nB w13)]) (by kernel_rfl) ?_
         intro a383 hF382; clear hF377
         refine ev_one (nI (atI ((atG L215 x234).words) (1:Int))) w355 hF382 (by kernel_rfl) rfl (by kernel_rfl) (run_load1 rfl rfl rfl (hw376 _ (1:Int) rfl hc379)) (l':=[(139,nI (atI ((atG L215 x234).words) (1:Int))),(138,nP g381 ((1:Int).toNat)),(137,.slice (some ⟨g381,0,none⟩) ((atG L215 x234).words).length c373),(136,nP g252 ((x234.toNat * 4+2))),(135,nP g252 ((x234.toNat * 4))),(134,nI x234),(133,.slice (some ⟨g252,0,none⟩) L215.length c226),(132,.bool false),(131,.bool false),(130,.bool false),(129,.bool (vIsPtr (atI ((atG L215 x234).words) (0:Int)))),(128,nI (atI ((atG L215 x234).words) (0:Int))),(127,nP g350 ((0:Int).toNat)),(126,.slice (some ⟨g350,0,none⟩) ((atG L215 x234).words).length c342),(125,nP g252 ((x234.toNat * 4+2))),(124,nP g252 ((x234.toNat * 4))),(123,nI x234),(122,.slice (some ⟨g252,0,none⟩) L215.length c226),(121,.bool false),(120,.bool false),(119,.bool false),(118,nI ((((atG L215 x234).words).length:Int))),(117,.slice p321 ((atG L215 x234).words).length c322),(116,nP g252 ((x234.toNat * 4+2))),(115,nP g252 ((x234.toNat * 4))),(114,nI x234),(113,.slice (some ⟨g252,0,none⟩) L215.length c226),(112,.bool false),(111,.bool false),(110,.bool (y301)),(109,nI ((atG L215 x234).at')),(108,nP g252 ((x234.toNat * 4+1))),(107,nP g252 ((x234.toNat * 4))),(106,nI x234),(105,.slice (some ⟨g252,0,none⟩) L215.length c226),(104,.slice p66 L54.length c67),(15,nI (IntKind.i64.wrap (x235+1))),(17,nI x234),(16,.slice (some ⟨g252,0,none⟩) L215.length c226),(14,.func (.func 36) #[] #[nB w13]),(8,nI x58),(7,.slice p66 L54.length c67),(5,nB w13)]) (by kernel_rfl) ?_
         intro a385 hF384; clear hF382
         refine ev_runK 2 hF384 [5,7,8,14,15,16,17,141] (l':=[(141,.bool ((atI ((atG L215 x234).words) (1:Int)) == 0)),(15,nI (IntKind.i64.wrap (x235+1))),(17,nI x234),(16,.slice (some ⟨g252,0,none⟩) L215.length c226),(14,.func (.func 36) #[] #[nB w13]),(8,nI x58),(7,.slice p66 L54.length c67),(5,nB w13)]) (w':=w355) (by kernel_rfl) ?_
         intro a387 hF386; clear hF384
         refine wpList_nil ?_
         exact thenN ⟨(atI ((atG L215 x234).words) (1:Int)) == 0,hF386,hS357,hm380⟩
      rw [hc272] at hF259
      have hm388:=ifNot hc272 hm251; clear hm251
      refine ev_condF hF259 rfl rfl ?_
      refine wp_skip ?_
      have hF389:=hF259.keep [5,7,8,14,15,16,17]
      clear hF259
      have hF390:Fr 196 a258 [(15,nI x235),(17,nI x234),(16,.slice (some ⟨g252,0,none⟩) L215.length c226),(14,.func (.func 36) #[] #[nB w13]),(8,nI x58),(7,.slice p66 L54.length c67),(5,nB w13)]:=Fr.re hF389 (by kernel_rfl)
      clear hF389
      have hS391:=hS240.pick2.pick2.pick2.pick3
      clear hS240
      exact thenN ⟨x235,hF390,hS391,hm388⟩
   rw [hc245] at hF243
   have hm392:=ifNot hc245 hm242; clear hm242
   refine ev_condF hF243 rfl rfl ?_
   refine wp_exit ?_
   refine thenE ?_
   refine thenE ?_
   refine blockE ?_
   refine thenN (wp_seq (wp_region_lit ?_))
   refine ev_one (nP z17 0) w238 hF243 (by kernel_rfl) rfl (by kernel_rfl) (run_loadV rfl rfl (run_loadS rfl rfl (hS240.cell 0 rfl 0 rfl))) (l':=[(142,nP z17 0),(94,.bool false),(17,nI x234),(16,.slice p225 L215.length c226),(15,nI x235),(14,.func (.func 36) #[] #[nB w13]),(8,nI x58),(7,.slice p66 L54.length c67),(5,nB w13)]) (by kernel_rfl) ?_
   intro a394 hF393; clear hF243
   have hS395:=hS240.pick1
   clear hS240
   refine ev_call 10 #[nP z17 0] hF393 rfl rfl (by kernel_rfl) rfl (by kernel_rfl) (fun w=>by kernel_rfl) ?_
   refine (p_Arena hS395).mono ?_
   rintro _ w396 ⟨rfl,hS398⟩ a397 hF399; clear hF393 hS395
   refine ev_call 32 #[nP z18 0] hF399 rfl rfl (by kernel_rfl) rfl (by kernel_rfl) (fun w=>by kernel_rfl) ?_
   refine (p_Objects hS398).mono ?_
   rintro _ w400 ⟨z404,rfl,hS402⟩ a401 hF403; clear hF399 hS398
   obtain ⟨hl409,p406,c407,rfl,hp408⟩:=St.shape hS402 1 rfl
   refine ev_runK 2 hF403 [5,7,8,14,15,18] (l':=[(18,nI (((hObjsF s216.a).length:Int))),(15,nI x235),(14,.func (.func 36) #[] #[nB w13]),(8,nI x58),(7,.slice p66 L54.length c67),(5,nB w13)]) (w':=w400) (by kernel_rfl) ?_
   intro a411 hF410; clear hF403
   refine wpList_nil ?_
   have hS412:=hS402.pick1.drop.pick2.drop
   clear hS402
   refine thenN (wp_seq (wp_region_lit ?_))
   refine ev_runs 2 hF410 (l':=[(147,.slice p66 L54.length c67),(146,.func (.func 36) #[] #[nB w13]),(18,nI (((hObjsF s216.a).length:Int))),(15,nI x235),(14,.func (.func 36) #[] #[nB w13]),(8,nI x58),(7,.slice p66 L54.length c67),(5,nB w13)]) (w':=w400) (by kernel_rfl) ?_
   intro a414 hF413; clear hF410
   have hS415:=hS412.pick1.pick2
   clear hS412
   refine ev_call 36 #[.slice p66 L54.length c67,nB w13] hF413 rfl rfl (by kernel_rfl) rfl (by kernel_rfl) (fun w=>by kernel_rfl) ?_
   obtain ⟨L416,s417,hx418,hm419⟩:=bind2E hm392; clear hm392
   refine (HeapFinals_cycle.ok hS415 hx418).mono ?_
   rintro _ w420 ⟨z424,rfl,hS422⟩ a421 hF423; clear hF413 hS415
   obtain ⟨hl429,p426,c427,rfl,hp428⟩:=St.shapeG (k:=3) hS422 rfl
   refine ev_runK 1 hF423 [5,8,14,15,18,19] (l':=[(19,.slice p426 L416.length c427),(18,nI (((hObjsF s216.a).length:Int))),(15,nI x235),(14,.func (.func 36) #[] #[nB w13]),(8,nI x58),(5,nB w13)]) (w':=w420) (by kernel_rfl) ?_
   intro a431 hF430; clear hF423
   refine wpList_nil ?_
   have hS432:=hS422.drop
   clear hS422
   refine thenN (wp_seq (wp_region_lit ?_))
   refine ev_runs 1 hF430 (l':=[(149,.func (.func 36) #[] #[nB w13]),(19,.slice p426 L416.length c427),(18,nI (((hObjsF s216.a).length:Int))),(15,nI x235),(14,.func (.func 36) #[] #[nB w13]),(8,nI x58),(5,nB w13)]) (w':=w420) (by kernel_rfl) ?_
   intro a434 hF433; clear hF430
   have hS436:St w0 [] (RowP (.slice none 0 0) []::BlkP (w13.heap.size) 23 #[nP z17 0]::HeapP z17 z18 s417::GonesP (.slice p426 L416.length c427) L416::ps) w420:=St.nil hS432
   clear hS432
   refine ev_call 36 #[.slice none 0 0,nB w13] hF433 rfl rfl (by kernel_rfl) rfl (by kernel_rfl) (fun w=>by kernel_rfl) ?_
   obtain ⟨L437,s438,hx439,hm440⟩:=bind2E hm419; clear hm419
   refine (HeapFinals_cycle.ok hS436 hx439).mono ?_
   rintro _ w441 ⟨z445,rfl,hS443⟩ a442 hF444; clear hF433 hS436
   obtain ⟨hl450,p447,c448,rfl,hp449⟩:=St.shapeG (k:=3) hS443 rfl
   refine ev_runK 1 hF444 [5,8,15,18,19,20] (l':=[(20,.slice p447 L437.length c448),(19,.slice p426 L416.length c427),(18,nI (((hObjsF s216.a).length:Int))),(15,nI x235),(8,nI x58),(5,nB w13)]) (w':=w441) (by kernel_rfl) ?_
   intro a452 hF451; clear hF444
   refine wpList_nil ?_
   have hS453:=hS443.drop
   clear hS443
   refine thenN (wp_seq (wp_seq (wp_region_lit ?_)))
   refine ev_runs 1 hF451 (l':=[(21,nI 0),(20,.slice p447 L437.length c448),(19,.slice p426 L416.length c427),(18,nI (((hObjsF s216.a).length:Int))),(15,nI x235),(8,nI x58),(5,nB w13)]) (w':=w441) (by kernel_rfl) ?_
   intro a455 hF454; clear hF451
   refine wpList_nil (thenN ?_)
   refine wp_block ?_
   refine wp_loop_ghost (fun kI aI wI=>∃ (x456:Int),Fr 196 aI [(21,nI x456),(20,.slice p447 L437.length c448),(19,.slice p426 L416.length c427),(18,nI (((hObjsF s216.a).length:Int))),(15,nI x235),(8,nI x58),(5,nB w13)]∧St w0 [] (BlkP (w13.heap.size) 23 #[nP z17 0]::HeapP z17 z18 s438::GonesP (.slice p447 L437.length c448) L437::GonesP (.slice p426 L416.length c427) L416::ps) wI∧HeapFinals.l16 x58 s216 x235 L416 L437 s438 kI x456=some r0) k ⟨0,hF454,hS453,hm440⟩ ?_
   rintro k457 a458 w459 ⟨x456,hF460,hS461,hm462⟩
   clear hF454 hS453 hm440
   rcases k457 with _ | k457
   · cases hm462
   have hm463:HeapFinals.l16b x58 s216 x235 L416 L437 s438 (HeapFinals.l16 x58 s216 x235 L416 L437 s438 k457) x456=some r0:=hm462
   clear hm462
   unfold HeapFinals.l16b at hm463
   refine wp_seq (wp_seq (wp_region_lit ?_))
   refine ev_runK 7 hF460 [5,8,15,18,19,20,21,157] (l':=[(157,.bool (decide (x456<(IntKind.i64.wrap ((L416.length:Int)+(L437.length:Int)))))),(21,nI x456),(20,.slice p447 L437.length c448),(19,.slice p426 L416.length c427),(18,nI (((hObjsF s216.a).length:Int))),(15,nI x235),(8,nI x58),(5,nB w13)]) (w':=w459) (by kernel_rfl) ?_
   intro a465 hF464; clear hF460
   refine wpList_nil (thenN ?_)
   cases hc466:(decide (x456<(IntKind.i64.wrap ((L416.length:Int)+(L437.length:Int)))))
   case true =>
    rw [hc466] at hF464
    have hm467:=ifYes hc466 hm463; clear hm463
    refine ev_condT hF464 rfl rfl ?_
    refine wp_skip ?_
    have hF468:=hF464.keep [5,8,15,18,19,20,21]
    clear hF464
    refine thenN (wp_seq ?_)
    refine wp_block ?_
    refine wp_seq (wp_region_lit ?_)
    refine ev_runs 1 hF468 (l':=[(160,.slice p426 L416.length c427),(21,nI x456),(20,.slice p447 L437.length c448),(19,.slice p426 L416.length c427),(18,nI (((hObjsF s216.a).length:Int))),(15,nI x235),(8,nI x58),(5,nB w13)]) (w':=w459) (by kernel_rfl) ?_
    intro a470 hF469; clear hF468
    have hS472:St w0 [] (GonesW (.slice none 0 0) []::BlkP (w13.heap.size) 23 #[nP z17 0]::HeapP z17 z18 s438::GonesP (.slice p447 L437.length c448) L437::GonesP (.slice p426 L416.length c427) L416::ps) w459:=St.nilW hS461
    clear hS461
    have hS473:=hS472.pick4.pick1
    clear hS472
    obtain ⟨L474,hx475,hm476⟩:=bind1E hm467; clear hm467
    refine ev_appW 67 rfl 161 (.const (.slice none 0 0)) (.tmp 160) hF469 rfl rfl (by kernel_rfl) rfl rfl rfl rfl rfl hS473 hx475 ?_
    intro v477 w478 a479 hS480 hF481; clear hF469 hS473
    obtain ⟨hl485,p482,c483,rfl,hp484⟩:=St.shapeW (k:=0) hS480 rfl
    have hF486:=hF481.keep [5,8,15,18,19,20,21,160,161]; clear hF481
    refine ev_runs 1 hF486 (l':=[(162,.slice p447 L437.length c448),(161,.slice p482 L474.length c483),(160,.slice p426 L416.length c427),(21,nI x456),(20,.slice p447 L437.length c448),(19,.slice p426 L416.length c427),(18,nI (((hObjsF s216.a).length:Int))),(15,nI x235),(8,nI x58),(5,nB w13)]) (w':=w478) (by kernel_rfl) ?_
    intro a488 hF487; clear hF486
    have hS489:=hS480.pick4.pick1
    clear hS480
    obtain ⟨L490,hx491,hm492⟩:=bind1E hm476; clear hm476
    refine ev_appW 67 rfl 163 (.tmp 161) (.tmp 162) hF487 rfl rfl (by kernel_rfl) rfl rfl rfl rfl rfl hS489 hx491 ?_
    intro v493 w494 a495 hS496 hF497; clear hF487 hS489
    obtain ⟨hl501,p498,c499,rfl,hp500⟩:=St.shapeW (k:=0) hS496 rfl
    have hF502:=hF497.keep [5,8,15,18,19,20,21,160,162,163]; clear hF497
    refine ev_runs 1 hF502 (l':=[(164,nI x456),(163,.slice p498 L490.length c499),(162,.slice p447 L437.length c448),(160,.slice p426 L416.length c427),(21,nI x456),(20,.slice p447 L437.length c448),(19,.slice p426 L416.length c427),(18,nI (((hObjsF s216.a).length:Int))),(15,nI x235),(8,nI x58),(5,nB w13)]) (w':=w494) (by kernel_rfl) ?_
    intro a504 hF503; clear hF502
    obtain ⟨hc505,hm506⟩:=ifTE hm492; clear hm492
    obtain ⟨g507,rfl⟩:=hp500.resolve_left (by have:=inR_spec hc505; omega)
    refine ev_one (nP g507 ((x456.toNat * 4))) w494 hF503 (by kernel_rfl) rfl (by kernel_rfl) (run_idxX rfl rfl (by kernel_rfl) rfl rfl (inR_spec hc505).1 (inR_spec hc505).2 _) (l':=[(165,nP g507 ((x456.toNat * 4))),(164,nI x456),(163,.slice (some ⟨g507,0,none⟩) L490.length c499),(162,.slice p447 L437.length c448),(160,.slice p426 L416.length c427),(21,nI x456),(20,.slice p447 L437.length c448),(19,.slice p426 L416.length c427),(18,nI (((hObjsF s216.a).length:Int))),(15,nI x235),(8,nI x58),(5,nB w13)]) (by kernel_rfl) ?_
    intro a509 hF508; clear hF503
    refine ev_runs 1 hF508 (l':=[(166,nP g507 ((x456.toNat * 4+3))),(165,nP g507 ((x456.toNat * 4))),(164,nI x456),(163,.slice (some ⟨g507,0,none⟩) L490.length c499),(162,.slice p447 L437.length c448),(160,.slice p426 L416.length c427),(21,nI x456),(20,.slice p447 L437.length c448),(19,.slice p426 L416.length c427),(18,nI (((hObjsF s216.a).length:Int))),(15,nI x235),(8,nI x58),(5,nB w13)]) (w':=w494) (by kernel_rfl) ?_
    intro a511 hF510; clear hF508
    refine ev_one (.bool ((atG L490 x456).kept)) w494 hF510 (by kernel_rfl) rfl (by kernel_rfl) (run_loadV rfl rfl (run_loadS rfl rfl (St.atWf (k:=0) hS496 rfl hc505).2.2)) (l':=[(167,.bool ((atG L490 x456).kept)),(166,nP g507 ((x456.toNat * 4+3))),(165,nP g507 ((x456.toNat * 4))),(164,nI x456),(163,.slice (some ⟨g507,0,none⟩) L490.length c499),(162,.slice p447 L437.length c448),(160,.slice p426 L416.length c427),(21,nI x456),(20,.slice p447 L437.length c448),(19,.slice p426 L416.length c427),(18,nI (((hObjsF s216.a).length:Int))),(15,nI x235),(8,nI x58),(5,nB w13)]) (by kernel_rfl) ?_
    intro a513 hF512; clear hF510
    refine wpList_nil ?_
    have hF514:=hF512.keep [5,8,15,18,19,20,21,167]
    clear hF512
    have hS515:=hS496.drop
    clear hS496
    refine thenN ?_
    cases hc516:((atG L490 x456).kept)
    case true =>
     rw [hc516] at hF514
     have hm517:=ifYes hc516 hm506; clear hm506
     refine ev_condT hF514 rfl rfl ?_
     refine wp_seq (wp_region_lit ?_)
     refine ev_runK 1 hF514 [4] (l':=[(4,.bool false)]) (w':=w494) (by kernel_rfl) ?_
     intro a519 hF518; clear hF514
     refine wpList_nil ?_
     have hS520:=hS515.drop.drop.drop.drop
     clear hS515
     refine thenN ?_
     refine wp_ret ?_
     refine blockR ?_
     refine thenR (thenR ?_)
     refine blockR ?_
     refine thenR ?_
     obtain rfl:=Option.some.inj hm517
     refine ev_ret hF518 [4] (.bool false) rfl rfl rfl ?_
     exact ⟨rfl,hS520⟩
    rw [hc516] at hF514
    have hm522:=ifNot hc516 hm506; clear hm506
    refine ev_condF hF514 rfl rfl ?_
    refine wp_skip ?_
    have hF523:=hF514.keep [5,8,15,18,19,20,21]
    clear hF514
    refine blockN ?_
    refine thenN (wp_region_lit ?_)
    refine ev_runK 3 hF523 [5,8,15,18,19,20,21] (l':=[(21,nI (IntKind.i64.wrap (x456+1))),(20,.slice p447 L437.length c448),(19,.slice p426 L416.length c427),(18,nI (((hObjsF s216.a).length:Int))),(15,nI x235),(8,nI x58),(5,nB w13)]) (w':=w494) (by kernel_rfl) ?_
    intro a525 hF524; clear hF523
    refine wpList_nil ?_
    have hS526:=hS515.pick1.pick1.pick3.pick3
    clear hS515
    exact thenN ⟨k457,Nat.lt_succ_self _,IntKind.i64.wrap (x456+1),hF524,hS526,hm522⟩
   rw [hc466] at hF464
   have hm527:=ifNot hc466 hm463; clear hm463
   refine ev_condF hF464 rfl rfl ?_
   refine wp_exit ?_
   refine thenE ?_
   refine thenE ?_
   refine blockE ?_
   refine thenN (wp_seq ?_)
   refine joinQ (fun aI wI=>∃ (y528:Bool),Fr 196 aI [(4,.bool (y528))]∧St w0 [] (ps) wI∧HeapFinals.j17 y528=some r0) ?_ ?_
   rotate_left
   · rintro a530 w531 ⟨y528,hF532,hS533,hm534⟩
     clear hF464 hS461 hm527
     unfold HeapFinals.j17 at hm534
     refine thenN ?_
     refine wp_ret ?_
     obtain rfl:=Option.some.inj hm534
     refine ev_ret hF532 [4] (.bool (y528)) rfl rfl rfl ?_
     exact ⟨rfl,hS533⟩
   · skip
     refine wp_region_lit ?_
     refine ev_runs 4 hF464 (l':=[(171,.bool (x235 == x58)),(170,.bool (x235 == x58)),(169,nI x58),(168,nI x235),(157,.bool false),(21,nI x456),(20,.slice p447 L437.length c448),(19,.slice p426 L416.length c427),(18,nI (((hObjsF s216.a).length:Int))),(15,nI x235),(8,nI x58),(5,nB w13)]) (w':=w459) (by kernel_rfl) ?_
     intro a538 hF537; clear hF464
     cases hc539:(x235 == x58)
     case true =>
      rw [hc539] at hF537
      have hm540:=ifYes hc539 hm527; clear hm527
      refine ev_runs 6 hF537 (l':=[(177,.bool (((hObjsF s216.a).length:Int) == (IntKind.i64.wrap (2 * x58)))),(176,.bool (((hObjsF s216.a).length:Int) == (IntKind.i64.wrap (2 * x58)))),(175,.bool (((hObjsF s216.a).length:Int) == (IntKind.i64.wrap (2 * x58)))),(174,nI (IntKind.i64.wrap (2 * x58))),(173,nI x58),(172,nI (((hObjsF s216.a).length:Int))),(171,.bool true),(170,.bool true),(169,nI x58),(168,nI x235),(157,.bool false),(21,nI x456),(20,.slice p447 L437.length c448),(19,.slice p426 L416.length c427),(18,nI (((hObjsF s216.a).length:Int))),(15,nI x235),(8,nI x58),(5,nB w13)]) (w':=w459) (by kernel_rfl) ?_
      intro a542 hF541; clear hF537
      cases hc543:(((hObjsF s216.a).length:Int) == (IntKind.i64.wrap (2 * x58)))
      case true =>
       rw [hc543] at hF541
       have hm544:=ifYes hc543 hm540; clear hm540
       refine ev_runs 5 hF541 (l':=[(182,.bool ((L416.length:Int) == 0)),(181,.bool ((L416.length:Int) == 0)),(180,.bool ((L416.length:Int) == 0)),(179,nI ((L416.length:Int))),(178,.slice p426 L416.length c427),(177,.bool true),(176,.bool true),(175,.bool true),(174,nI (IntKind.i64.wrap (2 * x58))),(173,nI x58),(172,nI (((hObjsF s216.a).length:Int))),(171,.bool true),(170,.bool true),(169,nI x58),(168,nI x235),(157,.bool false),(21,nI x456),(20,.slice p447 L437.length c448),(19,.slice p426 L416.length c427),(18,nI (((hObjsF s216.a).length:Int))),(15,nI x235),(8,nI x58),(5,nB w13)]) (w':=w459) (by kernel_rfl) ?_
       intro a546 hF545; clear hF541
       cases hc547:((L416.length:Int) == 0)
       case true =>
        rw [hc547] at hF545
        have hm548:=ifYes hc547 hm544; clear hm544
        refine ev_runs 7 hF545 (l':=[(189,.bool ((L437.length:Int) == (IntKind.i64.wrap (2 * x58)))),(188,.bool ((L437.length:Int) == (IntKind.i64.wrap (2 * x58)))),(187,.bool ((L437.length:Int) == (IntKind.i64.wrap (2 * x58)))),(186,nI (IntKind.i64.wrap (2 * x58))),(185,nI x58),(184,nI ((L437.length:Int))),(183,.slice p447 L437.length c448),(182,.bool true),(181,.bool true),(180,.bool true),(179,nI ((L416.length:Int))),(178,.slice p426 L416.length c427),(177,.bool true),(176,.bool true),(175,.bool true),(174,nI (IntKind.i64.wrap (2 * x58))),(173,nI x58),(172,nI (((hObjsF s216.a).length:Int))),(171,.bool true),(170,.bool true),(169,nI x58),(168,nI x235),(157,.bool false),(21,nI x456),(20,.slice p447 L437.length c448),(19,.slice p426 L416.length c427),(18,nI (((hObjsF s216.a).length:Int))),(15,nI x235),(8,nI x58),(5,nB w13)]) (w':=w459) (by kernel_rfl) ?_
        intro a550 hF549; clear hF545
        cases hc551:((L437.length:Int) == (IntKind.i64.wrap (2 * x58)))
        case true =>
         rw [hc551] at hF549
         have hm552:=ifYes hc551 hm548; clear hm548
         refine ev_one (nP z17 0) w459 hF549 (by kernel_rfl) rfl (by kernel_rfl) (run_loadV rfl rfl (run_loadS rfl rfl (hS461.cell 0 rfl 0 rfl))) (l':=[(190,nP z17 0),(189,.bool true),(188,.bool true),(187,.bool true),(186,nI (IntKind.i64.wrap (2 * x58))),(185,nI x58),(184,nI ((L437.length:Int))),(183,.slice p447 L437.length c448),(182,.bool true),(181,.bool true),(180,.bool true),(179,nI ((L416.length:Int))),(178,.slice p426 L416.length c427),(177,.bool true),(176,.bool true),(175,.bool true),(174,nI (IntKind.i64.wrap (2 * x58))),(173,nI x58),(172,nI (((hObjsF s216.a).length:Int))),(171,.bool true),(170,.bool true),(169,nI x58),(168,nI x235),(157,.bool false),(21,nI x456),(20,.slice p447 L437.length c448),(19,.slice p426 L416.length c427),(18,nI (((hObjsF s216.a).length:Int))),(15,nI x235),(8,nI x58),(5,nB w13)]) (by kernel_rfl) ?_
         intro a554 hF553; clear hF549
         have hS555:=hS461.pick1
         clear hS461
         refine ev_call 10 #[nP z17 0] hF553 rfl rfl (by kernel_rfl) rfl (by kernel_rfl) (fun w=>by kernel_rfl) ?_
         refine (p_Arena hS555).mono ?_
         rintro _ w556 ⟨rfl,hS558⟩ a557 hF559; clear hF553 hS555
         refine ev_call 32 #[nP z18 0] hF559 rfl rfl (by kernel_rfl) rfl (by kernel_rfl) (fun w=>by kernel_rfl) ?_
         refine (p_Objects hS558).mono ?_
         rintro _ w560 ⟨z564,rfl,hS562⟩ a561 hF563; clear hF559 hS558
         obtain ⟨hl569,p566,c567,rfl,hp568⟩:=St.shape hS562 1 rfl
         refine ev_runK 4 hF563 [4] (l':=[(4,.bool (((hObjsF s438.a).length:Int) == 0))]) (w':=w560) (by kernel_rfl) ?_
         intro a571 hF570; clear hF563
         refine wpList_nil ?_
         have hS572:=hS562.drop.drop.drop.drop.drop
         clear hS562
         exact thenN ⟨((hObjsF s438.a).length:Int) == 0,hF570,hS572,hm552⟩
        rw [hc551] at hF549
        have hm573:=ifNot hc551 hm548; clear hm548
        refine ev_runK 7 hF549 [4] (l':=[(4,.bool false)]) (w':=w459) (by kernel_rfl) ?_
        intro a575 hF574; clear hF549
        refine wpList_nil ?_
        have hS576:=hS461.drop.drop.drop.drop
        clear hS461
        exact thenN ⟨false,hF574,hS576,hm573⟩
       rw [hc547] at hF545
       have hm577:=ifNot hc547 hm544; clear hm544
       refine ev_runK 14 hF545 [4] (l':=[(4,.bool false)]) (w':=w459) (by kernel_rfl) ?_
       intro a579 hF578; clear hF545
       refine wpList_nil ?_
       have hS580:=hS461.drop.drop.drop.drop
       clear hS461
       exact thenN ⟨false,hF578,hS580,hm577⟩
      rw [hc543] at hF541
      have hm581:=ifNot hc543 hm540; clear hm540
      refine ev_runK 19 hF541 [4] (l':=[(4,.bool false)]) (w':=w459) (by kernel_rfl) ?_
      intro a583 hF582; clear hF541
      refine wpList_nil ?_
      have hS584:=hS461.drop.drop.drop.drop
      clear hS461
      exact thenN ⟨false,hF582,hS584,hm581⟩
     rw [hc539] at hF537
     have hm585:=ifNot hc539 hm527; clear hm527
     refine ev_runK 25 hF537 [4] (l':=[(4,.bool false)]) (w':=w459) (by kernel_rfl) ?_
     intro a587 hF586; clear hF537
     refine wpList_nil ?_
     have hS588:=hS461.drop.drop.drop.drop
     clear hS461
     exact thenN ⟨false,hF586,hS588,hm585⟩
 · skip
   refine wp_region_lit ?_
   refine ev_call 34 #[] hF28 rfl rfl (by kernel_rfl) rfl (by kernel_rfl) (fun w=>by kernel_rfl) ?_
   obtain ⟨y589,hx590,hm591⟩:=bind1E hm12; clear hm12
   refine (law09_awake.ok hS26 hx590).mono ?_
   rintro _ w592 ⟨rfl,hS594⟩ a593 hF595; clear hF28 hS26
   refine ev_runs 2 hF595 (l':=[(33,.bool (!(y589))),(32,.bool (!(y589))),(31,.bool (y589)),(6,nI 0),(5,nB w13),(0,nI x5),(1,.slice pa1 K1.length ca1)]) (w':=w592) (by kernel_rfl) ?_
   intro a597 hF596; clear hF595
   cases hc598:(!(y589))
   case true =>
    rw [hc598] at hF596
    have hm599:=ifYes hc598 hm591; clear hm591
    refine ev_runK 12 hF596 [0,1,5,45] (l':=[(45,.bool true),(5,nB w13),(0,nI x5),(1,.slice pa1 K1.length ca1)]) (w':=w592) (by kernel_rfl) ?_
    intro a601 hF600; clear hF596
    refine wpList_nil ?_
    exact thenN ⟨true,hF600,hS594,hm599⟩
   rw [hc598] at hF596
   have hm602:=ifNot hc598 hm591; clear hm591
   refine ev_runs 4 hF596 (l':=[(37,.bool false),(36,.bool false),(35,.bool false),(34,nI 0),(33,.bool false),(32,.bool false),(31,.bool (y589)),(6,nI 0),(5,nB w13),(0,nI x5),(1,.slice pa1 K1.length ca1)]) (w':=w592) (by kernel_rfl) ?_
   intro a604 hF603; clear hF596
   refine ev_one (nP z17 0) w592 hF603 (by kernel_rfl) rfl (by kernel_rfl) (run_loadV rfl rfl (run_loadS rfl rfl (hS594.cell 0 rfl 0 rfl))) (l':=[(38,nP z17 0),(37,.bool false),(36,.bool false),(35,.bool false),(34,nI 0),(33,.bool false),(32,.bool false),(31,.bool (y589)),(6,nI 0),(5,nB w13),(0,nI x5),(1,.slice pa1 K1.length ca1)]) (by kernel_rfl) ?_
   intro a606 hF605; clear hF603
   refine ev_runs 3 hF605 (l':=[(41,.bool false),(40,.bool false),(39,.bool false),(38,nP z17 0),(37,.bool false),(36,.bool false),(35,.bool false),(34,nI 0),(33,.bool false),(32,.bool false),(31,.bool (y589)),(6,nI 0),(5,nB w13),(0,nI x5),(1,.slice pa1 K1.length ca1)]) (w':=w592) (by kernel_rfl) ?_
   intro a608 hF607; clear hF605
   refine ev_one (nP z17 0) w592 hF607 (by kernel_rfl) rfl (by kernel_rfl) (run_loadV rfl rfl (run_loadS rfl rfl (hS594.cell 0 rfl 0 rfl))) (l':=[(42,nP z17 0),(41,.bool false),(40,.bool false),(39,.bool false),(38,nP z17 0),(37,.bool false),(36,.bool false),(35,.bool false),(34,nI 0),(33,.bool false),(32,.bool false),(31,.bool (y589)),(6,nI 0),(5,nB w13),(0,nI x5),(1,.slice pa1 K1.length ca1)]) (by kernel_rfl) ?_
   intro a610 hF609; clear hF607
   have hS611:=hS594.pick1
   clear hS594
   refine ev_call 10 #[nP z17 0] hF609 rfl rfl (by kernel_rfl) rfl (by kernel_rfl) (fun w=>by kernel_rfl) ?_
   refine (p_Arena hS611).mono ?_
   rintro _ w612 ⟨rfl,hS614⟩ a613 hF615; clear hF609 hS611
   refine ev_runK 2 hF615 [0,1,5,45] (l':=[(45,.bool false),(5,nB w13),(0,nI x5),(1,.slice pa1 K1.length ca1)]) (w':=w612) (by kernel_rfl) ?_
   intro a617 hF616; clear hF615
   refine wpList_nil ?_
   have hS618:=hS614.pick1
   clear hS614
   exact thenN ⟨false,hF616,hS618,hm602⟩
end Go.Proofs.Ytjdlnmbfomojdaa
namespace Go.Proofs.Ytjdlnmbfomojdaa
open Go.RowKit
def allS:Nat→(List Bool→Bool)→Bool
  | 0,p=>p []
  | m+1,p=>allS m (fun l=>p (true::l)) && allS m (fun l=>p (false::l))
def hfOk (a:Nat) (M:List Bool):Bool:=decide (HeapFinals.m 400 ((a:Nat):Int) M=some true)
end Go.Proofs.Ytjdlnmbfomojdaa
namespace Go.Proofs.Ytjdlnmbfomojdaa
open Go.RowKit
set_option maxHeartbeats 0 in
theorem hf_9_11111:allS 5 (fun l=>hfOk 9 ([true,true,true,true,true] ++ l))=true:=by decide +kernel
set_option maxHeartbeats 0 in
theorem hf_9_10001:allS 5 (fun l=>hfOk 9 ([true,false,false,false,true] ++ l))=true:=by decide +kernel
set_option maxHeartbeats 0 in
theorem hf_9_00011:allS 5 (fun l=>hfOk 9 ([false,false,false,true,true] ++ l))=true:=by decide +kernel
set_option maxHeartbeats 0 in
theorem hf_7_011:allS 5 (fun l=>hfOk 7 ([false,true,true] ++ l))=true:=by decide +kernel
set_option maxHeartbeats 0 in
theorem hf_5_1:allS 5 (fun l=>hfOk 5 ([true] ++ l))=true:=by decide +kernel
end Go.Proofs.Ytjdlnmbfomojdaa
