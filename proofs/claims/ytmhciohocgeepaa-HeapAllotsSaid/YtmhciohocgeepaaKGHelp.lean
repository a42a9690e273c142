/- GHelp G09 GHeapAllots -/
import Derived.Test.YtmhciohocgeepaaKPrim
import Derived.Test.YtmhciohocgeepaaKEv2
import Derived.Test.YtmhciohocgeepaaKEvMap
import Derived.Test.YtmhciohocgeepaaKRowB
import Derived.Test.YtmhciohocgeepaaKArgK
import Derived.Test.YtmhciohocgeepaaKAppM
import Derived.Test.YtmhciohocgeepaaKMem
import Derived.Deep.LoopGhost
import Derived.KernelRfl
namespace Go.Proofs.Ytmhciohocgeepaa
open Go.RowKit
set_option linter.unusedVariables false
end Go.Proofs.Ytmhciohocgeepaa
namespace Go.Proofs.Ytmhciohocgeepaa
open Go.RowKit
set_option linter.unusedVariables false
def law09_sizes.m (k:Nat) (i0:Int):Option (Int):=(if (inR i0 ([0,9,3,7,10,2,2]).length) then some (atI [0,9,3,7,10,2,2] i0) else none)
set_option maxRecDepth 100000 in
set_option maxHeartbeats 1500000 in
theorem law09_sizes.ok {w0 w:World} {F0:List Nat} {ps:List Piece} {k:Nat} {i0:Int} {r0:Int} (hS:St w0 F0 (ps) w) (hm:law09_sizes.m k i0=some r0) :
    Calls Try.prog 11 #[nI i0] w fun e w'=>e=.returned (.int .i64 r0)∧St w0 F0 (ps) w':=by
 refine ev_enterL 7 [nI i0] Try.func11 rfl rfl (by simp) ?_
 intro a hF
 have hF0:Fr 7 a [(0,nI i0)]:=hF; clear hF
 unfold law09_sizes.m at hm
 refine wp_seq (wp_region_lit ?_)
 refine ev_runK 1 hF0 [0] (l':=[(0,nI i0)]) (w':=w) (by kernel_rfl) ?_
 intro a2 hF1; clear hF0
 refine wpList_nil (thenN (wp_seq (wp_region_lit ?_)))
 refine ev_runs 1 hF1 (l':=[(3,.slice (some ⟨w.heap.size,0,none⟩) 7 7),(0,nI i0)]) (w':=w.alloc (.cells #[nI 0,nI 9,nI 3,nI 7,nI 10,nI 2,nI 2] 3)) (by kernel_rfl) ?_
 intro a4 hF3; clear hF1
 have hS6:St w0 F0 (RowP (.slice (some ⟨w.heap.size,0,none⟩) 7 7) [0,9,3,7,10,2,2]::ps) (w.alloc (.cells #[nI 0,nI 9,nI 3,nI 7,nI 10,nI 2,nI 2] 3)):=St.lit hS [0,9,3,7,10,2,2] (by unfold maxLen; simp)
 refine ev_runs 1 hF3 (l':=[(4,nI i0),(3,.slice (some ⟨w.heap.size,0,none⟩) 7 7),(0,nI i0)]) (w':=w.alloc (.cells #[nI 0,nI 9,nI 3,nI 7,nI 10,nI 2,nI 2] 3)) (by kernel_rfl) ?_
 intro a8 hF7; clear hF3
 obtain ⟨hc9,hm10⟩:=ifTE hm; clear hm
 refine ev_one (nP (w.heap.size) (i0.toNat)) (w.alloc (.cells #[nI 0,nI 9,nI 3,nI 7,nI 10,nI 2,nI 2] 3)) hF7 (by kernel_rfl) rfl (by kernel_rfl) (run_idx rfl rfl rfl rfl rfl (inR_spec hc9).1 (inR_spec hc9).2 _) (l':=[(5,nP (w.heap.size) (i0.toNat)),(4,nI i0),(3,.slice (some ⟨w.heap.size,0,none⟩) 7 7),(0,nI i0)]) (by kernel_rfl) ?_
 intro a12 hF11; clear hF7
 refine ev_one (nI (atI [0,9,3,7,10,2,2] i0)) (w.alloc (.cells #[nI 0,nI 9,nI 3,nI 7,nI 10,nI 2,nI 2] 3)) hF11 (by kernel_rfl) rfl (by kernel_rfl) (run_load1 rfl rfl rfl (hS6.atI 0 rfl hc9)) (l':=[(6,nI (atI [0,9,3,7,10,2,2] i0)),(5,nP (w.heap.size) (i0.toNat)),(4,nI i0),(3,.slice (some ⟨w.heap.size,0,none⟩) 7 7),(0,nI i0)]) (by kernel_rfl) ?_
 intro a14 hF13; clear hF11
 refine ev_runK 1 hF13 [2] (l':=[(2,nI (atI [0,9,3,7,10,2,2] i0))]) (w':=w.alloc (.cells #[nI 0,nI 9,nI 3,nI 7,nI 10,nI 2,nI 2] 3)) (by kernel_rfl) ?_
 intro a16 hF15; clear hF13
 refine wpList_nil ?_
 have hS17:=hS6.drop
 clear hS6
 refine thenN ?_
 refine wp_ret ?_
 obtain rfl:=Option.some.inj hm10
 refine ev_ret hF15 [2] (nI (atI [0,9,3,7,10,2,2] i0)) rfl rfl rfl ?_
 exact ⟨rfl,hS17⟩
def law09_awake.j1 (y53:Bool):Option (Bool):=some (y53)
def law09_awake.m (k:Nat):Option (Bool):=bind1 (pNew 2) fun s3=>bind3 (pAlloc 5 2 s3) fun x26 x27 s28=>bind2 (pBegin s28 [x26]) fun x42 s43=>(if (x27 == 0) then (if (x42 == 0) then (if (s43.ph == 1) then bind1 (pColour x26 s43) fun x82=>(if (x82 == 1) then bind2 (pStep s43) fun L95 s96=>(if ((L95.length:Int) == 0) then bind1 (pColour x26 s96) fun x115=>law09_awake.j1 (x115 == 2) else law09_awake.j1 false) else law09_awake.j1 false) else law09_awake.j1 false) else law09_awake.j1 false) else law09_awake.j1 false)
set_option maxRecDepth 100000 in
set_option maxHeartbeats 1500000 in
theorem law09_awake.ok {w0 w:World} {F0:List Nat} {ps:List Piece} {k:Nat}  {r0:Bool} (hS:St w0 F0 (ps) w) (hm:law09_awake.m k=some r0) :
    Calls Try.prog 5 #[] w fun e w'=>e=.returned (.bool r0)∧St w0 F0 (ps) w':=by
 refine ev_enterL 59 [] Try.func5 rfl rfl (by simp) ?_
 intro a hF
 have hF0:Fr 59 a []:=hF; clear hF
 unfold law09_awake.m at hm
 refine wp_seq (wp_region_lit ?_)
 refine ev_runK 1 hF0 [] (l':=[]) (w':=w) (by kernel_rfl) ?_
 intro a2 hF1; clear hF0
 refine wpList_nil (thenN (wp_seq (wp_region_lit ?_)))
 refine ev_call 4 #[nI 2] hF1 rfl rfl (by kernel_rfl) rfl (by kernel_rfl) (fun w=>by kernel_rfl) ?_
 obtain ⟨s3,hx4,hm5⟩:=bind1E hm; clear hm
 refine (p_New hS hx4).mono ?_
 rintro _ w6 ⟨z10,z11,rfl,hS8⟩ a7 hF9; clear hF1 hS
 refine ev_runK 5 hF9 [1,2] (l':=[(2,nI 0),(1,nP z10 0)]) (w':=w6) (by kernel_rfl) ?_
 intro a14 hF13; clear hF9
 refine wpList_nil (thenN (wp_seq (wp_seq (wp_region_lit ?_))))
 refine ev_runs 8 hF13 (l':=[(17,nP z10 0),(16,.bool false),(15,.bool false),(14,.bool false),(13,nP z10 0),(12,.bool false),(11,.bool false),(10,nI 0),(2,nI 0),(1,nP z10 0)]) (w':=w6) (by kernel_rfl) ?_
 intro a16 hF15; clear hF13
 refine ev_call 6 #[nP z10 0] hF15 rfl rfl (by kernel_rfl) rfl (by kernel_rfl) (fun w=>by kernel_rfl) ?_
 refine (p_Arena hS8).mono ?_
 rintro _ w17 ⟨rfl,hS19⟩ a18 hF20; clear hF15 hS8
 refine ev_runK 2 hF20 [1,20] (l':=[(20,.bool false),(1,nP z10 0)]) (w':=w17) (by kernel_rfl) ?_
 intro a22 hF21; clear hF20
 refine wpList_nil (thenN ?_)
 refine ev_condF hF21 rfl rfl ?_
 refine wp_skip ?_
 have hF23:=hF21.keep [1]
 clear hF21
 refine thenN (wp_seq (wp_region_lit ?_))
 refine ev_runs 1 hF23 (l':=[(22,nP z10 0),(1,nP z10 0)]) (w':=w17) (by kernel_rfl) ?_
 intro a25 hF24; clear hF23
 refine ev_call 7 #[nP z10 0,nI 5,nI 2] hF24 rfl rfl (by kernel_rfl) rfl (by kernel_rfl) (fun w=>by kernel_rfl) ?_
 obtain ⟨x26,x27,s28,hx29,hm30⟩:=bind3E hm5; clear hm5
 refine (p_Alloc hS19 hx29).mono ?_
 rintro _ w31 ⟨rfl,hS33⟩ a32 hF34; clear hF24 hS19
 refine ev_runK 5 hF34 [1,3,4] (l':=[(4,nI x27),(3,nI x26),(1,nP z10 0)]) (w':=w31) (by kernel_rfl) ?_
 intro a36 hF35; clear hF34
 refine wpList_nil (thenN (wp_seq (wp_region_lit ?_)))
 refine ev_runs 3 hF35 (l':=[(28,.slice (some ⟨w31.heap.size,0,none⟩) 1 1),(27,nI x26),(26,nP z10 0),(4,nI x27),(3,nI x26),(1,nP z10 0)]) (w':=w31.alloc (.cells #[nI x26] 3)) (by kernel_rfl) ?_
 intro a38 hF37; clear hF35
 have hS40:St w0 F0 (RowP (.slice (some ⟨w31.heap.size,0,none⟩) 1 1) [x26]::HeapP z10 z11 s28::ps) (w31.alloc (.cells #[nI x26] 3)):=St.lit hS33 [x26] (by unfold maxLen; simp)
 clear hS33
 have hS41:=hS40.pick1
 clear hS40
 refine ev_call 8 #[nP z10 0,.slice (some ⟨w31.heap.size,0,none⟩) 1 1] hF37 rfl rfl (by kernel_rfl) rfl (by kernel_rfl) (fun w=>by kernel_rfl) ?_
 obtain ⟨x42,s43,hx44,hm45⟩:=bind2E hm30; clear hm30
 refine (p_Begin hS41 hx44).mono ?_
 rintro _ w46 ⟨rfl,hS48⟩ a47 hF49; clear hF37 hS41
 refine ev_runK 1 hF49 [1,3,4,5] (l':=[(5,nI x42),(4,nI x27),(3,nI x26),(1,nP z10 0)]) (w':=w46) (by kernel_rfl) ?_
 intro a51 hF50; clear hF49
 refine wpList_nil ?_
 have hS52:=hS48.pick1.drop
 clear hS48
 refine thenN (wp_seq ?_)
 refine joinQ (fun aI wI=>∃ (y53:Bool),Fr 59 aI [(0,.bool (y53))]∧St w0 F0 (ps) wI∧law09_awake.j1 y53=some r0) ?_ ?_
 rotate_left
 · rintro a55 w56 ⟨y53,hF57,hS58,hm59⟩
   clear hF50 hS52 hm45
   unfold law09_awake.j1 at hm59
   refine thenN ?_
   refine wp_ret ?_
   obtain rfl:=Option.some.inj hm59
   refine ev_ret hF57 [0] (.bool (y53)) rfl rfl rfl ?_
   exact ⟨rfl,hS58⟩
 · skip
   refine wp_region_lit ?_
   refine ev_runs 3 hF50 (l':=[(32,.bool (x27 == 0)),(31,.bool (x27 == 0)),(30,nI x27),(5,nI x42),(4,nI x27),(3,nI x26),(1,nP z10 0)]) (w':=w46) (by kernel_rfl) ?_
   intro a63 hF62; clear hF50
   cases hc64:(x27 == 0)
   case true =>
    rw [hc64] at hF62
    have hm65:=ifYes hc64 hm45; clear hm45
    refine ev_runs 4 hF62 (l':=[(36,.bool (x42 == 0)),(35,.bool (x42 == 0)),(34,.bool (x42 == 0)),(33,nI x42),(32,.bool true),(31,.bool true),(30,nI x27),(5,nI x42),(4,nI x27),(3,nI x26),(1,nP z10 0)]) (w':=w46) (by kernel_rfl) ?_
    intro a67 hF66; clear hF62
    cases hc68:(x42 == 0)
    case true =>
     rw [hc68] at hF66
     have hm69:=ifYes hc68 hm65; clear hm65
     refine ev_runs 1 hF66 (l':=[(37,nP z10 0),(36,.bool true),(35,.bool true),(34,.bool true),(33,nI x42),(32,.bool true),(31,.bool true),(30,nI x27),(5,nI x42),(4,nI x27),(3,nI x26),(1,nP z10 0)]) (w':=w46) (by kernel_rfl) ?_
     intro a71 hF70; clear hF66
     refine ev_call 10 #[nP z10 0] hF70 rfl rfl (by kernel_rfl) rfl (by kernel_rfl) (fun w=>by kernel_rfl) ?_
     refine (p_Phase hS52).mono ?_
     rintro _ w72 ⟨rfl,hS74⟩ a73 hF75; clear hF70 hS52
     refine ev_runs 3 hF75 (l':=[(41,.bool (s43.ph == 1)),(40,.bool (s43.ph == 1)),(39,.bool (s43.ph == 1)),(38,nI (s43.ph)),(37,nP z10 0),(36,.bool true),(35,.bool true),(34,.bool true),(33,nI x42),(32,.bool true),(31,.bool true),(30,nI x27),(5,nI x42),(4,nI x27),(3,nI x26),(1,nP z10 0)]) (w':=w72) (by kernel_rfl) ?_
     intro a77 hF76; clear hF75
     cases hc78:(s43.ph == 1)
     case true =>
      rw [hc78] at hF76
      have hm79:=ifYes hc78 hm69; clear hm69
      refine ev_runs 2 hF76 (l':=[(43,nI x26),(42,nP z10 0),(41,.bool true),(40,.bool true),(39,.bool true),(38,nI (s43.ph)),(37,nP z10 0),(36,.bool true),(35,.bool true),(34,.bool true),(33,nI x42),(32,.bool true),(31,.bool true),(30,nI x27),(5,nI x42),(4,nI x27),(3,nI x26),(1,nP z10 0)]) (w':=w72) (by kernel_rfl) ?_
      intro a81 hF80; clear hF76
      refine ev_call 12 #[nP z10 0,nI x26] hF80 rfl rfl (by kernel_rfl) rfl (by kernel_rfl) (fun w=>by kernel_rfl) ?_
      obtain ⟨x82,hx83,hm84⟩:=bind1E hm79; clear hm79
      refine (p_Colour hS74 hx83).mono ?_
      rintro _ w85 ⟨rfl,hS87⟩ a86 hF88; clear hF80 hS74
      refine ev_runs 3 hF88 (l':=[(47,.bool (x82 == 1)),(46,.bool (x82 == 1)),(45,.bool (x82 == 1)),(44,nI x82),(43,nI x26),(42,nP z10 0),(41,.bool true),(40,.bool true),(39,.bool true),(38,nI (s43.ph)),(37,nP z10 0),(36,.bool true),(35,.bool true),(34,.bool true),(33,nI x42),(32,.bool true),(31,.bool true),(30,nI x27),(5,nI x42),(4,nI x27),(3,nI x26),(1,nP z10 0)]) (w':=w85) (by kernel_rfl) ?_
      intro a90 hF89; clear hF88
      cases hc91:(x82 == 1)
      case true =>
       rw [hc91] at hF89
       have hm92:=ifYes hc91 hm84; clear hm84
       refine ev_runs 1 hF89 (l':=[(48,nP z10 0),(47,.bool true),(46,.bool true),(45,.bool true),(44,nI x82),(43,nI x26),(42,nP z10 0),(41,.bool true),(40,.bool true),(39,.bool true),(38,nI (s43.ph)),(37,nP z10 0),(36,.bool true),(35,.bool true),(34,.bool true),(33,nI x42),(32,.bool true),(31,.bool true),(30,nI x27),(5,nI x42),(4,nI x27),(3,nI x26),(1,nP z10 0)]) (w':=w85) (by kernel_rfl) ?_
       intro a94 hF93; clear hF89
       refine ev_call 9 #[nP z10 0] hF93 rfl rfl (by kernel_rfl) rfl (by kernel_rfl) (fun w=>by kernel_rfl) ?_
       obtain ⟨L95,s96,hx97,hm98⟩:=bind2E hm92; clear hm92
       refine (p_Step hS87 hx97).mono ?_
       rintro _ w99 ⟨z103,rfl,hS101⟩ a100 hF102; clear hF93 hS87
       obtain ⟨hl108,p105,c106,rfl,hp107⟩:=St.shapeG (k:=1) hS101 rfl
       refine ev_runs 4 hF102 (l':=[(53,.bool ((L95.length:Int) == 0)),(52,.bool ((L95.length:Int) == 0)),(51,.bool ((L95.length:Int) == 0)),(50,nI ((L95.length:Int))),(49,.slice p105 L95.length c106),(48,nP z10 0),(47,.bool true),(46,.bool true),(45,.bool true),(44,nI x82),(43,nI x26),(42,nP z10 0),(41,.bool true),(40,.bool true),(39,.bool true),(38,nI (s43.ph)),(37,nP z10 0),(36,.bool true),(35,.bool true),(34,.bool true),(33,nI x42),(32,.bool true),(31,.bool true),(30,nI x27),(5,nI x42),(4,nI x27),(3,nI x26),(1,nP z10 0)]) (w':=w99) (by kernel_rfl) ?_
       intro a110 hF109; clear hF102
       cases hc111:((L95.length:Int) == 0)
       case true =>
        rw [hc111] at hF109
        have hm112:=ifYes hc111 hm98; clear hm98
        refine ev_runs 2 hF109 (l':=[(55,nI x26),(54,nP z10 0),(53,.bool true),(52,.bool true),(51,.bool true),(50,nI ((L95.length:Int))),(49,.slice p105 L95.length c106),(48,nP z10 0),(47,.bool true),(46,.bool true),(45,.bool true),(44,nI x82),(43,nI x26),(42,nP z10 0),(41,.bool true),(40,.bool true),(39,.bool true),(38,nI (s43.ph)),(37,nP z10 0),(36,.bool true),(35,.bool true),(34,.bool true),(33,nI x42),(32,.bool true),(31,.bool true),(30,nI x27),(5,nI x42),(4,nI x27),(3,nI x26),(1,nP z10 0)]) (w':=w99) (by kernel_rfl) ?_
        intro a114 hF113; clear hF109
        refine ev_call 12 #[nP z10 0,nI x26] hF113 rfl rfl (by kernel_rfl) rfl (by kernel_rfl) (fun w=>by kernel_rfl) ?_
        obtain ⟨x115,hx116,hm117⟩:=bind1E hm112; clear hm112
        refine (p_Colour hS101 hx116).mono ?_
        rintro _ w118 ⟨rfl,hS120⟩ a119 hF121; clear hF113 hS101
        refine ev_runK 3 hF121 [0] (l':=[(0,.bool (x115 == 2))]) (w':=w118) (by kernel_rfl) ?_
        intro a123 hF122; clear hF121
        refine wpList_nil ?_
        have hS124:=hS120.drop.drop
        clear hS120
        exact thenN ⟨x115 == 2,hF122,hS124,hm117⟩
       rw [hc111] at hF109
       have hm125:=ifNot hc111 hm98; clear hm98
       refine ev_runK 6 hF109 [0] (l':=[(0,.bool false)]) (w':=w99) (by kernel_rfl) ?_
       intro a127 hF126; clear hF109
       refine wpList_nil ?_
       have hS128:=hS101.drop.drop
       clear hS101
       exact thenN ⟨false,hF126,hS128,hm125⟩
      rw [hc91] at hF89
      have hm129:=ifNot hc91 hm84; clear hm84
      refine ev_runK 12 hF89 [0] (l':=[(0,.bool false)]) (w':=w85) (by kernel_rfl) ?_
      intro a131 hF130; clear hF89
      refine wpList_nil ?_
      have hS132:=hS87.drop
      clear hS87
      exact thenN ⟨false,hF130,hS132,hm129⟩
     rw [hc78] at hF76
     have hm133:=ifNot hc78 hm69; clear hm69
     refine ev_runK 18 hF76 [0] (l':=[(0,.bool false)]) (w':=w72) (by kernel_rfl) ?_
     intro a135 hF134; clear hF76
     refine wpList_nil ?_
     have hS136:=hS74.drop
     clear hS74
     exact thenN ⟨false,hF134,hS136,hm133⟩
    rw [hc68] at hF66
    have hm137:=ifNot hc68 hm65; clear hm65
    refine ev_runK 23 hF66 [0] (l':=[(0,.bool false)]) (w':=w46) (by kernel_rfl) ?_
    intro a139 hF138; clear hF66
    refine wpList_nil ?_
    have hS140:=hS52.drop
    clear hS52
    exact thenN ⟨false,hF138,hS140,hm137⟩
   rw [hc64] at hF62
   have hm141:=ifNot hc64 hm45; clear hm45
   refine ev_runK 27 hF62 [0] (l':=[(0,.bool false)]) (w':=w46) (by kernel_rfl) ?_
   intro a143 hF142; clear hF62
   refine wpList_nil ?_
   have hS144:=hS52.drop
   clear hS52
   exact thenN ⟨false,hF142,hS144,hm141⟩
end Go.Proofs.Ytmhciohocgeepaa
namespace Go.Proofs.Ytmhciohocgeepaa
open Go.RowKit
set_option linter.unusedVariables false
def HeapAllots.j15 (y282:Bool):Option (Bool):=some (y282)
def HeapAllots.l14b (K2:List Int) (x48:Int) (L80:List Int) (s197:HSt) (rec243:Int→Option (Bool)) (x240:Int):Option (Bool):=(if (decide (x240<(L80.length:Int))) then (if (inR x240 L80.length) then (if ((aKind s197.a.c (atI L80 x240)) == 0) then some (false) else rec243 (IntKind.i64.wrap (x240+1))) else none) else (if (s197.ph == 0) then (if (s197.cy == 1) then (if (decide ((K2.length:Int) > 0)) then HeapAllots.j15 true else HeapAllots.j15 ((aKind s197.a.c x48) == 0)) else HeapAllots.j15 false) else HeapAllots.j15 false))
def HeapAllots.l14 (K2:List Int) (x48:Int) (L80:List Int) (s197:HSt):Nat→Int→Option (Bool)
  | 0=>fun _=>none
  | kI+1=>HeapAllots.l14b K2 x48 L80 s197 (HeapAllots.l14 K2 x48 L80 s197 kI)
def HeapAllots.j13 (K2:List Int) (k:Nat) (x48:Int) (L80:List Int) (s197:HSt) (x198:Int) (rec201:HSt→Int→Option (Bool)) (y206:Bool):Option (Bool):=(if (y206) then bind2 (pStep s197) fun L219 s220=>rec201 s220 (IntKind.i64.wrap (x198+1)) else HeapAllots.l14 K2 x48 L80 s197 k 0)
def HeapAllots.l12b (K2:List Int) (k:Nat) (x48:Int) (L80:List Int) (rec201:HSt→Int→Option (Bool)) (s197:HSt) (x198:Int):Option (Bool):=(if (decide (x198<200)) then HeapAllots.j13 K2 k x48 L80 s197 x198 rec201 (s197.ph != 0) else HeapAllots.j13 K2 k x48 L80 s197 x198 rec201 false)
def HeapAllots.l12 (K2:List Int) (k:Nat) (x48:Int) (L80:List Int):Nat→HSt→Int→Option (Bool)
  | 0=>fun _ _=>none
  | kI+1=>HeapAllots.l12b K2 k x48 L80 (HeapAllots.l12 K2 k x48 L80 kI)
def HeapAllots.j16 (x83:Int) (rec86:List Int→HSt→Int→Option (Bool)) (s182:HSt) (L361:List Int):Option (Bool):=rec86 L361 s182 (IntKind.i64.wrap (x83+1))
def HeapAllots.l10b (K2:List Int) (k:Nat) (x11:Int) (x48:Int) (L80:List Int) (x83:Int) (rec86:List Int→HSt→Int→Option (Bool)) (rec112:HSt→Int→Option (Bool)) (s108:HSt) (x109:Int):Option (Bool):=(if (decide (x109<(Int.tmod x11 4))) then bind2 (pStep s108) fun L125 s126=>rec112 s126 (IntKind.i64.wrap (x109+1)) else (if (inR x83 K2.length) then bind1 (some (IntKind.i64.wrap (1+(IntKind.i64.wrap (Int.tmod (IntKind.u64.wrap (atI K2 x83)) 6))))) fun x157=>bind1 (law09_sizes.m k x157) fun x173=>bind3 (pAlloc x157 x173 s108) fun x180 x181 s182=>(if (x181 != 0) then HeapAllots.l12 K2 k x48 L80 k s182 0 else (if (s108.ph != 0) then bind1 (pushM L80 x180) fun L382=>bind1 (pColour x180 s182) fun x396=>(if (x396 != 2) then some (false) else HeapAllots.j16 x83 rec86 s182 L382) else HeapAllots.j16 x83 rec86 s182 L80)) else none))
def HeapAllots.l10 (K2:List Int) (k:Nat) (x11:Int) (x48:Int) (L80:List Int) (x83:Int) (rec86:List Int→HSt→Int→Option (Bool)):Nat→HSt→Int→Option (Bool)
  | 0=>fun _ _=>none
  | kI+1=>HeapAllots.l10b K2 k x11 x48 L80 x83 rec86 (HeapAllots.l10 K2 k x11 x48 L80 x83 rec86 kI)
def HeapAllots.j21 (y505:Bool):Option (Bool):=some (y505)
def HeapAllots.l20b (K2:List Int) (x48:Int) (L80:List Int) (s419:HSt) (rec466:Int→Option (Bool)) (x463:Int):Option (Bool):=(if (decide (x463<(L80.length:Int))) then (if (inR x463 L80.length) then (if ((aKind s419.a.c (atI L80 x463)) == 0) then some (false) else rec466 (IntKind.i64.wrap (x463+1))) else none) else (if (s419.ph == 0) then (if (s419.cy == 1) then (if (decide ((K2.length:Int) > 0)) then HeapAllots.j21 true else HeapAllots.j21 ((aKind s419.a.c x48) == 0)) else HeapAllots.j21 false) else HeapAllots.j21 false))
def HeapAllots.l20 (K2:List Int) (x48:Int) (L80:List Int) (s419:HSt):Nat→Int→Option (Bool)
  | 0=>fun _=>none
  | kI+1=>HeapAllots.l20b K2 x48 L80 s419 (HeapAllots.l20 K2 x48 L80 s419 kI)
def HeapAllots.j19 (K2:List Int) (k:Nat) (x48:Int) (L80:List Int) (s419:HSt) (x420:Int) (rec423:HSt→Int→Option (Bool)) (y428:Bool):Option (Bool):=(if (y428) then bind2 (pStep s419) fun L441 s442=>rec423 s442 (IntKind.i64.wrap (x420+1)) else HeapAllots.l20 K2 x48 L80 s419 k 0)
def HeapAllots.l18b (K2:List Int) (k:Nat) (x48:Int) (L80:List Int) (rec423:HSt→Int→Option (Bool)) (s419:HSt) (x420:Int):Option (Bool):=(if (decide (x420<200)) then HeapAllots.j19 K2 k x48 L80 s419 x420 rec423 (s419.ph != 0) else HeapAllots.j19 K2 k x48 L80 s419 x420 rec423 false)
def HeapAllots.l18 (K2:List Int) (k:Nat) (x48:Int) (L80:List Int):Nat→HSt→Int→Option (Bool)
  | 0=>fun _ _=>none
  | kI+1=>HeapAllots.l18b K2 k x48 L80 (HeapAllots.l18 K2 k x48 L80 kI)
def HeapAllots.j9 (K2:List Int) (k:Nat) (x11:Int) (x48:Int) (L80:List Int) (s82:HSt) (x83:Int) (rec86:List Int→HSt→Int→Option (Bool)) (y95:Bool):Option (Bool):=(if (y95) then HeapAllots.l10 K2 k x11 x48 L80 x83 rec86 k s82 0 else HeapAllots.l18 K2 k x48 L80 k s82 0)
def HeapAllots.l8b (K2:List Int) (k:Nat) (x11:Int) (x48:Int) (rec86:List Int→HSt→Int→Option (Bool)) (L80:List Int) (s82:HSt) (x83:Int):Option (Bool):=(if (decide (x83<(K2.length:Int))) then HeapAllots.j9 K2 k x11 x48 L80 s82 x83 rec86 (decide (x83<10)) else HeapAllots.j9 K2 k x11 x48 L80 s82 x83 rec86 false)
def HeapAllots.l8 (K2:List Int) (k:Nat) (x11:Int) (x48:Int):Nat→List Int→HSt→Int→Option (Bool)
  | 0=>fun _ _ _=>none
  | kI+1=>HeapAllots.l8b K2 k x11 x48 (HeapAllots.l8 K2 k x11 x48 kI)
def HeapAllots.j1 (K2:List Int) (k:Nat) (x11:Int) (s18:HSt) (y30:Bool):Option (Bool):=(if (y30) then some (false) else bind3 (pAlloc 5 2 s18) fun x48 x49 s50=>bind2 (pBegin s50 []) fun x64 s65=>HeapAllots.l8 K2 k x11 x48 k [] s65 0)
def HeapAllots.m (k:Nat) (i0:Int) (i1:Int) (K2:List Int):Option (Bool):=bind1 (some (IntKind.i64.wrap (3+(IntKind.i64.wrap (Int.tmod (IntKind.u64.wrap i0) 5))))) fun x5=>bind1 (some (IntKind.i64.wrap (Int.tmod (IntKind.u64.wrap i1) 12))) fun x11=>bind1 (pNew x5) fun s18=>bind1 (law09_awake.m k ) fun y591=>(if (!(y591)) then HeapAllots.j1 K2 k x11 s18 true else HeapAllots.j1 K2 k x11 s18 false)
set_option maxRecDepth 100000 in
set_option maxHeartbeats 40000000 in
theorem HeapAllots.ok {w0 w:World} {ps:List Piece} {k:Nat} {i0:Int} {i1:Int} {pa2:Option Addr} {ca2:Nat} {K2:List Int} (hA2:ArgInts w0 (.slice pa2 K2.length ca2) K2) {r0:Bool} (hS:St w0 [] (ps) w) (hm:HeapAllots.m k i0 i1 K2=some r0) :
    Calls Try.prog 3 #[nI i0,nI i1,.slice pa2 K2.length ca2] w fun e w'=>e=.returned (.bool r0)∧St w0 [] (ps) w':=by
 refine ev_enterL 149 [nI i0,nI i1,.slice pa2 K2.length ca2] Try.func3 rfl rfl (by simp) ?_
 intro a hF
 have hF0:Fr 149 a [(0,nI i0),(1,nI i1),(2,.slice pa2 K2.length ca2)]:=hF; clear hF
 unfold HeapAllots.m at hm
 refine wp_seq (wp_region_lit ?_)
 refine ev_runK 1 hF0 [0,1,2] (l':=[(0,nI i0),(1,nI i1),(2,.slice pa2 K2.length ca2)]) (w':=w) (by kernel_rfl) ?_
 intro a2 hF1; clear hF0
 refine wpList_nil (thenN (wp_seq (wp_region_lit ?_)))
 refine ev_runs 10 hF1 (l':=[(0,nI (IntKind.i64.wrap (3+(IntKind.i64.wrap (Int.tmod (IntKind.u64.wrap i0) 5))))),(28,nI (IntKind.i64.wrap (Int.tmod (IntKind.u64.wrap i1) 12))),(27,.int .u64 (Int.tmod (IntKind.u64.wrap i1) 12)),(26,.int .u64 (IntKind.u64.wrap i1)),(25,nI i1),(24,nI (IntKind.i64.wrap (3+(IntKind.i64.wrap (Int.tmod (IntKind.u64.wrap i0) 5))))),(23,nI (IntKind.i64.wrap (Int.tmod (IntKind.u64.wrap i0) 5))),(22,.int .u64 (Int.tmod (IntKind.u64.wrap i0) 5)),(21,.int .u64 (IntKind.u64.wrap i0)),(20,nI i0),(1,nI i1),(2,.slice pa2 K2.length ca2)]) (w':=w) (by kernel_rfl) ?_
 intro a4 hF3; clear hF1
 obtain ⟨x5,hx6,hm7⟩:=bind1E hm; clear hm
 have hF8:=hF3; rw [Option.some.inj hx6] at hF8; clear hF3
 refine ev_runs 1 hF8 (l':=[(1,nI (IntKind.i64.wrap (Int.tmod (IntKind.u64.wrap i1) 12))),(0,nI x5),(28,nI (IntKind.i64.wrap (Int.tmod (IntKind.u64.wrap i1) 12))),(27,.int .u64 (Int.tmod (IntKind.u64.wrap i1) 12)),(26,.int .u64 (IntKind.u64.wrap i1)),(25,nI i1),(24,nI x5),(23,nI (IntKind.i64.wrap (Int.tmod (IntKind.u64.wrap i0) 5))),(22,.int .u64 (Int.tmod (IntKind.u64.wrap i0) 5)),(21,.int .u64 (IntKind.u64.wrap i0)),(20,nI i0),(2,.slice pa2 K2.length ca2)]) (w':=w) (by kernel_rfl) ?_
 intro a10 hF9; clear hF8
 obtain ⟨x11,hx12,hm13⟩:=bind1E hm7; clear hm7
 have hF14:=hF9; rw [Option.some.inj hx12] at hF14; clear hF9
 refine wpList_nil ?_
 have hF15:=hF14.keep [0,1,2]
 clear hF14
 refine thenN (wp_seq (wp_region_lit ?_))
 refine ev_runs 1 hF15 (l':=[(30,nI x5),(1,nI x11),(0,nI x5),(2,.slice pa2 K2.length ca2)]) (w':=w) (by kernel_rfl) ?_
 intro a17 hF16; clear hF15
 refine ev_call 4 #[nI x5] hF16 rfl rfl (by kernel_rfl) rfl (by kernel_rfl) (fun w=>by kernel_rfl) ?_
 obtain ⟨s18,hx19,hm20⟩:=bind1E hm13; clear hm13
 refine (p_New hS hx19).mono ?_
 rintro _ w21 ⟨z25,z26,rfl,hS23⟩ a22 hF24; clear hF16 hS
 refine ev_runK 5 hF24 [1,2,7,8] (l':=[(8,nI 0),(7,nP z25 0),(1,nI x11),(2,.slice pa2 K2.length ca2)]) (w':=w21) (by kernel_rfl) ?_
 intro a29 hF28; clear hF24
 refine wpList_nil (thenN (wp_seq (wp_seq ?_)))
 refine joinQ (fun aI wI=>∃ (y30:Bool),Fr 149 aI [(48,.bool (y30)),(7,nP z25 0),(1,nI x11),(2,.slice pa2 K2.length ca2)]∧St w0 [] (HeapP z25 z26 s18::ps) wI∧HeapAllots.j1 K2 k x11 s18 y30=some r0) ?_ ?_
 rotate_left
 · rintro a32 w33 ⟨y30,hF34,hS35,hm36⟩
   clear hF28 hS23 hm20
   unfold HeapAllots.j1 at hm36
   refine thenN ?_
   cases hc38:(y30)
   case true =>
    rw [hc38] at hF34
    have hm39:=ifYes hc38 hm36; clear hm36
    refine ev_condT hF34 rfl rfl ?_
    refine wp_seq (wp_region_lit ?_)
    refine ev_runK 1 hF34 [6] (l':=[(6,.bool false)]) (w':=w33) (by kernel_rfl) ?_
    intro a41 hF40; clear hF34
    refine wpList_nil ?_
    have hS42:=hS35.drop
    clear hS35
    refine thenN ?_
    refine wp_ret ?_
    refine thenR ?_
    obtain rfl:=Option.some.inj hm39
    refine ev_ret hF40 [6] (.bool false) rfl rfl rfl ?_
    exact ⟨rfl,hS42⟩
   rw [hc38] at hF34
   have hm44:=ifNot hc38 hm36; clear hm36
   refine ev_condF hF34 rfl rfl ?_
   refine wp_skip ?_
   have hF45:=hF34.keep [1,2,7]
   clear hF34
   refine thenN (wp_seq (wp_region_lit ?_))
   refine ev_runs 1 hF45 (l':=[(50,nP z25 0),(7,nP z25 0),(1,nI x11),(2,.slice pa2 K2.length ca2)]) (w':=w33) (by kernel_rfl) ?_
   intro a47 hF46; clear hF45
   refine ev_call 7 #[nP z25 0,nI 5,nI 2] hF46 rfl rfl (by kernel_rfl) rfl (by kernel_rfl) (fun w=>by kernel_rfl) ?_
   obtain ⟨x48,x49,s50,hx51,hm52⟩:=bind3E hm44; clear hm44
   refine (p_Alloc hS35 hx51).mono ?_
   rintro _ w53 ⟨rfl,hS55⟩ a54 hF56; clear hF46 hS35
   refine ev_runK 5 hF56 [1,2,7,9] (l':=[(9,nI x48),(7,nP z25 0),(1,nI x11),(2,.slice pa2 K2.length ca2)]) (w':=w53) (by kernel_rfl) ?_
   intro a58 hF57; clear hF56
   refine wpList_nil (thenN (wp_seq (wp_region_lit ?_)))
   refine ev_runs 1 hF57 (l':=[(54,nP z25 0),(9,nI x48),(7,nP z25 0),(1,nI x11),(2,.slice pa2 K2.length ca2)]) (w':=w53) (by kernel_rfl) ?_
   intro a60 hF59; clear hF57
   have hS62:St w0 [] (RowP (.slice none 0 0) []::HeapP z25 z26 s50::ps) w53:=St.nil hS55
   clear hS55
   have hS63:=hS62.pick1
   clear hS62
   refine ev_call 8 #[nP z25 0,.slice none 0 0] hF59 rfl rfl (by kernel_rfl) rfl (by kernel_rfl) (fun w=>by kernel_rfl) ?_
   obtain ⟨x64,s65,hx66,hm67⟩:=bind2E hm52; clear hm52
   refine (p_Begin hS63 hx66).mono ?_
   rintro _ w68 ⟨rfl,hS70⟩ a69 hF71; clear hF59 hS63
   refine wpList_nil ?_
   have hF72:=hF71.keep [1,2,7,9]
   clear hF71
   have hS73:=hS70.pick1.drop
   clear hS70
   refine thenN (wp_seq (wp_region_lit ?_))
   have hS75:St w0 [] (RowP (.slice none 0 0) []::HeapP z25 z26 s65::ps) w68:=St.nil hS73
   clear hS73
   refine ev_runs 1 hF72 (l':=[(11,.slice none 0 0),(9,nI x48),(7,nP z25 0),(1,nI x11),(2,.slice pa2 K2.length ca2)]) (w':=w68) (by kernel_rfl) ?_
   intro a77 hF76; clear hF72
   refine wpList_nil (thenN (wp_seq (wp_seq (wp_region_lit ?_))))
   refine ev_runs 1 hF76 (l':=[(12,nI 0),(11,.slice none 0 0),(9,nI x48),(7,nP z25 0),(1,nI x11),(2,.slice pa2 K2.length ca2)]) (w':=w68) (by kernel_rfl) ?_
   intro a79 hF78; clear hF76
   refine wpList_nil (thenN ?_)
   refine wp_block ?_
   refine wp_loop_ghost (fun kI aI wI=>∃ (v81:Value) (L80:List Int) (s82:HSt) (x83:Int),Fr 149 aI [(12,nI x83),(11,v81),(9,nI x48),(7,nP z25 0),(1,nI x11),(2,.slice pa2 K2.length ca2)]∧St w0 [] (RowP (v81) L80::HeapP z25 z26 s82::ps) wI∧HeapAllots.l8 K2 k x11 x48 kI L80 s82 x83=some r0) k ⟨.slice none 0 0,[],s65,0,hF78,hS75,hm67⟩ ?_
   rintro k84 a85 w86 ⟨v81,L80,s82,x83,hF87,hS88,hm89⟩
   clear hF78 hS75 hm67
   rcases k84 with _ | k84
   · cases hm89
   have hm90:HeapAllots.l8b K2 k x11 x48 (HeapAllots.l8 K2 k x11 x48 k84) L80 s82 x83=some r0:=hm89
   clear hm89
   unfold HeapAllots.l8b at hm90
   obtain ⟨hl94,p91,c92,rfl,hp93⟩:=St.shape hS88 0 rfl
   refine wp_seq (wp_seq ?_)
   refine joinQ (fun aI wI=>∃ (y95:Bool),Fr 149 aI [(63,.bool (y95)),(12,nI x83),(11,.slice p91 L80.length c92),(9,nI x48),(7,nP z25 0),(1,nI x11),(2,.slice pa2 K2.length ca2)]∧St w0 [] (RowP (.slice p91 L80.length c92) L80::HeapP z25 z26 s82::ps) wI∧HeapAllots.j9 K2 k x11 x48 L80 s82 x83 (HeapAllots.l8 K2 k x11 x48 k84) y95=some r0) ?_ ?_
   rotate_left
   · rintro a97 w98 ⟨y95,hF99,hS100,hm101⟩
     clear hF87 hS88 hm90
     unfold HeapAllots.j9 at hm101
     refine thenN ?_
     cases hc103:(y95)
     case true =>
      rw [hc103] at hF99
      have hm104:=ifYes hc103 hm101; clear hm101
      refine ev_condT hF99 rfl rfl ?_
      refine wp_skip ?_
      have hF105:=hF99.keep [1,2,7,9,11,12]
      clear hF99
      refine thenN (wp_seq ?_)
      refine wp_block ?_
      refine wp_seq (wp_seq (wp_region_lit ?_))
      refine ev_runs 1 hF105 (l':=[(13,nI 0),(12,nI x83),(11,.slice p91 L80.length c92),(9,nI x48),(7,nP z25 0),(1,nI x11),(2,.slice pa2 K2.length ca2)]) (w':=w98) (by kernel_rfl) ?_
      intro a107 hF106; clear hF105
      refine wpList_nil (thenN ?_)
      refine wp_block ?_
      refine wp_loop_ghost (fun kI aI wI=>∃ (s108:HSt) (x109:Int),Fr 149 aI [(13,nI x109),(12,nI x83),(11,.slice p91 L80.length c92),(9,nI x48),(7,nP z25 0),(1,nI x11),(2,.slice pa2 K2.length ca2)]∧St w0 [] (RowP (.slice p91 L80.length c92) L80::HeapP z25 z26 s108::ps) wI∧HeapAllots.l10 K2 k x11 x48 L80 x83 (HeapAllots.l8 K2 k x11 x48 k84) kI s108 x109=some r0) k ⟨s82,0,hF106,hS100,hm104⟩ ?_
      rintro k110 a111 w112 ⟨s108,x109,hF113,hS114,hm115⟩
      clear hF106 hS100 hm104
      rcases k110 with _ | k110
      · cases hm115
      have hm116:HeapAllots.l10b K2 k x11 x48 L80 x83 (HeapAllots.l8 K2 k x11 x48 k84) (HeapAllots.l10 K2 k x11 x48 L80 x83 (HeapAllots.l8 K2 k x11 x48 k84) k110) s108 x109=some r0:=hm115
      clear hm115
      unfold HeapAllots.l10b at hm116
      refine wp_seq (wp_seq (wp_region_lit ?_))
      refine ev_runK 4 hF113 [1,2,7,9,11,12,13,69] (l':=[(69,.bool (decide (x109<(Int.tmod x11 4)))),(13,nI x109),(12,nI x83),(11,.slice p91 L80.length c92),(9,nI x48),(7,nP z25 0),(1,nI x11),(2,.slice pa2 K2.length ca2)]) (w':=w112) (by kernel_rfl) ?_
      intro a118 hF117; clear hF113
      refine wpList_nil (thenN ?_)
      cases hc119:(decide (x109<(Int.tmod x11 4)))
      case true =>
       rw [hc119] at hF117
       have hm120:=ifYes hc119 hm116; clear hm116
       refine ev_condT hF117 rfl rfl ?_
       refine wp_skip ?_
       have hF121:=hF117.keep [1,2,7,9,11,12,13]
       clear hF117
       refine thenN (wp_seq ?_)
       refine wp_block ?_
       refine wp_region_lit ?_
       refine ev_runs 1 hF121 (l':=[(72,nP z25 0),(13,nI x109),(12,nI x83),(11,.slice p91 L80.length c92),(9,nI x48),(7,nP z25 0),(1,nI x11),(2,.slice pa2 K2.length ca2)]) (w':=w112) (by kernel_rfl) ?_
       intro a123 hF122; clear hF121
       have hS124:=hS114.pick1
       clear hS114
       refine ev_call 9 #[nP z25 0] hF122 rfl rfl (by kernel_rfl) rfl (by kernel_rfl) (fun w=>by kernel_rfl) ?_
       obtain ⟨L125,s126,hx127,hm128⟩:=bind2E hm120; clear hm120
       refine (p_Step hS124 hx127).mono ?_
       rintro _ w129 ⟨z133,rfl,hS131⟩ a130 hF132; clear hF122 hS124
       obtain ⟨hl138,p135,c136,rfl,hp137⟩:=St.shapeG (k:=1) hS131 rfl
       refine wpList_nil ?_
       have hF139:=hF132.keep [1,2,7,9,11,12,13]
       clear hF132
       have hS140:=hS131.pick1.drop
       clear hS131
       refine blockN ?_
       refine thenN (wp_region_lit ?_)
       refine ev_runK 3 hF139 [1,2,7,9,11,12,13] (l':=[(13,nI (IntKind.i64.wrap (x109+1))),(12,nI x83),(11,.slice p91 L80.length c92),(9,nI x48),(7,nP z25 0),(1,nI x11),(2,.slice pa2 K2.length ca2)]) (w':=w129) (by kernel_rfl) ?_
       intro a142 hF141; clear hF139
       refine wpList_nil ?_
       have hS143:=hS140.pick1
       clear hS140
       exact thenN ⟨k110,Nat.lt_succ_self _,s126,IntKind.i64.wrap (x109+1),hF141,hS143,hm128⟩
      rw [hc119] at hF117
      have hm144:=ifNot hc119 hm116; clear hm116
      refine ev_condF hF117 rfl rfl ?_
      refine wp_exit ?_
      refine thenE ?_
      refine thenE ?_
      refine blockE ?_
      refine thenN (wp_seq (wp_region_lit ?_))
      refine ev_runs 2 hF117 (l':=[(75,nI x83),(74,.slice pa2 K2.length ca2),(69,.bool false),(13,nI x109),(12,nI x83),(11,.slice p91 L80.length c92),(9,nI x48),(7,nP z25 0),(1,nI x11),(2,.slice pa2 K2.length ca2)]) (w':=w112) (by kernel_rfl) ?_
      intro a146 hF145; clear hF117
      obtain ⟨hc147,hm148⟩:=ifTE hm144; clear hm144
      obtain ⟨b149,o150,rfl⟩:=argK hA2 hc147
      refine ev_one (nP b149 ((o150+x83.toNat))) w112 hF145 (by kernel_rfl) rfl (by kernel_rfl) (run_idxO rfl rfl rfl rfl rfl (inR_spec hc147).1 (inR_spec hc147).2 _) (l':=[(76,nP b149 ((o150+x83.toNat))),(75,nI x83),(74,.slice (some ⟨b149,o150,none⟩) K2.length ca2),(69,.bool false),(13,nI x109),(12,nI x83),(11,.slice p91 L80.length c92),(9,nI x48),(7,nP z25 0),(1,nI x11),(2,.slice (some ⟨b149,o150,none⟩) K2.length ca2)]) (by kernel_rfl) ?_
      intro a152 hF151; clear hF145
      refine ev_one (nI (atI K2 x83)) w112 hF151 (by kernel_rfl) rfl (by kernel_rfl) (run_load1 rfl rfl rfl (argAt hA2 hS114 hc147)) (l':=[(77,nI (atI K2 x83)),(76,nP b149 ((o150+x83.toNat))),(75,nI x83),(74,.slice (some ⟨b149,o150,none⟩) K2.length ca2),(69,.bool false),(13,nI x109),(12,nI x83),(11,.slice p91 L80.length c92),(9,nI x48),(7,nP z25 0),(1,nI x11),(2,.slice (some ⟨b149,o150,none⟩) K2.length ca2)]) (by kernel_rfl) ?_
      intro a154 hF153; clear hF151
      refine ev_runs 5 hF153 (l':=[(14,nI (IntKind.i64.wrap (1+(IntKind.i64.wrap (Int.tmod (IntKind.u64.wrap (atI K2 x83)) 6))))),(81,nI (IntKind.i64.wrap (1+(IntKind.i64.wrap (Int.tmod (IntKind.u64.wrap (atI K2 x83)) 6))))),(80,nI (IntKind.i64.wrap (Int.tmod (IntKind.u64.wrap (atI K2 x83)) 6))),(79,.int .u64 (Int.tmod (IntKind.u64.wrap (atI K2 x83)) 6)),(78,.int .u64 (IntKind.u64.wrap (atI K2 x83))),(77,nI (atI K2 x83)),(76,nP b149 ((o150+x83.toNat))),(75,nI x83),(74,.slice (some ⟨b149,o150,none⟩) K2.length ca2),(69,.bool false),(13,nI x109),(12,nI x83),(11,.slice p91 L80.length c92),(9,nI x48),(7,nP z25 0),(1,nI x11),(2,.slice (some ⟨b149,o150,none⟩) K2.length ca2)]) (w':=w112) (by kernel_rfl) ?_
      intro a156 hF155; clear hF153
      obtain ⟨x157,hx158,hm159⟩:=bind1E hm148; clear hm148
      have hF160:=hF155; rw [Option.some.inj hx158] at hF160; clear hF155
      refine wpList_nil ?_
      have hF161:=hF160.keep [1,2,7,9,11,12,14]
      clear hF160
      refine thenN (wp_seq (wp_region_lit ?_))
      refine ev_runs 1 hF161 (l':=[(82,nP z25 0),(14,nI x157),(12,nI x83),(11,.slice p91 L80.length c92),(9,nI x48),(7,nP z25 0),(1,nI x11),(2,.slice (some ⟨b149,o150,none⟩) K2.length ca2)]) (w':=w112) (by kernel_rfl) ?_
      intro a163 hF162; clear hF161
      have hS164:=hS114.pick1
      clear hS114
      refine ev_call 10 #[nP z25 0] hF162 rfl rfl (by kernel_rfl) rfl (by kernel_rfl) (fun w=>by kernel_rfl) ?_
      refine (p_Phase hS164).mono ?_
      rintro _ w165 ⟨rfl,hS167⟩ a166 hF168; clear hF162 hS164
      refine ev_runK 1 hF168 [1,2,7,9,11,12,14,15] (l':=[(15,nI (s108.ph)),(14,nI x157),(12,nI x83),(11,.slice p91 L80.length c92),(9,nI x48),(7,nP z25 0),(1,nI x11),(2,.slice (some ⟨b149,o150,none⟩) K2.length ca2)]) (w':=w165) (by kernel_rfl) ?_
      intro a170 hF169; clear hF168
      refine wpList_nil (thenN (wp_seq (wp_region_lit ?_)))
      refine ev_runs 3 hF169 (l':=[(87,nI x157),(86,nI x157),(85,nP z25 0),(15,nI (s108.ph)),(14,nI x157),(12,nI x83),(11,.slice p91 L80.length c92),(9,nI x48),(7,nP z25 0),(1,nI x11),(2,.slice (some ⟨b149,o150,none⟩) K2.length ca2)]) (w':=w165) (by kernel_rfl) ?_
      intro a172 hF171; clear hF169
      refine ev_call 11 #[nI x157] hF171 rfl rfl (by kernel_rfl) rfl (by kernel_rfl) (fun w=>by kernel_rfl) ?_
      obtain ⟨x173,hx174,hm175⟩:=bind1E hm159; clear hm159
      refine (law09_sizes.ok hS167 hx174).mono ?_
      rintro _ w176 ⟨rfl,hS178⟩ a177 hF179; clear hF171 hS167
      refine ev_call 7 #[nP z25 0,nI x157,nI x173] hF179 rfl rfl (by kernel_rfl) rfl (by kernel_rfl) (fun w=>by kernel_rfl) ?_
      obtain ⟨x180,x181,s182,hx183,hm184⟩:=bind3E hm175; clear hm175
      refine (p_Alloc hS178 hx183).mono ?_
      rintro _ w185 ⟨rfl,hS187⟩ a186 hF188; clear hF179 hS178
      refine ev_runK 5 hF188 [1,2,7,9,11,12,15,16,17] (l':=[(17,nI x181),(16,nI x180),(15,nI (s108.ph)),(12,nI x83),(11,.slice p91 L80.length c92),(9,nI x48),(7,nP z25 0),(1,nI x11),(2,.slice (some ⟨b149,o150,none⟩) K2.length ca2)]) (w':=w185) (by kernel_rfl) ?_
      intro a190 hF189; clear hF188
      refine wpList_nil (thenN (wp_seq (wp_seq (wp_region_lit ?_))))
      refine ev_runK 2 hF189 [1,2,7,9,11,12,15,16,93] (l':=[(93,.bool (x181 != 0)),(16,nI x180),(15,nI (s108.ph)),(12,nI x83),(11,.slice p91 L80.length c92),(9,nI x48),(7,nP z25 0),(1,nI x11),(2,.slice (some ⟨b149,o150,none⟩) K2.length ca2)]) (w':=w185) (by kernel_rfl) ?_
      intro a192 hF191; clear hF189
      refine wpList_nil (thenN ?_)
      cases hc193:(x181 != 0)
      case true =>
       rw [hc193] at hF191
       have hm194:=ifYes hc193 hm184; clear hm184
       refine ev_condT hF191 rfl rfl ?_
       refine wp_exit ?_
       refine thenE ?_
       refine blockX (by decide) ?_
       refine thenE ?_
       refine thenE ?_
       refine blockE ?_
       refine thenN (wp_seq (wp_seq (wp_region_lit ?_)))
       refine ev_runK 1 hF191 [2,7,9,11,18] (l':=[(18,nI 0),(11,.slice p91 L80.length c92),(9,nI x48),(7,nP z25 0),(2,.slice (some ⟨b149,o150,none⟩) K2.length ca2)]) (w':=w185) (by kernel_rfl) ?_
       intro a196 hF195; clear hF191
       refine wpList_nil (thenN ?_)
       refine wp_block ?_
       refine wp_loop_ghost (fun kI aI wI=>∃ (s197:HSt) (x198:Int),Fr 149 aI [(18,nI x198),(11,.slice p91 L80.length c92),(9,nI x48),(7,nP z25 0),(2,.slice (some ⟨b149,o150,none⟩) K2.length ca2)]∧St w0 [] (HeapP z25 z26 s197::RowP (.slice p91 L80.length c92) L80::ps) wI∧HeapAllots.l12 K2 k x48 L80 kI s197 x198=some r0) k ⟨s182,0,hF195,hS187,hm194⟩ ?_
       rintro k199 a200 w201 ⟨s197,x198,hF202,hS203,hm204⟩
       clear hF195 hS187 hm194
       rcases k199 with _ | k199
       · cases hm204
       have hm205:HeapAllots.l12b K2 k x48 L80 (HeapAllots.l12 K2 k x48 L80 k199) s197 x198=some r0:=hm204
       clear hm204
       unfold HeapAllots.l12b at hm205
       refine wp_seq (wp_seq ?_)
       refine joinQ (fun aI wI=>∃ (y206:Bool),Fr 149 aI [(110,.bool (y206)),(18,nI x198),(11,.slice p91 L80.length c92),(9,nI x48),(7,nP z25 0),(2,.slice (some ⟨b149,o150,none⟩) K2.length ca2)]∧St w0 [] (HeapP z25 z26 s197::RowP (.slice p91 L80.length c92) L80::ps) wI∧HeapAllots.j13 K2 k x48 L80 s197 x198 (HeapAllots.l12 K2 k x48 L80 k199) y206=some r0) ?_ ?_
       rotate_left
       · rintro a208 w209 ⟨y206,hF210,hS211,hm212⟩
         clear hF202 hS203 hm205
         unfold HeapAllots.j13 at hm212
         refine thenN ?_
         cases hc214:(y206)
         case true =>
          rw [hc214] at hF210
          have hm215:=ifYes hc214 hm212; clear hm212
          refine ev_condT hF210 rfl rfl ?_
          refine wp_skip ?_
          have hF216:=hF210.keep [2,7,9,11,18]
          clear hF210
          refine thenN (wp_seq ?_)
          refine wp_block ?_
          refine wp_region_lit ?_
          refine ev_runs 1 hF216 (l':=[(113,nP z25 0),(18,nI x198),(11,.slice p91 L80.length c92),(9,nI x48),(7,nP z25 0),(2,.slice (some ⟨b149,o150,none⟩) K2.length ca2)]) (w':=w209) (by kernel_rfl) ?_
          intro a218 hF217; clear hF216
          refine ev_call 9 #[nP z25 0] hF217 rfl rfl (by kernel_rfl) rfl (by kernel_rfl) (fun w=>by kernel_rfl) ?_
          obtain ⟨L219,s220,hx221,hm222⟩:=bind2E hm215; clear hm215
          refine (p_Step hS211 hx221).mono ?_
          rintro _ w223 ⟨z227,rfl,hS225⟩ a224 hF226; clear hF217 hS211
          obtain ⟨hl232,p229,c230,rfl,hp231⟩:=St.shapeG (k:=1) hS225 rfl
          refine wpList_nil ?_
          have hF233:=hF226.keep [2,7,9,11,18]
          clear hF226
          have hS234:=hS225.pick1.drop
          clear hS225
          refine blockN ?_
          refine thenN (wp_region_lit ?_)
          refine ev_runK 3 hF233 [2,7,9,11,18] (l':=[(18,nI (IntKind.i64.wrap (x198+1))),(11,.slice p91 L80.length c92),(9,nI x48),(7,nP z25 0),(2,.slice (some ⟨b149,o150,none⟩) K2.length ca2)]) (w':=w223) (by kernel_rfl) ?_
          intro a236 hF235; clear hF233
          refine wpList_nil ?_
          exact thenN ⟨k199,Nat.lt_succ_self _,s220,IntKind.i64.wrap (x198+1),hF235,hS234,hm222⟩
         rw [hc214] at hF210
         have hm237:=ifNot hc214 hm212; clear hm212
         refine ev_condF hF210 rfl rfl ?_
         refine wp_exit ?_
         refine thenE ?_
         refine thenE ?_
         refine blockE ?_
         refine thenN (wp_seq (wp_seq (wp_region_lit ?_)))
         refine ev_runK 1 hF210 [2,7,9,11,19] (l':=[(19,nI 0),(11,.slice p91 L80.length c92),(9,nI x48),(7,nP z25 0),(2,.slice (some ⟨b149,o150,none⟩) K2.length ca2)]) (w':=w209) (by kernel_rfl) ?_
         intro a239 hF238; clear hF210
         refine wpList_nil (thenN ?_)
         refine wp_block ?_
         refine wp_loop_ghost (fun kI aI wI=>∃ (x240:Int),Fr 149 aI [(19,nI x240),(11,.slice p91 L80.length c92),(9,nI x48),(7,nP z25 0),(2,.slice (some ⟨b149,o150,none⟩) K2.length ca2)]∧St w0 [] (HeapP z25 z26 s197::RowP (.slice p91 L80.length c92) L80::ps) wI∧HeapAllots.l14 K2 x48 L80 s197 kI x240=some r0) k ⟨0,hF238,hS211,hm237⟩ ?_
         rintro k241 a242 w243 ⟨x240,hF244,hS245,hm246⟩
         clear hF238 hS211 hm237
         rcases k241 with _ | k241
         · cases hm246
         have hm247:HeapAllots.l14b K2 x48 L80 s197 (HeapAllots.l14 K2 x48 L80 s197 k241) x240=some r0:=hm246
         clear hm246
         unfold HeapAllots.l14b at hm247
         refine wp_seq (wp_seq (wp_region_lit ?_))
         refine ev_runK 4 hF244 [2,7,9,11,19,118] (l':=[(118,.bool (decide (x240<(L80.length:Int)))),(19,nI x240),(11,.slice p91 L80.length c92),(9,nI x48),(7,nP z25 0),(2,.slice (some ⟨b149,o150,none⟩) K2.length ca2)]) (w':=w243) (by kernel_rfl) ?_
         intro a249 hF248; clear hF244
         refine wpList_nil (thenN ?_)
         cases hc250:(decide (x240<(L80.length:Int)))
         case true =>
          rw [hc250] at hF248
          have hm251:=ifYes hc250 hm247; clear hm247
          refine ev_condT hF248 rfl rfl ?_
          refine wp_skip ?_
          have hF252:=hF248.keep [2,7,9,11,19]
          clear hF248
          refine thenN (wp_seq ?_)
          refine wp_block ?_
          refine wp_seq ?_
          obtain ⟨hc253,hm254⟩:=ifTE hm251; clear hm251
          obtain ⟨g255,rfl⟩:=hp93.resolve_left (by have:=inR_spec hc253; omega)
          have hS256:=hS245.pick1
          clear hS245
          have hS257:=hS256.drew; clear hS256
          refine any_start (fun wS=>∃ qs,St w0 [] (RowP (nS g255 L80 c92) L80::qs) wS) 8 #[false,false,false,false,false,false,false,false] (by kernel_rfl) (by kernel_rfl) (by kernel_rfl) ?_
          refine any_many 5 [(0,some (nP z25 0)),(2,some (nS g255 L80 c92)),(3,some (nI x240)),(4,some (nP g255 (x240.toNat))),(5,some (nI (atI L80 x240)))] [2,7,9,11,19,121,122,126,127,128] #[true,false,true,true,true,true,false,false] (by rfl) hF252 (by kernel_rfl) (by kernel_rfl) (by exact ⟨fun wS hw=>by kernel_rfl,fun wS hw=>by kernel_rfl,fun wS hw=>by kernel_rfl,fun wS hw=>run_idx rfl rfl rfl rfl rfl (inR_spec hc253).1 (inR_spec hc253).2 _,fun wS hw=>run_load1 rfl rfl rfl (hw.elim fun qs hw=>hw.atI 0 rfl hc253),trivial⟩) (fun _ _ _ _ _ h=>h) ⟨_,hS257⟩ (l':=[(126,nI (atI L80 x240)),(121,nP z25 0),(19,nI x240),(11,nS g255 L80 c92),(9,nI x48),(7,nP z25 0),(2,.slice (some ⟨b149,o150,none⟩) K2.length ca2)]) (by kernel_rfl) ?_
          intro a259 hF258; clear hF252
          have hS260:=hS257.pick1
          clear hS257
          refine any_call 1 #[true,true,true,true,true,true,false,false] 6 #[nP z25 0] hF258 rfl (by kernel_rfl) rfl rfl (by kernel_rfl) rfl (by kernel_rfl) (fun w=>by kernel_rfl) (by kernel_rfl) ?_
          refine (p_Arena hS260).mono ?_
          rintro _ w261 ⟨rfl,hS263⟩; clear hS260
          refine ⟨⟨_,hS263.pick1⟩,?_⟩
          intro a262 hF264; clear hF258
          refine any_call 6 #[true,true,true,true,true,true,true,false] 13 #[nP z26 0,nI (atI L80 x240)] hF264 rfl (by kernel_rfl) rfl rfl (by kernel_rfl) rfl (by kernel_rfl) (fun w=>by kernel_rfl) (by kernel_rfl) ?_
          refine (p_Kind hS263).mono ?_
          rintro _ w265 ⟨rfl,hS267⟩; clear hS263
          refine ⟨⟨_,hS267.pick1⟩,?_⟩
          intro a266 hF268; clear hF264
          refine any_many 1 [(7,some (.bool ((aKind s197.a.c (atI L80 x240)) == 0)))] [2,7,9,11,19,128] #[true,true,true,true,true,true,true,true] (by rfl) hF268 (by kernel_rfl) (by kernel_rfl) (by exact ⟨fun wS hw=>by kernel_rfl,trivial⟩) (fun _ _ _ _ _ h=>h) ⟨_,hS267.pick1⟩ (l':=[(128,.bool ((aKind s197.a.c (atI L80 x240)) == 0)),(19,nI x240),(11,nS g255 L80 c92),(9,nI x48),(7,nP z25 0),(2,.slice (some ⟨b149,o150,none⟩) K2.length ca2)]) (by kernel_rfl) ?_
          intro a270 hF269; clear hF268
          refine any_done (by kernel_rfl) ?_
          refine thenN ?_
          cases hc271:((aKind s197.a.c (atI L80 x240)) == 0)
          case true =>
           rw [hc271] at hF269
           have hm272:=ifYes hc271 hm254; clear hm254
           refine ev_condT hF269 rfl rfl ?_
           refine wp_seq (wp_region_lit ?_)
           refine ev_runK 1 hF269 [6] (l':=[(6,.bool false)]) (w':=w265) (by kernel_rfl) ?_
           intro a274 hF273; clear hF269
           refine wpList_nil ?_
           have hS275:=hS267.drop.drop
           clear hS267
           refine thenN ?_
           refine wp_ret ?_
           refine blockR ?_
           refine thenR (thenR ?_)
           refine blockR ?_
           refine thenR ?_
           obtain rfl:=Option.some.inj hm272
           refine ev_ret hF273 [6] (.bool false) rfl rfl rfl ?_
           exact ⟨rfl,hS275⟩
          rw [hc271] at hF269
          have hm277:=ifNot hc271 hm254; clear hm254
          refine ev_condF hF269 rfl rfl ?_
          refine wp_skip ?_
          have hF278:=hF269.keep [2,7,9,11,19]
          clear hF269
          refine blockN ?_
          refine thenN (wp_region_lit ?_)
          refine ev_runK 3 hF278 [2,7,9,11,19] (l':=[(19,nI (IntKind.i64.wrap (x240+1))),(11,nS g255 L80 c92),(9,nI x48),(7,nP z25 0),(2,.slice (some ⟨b149,o150,none⟩) K2.length ca2)]) (w':=w265) (by kernel_rfl) ?_
          intro a280 hF279; clear hF278
          refine wpList_nil ?_
          exact thenN ⟨k241,Nat.lt_succ_self _,IntKind.i64.wrap (x240+1),hF279,hS267,hm277⟩
         rw [hc250] at hF248
         have hm281:=ifNot hc250 hm247; clear hm247
         refine ev_condF hF248 rfl rfl ?_
         refine wp_exit ?_
         refine thenE ?_
         refine thenE ?_
         refine blockE ?_
         refine thenN (wp_seq ?_)
         refine joinQ (fun aI wI=>∃ (y282:Bool),Fr 149 aI [(6,.bool (y282))]∧St w0 [] (ps) wI∧HeapAllots.j15 y282=some r0) ?_ ?_
         rotate_left
         · rintro a284 w285 ⟨y282,hF286,hS287,hm288⟩
           clear hF248 hS245 hm281
           unfold HeapAllots.j15 at hm288
           refine thenN ?_
           refine wp_ret ?_
           obtain rfl:=Option.some.inj hm288
           refine ev_ret hF286 [6] (.bool (y282)) rfl rfl rfl ?_
           exact ⟨rfl,hS287⟩
         · skip
           refine wp_region_lit ?_
           refine ev_runs 1 hF248 (l':=[(129,nP z25 0),(118,.bool false),(19,nI x240),(11,.slice p91 L80.length c92),(9,nI x48),(7,nP z25 0),(2,.slice (some ⟨b149,o150,none⟩) K2.length ca2)]) (w':=w243) (by kernel_rfl) ?_
           intro a292 hF291; clear hF248
           refine ev_call 10 #[nP z25 0] hF291 rfl rfl (by kernel_rfl) rfl (by kernel_rfl) (fun w=>by kernel_rfl) ?_
           refine (p_Phase hS245).mono ?_
           rintro _ w293 ⟨rfl,hS295⟩ a294 hF296; clear hF291 hS245
           refine ev_runs 2 hF296 (l':=[(132,.bool (s197.ph == 0)),(131,.bool (s197.ph == 0)),(130,nI (s197.ph)),(129,nP z25 0),(118,.bool false),(19,nI x240),(11,.slice p91 L80.length c92),(9,nI x48),(7,nP z25 0),(2,.slice (some ⟨b149,o150,none⟩) K2.length ca2)]) (w':=w293) (by kernel_rfl) ?_
           intro a298 hF297; clear hF296
           cases hc299:(s197.ph == 0)
           case true =>
            rw [hc299] at hF297
            have hm300:=ifYes hc299 hm281; clear hm281
            refine ev_runs 1 hF297 (l':=[(133,nP z25 0),(132,.bool true),(131,.bool true),(130,nI (s197.ph)),(129,nP z25 0),(118,.bool false),(19,nI x240),(11,.slice p91 L80.length c92),(9,nI x48),(7,nP z25 0),(2,.slice (some ⟨b149,o150,none⟩) K2.length ca2)]) (w':=w293) (by kernel_rfl) ?_
            intro a302 hF301; clear hF297
            refine ev_call 14 #[nP z25 0] hF301 rfl rfl (by kernel_rfl) rfl (by kernel_rfl) (fun w=>by kernel_rfl) ?_
            refine (p_Cycles hS295).mono ?_
            rintro _ w303 ⟨rfl,hS305⟩ a304 hF306; clear hF301 hS295
            refine ev_runs 3 hF306 (l':=[(137,.bool (s197.cy == 1)),(136,.bool (s197.cy == 1)),(135,.bool (s197.cy == 1)),(134,nI (s197.cy)),(133,nP z25 0),(132,.bool true),(131,.bool true),(130,nI (s197.ph)),(129,nP z25 0),(118,.bool false),(19,nI x240),(11,.slice p91 L80.length c92),(9,nI x48),(7,nP z25 0),(2,.slice (some ⟨b149,o150,none⟩) K2.length ca2)]) (w':=w303) (by kernel_rfl) ?_
            intro a308 hF307; clear hF306
            cases hc309:(s197.cy == 1)
            case true =>
             rw [hc309] at hF307
             have hm310:=ifYes hc309 hm300; clear hm300
             refine ev_runs 4 hF307 (l':=[(141,.bool (decide ((K2.length:Int) > 0))),(140,.bool (decide ((K2.length:Int) > 0))),(139,nI ((K2.length:Int))),(138,.slice (some ⟨b149,o150,none⟩) K2.length ca2),(137,.bool true),(136,.bool true),(135,.bool true),(134,nI (s197.cy)),(133,nP z25 0),(132,.bool true),(131,.bool true),(130,nI (s197.ph)),(129,nP z25 0),(118,.bool false),(19,nI x240),(11,.slice p91 L80.length c92),(9,nI x48),(7,nP z25 0),(2,.slice (some ⟨b149,o150,none⟩) K2.length ca2)]) (w':=w303) (by kernel_rfl) ?_
             intro a312 hF311; clear hF307
             cases hc313:(decide ((K2.length:Int) > 0))
             case true =>
              rw [hc313] at hF311
              have hm314:=ifYes hc313 hm310; clear hm310
              refine ev_runK 8 hF311 [6] (l':=[(6,.bool true)]) (w':=w303) (by kernel_rfl) ?_
              intro a316 hF315; clear hF311
              refine wpList_nil ?_
              have hS317:=hS305.drop.drop
              clear hS305
              exact thenN ⟨true,hF315,hS317,hm314⟩
             rw [hc313] at hF311
             have hm318:=ifNot hc313 hm310; clear hm310
             refine ev_runs 1 hF311 (l':=[(142,nP z25 0),(141,.bool false),(140,.bool false),(139,nI ((K2.length:Int))),(138,.slice (some ⟨b149,o150,none⟩) K2.length ca2),(137,.bool true),(136,.bool true),(135,.bool true),(134,nI (s197.cy)),(133,nP z25 0),(132,.bool true),(131,.bool true),(130,nI (s197.ph)),(129,nP z25 0),(118,.bool false),(19,nI x240),(11,.slice p91 L80.length c92),(9,nI x48),(7,nP z25 0),(2,.slice (some ⟨b149,o150,none⟩) K2.length ca2)]) (w':=w303) (by kernel_rfl) ?_
             intro a320 hF319; clear hF311
             refine ev_call 6 #[nP z25 0] hF319 rfl rfl (by kernel_rfl) rfl (by kernel_rfl) (fun w=>by kernel_rfl) ?_
             refine (p_Arena hS305).mono ?_
             rintro _ w321 ⟨rfl,hS323⟩ a322 hF324; clear hF319 hS305
             refine ev_runs 1 hF324 (l':=[(144,nI x48),(143,nP z26 0),(142,nP z25 0),(141,.bool false),(140,.bool false),(139,nI ((K2.length:Int))),(138,.slice (some ⟨b149,o150,none⟩) K2.length ca2),(137,.bool true),(136,.bool true),(135,.bool true),(134,nI (s197.cy)),(133,nP z25 0),(132,.bool true),(131,.bool true),(130,nI (s197.ph)),(129,nP z25 0),(118,.bool false),(19,nI x240),(11,.slice p91 L80.length c92),(9,nI x48),(7,nP z25 0),(2,.slice (some ⟨b149,o150,none⟩) K2.length ca2)]) (w':=w321) (by kernel_rfl) ?_
             intro a326 hF325; clear hF324
             refine ev_call 13 #[nP z26 0,nI x48] hF325 rfl rfl (by kernel_rfl) rfl (by kernel_rfl) (fun w=>by kernel_rfl) ?_
             refine (p_Kind hS323).mono ?_
             rintro _ w327 ⟨rfl,hS329⟩ a328 hF330; clear hF325 hS323
             refine ev_runK 4 hF330 [6] (l':=[(6,.bool ((aKind s197.a.c x48) == 0))]) (w':=w327) (by kernel_rfl) ?_
             intro a332 hF331; clear hF330
             refine wpList_nil ?_
             have hS333:=hS329.drop.drop
             clear hS329
             exact thenN ⟨(aKind s197.a.c x48) == 0,hF331,hS333,hm318⟩
            rw [hc309] at hF307
            have hm334:=ifNot hc309 hm300; clear hm300
            refine ev_runK 12 hF307 [6] (l':=[(6,.bool false)]) (w':=w303) (by kernel_rfl) ?_
            intro a336 hF335; clear hF307
            refine wpList_nil ?_
            have hS337:=hS305.drop.drop
            clear hS305
            exact thenN ⟨false,hF335,hS337,hm334⟩
           rw [hc299] at hF297
           have hm338:=ifNot hc299 hm281; clear hm281
           refine ev_runK 17 hF297 [6] (l':=[(6,.bool false)]) (w':=w293) (by kernel_rfl) ?_
           intro a340 hF339; clear hF297
           refine wpList_nil ?_
           have hS341:=hS295.drop.drop
           clear hS295
           exact thenN ⟨false,hF339,hS341,hm338⟩
       · skip
         refine wp_region_lit ?_
         refine ev_runs 3 hF202 (l':=[(106,.bool (decide (x198<200))),(105,.bool (decide (x198<200))),(104,nI x198),(18,nI x198),(11,.slice p91 L80.length c92),(9,nI x48),(7,nP z25 0),(2,.slice (some ⟨b149,o150,none⟩) K2.length ca2)]) (w':=w201) (by kernel_rfl) ?_
         intro a343 hF342; clear hF202
         cases hc344:(decide (x198<200))
         case true =>
          rw [hc344] at hF342
          have hm345:=ifYes hc344 hm205; clear hm205
          refine ev_runs 1 hF342 (l':=[(107,nP z25 0),(106,.bool true),(105,.bool true),(104,nI x198),(18,nI x198),(11,.slice p91 L80.length c92),(9,nI x48),(7,nP z25 0),(2,.slice (some ⟨b149,o150,none⟩) K2.length ca2)]) (w':=w201) (by kernel_rfl) ?_
          intro a347 hF346; clear hF342
          refine ev_call 10 #[nP z25 0] hF346 rfl rfl (by kernel_rfl) rfl (by kernel_rfl) (fun w=>by kernel_rfl) ?_
          refine (p_Phase hS203).mono ?_
          rintro _ w348 ⟨rfl,hS350⟩ a349 hF351; clear hF346 hS203
          refine ev_runK 2 hF351 [2,7,9,11,18,110] (l':=[(110,.bool (s197.ph != 0)),(18,nI x198),(11,.slice p91 L80.length c92),(9,nI x48),(7,nP z25 0),(2,.slice (some ⟨b149,o150,none⟩) K2.length ca2)]) (w':=w348) (by kernel_rfl) ?_
          intro a353 hF352; clear hF351
          refine wpList_nil ?_
          exact thenN ⟨s197.ph != 0,hF352,hS350,hm345⟩
         rw [hc344] at hF342
         have hm354:=ifNot hc344 hm205; clear hm205
         refine ev_runK 4 hF342 [2,7,9,11,18,110] (l':=[(110,.bool false),(18,nI x198),(11,.slice p91 L80.length c92),(9,nI x48),(7,nP z25 0),(2,.slice (some ⟨b149,o150,none⟩) K2.length ca2)]) (w':=w201) (by kernel_rfl) ?_
         intro a356 hF355; clear hF342
         refine wpList_nil ?_
         exact thenN ⟨false,hF355,hS203,hm354⟩
      rw [hc193] at hF191
      have hm357:=ifNot hc193 hm184; clear hm184
      refine ev_condF hF191 rfl rfl ?_
      refine wp_skip ?_
      have hF358:=hF191.keep [1,2,7,9,11,12,15,16]
      clear hF191
      refine thenN (wp_seq (wp_region_lit ?_))
      refine ev_runK 2 hF358 [1,2,7,9,11,12,16,95] (l':=[(95,.bool (s108.ph != 0)),(16,nI x180),(12,nI x83),(11,.slice p91 L80.length c92),(9,nI x48),(7,nP z25 0),(1,nI x11),(2,.slice (some ⟨b149,o150,none⟩) K2.length ca2)]) (w':=w185) (by kernel_rfl) ?_
      intro a360 hF359; clear hF358
      refine wpList_nil (thenN ?_)
      refine joinQ (fun aI wI=>∃ (v362:Value) (L361:List Int),Fr 149 aI [(12,nI x83),(11,v362),(9,nI x48),(7,nP z25 0),(1,nI x11),(2,.slice (some ⟨b149,o150,none⟩) K2.length ca2)]∧St w0 [] (HeapP z25 z26 s182::RowP (v362) L361::ps) wI∧HeapAllots.j16 x83 (HeapAllots.l8 K2 k x11 x48 k84) s182 L361=some r0) ?_ ?_
      rotate_left
      · rintro a364 w365 ⟨v362,L361,hF366,hS367,hm368⟩
        clear hF359 hS187 hm357
        unfold HeapAllots.j16 at hm368
        obtain ⟨hl373,p370,c371,rfl,hp372⟩:=St.shape hS367 1 rfl
        refine blockN ?_
        refine thenN (wp_region_lit ?_)
        refine ev_runK 3 hF366 [1,2,7,9,11,12] (l':=[(12,nI (IntKind.i64.wrap (x83+1))),(11,.slice p370 L361.length c371),(9,nI x48),(7,nP z25 0),(1,nI x11),(2,.slice (some ⟨b149,o150,none⟩) K2.length ca2)]) (w':=w365) (by kernel_rfl) ?_
        intro a375 hF374; clear hF366
        refine wpList_nil ?_
        have hS376:=hS367.pick1
        clear hS367
        exact thenN ⟨k84,Nat.lt_succ_self _,.slice p370 L361.length c371,L361,s182,IntKind.i64.wrap (x83+1),hF374,hS376,hm368⟩
      · skip
        cases hc377:(s108.ph != 0)
        case true =>
         rw [hc377] at hF359
         have hm378:=ifYes hc377 hm357; clear hm357
         refine ev_condT hF359 rfl rfl ?_
         refine wp_seq (wp_region_lit ?_)
         refine ev_runs 3 hF359 (l':=[(98,.slice (some ⟨w185.heap.size,0,none⟩) 1 1),(97,nI x180),(96,.slice p91 L80.length c92),(95,.bool true),(16,nI x180),(12,nI x83),(11,.slice p91 L80.length c92),(9,nI x48),(7,nP z25 0),(1,nI x11),(2,.slice (some ⟨b149,o150,none⟩) K2.length ca2)]) (w':=w185.alloc (.cells #[nI x180] 3)) (by kernel_rfl) ?_
         intro a380 hF379; clear hF359
         have hS381:=hS187.pick1
         clear hS187
         obtain ⟨L382,hx383,hm384⟩:=bind1E hm378; clear hm378
         refine ev_push 99 (.tmp 96) (.tmp 98) hF379 rfl rfl rfl rfl rfl rfl rfl rfl hS381 hx383 ?_
         intro g385 c386 w387 a388 hS389 hF390; clear hF379 hS381
         refine ev_runK 1 hF390 [1,2,7,9,11,12,16] (l':=[(11,nS g385 L382 c386),(16,nI x180),(12,nI x83),(9,nI x48),(7,nP z25 0),(1,nI x11),(2,.slice (some ⟨b149,o150,none⟩) K2.length ca2)]) (w':=w387) (by kernel_rfl) ?_
         intro a392 hF391; clear hF390
         refine wpList_nil (thenN (wp_seq (wp_region_lit ?_)))
         refine ev_runs 2 hF391 (l':=[(101,nI x180),(100,nP z25 0),(11,nS g385 L382 c386),(16,nI x180),(12,nI x83),(9,nI x48),(7,nP z25 0),(1,nI x11),(2,.slice (some ⟨b149,o150,none⟩) K2.length ca2)]) (w':=w387) (by kernel_rfl) ?_
         intro a394 hF393; clear hF391
         have hS395:=hS389.pick1
         clear hS389
         refine ev_call 12 #[nP z25 0,nI x180] hF393 rfl rfl (by kernel_rfl) rfl (by kernel_rfl) (fun w=>by kernel_rfl) ?_
         obtain ⟨x396,hx397,hm398⟩:=bind1E hm384; clear hm384
         refine (p_Colour hS395 hx397).mono ?_
         rintro _ w399 ⟨rfl,hS401⟩ a400 hF402; clear hF393 hS395
         refine ev_runK 1 hF402 [1,2,7,9,11,12,103] (l':=[(103,.bool (x396 != 2)),(11,nS g385 L382 c386),(12,nI x83),(9,nI x48),(7,nP z25 0),(1,nI x11),(2,.slice (some ⟨b149,o150,none⟩) K2.length ca2)]) (w':=w399) (by kernel_rfl) ?_
         intro a404 hF403; clear hF402
         refine wpList_nil (thenN ?_)
         cases hc405:(x396 != 2)
         case true =>
          rw [hc405] at hF403
          have hm406:=ifYes hc405 hm398; clear hm398
          refine ev_condT hF403 rfl rfl ?_
          refine wp_seq (wp_region_lit ?_)
          refine ev_runK 1 hF403 [6] (l':=[(6,.bool false)]) (w':=w399) (by kernel_rfl) ?_
          intro a408 hF407; clear hF403
          refine wpList_nil ?_
          have hS409:=hS401.drop.drop
          clear hS401
          refine thenN ?_
          refine wp_ret ?_
          refine thenR ?_
          refine blockR ?_
          refine thenR (thenR ?_)
          refine blockR ?_
          refine thenR ?_
          obtain rfl:=Option.some.inj hm406
          refine ev_ret hF407 [6] (.bool false) rfl rfl rfl ?_
          exact ⟨rfl,hS409⟩
         rw [hc405] at hF403
         have hm411:=ifNot hc405 hm398; clear hm398
         refine ev_condF hF403 rfl rfl ?_
         refine wp_skip ?_
         have hF412:=hF403.keep [1,2,7,9,11,12]
         clear hF403
         have hF413:Fr 149 a404 [(12,nI x83),(11,nS g385 L382 c386),(9,nI x48),(7,nP z25 0),(1,nI x11),(2,.slice (some ⟨b149,o150,none⟩) K2.length ca2)]:=Fr.re hF412 (by kernel_rfl)
         clear hF412
         exact thenN ⟨nS g385 L382 c386,L382,hF413,hS401,hm411⟩
        rw [hc377] at hF359
        have hm414:=ifNot hc377 hm357; clear hm357
        refine ev_condF hF359 rfl rfl ?_
        refine wp_skip ?_
        have hF415:=hF359.keep [1,2,7,9,11,12]
        clear hF359
        exact thenN ⟨.slice p91 L80.length c92,L80,hF415,hS187,hm414⟩
     rw [hc103] at hF99
     have hm416:=ifNot hc103 hm101; clear hm101
     refine ev_condF hF99 rfl rfl ?_
     refine wp_exit ?_
     refine thenE ?_
     refine thenE ?_
     refine blockE ?_
     refine thenN (wp_seq (wp_seq (wp_region_lit ?_)))
     refine ev_runK 1 hF99 [2,7,9,11,18] (l':=[(18,nI 0),(11,.slice p91 L80.length c92),(9,nI x48),(7,nP z25 0),(2,.slice pa2 K2.length ca2)]) (w':=w98) (by kernel_rfl) ?_
     intro a418 hF417; clear hF99
     refine wpList_nil (thenN ?_)
     refine wp_block ?_
     refine wp_loop_ghost (fun kI aI wI=>∃ (s419:HSt) (x420:Int),Fr 149 aI [(18,nI x420),(11,.slice p91 L80.length c92),(9,nI x48),(7,nP z25 0),(2,.slice pa2 K2.length ca2)]∧St w0 [] (RowP (.slice p91 L80.length c92) L80::HeapP z25 z26 s419::ps) wI∧HeapAllots.l18 K2 k x48 L80 kI s419 x420=some r0) k ⟨s82,0,hF417,hS100,hm416⟩ ?_
     rintro k421 a422 w423 ⟨s419,x420,hF424,hS425,hm426⟩
     clear hF417 hS100 hm416
     rcases k421 with _ | k421
     · cases hm426
     have hm427:HeapAllots.l18b K2 k x48 L80 (HeapAllots.l18 K2 k x48 L80 k421) s419 x420=some r0:=hm426
     clear hm426
     unfold HeapAllots.l18b at hm427
     refine wp_seq (wp_seq ?_)
     refine joinQ (fun aI wI=>∃ (y428:Bool),Fr 149 aI [(110,.bool (y428)),(18,nI x420),(11,.slice p91 L80.length c92),(9,nI x48),(7,nP z25 0),(2,.slice pa2 K2.length ca2)]∧St w0 [] (HeapP z25 z26 s419::RowP (.slice p91 L80.length c92) L80::ps) wI∧HeapAllots.j19 K2 k x48 L80 s419 x420 (HeapAllots.l18 K2 k x48 L80 k421) y428=some r0) ?_ ?_
     rotate_left
     · rintro a430 w431 ⟨y428,hF432,hS433,hm434⟩
       clear hF424 hS425 hm427
       unfold HeapAllots.j19 at hm434
       refine thenN ?_
       cases hc436:(y428)
       case true =>
        rw [hc436] at hF432
        have hm437:=ifYes hc436 hm434; clear hm434
        refine ev_condT hF432 rfl rfl ?_
        refine wp_skip ?_
        have hF438:=hF432.keep [2,7,9,11,18]
        clear hF432
        refine thenN (wp_seq ?_)
        refine wp_block ?_
        refine wp_region_lit ?_
        refine ev_runs 1 hF438 (l':=[(113,nP z25 0),(18,nI x420),(11,.slice p91 L80.length c92),(9,nI x48),(7,nP z25 0),(2,.slice pa2 K2.length ca2)]) (w':=w431) (by kernel_rfl) ?_
        intro a440 hF439; clear hF438
        refine ev_call 9 #[nP z25 0] hF439 rfl rfl (by kernel_rfl) rfl (by kernel_rfl) (fun w=>by kernel_rfl) ?_
        obtain ⟨L441,s442,hx443,hm444⟩:=bind2E hm437; clear hm437
        refine (p_Step hS433 hx443).mono ?_
        rintro _ w445 ⟨z449,rfl,hS447⟩ a446 hF448; clear hF439 hS433
        obtain ⟨hl454,p451,c452,rfl,hp453⟩:=St.shapeG (k:=1) hS447 rfl
        refine wpList_nil ?_
        have hF455:=hF448.keep [2,7,9,11,18]
        clear hF448
        have hS456:=hS447.pick1.drop
        clear hS447
        refine blockN ?_
        refine thenN (wp_region_lit ?_)
        refine ev_runK 3 hF455 [2,7,9,11,18] (l':=[(18,nI (IntKind.i64.wrap (x420+1))),(11,.slice p91 L80.length c92),(9,nI x48),(7,nP z25 0),(2,.slice pa2 K2.length ca2)]) (w':=w445) (by kernel_rfl) ?_
        intro a458 hF457; clear hF455
        refine wpList_nil ?_
        have hS459:=hS456.pick1
        clear hS456
        exact thenN ⟨k421,Nat.lt_succ_self _,s442,IntKind.i64.wrap (x420+1),hF457,hS459,hm444⟩
       rw [hc436] at hF432
       have hm460:=ifNot hc436 hm434; clear hm434
       refine ev_condF hF432 rfl rfl ?_
       refine wp_exit ?_
       refine thenE ?_
       refine thenE ?_
       refine blockE ?_
       refine thenN (wp_seq (wp_seq (wp_region_lit ?_)))
       refine ev_runK 1 hF432 [2,7,9,11,19] (l':=[(19,nI 0),(11,.slice p91 L80.length c92),(9,nI x48),(7,nP z25 0),(2,.slice pa2 K2.length ca2)]) (w':=w431) (by kernel_rfl) ?_
       intro a462 hF461; clear hF432
       refine wpList_nil (thenN ?_)
       refine wp_block ?_
       refine wp_loop_ghost (fun kI aI wI=>∃ (x463:Int),Fr 149 aI [(19,nI x463),(11,.slice p91 L80.length c92),(9,nI x48),(7,nP z25 0),(2,.slice pa2 K2.length ca2)]∧St w0 [] (HeapP z25 z26 s419::RowP (.slice p91 L80.length c92) L80::ps) wI∧HeapAllots.l20 K2 x48 L80 s419 kI x463=some r0) k ⟨0,hF461,hS433,hm460⟩ ?_
       rintro k464 a465 w466 ⟨x463,hF467,hS468,hm469⟩
       clear hF461 hS433 hm460
       rcases k464 with _ | k464
       · cases hm469
       have hm470:HeapAllots.l20b K2 x48 L80 s419 (HeapAllots.l20 K2 x48 L80 s419 k464) x463=some r0:=hm469
       clear hm469
       unfold HeapAllots.l20b at hm470
       refine wp_seq (wp_seq (wp_region_lit ?_))
       refine ev_runK 4 hF467 [2,7,9,11,19,118] (l':=[(118,.bool (decide (x463<(L80.length:Int)))),(19,nI x463),(11,.slice p91 L80.length c92),(9,nI x48),(7,nP z25 0),(2,.slice pa2 K2.length ca2)]) (w':=w466) (by kernel_rfl) ?_
       intro a472 hF471; clear hF467
       refine wpList_nil (thenN ?_)
       cases hc473:(decide (x463<(L80.length:Int)))
       case true =>
        rw [hc473] at hF471
        have hm474:=ifYes hc473 hm470; clear hm470
        refine ev_condT hF471 rfl rfl ?_
        refine wp_skip ?_
        have hF475:=hF471.keep [2,7,9,11,19]
        clear hF471
        refine thenN (wp_seq ?_)
        refine wp_block ?_
        refine wp_seq ?_
        obtain ⟨hc476,hm477⟩:=ifTE hm474; clear hm474
        obtain ⟨g478,rfl⟩:=hp93.resolve_left (by have:=inR_spec hc476; omega)
        have hS479:=hS468.pick1
        clear hS468
        have hS480:=hS479.drew; clear hS479
        refine any_start (fun wS=>∃ qs,St w0 [] (RowP (nS g478 L80 c92) L80::qs) wS) 8 #[false,false,false,false,false,false,false,false] (by kernel_rfl) (by kernel_rfl) (by kernel_rfl) ?_
        refine any_many 5 [(0,some (nP z25 0)),(2,some (nS g478 L80 c92)),(3,some (nI x463)),(4,some (nP g478 (x463.toNat))),(5,some (nI (atI L80 x463)))] [2,7,9,11,19,121,122,126,127,128] #[true,false,true,true,true,true,false,false] (by rfl) hF475 (by kernel_rfl) (by kernel_rfl) (by exact ⟨fun wS hw=>by kernel_rfl,fun wS hw=>by kernel_rfl,fun wS hw=>by kernel_rfl,fun wS hw=>run_idx rfl rfl rfl rfl rfl (inR_spec hc476).1 (inR_spec hc476).2 _,fun wS hw=>run_load1 rfl rfl rfl (hw.elim fun qs hw=>hw.atI 0 rfl hc476),trivial⟩) (fun _ _ _ _ _ h=>h) ⟨_,hS480⟩ (l':=[(126,nI (atI L80 x463)),(121,nP z25 0),(19,nI x463),(11,nS g478 L80 c92),(9,nI x48),(7,nP z25 0),(2,.slice pa2 K2.length ca2)]) (by kernel_rfl) ?_
        intro a482 hF481; clear hF475
        have hS483:=hS480.pick1
        clear hS480
        refine any_call 1 #[true,true,true,true,true,true,false,false] 6 #[nP z25 0] hF481 rfl (by kernel_rfl) rfl rfl (by kernel_rfl) rfl (by kernel_rfl) (fun w=>by kernel_rfl) (by kernel_rfl) ?_
        refine (p_Arena hS483).mono ?_
        rintro _ w484 ⟨rfl,hS486⟩; clear hS483
        refine ⟨⟨_,hS486.pick1⟩,?_⟩
        intro a485 hF487; clear hF481
        refine any_call 6 #[true,true,true,true,true,true,true,false] 13 #[nP z26 0,nI (atI L80 x463)] hF487 rfl (by kernel_rfl) rfl rfl (by kernel_rfl) rfl (by kernel_rfl) (fun w=>by kernel_rfl) (by kernel_rfl) ?_
        refine (p_Kind hS486).mono ?_
        rintro _ w488 ⟨rfl,hS490⟩; clear hS486
        refine ⟨⟨_,hS490.pick1⟩,?_⟩
        intro a489 hF491; clear hF487
        refine any_many 1 [(7,some (.bool ((aKind s419.a.c (atI L80 x463)) == 0)))] [2,7,9,11,19,128] #[true,true,true,true,true,true,true,true] (by rfl) hF491 (by kernel_rfl) (by kernel_rfl) (by exact ⟨fun wS hw=>by kernel_rfl,trivial⟩) (fun _ _ _ _ _ h=>h) ⟨_,hS490.pick1⟩ (l':=[(128,.bool ((aKind s419.a.c (atI L80 x463)) == 0)),(19,nI x463),(11,nS g478 L80 c92),(9,nI x48),(7,nP z25 0),(2,.slice pa2 K2.length ca2)]) (by kernel_rfl) ?_
        intro a493 hF492; clear hF491
        refine any_done (by kernel_rfl) ?_
        refine thenN ?_
        cases hc494:((aKind s419.a.c (atI L80 x463)) == 0)
        case true =>
         rw [hc494] at hF492
         have hm495:=ifYes hc494 hm477; clear hm477
         refine ev_condT hF492 rfl rfl ?_
         refine wp_seq (wp_region_lit ?_)
         refine ev_runK 1 hF492 [6] (l':=[(6,.bool false)]) (w':=w488) (by kernel_rfl) ?_
         intro a497 hF496; clear hF492
         refine wpList_nil ?_
         have hS498:=hS490.drop.drop
         clear hS490
         refine thenN ?_
         refine wp_ret ?_
         refine blockR ?_
         refine thenR (thenR ?_)
         refine blockR ?_
         refine thenR ?_
         obtain rfl:=Option.some.inj hm495
         refine ev_ret hF496 [6] (.bool false) rfl rfl rfl ?_
         exact ⟨rfl,hS498⟩
        rw [hc494] at hF492
        have hm500:=ifNot hc494 hm477; clear hm477
        refine ev_condF hF492 rfl rfl ?_
        refine wp_skip ?_
        have hF501:=hF492.keep [2,7,9,11,19]
        clear hF492
        refine blockN ?_
        refine thenN (wp_region_lit ?_)
        refine ev_runK 3 hF501 [2,7,9,11,19] (l':=[(19,nI (IntKind.i64.wrap (x463+1))),(11,nS g478 L80 c92),(9,nI x48),(7,nP z25 0),(2,.slice pa2 K2.length ca2)]) (w':=w488) (by kernel_rfl) ?_
        intro a503 hF502; clear hF501
        refine wpList_nil ?_
        exact thenN ⟨k464,Nat.lt_succ_self _,IntKind.i64.wrap (x463+1),hF502,hS490,hm500⟩
       rw [hc473] at hF471
       have hm504:=ifNot hc473 hm470; clear hm470
       refine ev_condF hF471 rfl rfl ?_
       refine wp_exit ?_
       refine thenE ?_
       refine thenE ?_
       refine blockE ?_
       refine thenN (wp_seq ?_)
       refine joinQ (fun aI wI=>∃ (y505:Bool),Fr 149 aI [(6,.bool (y505))]∧St w0 [] (ps) wI∧HeapAllots.j21 y505=some r0) ?_ ?_
       rotate_left
       · rintro a507 w508 ⟨y505,hF509,hS510,hm511⟩
         clear hF471 hS468 hm504
         unfold HeapAllots.j21 at hm511
         refine thenN ?_
         refine wp_ret ?_
         obtain rfl:=Option.some.inj hm511
         refine ev_ret hF509 [6] (.bool (y505)) rfl rfl rfl ?_
         exact ⟨rfl,hS510⟩
       · skip
         refine wp_region_lit ?_
         refine ev_runs 1 hF471 (l':=[(129,nP z25 0),(118,.bool false),(19,nI x463),(11,.slice p91 L80.length c92),(9,nI x48),(7,nP z25 0),(2,.slice pa2 K2.length ca2)]) (w':=w466) (by kernel_rfl) ?_
         intro a515 hF514; clear hF471
         refine ev_call 10 #[nP z25 0] hF514 rfl rfl (by kernel_rfl) rfl (by kernel_rfl) (fun w=>by kernel_rfl) ?_
         refine (p_Phase hS468).mono ?_
         rintro _ w516 ⟨rfl,hS518⟩ a517 hF519; clear hF514 hS468
         refine ev_runs 2 hF519 (l':=[(132,.bool (s419.ph == 0)),(131,.bool (s419.ph == 0)),(130,nI (s419.ph)),(129,nP z25 0),(118,.bool false),(19,nI x463),(11,.slice p91 L80.length c92),(9,nI x48),(7,nP z25 0),(2,.slice pa2 K2.length ca2)]) (w':=w516) (by kernel_rfl) ?_
         intro a521 hF520; clear hF519
         cases hc522:(s419.ph == 0)
         case true =>
          rw [hc522] at hF520
          have hm523:=ifYes hc522 hm504; clear hm504
          refine ev_runs 1 hF520 (l':=[(133,nP z25 0),(132,.bool true),(131,.bool true),(130,nI (s419.ph)),(129,nP z25 0),(118,.bool false),(19,nI x463),(11,.slice p91 L80.length c92),(9,nI x48),(7,nP z25 0),(2,.slice pa2 K2.length ca2)]) (w':=w516) (by kernel_rfl) ?_
          intro a525 hF524; clear hF520
          refine ev_call 14 #[nP z25 0] hF524 rfl rfl (by kernel_rfl) rfl (by kernel_rfl) (fun w=>by kernel_rfl) ?_
          refine (p_Cycles hS518).mono ?_
          rintro _ w526 ⟨rfl,hS528⟩ a527 hF529; clear hF524 hS518
          refine ev_runs 3 hF529 (l':=[(137,.bool (s419.cy == 1)),(136,.bool (s419.cy == 1)),(135,.bool (s419.cy == 1)),(134,nI (s419.cy)),(133,nP z25 0),(132,.bool true),(131,.bool true),(130,nI (s419.ph)),(129,nP z25 0),(118,.bool false),(19,nI x463),(11,.slice p91 L80.length c92),(9,nI x48),(7,nP z25 0),(2,.slice pa2 K2.length ca2)]) (w':=w526) (by kernel_rfl) ?_
          intro a531 hF530; clear hF529
          cases hc532:(s419.cy == 1)
          case true =>
           rw [hc532] at hF530
           have hm533:=ifYes hc532 hm523; clear hm523
           refine ev_runs 4 hF530 (l':=[(141,.bool (decide ((K2.length:Int) > 0))),(140,.bool (decide ((K2.length:Int) > 0))),(139,nI ((K2.length:Int))),(138,.slice pa2 K2.length ca2),(137,.bool true),(136,.bool true),(135,.bool true),(134,nI (s419.cy)),(133,nP z25 0),(132,.bool true),(131,.bool true),(130,nI (s419.ph)),(129,nP z25 0),(118,.bool false),(19,nI x463),(11,.slice p91 L80.length c92),(9,nI x48),(7,nP z25 0),(2,.slice pa2 K2.length ca2)]) (w':=w526) (by kernel_rfl) ?_
           intro a535 hF534; clear hF530
           cases hc536:(decide ((K2.length:Int) > 0))
           case true =>
            rw [hc536] at hF534
            have hm537:=ifYes hc536 hm533; clear hm533
            refine ev_runK 8 hF534 [6] (l':=[(6,.bool true)]) (w':=w526) (by kernel_rfl) ?_
            intro a539 hF538; clear hF534
            refine wpList_nil ?_
            have hS540:=hS528.drop.drop
            clear hS528
            exact thenN ⟨true,hF538,hS540,hm537⟩
           rw [hc536] at hF534
           have hm541:=ifNot hc536 hm533; clear hm533
           refine ev_runs 1 hF534 (l':=[(142,nP z25 0),(141,.bool false),(140,.bool false),(139,nI ((K2.length:Int))),(138,.slice pa2 K2.length ca2),(137,.bool true),(136,.bool true),(135,.bool true),(134,nI (s419.cy)),(133,nP z25 0),(132,.bool true),(131,.bool true),(130,nI (s419.ph)),(129,nP z25 0),(118,.bool false),(19,nI x463),(11,.slice p91 L80.length c92),(9,nI x48),(7,nP z25 0),(2,.slice pa2 K2.length ca2)]) (w':=w526) (by kernel_rfl) ?_
           intro a543 hF542; clear hF534
           refine ev_call 6 #[nP z25 0] hF542 rfl rfl (by kernel_rfl) rfl (by kernel_rfl) (fun w=>by kernel_rfl) ?_
           refine (p_Arena hS528).mono ?_
           rintro _ w544 ⟨rfl,hS546⟩ a545 hF547; clear hF542 hS528
           refine ev_runs 1 hF547 (l':=[(144,nI x48),(143,nP z26 0),(142,nP z25 0),(141,.bool false),(140,.bool false),(139,nI ((K2.length:Int))),(138,.slice pa2 K2.length ca2),(137,.bool true),(136,.bool true),(135,.bool true),(134,nI (s419.cy)),(133,nP z25 0),(132,.bool true),(131,.bool true),(130,nI (s419.ph)),(129,nP z25 0),(118,.bool false),(19,nI x463),(11,.slice p91 L80.length c92),(9,nI x48),(7,nP z25 0),(2,.slice pa2 K2.length ca2)]) (w':=w544) (by kernel_rfl) ?_
           intro a549 hF548; clear hF547
           refine ev_call 13 #[nP z26 0,nI x48] hF548 rfl rfl (by kernel_rfl) rfl (by kernel_rfl) (fun w=>by kernel_rfl) ?_
           refine (p_Kind hS546).mono ?_
           rintro _ w550 ⟨rfl,hS552⟩ a551 hF553; clear hF548 hS546
           refine ev_runK 4 hF553 [6] (l':=[(6,.bool ((aKind s419.a.c x48) == 0))]) (w':=w550) (by kernel_rfl) ?_
           intro a555 hF554; clear hF553
           refine wpList_nil ?_
           have hS556:=hS552.drop.drop
           clear hS552
           exact thenN ⟨(aKind s419.a.c x48) == 0,hF554,hS556,hm541⟩
          rw [hc532] at hF530
          have hm557:=ifNot hc532 hm523; clear hm523
          refine ev_runK 12 hF530 [6] (l':=[(6,.bool false)]) (w':=w526) (by kernel_rfl) ?_
          intro a559 hF558; clear hF530
          refine wpList_nil ?_
          have hS560:=hS528.drop.drop
          clear hS528
          exact thenN ⟨false,hF558,hS560,hm557⟩
         rw [hc522] at hF520
         have hm561:=ifNot hc522 hm504; clear hm504
         refine ev_runK 17 hF520 [6] (l':=[(6,.bool false)]) (w':=w516) (by kernel_rfl) ?_
         intro a563 hF562; clear hF520
         refine wpList_nil ?_
         have hS564:=hS518.drop.drop
         clear hS518
         exact thenN ⟨false,hF562,hS564,hm561⟩
     · skip
       refine wp_region_lit ?_
       refine ev_runs 3 hF424 (l':=[(106,.bool (decide (x420<200))),(105,.bool (decide (x420<200))),(104,nI x420),(18,nI x420),(11,.slice p91 L80.length c92),(9,nI x48),(7,nP z25 0),(2,.slice pa2 K2.length ca2)]) (w':=w423) (by kernel_rfl) ?_
       intro a566 hF565; clear hF424
       cases hc567:(decide (x420<200))
       case true =>
        rw [hc567] at hF565
        have hm568:=ifYes hc567 hm427; clear hm427
        refine ev_runs 1 hF565 (l':=[(107,nP z25 0),(106,.bool true),(105,.bool true),(104,nI x420),(18,nI x420),(11,.slice p91 L80.length c92),(9,nI x48),(7,nP z25 0),(2,.slice pa2 K2.length ca2)]) (w':=w423) (by kernel_rfl) ?_
        intro a570 hF569; clear hF565
        have hS571:=hS425.pick1
        clear hS425
        refine ev_call 10 #[nP z25 0] hF569 rfl rfl (by kernel_rfl) rfl (by kernel_rfl) (fun w=>by kernel_rfl) ?_
        refine (p_Phase hS571).mono ?_
        rintro _ w572 ⟨rfl,hS574⟩ a573 hF575; clear hF569 hS571
        refine ev_runK 2 hF575 [2,7,9,11,18,110] (l':=[(110,.bool (s419.ph != 0)),(18,nI x420),(11,.slice p91 L80.length c92),(9,nI x48),(7,nP z25 0),(2,.slice pa2 K2.length ca2)]) (w':=w572) (by kernel_rfl) ?_
        intro a577 hF576; clear hF575
        refine wpList_nil ?_
        exact thenN ⟨s419.ph != 0,hF576,hS574,hm568⟩
       rw [hc567] at hF565
       have hm578:=ifNot hc567 hm427; clear hm427
       refine ev_runK 4 hF565 [2,7,9,11,18,110] (l':=[(110,.bool false),(18,nI x420),(11,.slice p91 L80.length c92),(9,nI x48),(7,nP z25 0),(2,.slice pa2 K2.length ca2)]) (w':=w423) (by kernel_rfl) ?_
       intro a580 hF579; clear hF565
       refine wpList_nil ?_
       have hS581:=hS425.pick1
       clear hS425
       exact thenN ⟨false,hF579,hS581,hm578⟩
   · skip
     refine wp_region_lit ?_
     refine ev_runs 5 hF87 (l':=[(60,.bool (decide (x83<(K2.length:Int)))),(59,.bool (decide (x83<(K2.length:Int)))),(58,nI ((K2.length:Int))),(57,.slice pa2 K2.length ca2),(56,nI x83),(12,nI x83),(11,.slice p91 L80.length c92),(9,nI x48),(7,nP z25 0),(1,nI x11),(2,.slice pa2 K2.length ca2)]) (w':=w86) (by kernel_rfl) ?_
     intro a583 hF582; clear hF87
     cases hc584:(decide (x83<(K2.length:Int)))
     case true =>
      rw [hc584] at hF582
      have hm585:=ifYes hc584 hm90; clear hm90
      refine ev_runK 3 hF582 [1,2,7,9,11,12,63] (l':=[(63,.bool (decide (x83<10))),(12,nI x83),(11,.slice p91 L80.length c92),(9,nI x48),(7,nP z25 0),(1,nI x11),(2,.slice pa2 K2.length ca2)]) (w':=w86) (by kernel_rfl) ?_
      intro a587 hF586; clear hF582
      refine wpList_nil ?_
      exact thenN ⟨decide (x83<10),hF586,hS88,hm585⟩
     rw [hc584] at hF582
     have hm588:=ifNot hc584 hm90; clear hm90
     refine ev_runK 3 hF582 [1,2,7,9,11,12,63] (l':=[(63,.bool false),(12,nI x83),(11,.slice p91 L80.length c92),(9,nI x48),(7,nP z25 0),(1,nI x11),(2,.slice pa2 K2.length ca2)]) (w':=w86) (by kernel_rfl) ?_
     intro a590 hF589; clear hF582
     refine wpList_nil ?_
     exact thenN ⟨false,hF589,hS88,hm588⟩
 · skip
   refine wp_region_lit ?_
   refine ev_call 5 #[] hF28 rfl rfl (by kernel_rfl) rfl (by kernel_rfl) (fun w=>by kernel_rfl) ?_
   obtain ⟨y591,hx592,hm593⟩:=bind1E hm20; clear hm20
   refine (law09_awake.ok hS23 hx592).mono ?_
   rintro _ w594 ⟨rfl,hS596⟩ a595 hF597; clear hF28 hS23
   refine ev_runs 2 hF597 (l':=[(36,.bool (!(y591))),(35,.bool (!(y591))),(34,.bool (y591)),(8,nI 0),(7,nP z25 0),(1,nI x11),(2,.slice pa2 K2.length ca2)]) (w':=w594) (by kernel_rfl) ?_
   intro a599 hF598; clear hF597
   cases hc600:(!(y591))
   case true =>
    rw [hc600] at hF598
    have hm601:=ifYes hc600 hm593; clear hm593
    refine ev_runK 12 hF598 [1,2,7,48] (l':=[(48,.bool true),(7,nP z25 0),(1,nI x11),(2,.slice pa2 K2.length ca2)]) (w':=w594) (by kernel_rfl) ?_
    intro a603 hF602; clear hF598
    refine wpList_nil ?_
    exact thenN ⟨true,hF602,hS596,hm601⟩
   rw [hc600] at hF598
   have hm604:=ifNot hc600 hm593; clear hm593
   refine ev_runs 9 hF598 (l':=[(45,nP z25 0),(44,.bool false),(43,.bool false),(42,.bool false),(41,nP z25 0),(40,.bool false),(39,.bool false),(38,.bool false),(37,nI 0),(36,.bool false),(35,.bool false),(34,.bool (y591)),(8,nI 0),(7,nP z25 0),(1,nI x11),(2,.slice pa2 K2.length ca2)]) (w':=w594) (by kernel_rfl) ?_
   intro a606 hF605; clear hF598
   refine ev_call 6 #[nP z25 0] hF605 rfl rfl (by kernel_rfl) rfl (by kernel_rfl) (fun w=>by kernel_rfl) ?_
   refine (p_Arena hS596).mono ?_
   rintro _ w607 ⟨rfl,hS609⟩ a608 hF610; clear hF605 hS596
   refine ev_runK 2 hF610 [1,2,7,48] (l':=[(48,.bool false),(7,nP z25 0),(1,nI x11),(2,.slice pa2 K2.length ca2)]) (w':=w607) (by kernel_rfl) ?_
   intro a612 hF611; clear hF610
   refine wpList_nil ?_
   exact thenN ⟨false,hF611,hS609,hm604⟩
end Go.Proofs.Ytmhciohocgeepaa
