/- G09p -/
import Derived.Test.YtffnjpapggidlaaGreatKGHelp
import Derived.Test.YtffnjpapggidlaaGreatKPrimV
import Derived.Test.YtffnjpapggidlaaGreatKAppM
import Derived.Test.YtffnjpapggidlaaGreatKArgX
import Derived.Test.YtffnjpapggidlaaGreatKRBegin
import Derived.Test.YtffnjpapggidlaaGreatKGRStep
import Derived.Test.YtffnjpapggidlaaGreatKSameG
import Derived.Deep.LoopGhost
import Derived.KernelRfl
namespace Go.Proofs.YtffnjpapggidlaaGreat
open Go.RowKit
set_option maxRecDepth 100000
set_option maxHeartbeats 40000000
set_option linter.unusedVariables false
def law09_sizes.m (k:Nat) (i0:Int):Option (Int):=(if (inR i0 ([0,9,3,7,10,2,2]).length) then some (atI [0,9,3,7,10,2,2] i0) else none)
theorem law09_sizes.ok {w0 w:World} {F0:List Nat} {ps:List Piece} {k:Nat} {i0:Int} {r0:Int} (hS:St w0 F0 (ps) w) (hm:law09_sizes.m k i0=some r0) :
    Calls Tryz.prog 126 #[nI i0] w fun e w'=>e=.returned (.int .i64 r0)∧St w0 F0 (ps) w':=by
 refine ev_enterL 7 [nI i0] Tryz.func126 rfl rfl (by simp) ?_
 intro a hF
 have hF0:Fr 7 a [(0,nI i0)]:=hF; clear hF
 unfold law09_sizes.m at hm
 refine wp_seq (wp_region_lit ?_)
 refine ev_runK 1 hF0 [0] (l':=[(0,nI i0)]) (w':=w) (by kernel_rfl) ?_
 intro a2 hF1; clear hF0
 refine wpList_nil (thenN (wp_seq (wp_region_lit ?_)))
 refine ev_runs 1 hF1 (l':=[(3,.slice (some ⟨w.heap.size,0,none⟩) 7 7),(0,nI i0)]) (w':=w.alloc (.cells #[nI 0,nI 9,nI 3,nI 7,nI 10,nI 2,nI 2] 3)) (by kernel_rfl) ?_
 intro a4 hF3; clear hF1
 have hS6:St w0 F0 (RowP (.slice (some ⟨w.heap.size,0,none⟩) 7 7) [0,9,3,7,10,2,2]::ps) (w.alloc (.cells #[nI 0,nI 9,nI 3,nI 7,nI 10,nI 2,nI 2] 3)):=St.lit hS [0,9,3,7,10,2,2] (by unfold maxLen; simp)
 refine ev_runs 1 hF3 (l':=[(4,nI i0),(3,.slice (some ⟨w.heap.size,0,none⟩) 7 7),(0,nI i0)]) (w':=w.alloc (.cells #[nI 0,nI 9,nI 3,nI 7,nI 10,nI 2,nI 2] 3)) (by kernel_rfl) ?_
 intro a8 hF7; clear hF3
 obtain ⟨hc9,hm10⟩:=ifTE hm; clear hm
 refine ev_one (nP (w.heap.size) (i0.toNat)) (w.alloc (.cells #[nI 0,nI 9,nI 3,nI 7,nI 10,nI 2,nI 2] 3)) hF7 (by kernel_rfl) rfl (by kernel_rfl) (run_idx rfl rfl rfl rfl rfl (inR_spec hc9).1 (inR_spec hc9).2 _) (l':=[(5,nP (w.heap.size) (i0.toNat)),(4,nI i0),(3,.slice (some ⟨w.heap.size,0,none⟩) 7 7),(0,nI i0)]) (by kernel_rfl) ?_
 intro a12 hF11; clear hF7
 refine ev_one (nI (atI [0,9,3,7,10,2,2] i0)) (w.alloc (.cells #[nI 0,nI 9,nI 3,nI 7,nI 10,nI 2,nI 2] 3)) hF11 (by kernel_rfl) rfl (by kernel_rfl) (run_load1 rfl rfl rfl (hS6.atI 0 rfl hc9)) (l':=[(6,nI (atI [0,9,3,7,10,2,2] i0)),(5,nP (w.heap.size) (i0.toNat)),(4,nI i0),(3,.slice (some ⟨w.heap.size,0,none⟩) 7 7),(0,nI i0)]) (by kernel_rfl) ?_
 intro a14 hF13; clear hF11
 refine ev_runK 1 hF13 [2] (l':=[(2,nI (atI [0,9,3,7,10,2,2] i0))]) (w':=w.alloc (.cells #[nI 0,nI 9,nI 3,nI 7,nI 10,nI 2,nI 2] 3)) (by kernel_rfl) ?_
 intro a16 hF15; clear hF13
 refine wpList_nil ?_
 have hS17:=hS6.drop
 clear hS6
 refine thenN ?_
 refine wp_ret ?_
 obtain rfl:=Option.some.inj hm10
 refine ev_ret hF15 [2] (nI (atI [0,9,3,7,10,2,2] i0)) rfl rfl rfl ?_
 exact ⟨rfl,hS17⟩
def law09_awake.j1 (y53:Bool):Option (Bool):=some (y53)
def law09_awake.m (k:Nat):Option (Bool):=bind1 (pNew 2) fun s3=>bind3 (pAlloc 5 2 s3) fun x26 x27 s28=>bind2 (pBegin s28 [x26]) fun x42 s43=>(if (x27 == 0) then (if (x42 == 0) then (if (s43.ph == 1) then bind1 (pColour x26 s43) fun x82=>(if (x82 == 1) then bind2 (pStep s43) fun L95 s96=>(if ((L95.length:Int) == 0) then bind1 (pColour x26 s96) fun x115=>law09_awake.j1 (x115 == 2) else law09_awake.j1 false) else law09_awake.j1 false) else law09_awake.j1 false) else law09_awake.j1 false) else law09_awake.j1 false)
theorem law09_awake.ok {w0 w:World} {F0:List Nat} {ps:List Piece} {k:Nat}  {r0:Bool} (hS:St w0 F0 (ps) w) (hm:law09_awake.m k=some r0) :
    Calls Tryz.prog 33 #[] w fun e w'=>e=.returned (.bool r0)∧St w0 F0 (ps) w':=by
 refine ev_enterL 59 [] Tryz.func33 rfl rfl (by simp) ?_
 intro a hF
 have hF0:Fr 59 a []:=hF; clear hF
 unfold law09_awake.m at hm
 refine wp_seq (wp_region_lit ?_)
 refine ev_runK 1 hF0 [] (l':=[]) (w':=w) (by kernel_rfl) ?_
 intro a2 hF1; clear hF0
 refine wpList_nil (thenN (wp_seq (wp_region_lit ?_)))
 refine ev_call 31 #[nI 2] hF1 rfl rfl (by kernel_rfl) rfl (by kernel_rfl) (fun w=>by kernel_rfl) ?_
 obtain ⟨s3,hx4,hm5⟩:=bind1E hm; clear hm
 refine (p_New hS hx4).mono ?_
 rintro _ w6 ⟨z10,z11,rfl,hS8⟩ a7 hF9; clear hF1 hS
 refine ev_runK 5 hF9 [1,2] (l':=[(2,nI 0),(1,nP z10 0)]) (w':=w6) (by kernel_rfl) ?_
 intro a14 hF13; clear hF9
 refine wpList_nil (thenN (wp_seq (wp_seq (wp_region_lit ?_))))
 refine ev_runs 8 hF13 (l':=[(17,nP z10 0),(16,.bool false),(15,.bool false),(14,.bool false),(13,nP z10 0),(12,.bool false),(11,.bool false),(10,nI 0),(2,nI 0),(1,nP z10 0)]) (w':=w6) (by kernel_rfl) ?_
 intro a16 hF15; clear hF13
 refine ev_call 34 #[nP z10 0] hF15 rfl rfl (by kernel_rfl) rfl (by kernel_rfl) (fun w=>by kernel_rfl) ?_
 refine (p_Arena hS8).mono ?_
 rintro _ w17 ⟨rfl,hS19⟩ a18 hF20; clear hF15 hS8
 refine ev_runK 2 hF20 [1,20] (l':=[(20,.bool false),(1,nP z10 0)]) (w':=w17) (by kernel_rfl) ?_
 intro a22 hF21; clear hF20
 refine wpList_nil (thenN ?_)
 refine ev_condF hF21 rfl rfl ?_
 refine wp_skip ?_
 have hF23:=hF21.keep [1]
 clear hF21
 refine thenN (wp_seq (wp_region_lit ?_))
 refine ev_runs 1 hF23 (l':=[(22,nP z10 0),(1,nP z10 0)]) (w':=w17) (by kernel_rfl) ?_
 intro a25 hF24; clear hF23
 refine ev_call 101 #[nP z10 0,nI 5,nI 2] hF24 rfl rfl (by kernel_rfl) rfl (by kernel_rfl) (fun w=>by kernel_rfl) ?_
 obtain ⟨x26,x27,s28,hx29,hm30⟩:=bind3E hm5; clear hm5
 refine (p_Alloc hS19 hx29).mono ?_
 rintro _ w31 ⟨rfl,hS33⟩ a32 hF34; clear hF24 hS19
 refine ev_runK 5 hF34 [1,3,4] (l':=[(4,nI x27),(3,nI x26),(1,nP z10 0)]) (w':=w31) (by kernel_rfl) ?_
 intro a36 hF35; clear hF34
 refine wpList_nil (thenN (wp_seq (wp_region_lit ?_)))
 refine ev_runs 3 hF35 (l':=[(28,.slice (some ⟨w31.heap.size,0,none⟩) 1 1),(27,nI x26),(26,nP z10 0),(4,nI x27),(3,nI x26),(1,nP z10 0)]) (w':=w31.alloc (.cells #[nI x26] 3)) (by kernel_rfl) ?_
 intro a38 hF37; clear hF35
 have hS40:St w0 F0 (RowP (.slice (some ⟨w31.heap.size,0,none⟩) 1 1) [x26]::HeapP z10 z11 s28::ps) (w31.alloc (.cells #[nI x26] 3)):=St.lit hS33 [x26] (by unfold maxLen; simp)
 clear hS33
 have hS41:=hS40.pick1
 clear hS40
 refine ev_call 45 #[nP z10 0,.slice (some ⟨w31.heap.size,0,none⟩) 1 1] hF37 rfl rfl (by kernel_rfl) rfl (by kernel_rfl) (fun w=>by kernel_rfl) ?_
 obtain ⟨x42,s43,hx44,hm45⟩:=bind2E hm30; clear hm30
 refine (p_Begin hS41 hx44).mono ?_
 rintro _ w46 ⟨rfl,hS48⟩ a47 hF49; clear hF37 hS41
 refine ev_runK 1 hF49 [1,3,4,5] (l':=[(5,nI x42),(4,nI x27),(3,nI x26),(1,nP z10 0)]) (w':=w46) (by kernel_rfl) ?_
 intro a51 hF50; clear hF49
 refine wpList_nil ?_
 have hS52:=hS48.pick1.drop
 clear hS48
 refine thenN (wp_seq ?_)
 refine joinQ (fun aI wI=>∃ (y53:Bool),Fr 59 aI [(0,.bool (y53))]∧St w0 F0 (ps) wI∧law09_awake.j1 y53=some r0) ?_ ?_
 rotate_left
 · rintro a55 w56 ⟨y53,hF57,hS58,hm59⟩
   clear hF50 hS52 hm45
   unfold law09_awake.j1 at hm59
   refine thenN ?_
   refine wp_ret ?_
   obtain rfl:=Option.some.inj hm59
   refine ev_ret hF57 [0] (.bool (y53)) rfl rfl rfl ?_
   exact ⟨rfl,hS58⟩
 · skip
   refine wp_region_lit ?_
   refine ev_runs 3 hF50 (l':=[(32,.bool (x27 == 0)),(31,.bool (x27 == 0)),(30,nI x27),(5,nI x42),(4,nI x27),(3,nI x26),(1,nP z10 0)]) (w':=w46) (by kernel_rfl) ?_
   intro a63 hF62; clear hF50
   cases hc64:(x27 == 0)
   case true =>
    rw [hc64] at hF62
    have hm65:=ifYes hc64 hm45; clear hm45
    refine ev_runs 4 hF62 (l':=[(36,.bool (x42 == 0)),(35,.bool (x42 == 0)),(34,.bool (x42 == 0)),(33,nI x42),(32,.bool true),(31,.bool true),(30,nI x27),(5,nI x42),(4,nI x27),(3,nI x26),(1,nP z10 0)]) (w':=w46) (by kernel_rfl) ?_
    intro a67 hF66; clear hF62
    cases hc68:(x42 == 0)
    case true =>
     rw [hc68] at hF66
     have hm69:=ifYes hc68 hm65; clear hm65
     refine ev_runs 1 hF66 (l':=[(37,nP z10 0),(36,.bool true),(35,.bool true),(34,.bool true),(33,nI x42),(32,.bool true),(31,.bool true),(30,nI x27),(5,nI x42),(4,nI x27),(3,nI x26),(1,nP z10 0)]) (w':=w46) (by kernel_rfl) ?_
     intro a71 hF70; clear hF66
     refine ev_call 37 #[nP z10 0] hF70 rfl rfl (by kernel_rfl) rfl (by kernel_rfl) (fun w=>by kernel_rfl) ?_
     refine (p_Phase hS52).mono ?_
     rintro _ w72 ⟨rfl,hS74⟩ a73 hF75; clear hF70 hS52
     refine ev_runs 3 hF75 (l':=[(41,.bool (s43.ph == 1)),(40,.bool (s43.ph == 1)),(39,.bool (s43.ph == 1)),(38,nI (s43.ph)),(37,nP z10 0),(36,.bool true),(35,.bool true),(34,.bool true),(33,nI x42),(32,.bool true),(31,.bool true),(30,nI x27),(5,nI x42),(4,nI x27),(3,nI x26),(1,nP z10 0)]) (w':=w72) (by kernel_rfl) ?_
     intro a77 hF76; clear hF75
     cases hc78:(s43.ph == 1)
     case true =>
      rw [hc78] at hF76
      have hm79:=ifYes hc78 hm69; clear hm69
      refine ev_runs 2 hF76 (l':=[(43,nI x26),(42,nP z10 0),(41,.bool true),(40,.bool true),(39,.bool true),(38,nI (s43.ph)),(37,nP z10 0),(36,.bool true),(35,.bool true),(34,.bool true),(33,nI x42),(32,.bool true),(31,.bool true),(30,nI x27),(5,nI x42),(4,nI x27),(3,nI x26),(1,nP z10 0)]) (w':=w72) (by kernel_rfl) ?_
      intro a81 hF80; clear hF76
      refine ev_call 41 #[nP z10 0,nI x26] hF80 rfl rfl (by kernel_rfl) rfl (by kernel_rfl) (fun w=>by kernel_rfl) ?_
      obtain ⟨x82,hx83,hm84⟩:=bind1E hm79; clear hm79
      refine (p_Colour hS74 hx83).mono ?_
      rintro _ w85 ⟨rfl,hS87⟩ a86 hF88; clear hF80 hS74
      refine ev_runs 3 hF88 (l':=[(47,.bool (x82 == 1)),(46,.bool (x82 == 1)),(45,.bool (x82 == 1)),(44,nI x82),(43,nI x26),(42,nP z10 0),(41,.bool true),(40,.bool true),(39,.bool true),(38,nI (s43.ph)),(37,nP z10 0),(36,.bool true),(35,.bool true),(34,.bool true),(33,nI x42),(32,.bool true),(31,.bool true),(30,nI x27),(5,nI x42),(4,nI x27),(3,nI x26),(1,nP z10 0)]) (w':=w85) (by kernel_rfl) ?_
      intro a90 hF89; clear hF88
      cases hc91:(x82 == 1)
      case true =>
       rw [hc91] at hF89
       have hm92:=ifYes hc91 hm84; clear hm84
       refine ev_runs 1 hF89 (l':=[(48,nP z10 0),(47,.bool true),(46,.bool true),(45,.bool true),(44,nI x82),(43,nI x26),(42,nP z10 0),(41,.bool true),(40,.bool true),(39,.bool true),(38,nI (s43.ph)),(37,nP z10 0),(36,.bool true),(35,.bool true),(34,.bool true),(33,nI x42),(32,.bool true),(31,.bool true),(30,nI x27),(5,nI x42),(4,nI x27),(3,nI x26),(1,nP z10 0)]) (w':=w85) (by kernel_rfl) ?_
       intro a94 hF93; clear hF89
       refine ev_call 46 #[nP z10 0] hF93 rfl rfl (by kernel_rfl) rfl (by kernel_rfl) (fun w=>by kernel_rfl) ?_
       obtain ⟨L95,s96,hx97,hm98⟩:=bind2E hm92; clear hm92
       refine (p_Step hS87 hx97).mono ?_
       rintro _ w99 ⟨z103,rfl,hS101⟩ a100 hF102; clear hF93 hS87
       obtain ⟨hl108,p105,c106,rfl,hp107⟩:=St.shapeG (k:=1) hS101 rfl
       refine ev_runs 4 hF102 (l':=[(53,.bool ((L95.length:Int) == 0)),(52,.bool ((L95.length:Int) == 0)),(51,.bool ((L95.length:Int) == 0)),(50,nI ((L95.length:Int))),(49,.slice p105 L95.length c106),(48,nP z10 0),(47,.bool true),(46,.bool true),(45,.bool true),(44,nI x82),(43,nI x26),(42,nP z10 0),(41,.bool true),(40,.bool true),(39,.bool true),(38,nI (s43.ph)),(37,nP z10 0),(36,.bool true),(35,.bool true),(34,.bool true),(33,nI x42),(32,.bool true),(31,.bool true),(30,nI x27),(5,nI x42),(4,nI x27),(3,nI x26),(1,nP z10 0)]) (w':=w99) (by kernel_rfl) ?_
       intro a110 hF109; clear hF102
       cases hc111:((L95.length:Int) == 0)
       case true =>
        rw [hc111] at hF109
        have hm112:=ifYes hc111 hm98; clear hm98
        refine ev_runs 2 hF109 (l':=[(55,nI x26),(54,nP z10 0),(53,.bool true),(52,.bool true),(51,.bool true),(50,nI ((L95.length:Int))),(49,.slice p105 L95.length c106),(48,nP z10 0),(47,.bool true),(46,.bool true),(45,.bool true),(44,nI x82),(43,nI x26),(42,nP z10 0),(41,.bool true),(40,.bool true),(39,.bool true),(38,nI (s43.ph)),(37,nP z10 0),(36,.bool true),(35,.bool true),(34,.bool true),(33,nI x42),(32,.bool true),(31,.bool true),(30,nI x27),(5,nI x42),(4,nI x27),(3,nI x26),(1,nP z10 0)]) (w':=w99) (by kernel_rfl) ?_
        intro a114 hF113; clear hF109
        refine ev_call 41 #[nP z10 0,nI x26] hF113 rfl rfl (by kernel_rfl) rfl (by kernel_rfl) (fun w=>by kernel_rfl) ?_
        obtain ⟨x115,hx116,hm117⟩:=bind1E hm112; clear hm112
        refine (p_Colour hS101 hx116).mono ?_
        rintro _ w118 ⟨rfl,hS120⟩ a119 hF121; clear hF113 hS101
        refine ev_runK 3 hF121 [0] (l':=[(0,.bool (x115 == 2))]) (w':=w118) (by kernel_rfl) ?_
        intro a123 hF122; clear hF121
        refine wpList_nil ?_
        have hS124:=hS120.drop.drop
        clear hS120
        exact thenN ⟨x115 == 2,hF122,hS124,hm117⟩
       rw [hc111] at hF109
       have hm125:=ifNot hc111 hm98; clear hm98
       refine ev_runK 6 hF109 [0] (l':=[(0,.bool false)]) (w':=w99) (by kernel_rfl) ?_
       intro a127 hF126; clear hF109
       refine wpList_nil ?_
       have hS128:=hS101.drop.drop
       clear hS101
       exact thenN ⟨false,hF126,hS128,hm125⟩
      rw [hc91] at hF89
      have hm129:=ifNot hc91 hm84; clear hm84
      refine ev_runK 12 hF89 [0] (l':=[(0,.bool false)]) (w':=w85) (by kernel_rfl) ?_
      intro a131 hF130; clear hF89
      refine wpList_nil ?_
      have hS132:=hS87.drop
      clear hS87
      exact thenN ⟨false,hF130,hS132,hm129⟩
     rw [hc78] at hF76
     have hm133:=ifNot hc78 hm69; clear hm69
     refine ev_runK 18 hF76 [0] (l':=[(0,.bool false)]) (w':=w72) (by kernel_rfl) ?_
     intro a135 hF134; clear hF76
     refine wpList_nil ?_
     have hS136:=hS74.drop
     clear hS74
     exact thenN ⟨false,hF134,hS136,hm133⟩
    rw [hc68] at hF66
    have hm137:=ifNot hc68 hm65; clear hm65
    refine ev_runK 23 hF66 [0] (l':=[(0,.bool false)]) (w':=w46) (by kernel_rfl) ?_
    intro a139 hF138; clear hF66
    refine wpList_nil ?_
    have hS140:=hS52.drop
    clear hS52
    exact thenN ⟨false,hF138,hS140,hm137⟩
   rw [hc64] at hF62
   have hm141:=ifNot hc64 hm45; clear hm45
   refine ev_runK 27 hF62 [0] (l':=[(0,.bool false)]) (w':=w46) (by kernel_rfl) ?_
   intro a143 hF142; clear hF62
   refine wpList_nil ?_
   have hS144:=hS52.drop
   clear hS52
   exact thenN ⟨false,hF142,hS144,hm141⟩
def law09_pick.m (k:Nat) (s0:HSt) (i1:Int):Option (Int×HSt):=(if (((hObjsF s0.a).length:Int) == 0) then some (-1,s0) else (if ((IntKind.u64.wrap ((hObjsF s0.a).length:Int)) == 0) then none else (if (inR (IntKind.i64.wrap (Int.tmod (IntKind.u64.wrap i1) (IntKind.u64.wrap ((hObjsF s0.a).length:Int)))) (hObjsF s0.a).length) then bind1 (some (atI (hObjsF s0.a) (IntKind.i64.wrap (Int.tmod (IntKind.u64.wrap i1) (IntKind.u64.wrap ((hObjsF s0.a).length:Int)))))) fun x47=>some (x47,s0) else none)))
theorem law09_pick.ok {w0 w:World} {F0:List Nat} {ps:List Piece} {k:Nat} {b0 ab0 sb0 g0 cb0:Nat} {s0:HSt} {i1:Int} {r0:Int} {t0:HSt} (hS:St w0 F0 (RHeapP b0 ab0 sb0 g0 cb0 s0::ps) w) (hm:law09_pick.m k s0 i1=some (r0,t0)) :
    Calls Tryz.prog 44 #[nP b0 0,nI i1] w fun e w'=>e=.returned (.int .i64 r0)∧St w0 F0 (RHeapP b0 ab0 sb0 g0 cb0 t0::ps) w':=by
 refine ev_enterL 24 [nP b0 0,nI i1] Tryz.func44 rfl rfl (by simp) ?_
 intro a hF
 have hF0:Fr 24 a [(0,nP b0 0),(1,nI i1)]:=hF; clear hF
 unfold law09_pick.m at hm
 refine wp_seq (wp_region_lit ?_)
 refine ev_runK 1 hF0 [0,1] (l':=[(0,nP b0 0),(1,nI i1)]) (w':=w) (by kernel_rfl) ?_
 intro a2 hF1; clear hF0
 refine wpList_nil (thenN (wp_seq (wp_region_lit ?_)))
 refine ev_runs 3 hF1 (l':=[(8,nP b0 0),(7,nP b0 0),(6,nP b0 0),(0,nP b0 0),(1,nI i1)]) (w':=w) (by kernel_rfl) ?_
 intro a4 hF3; clear hF1
 refine ev_one (nP ab0 0) w hF3 (by kernel_rfl) rfl (by kernel_rfl) (run_loadV rfl rfl (run_loadS rfl rfl (St.rhsee (k:=0) hS rfl).1)) (l':=[(9,nP ab0 0),(8,nP b0 0),(7,nP b0 0),(6,nP b0 0),(0,nP b0 0),(1,nI i1)]) (by kernel_rfl) ?_
 intro a6 hF5; clear hF3
 refine ev_call 103 #[nP ab0 0] hF5 rfl rfl (by kernel_rfl) rfl (by kernel_rfl) (fun w=>by kernel_rfl) ?_
 refine (q_Objects hS).mono ?_
 rintro _ w7 ⟨z11,rfl,hS9⟩ a8 hF10; clear hF5 hS
 obtain ⟨hl16,p13,c14,rfl,hp15⟩:=St.shape hS9 1 rfl
 refine ev_runK 1 hF10 [1,5] (l':=[(5,.slice p13 (hObjsF s0.a).length c14),(1,nI i1)]) (w':=w7) (by kernel_rfl) ?_
 intro a18 hF17; clear hF10
 refine wpList_nil (thenN (wp_seq (wp_seq (wp_region_lit ?_))))
 refine ev_runK 3 hF17 [1,5,13] (l':=[(13,.bool (((hObjsF s0.a).length:Int) == 0)),(5,.slice p13 (hObjsF s0.a).length c14),(1,nI i1)]) (w':=w7) (by kernel_rfl) ?_
 intro a20 hF19; clear hF17
 refine wpList_nil (thenN ?_)
 cases hc21:(((hObjsF s0.a).length:Int) == 0)
 case true =>
  rw [hc21] at hF19
  have hm22:=ifYes hc21 hm; clear hm
  refine ev_condT hF19 rfl rfl ?_
  refine wp_seq (wp_region_lit ?_)
  refine ev_runK 1 hF19 [4] (l':=[(4,nI (-1))]) (w':=w7) (by kernel_rfl) ?_
  intro a24 hF23; clear hF19
  refine wpList_nil ?_
  have hS25:=hS9.pick1.drop
  clear hS9
  refine thenN ?_
  refine wp_ret ?_
  refine thenR ?_
  simp only [Option.some.injEq,Prod.mk.injEq] at hm22
  obtain ⟨rfl,rfl⟩:=hm22
  refine ev_ret hF23 [4] (nI (-1)) rfl rfl rfl ?_
  exact ⟨rfl,hS25⟩
 rw [hc21] at hF19
 have hm28:=ifNot hc21 hm; clear hm
 refine ev_condF hF19 rfl rfl ?_
 refine wp_skip ?_
 have hF29:=hF19.keep [1,5]
 clear hF19
 refine thenN (wp_seq (wp_region_lit ?_))
 refine ev_runs 6 hF29 (l':=[(19,.int .u64 (IntKind.u64.wrap ((hObjsF s0.a).length:Int))),(18,nI (((hObjsF s0.a).length:Int))),(17,.slice p13 (hObjsF s0.a).length c14),(16,.int .u64 (IntKind.u64.wrap i1)),(15,nI i1),(14,.slice p13 (hObjsF s0.a).length c14),(5,.slice p13 (hObjsF s0.a).length c14),(1,nI i1)]) (w':=w7) (by kernel_rfl) ?_
 intro a31 hF30; clear hF29
 obtain ⟨hc32,hm33⟩:=ifFE hm28; clear hm28
 refine ev_one (.int .u64 (Int.tmod (IntKind.u64.wrap i1) (IntKind.u64.wrap ((hObjsF s0.a).length:Int)))) w7 hF30 (by kernel_rfl) rfl (by kernel_rfl) (run_rem rfl rfl rfl hc32 _) (l':=[(20,.int .u64 (Int.tmod (IntKind.u64.wrap i1) (IntKind.u64.wrap ((hObjsF s0.a).length:Int)))),(19,.int .u64 (IntKind.u64.wrap ((hObjsF s0.a).length:Int))),(18,nI (((hObjsF s0.a).length:Int))),(17,.slice p13 (hObjsF s0.a).length c14),(16,.int .u64 (IntKind.u64.wrap i1)),(15,nI i1),(14,.slice p13 (hObjsF s0.a).length c14),(5,.slice p13 (hObjsF s0.a).length c14),(1,nI i1)]) (by kernel_rfl) ?_
 intro a35 hF34; clear hF30
 refine ev_runs 1 hF34 (l':=[(21,nI (IntKind.i64.wrap (Int.tmod (IntKind.u64.wrap i1) (IntKind.u64.wrap ((hObjsF s0.a).length:Int))))),(20,.int .u64 (Int.tmod (IntKind.u64.wrap i1) (IntKind.u64.wrap ((hObjsF s0.a).length:Int)))),(19,.int .u64 (IntKind.u64.wrap ((hObjsF s0.a).length:Int))),(18,nI (((hObjsF s0.a).length:Int))),(17,.slice p13 (hObjsF s0.a).length c14),(16,.int .u64 (IntKind.u64.wrap i1)),(15,nI i1),(14,.slice p13 (hObjsF s0.a).length c14),(5,.slice p13 (hObjsF s0.a).length c14),(1,nI i1)]) (w':=w7) (by kernel_rfl) ?_
 intro a37 hF36; clear hF34
 obtain ⟨hc38,hm39⟩:=ifTE hm33; clear hm33
 obtain ⟨g40,rfl⟩:=hp15.resolve_left (by have:=inR_spec hc38; omega)
 refine ev_one (nP g40 ((IntKind.i64.wrap (Int.tmod (IntKind.u64.wrap i1) (IntKind.u64.wrap ((hObjsF s0.a).length:Int)))).toNat)) w7 hF36 (by kernel_rfl) rfl (by kernel_rfl) (run_idx rfl rfl rfl rfl rfl (inR_spec hc38).1 (inR_spec hc38).2 _) (l':=[(22,nP g40 ((IntKind.i64.wrap (Int.tmod (IntKind.u64.wrap i1) (IntKind.u64.wrap ((hObjsF s0.a).length:Int)))).toNat)),(21,nI (IntKind.i64.wrap (Int.tmod (IntKind.u64.wrap i1) (IntKind.u64.wrap ((hObjsF s0.a).length:Int))))),(20,.int .u64 (Int.tmod (IntKind.u64.wrap i1) (IntKind.u64.wrap ((hObjsF s0.a).length:Int)))),(19,.int .u64 (IntKind.u64.wrap ((hObjsF s0.a).length:Int))),(18,nI (((hObjsF s0.a).length:Int))),(17,.slice (some ⟨g40,0,none⟩) (hObjsF s0.a).length c14),(16,.int .u64 (IntKind.u64.wrap i1)),(15,nI i1),(14,.slice (some ⟨g40,0,none⟩) (hObjsF s0.a).length c14),(5,.slice (some ⟨g40,0,none⟩) (hObjsF s0.a).length c14),(1,nI i1)]) (by kernel_rfl) ?_
 intro a42 hF41; clear hF36
 refine ev_one (nI (atI (hObjsF s0.a) (IntKind.i64.wrap (Int.tmod (IntKind.u64.wrap i1) (IntKind.u64.wrap ((hObjsF s0.a).length:Int)))))) w7 hF41 (by kernel_rfl) rfl (by kernel_rfl) (run_load1 rfl rfl rfl (hS9.atI 1 rfl hc38)) (l':=[(23,nI (atI (hObjsF s0.a) (IntKind.i64.wrap (Int.tmod (IntKind.u64.wrap i1) (IntKind.u64.wrap ((hObjsF s0.a).length:Int)))))),(22,nP g40 ((IntKind.i64.wrap (Int.tmod (IntKind.u64.wrap i1) (IntKind.u64.wrap ((hObjsF s0.a).length:Int)))).toNat)),(21,nI (IntKind.i64.wrap (Int.tmod (IntKind.u64.wrap i1) (IntKind.u64.wrap ((hObjsF s0.a).length:Int))))),(20,.int .u64 (Int.tmod (IntKind.u64.wrap i1) (IntKind.u64.wrap ((hObjsF s0.a).length:Int)))),(19,.int .u64 (IntKind.u64.wrap ((hObjsF s0.a).length:Int))),(18,nI (((hObjsF s0.a).length:Int))),(17,.slice (some ⟨g40,0,none⟩) (hObjsF s0.a).length c14),(16,.int .u64 (IntKind.u64.wrap i1)),(15,nI i1),(14,.slice (some ⟨g40,0,none⟩) (hObjsF s0.a).length c14),(5,.slice (some ⟨g40,0,none⟩) (hObjsF s0.a).length c14),(1,nI i1)]) (by kernel_rfl) ?_
 intro a44 hF43; clear hF41
 refine ev_runs 1 hF43 (l':=[(4,nI (atI (hObjsF s0.a) (IntKind.i64.wrap (Int.tmod (IntKind.u64.wrap i1) (IntKind.u64.wrap ((hObjsF s0.a).length:Int)))))),(23,nI (atI (hObjsF s0.a) (IntKind.i64.wrap (Int.tmod (IntKind.u64.wrap i1) (IntKind.u64.wrap ((hObjsF s0.a).length:Int)))))),(22,nP g40 ((IntKind.i64.wrap (Int.tmod (IntKind.u64.wrap i1) (IntKind.u64.wrap ((hObjsF s0.a).length:Int)))).toNat)),(21,nI (IntKind.i64.wrap (Int.tmod (IntKind.u64.wrap i1) (IntKind.u64.wrap ((hObjsF s0.a).length:Int))))),(20,.int .u64 (Int.tmod (IntKind.u64.wrap i1) (IntKind.u64.wrap ((hObjsF s0.a).length:Int)))),(19,.int .u64 (IntKind.u64.wrap ((hObjsF s0.a).length:Int))),(18,nI (((hObjsF s0.a).length:Int))),(17,.slice (some ⟨g40,0,none⟩) (hObjsF s0.a).length c14),(16,.int .u64 (IntKind.u64.wrap i1)),(15,nI i1),(14,.slice (some ⟨g40,0,none⟩) (hObjsF s0.a).length c14),(5,.slice (some ⟨g40,0,none⟩) (hObjsF s0.a).length c14),(1,nI i1)]) (w':=w7) (by kernel_rfl) ?_
 intro a46 hF45; clear hF43
 obtain ⟨x47,hx48,hm49⟩:=bind1E hm39; clear hm39
 have hF50:=hF45; rw [Option.some.inj hx48] at hF50; clear hF45
 refine wpList_nil ?_
 have hF51:=hF50.keep [4]
 clear hF50
 have hS52:=hS9.pick1.drop
 clear hS9
 refine thenN ?_
 refine wp_ret ?_
 simp only [Option.some.injEq,Prod.mk.injEq] at hm49
 obtain ⟨rfl,rfl⟩:=hm49
 refine ev_ret hF51 [4] (nI x47) rfl rfl rfl ?_
 exact ⟨rfl,hS52⟩
def law09_alike.l8b (s0:HSt) (s1:HSt) (x40:Int) (rec43:Int→Option (Bool×HSt×HSt)) (rec76:Int→Option (Bool×HSt×HSt)) (x73:Int):Option (Bool×HSt×HSt):=(if (inR x40 (hObjsF s1.a).length) then (if (decide (x73<(aLen s1.a.c (atI (hObjsF s1.a) x40)))) then bind2 (pLoad (atI (hObjsF s1.a) x40) x73 s0) fun x106 x107=>bind2 (pLoad (atI (hObjsF s1.a) x40) x73 s1) fun x120 x121=>(if (x106 != x120) then some (false,s0,s1) else rec76 (IntKind.i64.wrap (x73+1))) else rec43 (IntKind.i64.wrap (x40+1))) else none)
def law09_alike.l8 (s0:HSt) (s1:HSt) (x40:Int) (rec43:Int→Option (Bool×HSt×HSt)):Nat→Int→Option (Bool×HSt×HSt)
  | 0=>fun _=>none
  | kI+1=>law09_alike.l8b s0 s1 x40 rec43 (law09_alike.l8 s0 s1 x40 rec43 kI)
def law09_alike.j7 (s0:HSt) (s1:HSt) (k:Nat) (x40:Int) (rec43:Int→Option (Bool×HSt×HSt)) (y53:Bool):Option (Bool×HSt×HSt):=(if (y53) then some (false,s0,s1) else law09_alike.l8 s0 s1 x40 rec43 k 0)
def law09_alike.l6b (s0:HSt) (s1:HSt) (k:Nat) (rec43:Int→Option (Bool×HSt×HSt)) (x40:Int):Option (Bool×HSt×HSt):=(if (decide (x40<((hObjsF s1.a).length:Int))) then (if (inR x40 (hObjsF s1.a).length) then (if (inR (atI (hObjsF s1.a) x40) (s1.a.c).length) then bind1 (pColour (atI (hObjsF s1.a) x40) s0) fun x160=>(if (x160 != (s1.col (atI (hObjsF s1.a) x40))) then law09_alike.j7 s0 s1 k x40 rec43 true else (if ((aKind s0.a.c (atI (hObjsF s1.a) x40)) != (aKind s1.a.c (atI (hObjsF s1.a) x40))) then law09_alike.j7 s0 s1 k x40 rec43 true else law09_alike.j7 s0 s1 k x40 rec43 ((aLen s0.a.c (atI (hObjsF s1.a) x40)) != (aLen s1.a.c (atI (hObjsF s1.a) x40))))) else none) else none) else some (true,s0,s1))
def law09_alike.l6 (s0:HSt) (s1:HSt) (k:Nat):Nat→Int→Option (Bool×HSt×HSt)
  | 0=>fun _=>none
  | kI+1=>law09_alike.l6b s0 s1 k (law09_alike.l6 s0 s1 k kI)
def law09_alike.j1 (s0:HSt) (s1:HSt) (k:Nat) (y20:Bool):Option (Bool×HSt×HSt):=(if (y20) then some (false,s0,s1) else law09_alike.l6 s0 s1 k k 0)
def law09_alike.m (k:Nat) (s0:HSt) (s1:HSt):Option (Bool×HSt×HSt):=bind1 (help_Plain.m k (hObjsF s0.a) (hObjsF s1.a)) fun y242=>(if (!(y242)) then law09_alike.j1 s0 s1 k true else (if (s0.ph != s1.ph) then law09_alike.j1 s0 s1 k true else law09_alike.j1 s0 s1 k (s0.cy != s1.cy)))
theorem law09_alike.ok {w0 w:World} {F0:List Nat} {ps:List Piece} {k:Nat} {b0 ab0:Nat} {s0:HSt} {b1 ab1 sb1 g1 cb1:Nat} {s1:HSt} {r0:Bool} {t0:HSt} {t1:HSt} (hS:St w0 F0 (HeapP b0 ab0 s0::RHeapP b1 ab1 sb1 g1 cb1 s1::ps) w) (hm:law09_alike.m k s0 s1=some (r0,t0,t1)) :
    Calls Tryz.prog 52 #[nP b0 0,nP b1 0] w fun e w'=>e=.returned (.bool r0)∧St w0 F0 (HeapP b0 ab0 t0::RHeapP b1 ab1 sb1 g1 cb1 t1::ps) w':=by
 refine ev_enterL 141 [nP b0 0,nP b1 0] Tryz.func52 rfl rfl (by simp) ?_
 intro a hF
 have hF0:Fr 141 a [(0,nP b0 0),(1,nP b1 0)]:=hF; clear hF
 unfold law09_alike.m at hm
 refine wp_seq (wp_region_lit ?_)
 refine ev_runK 1 hF0 [0,1] (l':=[(0,nP b0 0),(1,nP b1 0)]) (w':=w) (by kernel_rfl) ?_
 intro a2 hF1; clear hF0
 refine wpList_nil (thenN (wp_seq (wp_region_lit ?_)))
 refine ev_runs 3 hF1 (l':=[(14,nP b1 0),(13,nP b1 0),(12,nP b1 0),(0,nP b0 0),(1,nP b1 0)]) (w':=w) (by kernel_rfl) ?_
 intro a4 hF3; clear hF1
 refine ev_one (nP ab1 0) w hF3 (by kernel_rfl) rfl (by kernel_rfl) (run_loadV rfl rfl (run_loadS rfl rfl (St.rhsee (k:=1) hS rfl).1)) (l':=[(15,nP ab1 0),(14,nP b1 0),(13,nP b1 0),(12,nP b1 0),(0,nP b0 0),(1,nP b1 0)]) (by kernel_rfl) ?_
 intro a6 hF5; clear hF3
 have hS7:=hS.pick1
 refine ev_call 103 #[nP ab1 0] hF5 rfl rfl (by kernel_rfl) rfl (by kernel_rfl) (fun w=>by kernel_rfl) ?_
 refine (q_Objects hS7).mono ?_
 rintro _ w8 ⟨z12,rfl,hS10⟩ a9 hF11; clear hF5 hS7
 obtain ⟨hl17,p14,c15,rfl,hp16⟩:=St.shape hS10 1 rfl
 refine ev_runK 1 hF11 [0,1,5] (l':=[(5,.slice p14 (hObjsF s1.a).length c15),(0,nP b0 0),(1,nP b1 0)]) (w':=w8) (by kernel_rfl) ?_
 intro a19 hF18; clear hF11
 refine wpList_nil (thenN (wp_seq (wp_seq ?_)))
 refine joinQ (fun aI wI=>∃ (y20:Bool),Fr 141 aI [(40,.bool (y20)),(5,.slice p14 (hObjsF s1.a).length c15),(0,nP b0 0),(1,nP b1 0)]∧St w0 F0 (RowP (.slice p14 (hObjsF s1.a).length c15) (hObjsF s1.a)::HeapP b0 ab0 s0::RHeapP b1 ab1 sb1 g1 cb1 s1::ps) wI∧law09_alike.j1 s0 s1 k y20=some (r0,t0,t1)) ?_ ?_
 rotate_left
 · rintro a22 w23 ⟨y20,hF24,hS25,hm26⟩
   clear hF18 hS10 hm
   unfold law09_alike.j1 at hm26
   refine thenN ?_
   cases hc28:(y20)
   case true =>
    rw [hc28] at hF24
    have hm29:=ifYes hc28 hm26; clear hm26
    refine ev_condT hF24 rfl rfl ?_
    refine wp_seq (wp_region_lit ?_)
    refine ev_runK 1 hF24 [4] (l':=[(4,.bool false)]) (w':=w23) (by kernel_rfl) ?_
    intro a31 hF30; clear hF24
    refine wpList_nil ?_
    have hS32:=hS25.drop
    clear hS25
    refine thenN ?_
    refine wp_ret ?_
    refine thenR ?_
    simp only [Option.some.injEq,Prod.mk.injEq] at hm29
    obtain ⟨rfl,rfl,rfl⟩:=hm29
    refine ev_ret hF30 [4] (.bool false) rfl rfl rfl ?_
    exact ⟨rfl,hS32⟩
   rw [hc28] at hF24
   have hm36:=ifNot hc28 hm26; clear hm26
   refine ev_condF hF24 rfl rfl ?_
   refine wp_skip ?_
   have hF37:=hF24.keep [0,1,5]
   clear hF24
   refine thenN (wp_seq (wp_seq (wp_region_lit ?_)))
   refine ev_runs 1 hF37 (l':=[(6,nI 0),(5,.slice p14 (hObjsF s1.a).length c15),(0,nP b0 0),(1,nP b1 0)]) (w':=w23) (by kernel_rfl) ?_
   intro a39 hF38; clear hF37
   refine wpList_nil (thenN ?_)
   refine wp_block ?_
   refine wp_loop_ghost (fun kI aI wI=>∃ (x40:Int),Fr 141 aI [(6,nI x40),(5,.slice p14 (hObjsF s1.a).length c15),(0,nP b0 0),(1,nP b1 0)]∧St w0 F0 (RowP (.slice p14 (hObjsF s1.a).length c15) (hObjsF s1.a)::HeapP b0 ab0 s0::RHeapP b1 ab1 sb1 g1 cb1 s1::ps) wI∧law09_alike.l6 s0 s1 k kI x40=some (r0,t0,t1)) k ⟨0,hF38,hS25,hm36⟩ ?_
   rintro k41 a42 w43 ⟨x40,hF44,hS45,hm46⟩
   clear hF38 hS25 hm36
   rcases k41 with _ | k41
   · cases hm46
   have hm47:law09_alike.l6b s0 s1 k (law09_alike.l6 s0 s1 k k41) x40=some (r0,t0,t1):=hm46
   clear hm46
   unfold law09_alike.l6b at hm47
   refine wp_seq (wp_seq (wp_region_lit ?_))
   refine ev_runK 4 hF44 [0,1,5,6,44] (l':=[(44,.bool (decide (x40<((hObjsF s1.a).length:Int)))),(6,nI x40),(5,.slice p14 (hObjsF s1.a).length c15),(0,nP b0 0),(1,nP b1 0)]) (w':=w43) (by kernel_rfl) ?_
   intro a49 hF48; clear hF44
   refine wpList_nil (thenN ?_)
   cases hc50:(decide (x40<((hObjsF s1.a).length:Int)))
   case true =>
    rw [hc50] at hF48
    have hm51:=ifYes hc50 hm47; clear hm47
    refine ev_condT hF48 rfl rfl ?_
    refine wp_skip ?_
    have hF52:=hF48.keep [0,1,5,6]
    clear hF48
    refine thenN (wp_seq ?_)
    refine wp_block ?_
    refine wp_seq (wp_seq ?_)
    refine joinQ (fun aI wI=>∃ (y53:Bool),Fr 141 aI [(101,.bool (y53)),(6,nI x40),(5,.slice p14 (hObjsF s1.a).length c15),(0,nP b0 0),(1,nP b1 0)]∧St w0 F0 (HeapP b0 ab0 s0::RowP (.slice p14 (hObjsF s1.a).length c15) (hObjsF s1.a)::RHeapP b1 ab1 sb1 g1 cb1 s1::ps) wI∧law09_alike.j7 s0 s1 k x40 (law09_alike.l6 s0 s1 k k41) y53=some (r0,t0,t1)) ?_ ?_
    rotate_left
    · rintro a55 w56 ⟨y53,hF57,hS58,hm59⟩
      clear hF52 hS45 hm51
      unfold law09_alike.j7 at hm59
      refine thenN ?_
      cases hc61:(y53)
      case true =>
       rw [hc61] at hF57
       have hm62:=ifYes hc61 hm59; clear hm59
       refine ev_condT hF57 rfl rfl ?_
       refine wp_seq (wp_region_lit ?_)
       refine ev_runK 1 hF57 [4] (l':=[(4,.bool false)]) (w':=w56) (by kernel_rfl) ?_
       intro a64 hF63; clear hF57
       refine wpList_nil ?_
       have hS65:=hS58.pick1.drop
       clear hS58
       refine thenN ?_
       refine wp_ret ?_
       refine thenR ?_
       refine blockR ?_
       refine thenR (thenR ?_)
       refine blockR ?_
       refine thenR ?_
       simp only [Option.some.injEq,Prod.mk.injEq] at hm62
       obtain ⟨rfl,rfl,rfl⟩:=hm62
       refine ev_ret hF63 [4] (.bool false) rfl rfl rfl ?_
       exact ⟨rfl,hS65⟩
      rw [hc61] at hF57
      have hm69:=ifNot hc61 hm59; clear hm59
      refine ev_condF hF57 rfl rfl ?_
      refine wp_skip ?_
      have hF70:=hF57.keep [0,1,5,6]
      clear hF57
      refine thenN (wp_seq (wp_region_lit ?_))
      refine ev_runs 1 hF70 (l':=[(7,nI 0),(6,nI x40),(5,.slice p14 (hObjsF s1.a).length c15),(0,nP b0 0),(1,nP b1 0)]) (w':=w56) (by kernel_rfl) ?_
      intro a72 hF71; clear hF70
      refine wpList_nil (thenN ?_)
      refine wp_block ?_
      refine wp_loop_ghost (fun kI aI wI=>∃ (x73:Int),Fr 141 aI [(7,nI x73),(6,nI x40),(5,.slice p14 (hObjsF s1.a).length c15),(0,nP b0 0),(1,nP b1 0)]∧St w0 F0 (HeapP b0 ab0 s0::RowP (.slice p14 (hObjsF s1.a).length c15) (hObjsF s1.a)::RHeapP b1 ab1 sb1 g1 cb1 s1::ps) wI∧law09_alike.l8 s0 s1 x40 (law09_alike.l6 s0 s1 k k41) kI x73=some (r0,t0,t1)) k ⟨0,hF71,hS58,hm69⟩ ?_
      rintro k74 a75 w76 ⟨x73,hF77,hS78,hm79⟩
      clear hF71 hS58 hm69
      rcases k74 with _ | k74
      · cases hm79
      have hm80:law09_alike.l8b s0 s1 x40 (law09_alike.l6 s0 s1 k k41) (law09_alike.l8 s0 s1 x40 (law09_alike.l6 s0 s1 k k41) k74) x73=some (r0,t0,t1):=hm79
      clear hm79
      unfold law09_alike.l8b at hm80
      refine wp_seq (wp_seq ?_)
      obtain ⟨hc81,hm82⟩:=ifTE hm80; clear hm80
      obtain ⟨g83,rfl⟩:=hp16.resolve_left (by have:=inR_spec hc81; omega)
      have hS84:=hS78.pick1.pick2
      clear hS78
      have hS85:=hS84.drew; clear hS84
      refine any_start (fun wS=>∃ qs,St w0 F0 (RHeapXP b1 ab1 sb1 g1 cb1::RowP (.slice (some ⟨g83,0,none⟩) (hObjsF s1.a).length c15) (hObjsF s1.a)::qs) wS) 11 #[false,false,false,false,false,false,false,false,false,false,false] (by kernel_rfl) (by kernel_rfl) (by kernel_rfl) ?_
      refine any_many 9 [(0,some (nI x73)),(1,some (nP b1 0)),(2,some (nP b1 0)),(3,some (nP b1 0)),(4,some (nP ab1 0)),(5,some (.slice (some ⟨g83,0,none⟩) (hObjsF s1.a).length c15)),(6,some (nI x40)),(7,some (nP g83 (x40.toNat))),(8,some (nI (atI (hObjsF s1.a) x40)))] [0,1,5,6,7,102,106,110,111,112] #[true,true,true,true,true,true,true,true,true,false,false] (by rfl) hF77 (by kernel_rfl) (by kernel_rfl) (by exact ⟨fun wS hw=>by kernel_rfl,fun wS hw=>by kernel_rfl,fun wS hw=>by kernel_rfl,fun wS hw=>by kernel_rfl,fun wS hw=>hw.elim fun qs hw=>run_loadV rfl rfl (run_loadS rfl rfl (St.rhA (k:=0) hw rfl)),fun wS hw=>by kernel_rfl,fun wS hw=>by kernel_rfl,fun wS hw=>run_idx rfl rfl rfl rfl rfl (inR_spec hc81).1 (inR_spec hc81).2 _,fun wS hw=>run_load1 rfl rfl rfl (hw.elim fun qs hw=>hw.atI 1 rfl hc81),trivial⟩) (fun _ _ _ _ _ h=>h) ⟨_,St.toRX (hS85)⟩ (l':=[(110,nI (atI (hObjsF s1.a) x40)),(106,nP ab1 0),(102,nI x73),(7,nI x73),(6,nI x40),(5,.slice (some ⟨g83,0,none⟩) (hObjsF s1.a).length c15),(0,nP b0 0),(1,nP b1 0)]) (by kernel_rfl) ?_
      intro a87 hF86; clear hF77
      refine any_call 9 #[true,true,true,true,true,true,true,true,true,true,false] 116 #[nP ab1 0,nI (atI (hObjsF s1.a) x40)] hF86 rfl (by kernel_rfl) rfl rfl (by kernel_rfl) rfl (by kernel_rfl) (fun w=>by kernel_rfl) (by kernel_rfl) ?_
      refine (q_Len hS85).mono ?_
      rintro _ w88 ⟨rfl,hS90⟩; clear hS85
      refine ⟨⟨_,St.toRX (hS90)⟩,?_⟩
      intro a89 hF91; clear hF86
      refine any_many 1 [(10,some (.bool (decide (x73<(aLen s1.a.c (atI (hObjsF s1.a) x40))))))] [0,1,5,6,7,112] #[true,true,true,true,true,true,true,true,true,true,true] (by rfl) hF91 (by kernel_rfl) (by kernel_rfl) (by exact ⟨fun wS hw=>by kernel_rfl,trivial⟩) (fun _ _ _ _ _ h=>h) ⟨_,St.toRX (hS90)⟩ (l':=[(112,.bool (decide (x73<(aLen s1.a.c (atI (hObjsF s1.a) x40))))),(7,nI x73),(6,nI x40),(5,.slice (some ⟨g83,0,none⟩) (hObjsF s1.a).length c15),(0,nP b0 0),(1,nP b1 0)]) (by kernel_rfl) ?_
      intro a93 hF92; clear hF91
      refine any_done (by kernel_rfl) ?_
      refine thenN ?_
      cases hc94:(decide (x73<(aLen s1.a.c (atI (hObjsF s1.a) x40))))
      case true =>
       rw [hc94] at hF92
       have hm95:=ifYes hc94 hm82; clear hm82
       refine ev_condT hF92 rfl rfl ?_
       refine wp_skip ?_
       have hF96:=hF92.keep [0,1,5,6,7]
       clear hF92
       refine thenN (wp_seq ?_)
       refine wp_block ?_
       refine wp_seq (wp_region_lit ?_)
       refine ev_runs 3 hF96 (l':=[(118,nI x40),(117,.slice (some ⟨g83,0,none⟩) (hObjsF s1.a).length c15),(116,nP b0 0),(7,nI x73),(6,nI x40),(5,.slice (some ⟨g83,0,none⟩) (hObjsF s1.a).length c15),(0,nP b0 0),(1,nP b1 0)]) (w':=w88) (by kernel_rfl) ?_
       intro a98 hF97; clear hF96
       refine ev_one (nP g83 (x40.toNat)) w88 hF97 (by kernel_rfl) rfl (by kernel_rfl) (run_idx rfl rfl rfl rfl rfl (inR_spec hc81).1 (inR_spec hc81).2 _) (l':=[(119,nP g83 (x40.toNat)),(118,nI x40),(117,.slice (some ⟨g83,0,none⟩) (hObjsF s1.a).length c15),(116,nP b0 0),(7,nI x73),(6,nI x40),(5,.slice (some ⟨g83,0,none⟩) (hObjsF s1.a).length c15),(0,nP b0 0),(1,nP b1 0)]) (by kernel_rfl) ?_
       intro a100 hF99; clear hF97
       refine ev_one (nI (atI (hObjsF s1.a) x40)) w88 hF99 (by kernel_rfl) rfl (by kernel_rfl) (run_load1 rfl rfl rfl (hS90.atI 1 rfl hc81)) (l':=[(120,nI (atI (hObjsF s1.a) x40)),(119,nP g83 (x40.toNat)),(118,nI x40),(117,.slice (some ⟨g83,0,none⟩) (hObjsF s1.a).length c15),(116,nP b0 0),(7,nI x73),(6,nI x40),(5,.slice (some ⟨g83,0,none⟩) (hObjsF s1.a).length c15),(0,nP b0 0),(1,nP b1 0)]) (by kernel_rfl) ?_
       intro a102 hF101; clear hF99
       refine ev_runs 1 hF101 (l':=[(121,nI x73),(120,nI (atI (hObjsF s1.a) x40)),(119,nP g83 (x40.toNat)),(118,nI x40),(117,.slice (some ⟨g83,0,none⟩) (hObjsF s1.a).length c15),(116,nP b0 0),(7,nI x73),(6,nI x40),(5,.slice (some ⟨g83,0,none⟩) (hObjsF s1.a).length c15),(0,nP b0 0),(1,nP b1 0)]) (w':=w88) (by kernel_rfl) ?_
       intro a104 hF103; clear hF101
       have hS105:=hS90.pick2
       clear hS90
       refine ev_call 39 #[nP b0 0,nI (atI (hObjsF s1.a) x40),nI x73] hF103 rfl rfl (by kernel_rfl) rfl (by kernel_rfl) (fun w=>by kernel_rfl) ?_
       obtain ⟨x106,x107,hx108,hm109⟩:=bind2E hm95; clear hm95
       refine (p_Load hS105 hx108).mono ?_
       rintro _ w110 ⟨rfl,hS112⟩ a111 hF113; clear hF103 hS105
       refine ev_runK 5 hF113 [0,1,5,6,7,8] (l':=[(8,nI x106),(7,nI x73),(6,nI x40),(5,.slice (some ⟨g83,0,none⟩) (hObjsF s1.a).length c15),(0,nP b0 0),(1,nP b1 0)]) (w':=w110) (by kernel_rfl) ?_
       intro a115 hF114; clear hF113
       refine wpList_nil (thenN (wp_seq ?_))
       have hS116:=hS112.pick2.pick2
       clear hS112
       have hS117:=hS116.drew; clear hS116
       refine any_start (fun wS=>∃ qs,St w0 F0 (RHeapXP b1 ab1 sb1 g1 cb1::RowP (.slice (some ⟨g83,0,none⟩) (hObjsF s1.a).length c15) (hObjsF s1.a)::qs) wS) 15 #[false,false,false,false,false,false,false,false,false,false,false,false,false,false,false] (by kernel_rfl) (by kernel_rfl) (by kernel_rfl) ?_
       refine any_many 9 [(0,some (nP b1 0)),(1,some (nP b1 0)),(2,some (nP b1 0)),(3,some (nP ab1 0)),(4,some (.slice (some ⟨g83,0,none⟩) (hObjsF s1.a).length c15)),(5,some (nI x40)),(6,some (nP g83 (x40.toNat))),(7,some (nI (atI (hObjsF s1.a) x40))),(8,some (nI x73))] [0,1,5,6,7,8,10,125,129,133,134,135,136,137] #[true,true,true,true,true,true,true,true,true,false,false,false,false,false,false] (by rfl) hF114 (by kernel_rfl) (by kernel_rfl) (by exact ⟨fun wS hw=>by kernel_rfl,fun wS hw=>by kernel_rfl,fun wS hw=>by kernel_rfl,fun wS hw=>hw.elim fun qs hw=>run_loadV rfl rfl (run_loadS rfl rfl (St.rhA (k:=0) hw rfl)),fun wS hw=>by kernel_rfl,fun wS hw=>by kernel_rfl,fun wS hw=>run_idx rfl rfl rfl rfl rfl (inR_spec hc81).1 (inR_spec hc81).2 _,fun wS hw=>run_load1 rfl rfl rfl (hw.elim fun qs hw=>hw.atI 1 rfl hc81),fun wS hw=>by kernel_rfl,trivial⟩) (fun _ _ _ _ _ h=>h) ⟨_,St.toRX (hS117)⟩ (l':=[(134,nI x73),(133,nI (atI (hObjsF s1.a) x40)),(129,nP ab1 0),(8,nI x106),(7,nI x73),(6,nI x40),(5,.slice (some ⟨g83,0,none⟩) (hObjsF s1.a).length c15),(0,nP b0 0),(1,nP b1 0)]) (by kernel_rfl) ?_
       intro a119 hF118; clear hF114
       refine any_call 9 #[true,true,true,true,true,true,true,true,true,true,false,false,false,false,false] 117 #[nP ab1 0,nI (atI (hObjsF s1.a) x40),nI x73] hF118 rfl (by kernel_rfl) rfl rfl (by kernel_rfl) rfl (by kernel_rfl) (fun w=>by kernel_rfl) (by kernel_rfl) ?_
       obtain ⟨x120,x121,hx122,hm123⟩:=bind2E hm109; clear hm109
       refine (q_Load hS117 hx122).mono ?_
       rintro _ w124 ⟨rfl,hS126⟩; clear hS117
       refine ⟨⟨_,St.toRX (hS126)⟩,?_⟩
       intro a125 hF127; clear hF118
       refine any_many 5 [(10,some (.tuple #[nI x120,nI x121])),(11,some (nI x120)),(12,some (nI x121)),(13,some (nI x120)),(14,some (nI x121))] [0,1,5,6,7,8,10] #[true,true,true,true,true,true,true,true,true,true,true,true,true,true,true] (by rfl) hF127 (by kernel_rfl) (by kernel_rfl) (by exact ⟨fun wS hw=>by kernel_rfl,fun wS hw=>by kernel_rfl,fun wS hw=>by kernel_rfl,fun wS hw=>by kernel_rfl,fun wS hw=>by kernel_rfl,trivial⟩) (fun _ _ _ _ _ h=>h) ⟨_,St.toRX (hS126)⟩ (l':=[(10,nI x120),(8,nI x106),(7,nI x73),(6,nI x40),(5,.slice (some ⟨g83,0,none⟩) (hObjsF s1.a).length c15),(0,nP b0 0),(1,nP b1 0)]) (by kernel_rfl) ?_
       intro a129 hF128; clear hF127
       refine any_done (by kernel_rfl) ?_
       refine thenN (wp_seq (wp_region_lit ?_))
       refine ev_runK 3 hF128 [0,1,5,6,7,140] (l':=[(140,.bool (x106 != x120)),(7,nI x73),(6,nI x40),(5,.slice (some ⟨g83,0,none⟩) (hObjsF s1.a).length c15),(0,nP b0 0),(1,nP b1 0)]) (w':=w124) (by kernel_rfl) ?_
       intro a131 hF130; clear hF128
       refine wpList_nil (thenN ?_)
       cases hc132:(x106 != x120)
       case true =>
        rw [hc132] at hF130
        have hm133:=ifYes hc132 hm123; clear hm123
        refine ev_condT hF130 rfl rfl ?_
        refine wp_seq (wp_region_lit ?_)
        refine ev_runK 1 hF130 [4] (l':=[(4,.bool false)]) (w':=w124) (by kernel_rfl) ?_
        intro a135 hF134; clear hF130
        refine wpList_nil ?_
        have hS136:=hS126.pick1.drop
        clear hS126
        refine thenN ?_
        refine wp_ret ?_
        refine blockR ?_
        refine thenR (thenR ?_)
        refine blockR ?_
        refine blockR ?_
        refine thenR (thenR ?_)
        refine blockR ?_
        refine thenR ?_
        have hS137:=hS136.pick1
        clear hS136
        simp only [Option.some.injEq,Prod.mk.injEq] at hm133
        obtain ⟨rfl,rfl,rfl⟩:=hm133
        refine ev_ret hF134 [4] (.bool false) rfl rfl rfl ?_
        exact ⟨rfl,hS137⟩
       rw [hc132] at hF130
       have hm141:=ifNot hc132 hm123; clear hm123
       refine ev_condF hF130 rfl rfl ?_
       refine wp_skip ?_
       have hF142:=hF130.keep [0,1,5,6,7]
       clear hF130
       refine blockN ?_
       refine thenN (wp_region_lit ?_)
       refine ev_runK 3 hF142 [0,1,5,6,7] (l':=[(7,nI (IntKind.i64.wrap (x73+1))),(6,nI x40),(5,.slice (some ⟨g83,0,none⟩) (hObjsF s1.a).length c15),(0,nP b0 0),(1,nP b1 0)]) (w':=w124) (by kernel_rfl) ?_
       intro a144 hF143; clear hF142
       refine wpList_nil ?_
       have hS145:=hS126.pick1.pick2
       clear hS126
       exact thenN ⟨k74,Nat.lt_succ_self _,IntKind.i64.wrap (x73+1),hF143,hS145,hm141⟩
      rw [hc94] at hF92
      have hm146:=ifNot hc94 hm82; clear hm82
      refine ev_condF hF92 rfl rfl ?_
      refine wp_exit ?_
      refine thenE ?_
      refine thenE ?_
      refine blockE ?_
      refine blockN ?_
      refine thenN (wp_region_lit ?_)
      refine ev_runK 3 hF92 [0,1,5,6] (l':=[(6,nI (IntKind.i64.wrap (x40+1))),(5,.slice (some ⟨g83,0,none⟩) (hObjsF s1.a).length c15),(0,nP b0 0),(1,nP b1 0)]) (w':=w88) (by kernel_rfl) ?_
      intro a148 hF147; clear hF92
      refine wpList_nil ?_
      have hS149:=hS90.pick2.pick2
      clear hS90
      exact thenN ⟨k41,Nat.lt_succ_self _,IntKind.i64.wrap (x40+1),hF147,hS149,hm146⟩
    · skip
      obtain ⟨hc150,hm151⟩:=ifTE hm51; clear hm51
      obtain ⟨g152,rfl⟩:=hp16.resolve_left (by have:=inR_spec hc150; omega)
      obtain ⟨hc153,hm154⟩:=ifTE hm151; clear hm151
      have hS155:=hS45.pick2.pick1
      clear hS45
      have hS156:=hS155.drew; clear hS155
      refine any_start (fun wS=>∃ qs,St w0 F0 (RowP (.slice (some ⟨g152,0,none⟩) (hObjsF s1.a).length c15) (hObjsF s1.a)::RHeapP b1 ab1 sb1 g1 cb1 s1::qs) wS) 55 #[false,false,false,false,false,false,false,false,false,false,false,false,false,false,false,false,false,false,false,false,false,false,false,false,false,false,false,false,false,false,false,false,false,false,false,false,false,false,false,false,false,false,false,false,false,false,false,false,false,false,false,false,false,false,false] (by kernel_rfl) (by kernel_rfl) (by kernel_rfl) ?_
      refine any_many 15 [(0,some (nP b0 0)),(1,some (.slice (some ⟨g152,0,none⟩) (hObjsF s1.a).length c15)),(2,some (nI x40)),(3,some (nP g152 (x40.toNat))),(4,some (nI (atI (hObjsF s1.a) x40))),(6,some (nP b1 0)),(7,some (nP b1 0)),(8,some (nP b1 1)),(9,some (.slice (some ⟨cb1,0,none⟩) (s1.a.c.length) (s1.a.c.length))),(10,some (.slice (some ⟨g152,0,none⟩) (hObjsF s1.a).length c15)),(11,some (nI x40)),(12,some (nP g152 (x40.toNat))),(13,some (nI (atI (hObjsF s1.a) x40))),(14,some (nP cb1 ((atI (hObjsF s1.a) x40).toNat))),(15,some (nI (s1.col (atI (hObjsF s1.a) x40))))] [0,1,5,6,47,51,52,62,63,64,65,66,67,68,69,70,71,72,73,74,75,76,77,78,79,80,81,82,83,84,85,86,87,88,89,90,91,92,93,94,95,96,97,98,99,100,101] #[true,true,true,true,true,false,true,true,true,true,true,true,true,true,true,true,false,false,false,false,false,false,false,false,false,false,false,false,false,false,false,false,false,false,false,false,false,false,false,false,false,false,false,false,false,false,false,false,false,false,false,false,false,false,false] (by rfl) hF52 (by kernel_rfl) (by kernel_rfl) (by exact ⟨fun wS hw=>by kernel_rfl,fun wS hw=>by kernel_rfl,fun wS hw=>by kernel_rfl,fun wS hw=>run_idx rfl rfl rfl rfl rfl (inR_spec hc150).1 (inR_spec hc150).2 _,fun wS hw=>run_load1 rfl rfl rfl (hw.elim fun qs hw=>hw.atI 0 rfl hc150),fun wS hw=>by kernel_rfl,fun wS hw=>by kernel_rfl,fun wS hw=>by kernel_rfl,fun wS hw=>hw.elim fun qs hw=>run_loadV rfl rfl (run_loadS rfl rfl (St.rhsee (k:=1) hw rfl).2.1),fun wS hw=>by kernel_rfl,fun wS hw=>by kernel_rfl,fun wS hw=>run_idx rfl rfl rfl rfl rfl (inR_spec hc150).1 (inR_spec hc150).2 _,fun wS hw=>run_load1 rfl rfl rfl (hw.elim fun qs hw=>hw.atI 0 rfl hc150),fun wS hw=>run_idx rfl rfl rfl rfl rfl (inR_spec hc153).1 (inR_spec hc153).2 _,fun wS hw=>run_load1 rfl rfl rfl (hw.elim fun qs hw=>St.rhcol (k:=1) hw rfl hc153),trivial⟩) (fun _ _ _ _ _ h=>h) ⟨_,hS156⟩ (l':=[(62,nI (s1.col (atI (hObjsF s1.a) x40))),(51,nI (atI (hObjsF s1.a) x40)),(47,nP b0 0),(6,nI x40),(5,.slice (some ⟨g152,0,none⟩) (hObjsF s1.a).length c15),(0,nP b0 0),(1,nP b1 0)]) (by kernel_rfl) ?_
      intro a158 hF157; clear hF52
      have hS159:=hS156.pick2
      clear hS156
      refine any_call 5 #[true,true,true,true,true,true,true,true,true,true,true,true,true,true,true,true,false,false,false,false,false,false,false,false,false,false,false,false,false,false,false,false,false,false,false,false,false,false,false,false,false,false,false,false,false,false,false,false,false,false,false,false,false,false,false] 41 #[nP b0 0,nI (atI (hObjsF s1.a) x40)] hF157 rfl (by kernel_rfl) rfl rfl (by kernel_rfl) rfl (by kernel_rfl) (fun w=>by kernel_rfl) (by kernel_rfl) ?_
      obtain ⟨x160,hx161,hm162⟩:=bind1E hm154; clear hm154
      refine (p_Colour hS159 hx161).mono ?_
      rintro _ w163 ⟨rfl,hS165⟩; clear hS159
      refine ⟨⟨_,hS165.pick2.pick2⟩,?_⟩
      intro a164 hF166; clear hF157
      refine any_many 2 [(16,some (.bool (x160 != (s1.col (atI (hObjsF s1.a) x40))))),(17,some (.bool (x160 != (s1.col (atI (hObjsF s1.a) x40)))))] [0,1,5,6,64,65,66,67,68,69,70,71,72,73,74,75,76,77,78,79,80,81,82,83,84,85,86,87,88,89,90,91,92,93,94,95,96,97,98,99,100,101] #[true,true,true,true,true,true,true,true,true,true,true,true,true,true,true,true,true,true,false,false,false,false,false,false,false,false,false,false,false,false,false,false,false,false,false,false,false,false,false,false,false,false,false,false,false,false,false,false,false,false,false,false,false,false,false] (by rfl) hF166 (by kernel_rfl) (by kernel_rfl) (by exact ⟨fun wS hw=>by kernel_rfl,fun wS hw=>by kernel_rfl,trivial⟩) (fun _ _ _ _ _ h=>h) ⟨_,hS165.pick2.pick2⟩ (l':=[(64,.bool (x160 != (s1.col (atI (hObjsF s1.a) x40)))),(6,nI x40),(5,.slice (some ⟨g152,0,none⟩) (hObjsF s1.a).length c15),(0,nP b0 0),(1,nP b1 0)]) (by kernel_rfl) ?_
      intro a168 hF167; clear hF166
      cases hc169:(x160 != (s1.col (atI (hObjsF s1.a) x40)))
      case true =>
       rw [hc169] at hF167
       have hm170:=ifYes hc169 hm162; clear hm162
       refine any_many 37 [(18,none),(19,none),(20,none),(21,none),(22,none),(23,none),(24,none),(25,none),(26,none),(27,none),(28,none),(29,none),(30,none),(31,none),(32,none),(33,none),(34,none),(35,some (.bool true)),(36,some (.bool true)),(37,none),(38,none),(39,none),(40,none),(41,none),(42,none),(43,none),(44,none),(45,none),(46,none),(47,none),(48,none),(49,none),(50,none),(51,none),(52,none),(53,none),(54,some (.bool true))] [0,1,5,6,101] #[true,true,true,true,true,true,true,true,true,true,true,true,true,true,true,true,true,true,true,true,true,true,true,true,true,true,true,true,true,true,true,true,true,true,true,true,true,true,true,true,true,true,true,true,true,true,true,true,true,true,true,true,true,true,true] (by rfl) hF167 (by kernel_rfl) (by kernel_rfl) (by exact (And.intro trivial (And.intro trivial (And.intro trivial (And.intro trivial (And.intro trivial (And.intro trivial (And.intro trivial (And.intro trivial (And.intro trivial (And.intro trivial (And.intro trivial (And.intro trivial (And.intro trivial (And.intro trivial (And.intro trivial (And.intro trivial (And.intro trivial (And.intro (fun wS hw=>by kernel_rfl) (And.intro (fun wS hw=>by kernel_rfl) (And.intro trivial (And.intro trivial (And.intro trivial (And.intro trivial (And.intro trivial (And.intro trivial (And.intro trivial (And.intro trivial (And.intro trivial (And.intro trivial (And.intro trivial (And.intro trivial (And.intro trivial (And.intro trivial (And.intro trivial (And.intro trivial (And.intro trivial (And.intro (fun wS hw=>by kernel_rfl) trivial)))))))))))))))))))))))))))))))))))))) (fun _ _ _ _ _ h=>h) ⟨_,hS165.pick2.pick2⟩ (l':=[(101,.bool true),(6,nI x40),(5,.slice (some ⟨g152,0,none⟩) (hObjsF s1.a).length c15),(0,nP b0 0),(1,nP b1 0)]) (by kernel_rfl) ?_
       intro a172 hF171; clear hF167
       refine any_done (by kernel_rfl) ?_
       exact thenN ⟨true,hF171,hS165,hm170⟩
      rw [hc169] at hF167
      have hm173:=ifNot hc169 hm162; clear hm162
      refine any_many 13 [(18,some (nP b0 0)),(20,some (.slice (some ⟨g152,0,none⟩) (hObjsF s1.a).length c15)),(21,some (nI x40)),(22,some (nP g152 (x40.toNat))),(23,some (nI (atI (hObjsF s1.a) x40))),(25,some (nP b1 0)),(26,some (nP b1 0)),(27,some (nP b1 0)),(28,some (nP ab1 0)),(29,some (.slice (some ⟨g152,0,none⟩) (hObjsF s1.a).length c15)),(30,some (nI x40)),(31,some (nP g152 (x40.toNat))),(32,some (nI (atI (hObjsF s1.a) x40)))] [0,1,5,6,64,65,66,70,71,75,79,80,81,82,83,84,85,86,87,88,89,90,91,92,93,94,95,96,97,98,99,100,101] #[true,true,true,true,true,true,true,true,true,true,true,true,true,true,true,true,true,true,true,false,true,true,true,true,false,true,true,true,true,true,true,true,true,false,false,false,false,false,false,false,false,false,false,false,false,false,false,false,false,false,false,false,false,false,false] (by rfl) hF167 (by kernel_rfl) (by kernel_rfl) (by exact ⟨fun wS hw=>by kernel_rfl,fun wS hw=>by kernel_rfl,fun wS hw=>by kernel_rfl,fun wS hw=>run_idx rfl rfl rfl rfl rfl (inR_spec hc150).1 (inR_spec hc150).2 _,fun wS hw=>run_load1 rfl rfl rfl (hw.elim fun qs hw=>hw.atI 0 rfl hc150),fun wS hw=>by kernel_rfl,fun wS hw=>by kernel_rfl,fun wS hw=>by kernel_rfl,fun wS hw=>hw.elim fun qs hw=>run_loadV rfl rfl (run_loadS rfl rfl (St.rhsee (k:=1) hw rfl).1),fun wS hw=>by kernel_rfl,fun wS hw=>by kernel_rfl,fun wS hw=>run_idx rfl rfl rfl rfl rfl (inR_spec hc150).1 (inR_spec hc150).2 _,fun wS hw=>run_load1 rfl rfl rfl (hw.elim fun qs hw=>hw.atI 0 rfl hc150),trivial⟩) (fun _ _ _ _ _ h=>h) ⟨_,hS165.pick2.pick2⟩ (l':=[(79,nI (atI (hObjsF s1.a) x40)),(75,nP ab1 0),(70,nI (atI (hObjsF s1.a) x40)),(65,nP b0 0),(64,.bool false),(6,nI x40),(5,.slice (some ⟨g152,0,none⟩) (hObjsF s1.a).length c15),(0,nP b0 0),(1,nP b1 0)]) (by kernel_rfl) ?_
      intro a175 hF174; clear hF167
      refine any_call 19 #[true,true,true,true,true,true,true,true,true,true,true,true,true,true,true,true,true,true,true,true,true,true,true,true,false,true,true,true,true,true,true,true,true,false,false,false,false,false,false,false,false,false,false,false,false,false,false,false,false,false,false,false,false,false,false] 34 #[nP b0 0] hF174 rfl (by kernel_rfl) rfl rfl (by kernel_rfl) rfl (by kernel_rfl) (fun w=>by kernel_rfl) (by kernel_rfl) ?_
      refine (p_Arena hS165).mono ?_
      rintro _ w176 ⟨rfl,hS178⟩; clear hS165
      refine ⟨⟨_,hS178.pick2.pick2⟩,?_⟩
      intro a177 hF179; clear hF174
      refine any_call 24 #[true,true,true,true,true,true,true,true,true,true,true,true,true,true,true,true,true,true,true,true,true,true,true,true,true,true,true,true,true,true,true,true,true,false,false,false,false,false,false,false,false,false,false,false,false,false,false,false,false,false,false,false,false,false,false] 43 #[nP ab0 0,nI (atI (hObjsF s1.a) x40)] hF179 rfl (by kernel_rfl) rfl rfl (by kernel_rfl) rfl (by kernel_rfl) (fun w=>by kernel_rfl) (by kernel_rfl) ?_
      refine (p_Kind hS178).mono ?_
      rintro _ w180 ⟨rfl,hS182⟩; clear hS178
      refine ⟨⟨_,hS182.pick2.pick2⟩,?_⟩
      intro a181 hF183; clear hF179
      have hS184:=hS182.pick2
      clear hS182
      refine any_call 33 #[true,true,true,true,true,true,true,true,true,true,true,true,true,true,true,true,true,true,true,true,true,true,true,true,true,true,true,true,true,true,true,true,true,true,false,false,false,false,false,false,false,false,false,false,false,false,false,false,false,false,false,false,false,false,false] 104 #[nP ab1 0,nI (atI (hObjsF s1.a) x40)] hF183 rfl (by kernel_rfl) rfl rfl (by kernel_rfl) rfl (by kernel_rfl) (fun w=>by kernel_rfl) (by kernel_rfl) ?_
      refine (q_Kind hS184).mono ?_
      rintro _ w185 ⟨rfl,hS187⟩; clear hS184
      refine ⟨⟨_,hS187.pick2⟩,?_⟩
      intro a186 hF188; clear hF183
      refine any_many 3 [(34,some (.bool ((aKind s0.a.c (atI (hObjsF s1.a) x40)) != (aKind s1.a.c (atI (hObjsF s1.a) x40))))),(35,some (.bool ((aKind s0.a.c (atI (hObjsF s1.a) x40)) != (aKind s1.a.c (atI (hObjsF s1.a) x40))))),(36,some (.bool ((aKind s0.a.c (atI (hObjsF s1.a) x40)) != (aKind s1.a.c (atI (hObjsF s1.a) x40)))))] [0,1,5,6,83,84,85,86,87,88,89,90,91,92,93,94,95,96,97,98,99,100,101] #[true,true,true,true,true,true,true,true,true,true,true,true,true,true,true,true,true,true,true,true,true,true,true,true,true,true,true,true,true,true,true,true,true,true,true,true,true,false,false,false,false,false,false,false,false,false,false,false,false,false,false,false,false,false,false] (by rfl) hF188 (by kernel_rfl) (by kernel_rfl) (by exact ⟨fun wS hw=>by kernel_rfl,fun wS hw=>by kernel_rfl,fun wS hw=>by kernel_rfl,trivial⟩) (fun _ _ _ _ _ h=>h) ⟨_,hS187.pick2⟩ (l':=[(83,.bool ((aKind s0.a.c (atI (hObjsF s1.a) x40)) != (aKind s1.a.c (atI (hObjsF s1.a) x40)))),(6,nI x40),(5,.slice (some ⟨g152,0,none⟩) (hObjsF s1.a).length c15),(0,nP b0 0),(1,nP b1 0)]) (by kernel_rfl) ?_
      intro a190 hF189; clear hF188
      cases hc191:((aKind s0.a.c (atI (hObjsF s1.a) x40)) != (aKind s1.a.c (atI (hObjsF s1.a) x40)))
      case true =>
       rw [hc191] at hF189
       have hm192:=ifYes hc191 hm173; clear hm173
       refine any_many 18 [(37,none),(38,none),(39,none),(40,none),(41,none),(42,none),(43,none),(44,none),(45,none),(46,none),(47,none),(48,none),(49,none),(50,none),(51,none),(52,none),(53,none),(54,some (.bool true))] [0,1,5,6,101] #[true,true,true,true,true,true,true,true,true,true,true,true,true,true,true,true,true,true,true,true,true,true,true,true,true,true,true,true,true,true,true,true,true,true,true,true,true,true,true,true,true,true,true,true,true,true,true,true,true,true,true,true,true,true,true] (by rfl) hF189 (by kernel_rfl) (by kernel_rfl) (by exact (And.intro trivial (And.intro trivial (And.intro trivial (And.intro trivial (And.intro trivial (And.intro trivial (And.intro trivial (And.intro trivial (And.intro trivial (And.intro trivial (And.intro trivial (And.intro trivial (And.intro trivial (And.intro trivial (And.intro trivial (And.intro trivial (And.intro trivial (And.intro (fun wS hw=>by kernel_rfl) trivial))))))))))))))))))) (fun _ _ _ _ _ h=>h) ⟨_,hS187.pick2⟩ (l':=[(101,.bool true),(6,nI x40),(5,.slice (some ⟨g152,0,none⟩) (hObjsF s1.a).length c15),(0,nP b0 0),(1,nP b1 0)]) (by kernel_rfl) ?_
       intro a194 hF193; clear hF189
       refine any_done (by kernel_rfl) ?_
       have hS195:=hS187.pick2.pick2
       clear hS187
       exact thenN ⟨true,hF193,hS195,hm192⟩
      rw [hc191] at hF189
      have hm196:=ifNot hc191 hm173; clear hm173
      refine any_many 13 [(37,some (nP b0 0)),(39,some (.slice (some ⟨g152,0,none⟩) (hObjsF s1.a).length c15)),(40,some (nI x40)),(41,some (nP g152 (x40.toNat))),(42,some (nI (atI (hObjsF s1.a) x40))),(44,some (nP b1 0)),(45,some (nP b1 0)),(46,some (nP b1 0)),(47,some (nP ab1 0)),(48,some (.slice (some ⟨g152,0,none⟩) (hObjsF s1.a).length c15)),(49,some (nI x40)),(50,some (nP g152 (x40.toNat))),(51,some (nI (atI (hObjsF s1.a) x40)))] [0,1,5,6,83,84,85,89,90,94,98,99,100,101] #[true,true,true,true,true,true,true,true,true,true,true,true,true,true,true,true,true,true,true,true,true,true,true,true,true,true,true,true,true,true,true,true,true,true,true,true,true,true,false,true,true,true,true,false,true,true,true,true,true,true,true,true,false,false,false] (by rfl) hF189 (by kernel_rfl) (by kernel_rfl) (by exact ⟨fun wS hw=>by kernel_rfl,fun wS hw=>by kernel_rfl,fun wS hw=>by kernel_rfl,fun wS hw=>run_idx rfl rfl rfl rfl rfl (inR_spec hc150).1 (inR_spec hc150).2 _,fun wS hw=>run_load1 rfl rfl rfl (hw.elim fun qs hw=>hw.atI 0 rfl hc150),fun wS hw=>by kernel_rfl,fun wS hw=>by kernel_rfl,fun wS hw=>by kernel_rfl,fun wS hw=>hw.elim fun qs hw=>run_loadV rfl rfl (run_loadS rfl rfl (St.rhsee (k:=1) hw rfl).1),fun wS hw=>by kernel_rfl,fun wS hw=>by kernel_rfl,fun wS hw=>run_idx rfl rfl rfl rfl rfl (inR_spec hc150).1 (inR_spec hc150).2 _,fun wS hw=>run_load1 rfl rfl rfl (hw.elim fun qs hw=>hw.atI 0 rfl hc150),trivial⟩) (fun _ _ _ _ _ h=>h) ⟨_,hS187.pick2⟩ (l':=[(98,nI (atI (hObjsF s1.a) x40)),(94,nP ab1 0),(89,nI (atI (hObjsF s1.a) x40)),(84,nP b0 0),(83,.bool false),(6,nI x40),(5,.slice (some ⟨g152,0,none⟩) (hObjsF s1.a).length c15),(0,nP b0 0),(1,nP b1 0)]) (by kernel_rfl) ?_
      intro a198 hF197; clear hF189
      have hS199:=hS187.pick1
      clear hS187
      refine any_call 38 #[true,true,true,true,true,true,true,true,true,true,true,true,true,true,true,true,true,true,true,true,true,true,true,true,true,true,true,true,true,true,true,true,true,true,true,true,true,true,true,true,true,true,true,false,true,true,true,true,true,true,true,true,false,false,false] 34 #[nP b0 0] hF197 rfl (by kernel_rfl) rfl rfl (by kernel_rfl) rfl (by kernel_rfl) (fun w=>by kernel_rfl) (by kernel_rfl) ?_
      refine (p_Arena hS199).mono ?_
      rintro _ w200 ⟨rfl,hS202⟩; clear hS199
      refine ⟨⟨_,hS202.pick1.pick2⟩,?_⟩
      intro a201 hF203; clear hF197
      refine any_call 43 #[true,true,true,true,true,true,true,true,true,true,true,true,true,true,true,true,true,true,true,true,true,true,true,true,true,true,true,true,true,true,true,true,true,true,true,true,true,true,true,true,true,true,true,true,true,true,true,true,true,true,true,true,false,false,false] 38 #[nP ab0 0,nI (atI (hObjsF s1.a) x40)] hF203 rfl (by kernel_rfl) rfl rfl (by kernel_rfl) rfl (by kernel_rfl) (fun w=>by kernel_rfl) (by kernel_rfl) ?_
      refine (p_Len hS202).mono ?_
      rintro _ w204 ⟨rfl,hS206⟩; clear hS202
      refine ⟨⟨_,hS206.pick1.pick2⟩,?_⟩
      intro a205 hF207; clear hF203
      have hS208:=hS206.pick1
      clear hS206
      refine any_call 52 #[true,true,true,true,true,true,true,true,true,true,true,true,true,true,true,true,true,true,true,true,true,true,true,true,true,true,true,true,true,true,true,true,true,true,true,true,true,true,true,true,true,true,true,true,true,true,true,true,true,true,true,true,true,false,false] 116 #[nP ab1 0,nI (atI (hObjsF s1.a) x40)] hF207 rfl (by kernel_rfl) rfl rfl (by kernel_rfl) rfl (by kernel_rfl) (fun w=>by kernel_rfl) (by kernel_rfl) ?_
      refine (q_Len hS208).mono ?_
      rintro _ w209 ⟨rfl,hS211⟩; clear hS208
      refine ⟨⟨_,hS211.pick2⟩,?_⟩
      intro a210 hF212; clear hF207
      refine any_many 2 [(53,some (.bool ((aLen s0.a.c (atI (hObjsF s1.a) x40)) != (aLen s1.a.c (atI (hObjsF s1.a) x40))))),(54,some (.bool ((aLen s0.a.c (atI (hObjsF s1.a) x40)) != (aLen s1.a.c (atI (hObjsF s1.a) x40)))))] [0,1,5,6,101] #[true,true,true,true,true,true,true,true,true,true,true,true,true,true,true,true,true,true,true,true,true,true,true,true,true,true,true,true,true,true,true,true,true,true,true,true,true,true,true,true,true,true,true,true,true,true,true,true,true,true,true,true,true,true,true] (by rfl) hF212 (by kernel_rfl) (by kernel_rfl) (by exact ⟨fun wS hw=>by kernel_rfl,fun wS hw=>by kernel_rfl,trivial⟩) (fun _ _ _ _ _ h=>h) ⟨_,hS211.pick2⟩ (l':=[(101,.bool ((aLen s0.a.c (atI (hObjsF s1.a) x40)) != (aLen s1.a.c (atI (hObjsF s1.a) x40)))),(6,nI x40),(5,.slice (some ⟨g152,0,none⟩) (hObjsF s1.a).length c15),(0,nP b0 0),(1,nP b1 0)]) (by kernel_rfl) ?_
      intro a214 hF213; clear hF212
      refine any_done (by kernel_rfl) ?_
      have hS215:=hS211.pick2.pick2
      clear hS211
      exact thenN ⟨(aLen s0.a.c (atI (hObjsF s1.a) x40)) != (aLen s1.a.c (atI (hObjsF s1.a) x40)),hF213,hS215,hm196⟩
   rw [hc50] at hF48
   have hm216:=ifNot hc50 hm47; clear hm47
   refine ev_condF hF48 rfl rfl ?_
   refine wp_exit ?_
   refine thenE ?_
   refine thenE ?_
   refine blockE ?_
   refine thenN (wp_seq (wp_region_lit ?_))
   refine ev_runK 1 hF48 [4] (l':=[(4,.bool true)]) (w':=w43) (by kernel_rfl) ?_
   intro a218 hF217; clear hF48
   refine wpList_nil ?_
   have hS219:=hS45.drop
   clear hS45
   refine thenN ?_
   refine wp_ret ?_
   simp only [Option.some.injEq,Prod.mk.injEq] at hm216
   obtain ⟨rfl,rfl,rfl⟩:=hm216
   refine ev_ret hF217 [4] (.bool true) rfl rfl rfl ?_
   exact ⟨rfl,hS219⟩
 · skip
   have hS223:=hS10.drew; clear hS10
   refine any_start (fun wS=>∃ qs,St w0 F0 (RHeapP b1 ab1 sb1 g1 cb1 s1::qs) wS) 24 #[false,false,false,false,false,false,false,false,false,false,false,false,false,false,false,false,false,false,false,false,false,false,false,false] (by kernel_rfl) (by kernel_rfl) (by kernel_rfl) ?_
   refine any_many 2 [(0,some (nP b0 0)),(3,some (.slice p14 (hObjsF s1.a).length c15))] [0,1,5,17,18,19,20,21,22,23,24,25,26,27,28,29,30,31,32,33,34,35,36,37,38,39,40] #[true,false,false,true,false,false,false,false,false,false,false,false,false,false,false,false,false,false,false,false,false,false,false,false] (by rfl) hF18 (by kernel_rfl) (by kernel_rfl) (by exact ⟨fun wS hw=>by kernel_rfl,fun wS hw=>by kernel_rfl,trivial⟩) (fun _ _ _ _ _ h=>h) ⟨_,hS223⟩ (l':=[(20,.slice p14 (hObjsF s1.a).length c15),(17,nP b0 0),(5,.slice p14 (hObjsF s1.a).length c15),(0,nP b0 0),(1,nP b1 0)]) (by kernel_rfl) ?_
   intro a225 hF224; clear hF18
   have hS226:=hS223.pick2
   clear hS223
   refine any_call 1 #[true,true,false,true,false,false,false,false,false,false,false,false,false,false,false,false,false,false,false,false,false,false,false,false] 34 #[nP b0 0] hF224 rfl (by kernel_rfl) rfl rfl (by kernel_rfl) rfl (by kernel_rfl) (fun w=>by kernel_rfl) (by kernel_rfl) ?_
   refine (p_Arena hS226).mono ?_
   rintro _ w227 ⟨rfl,hS229⟩; clear hS226
   refine ⟨⟨_,hS229.pick1⟩,?_⟩
   intro a228 hF230; clear hF224
   refine any_call 2 #[true,true,true,true,false,false,false,false,false,false,false,false,false,false,false,false,false,false,false,false,false,false,false,false] 36 #[nP ab0 0] hF230 rfl (by kernel_rfl) rfl rfl (by kernel_rfl) rfl (by kernel_rfl) (fun w=>by kernel_rfl) (by kernel_rfl) ?_
   refine (p_Objects hS229).mono ?_
   rintro _ w231 ⟨z235,rfl,hS233⟩; clear hS229
   obtain ⟨hl240,p237,c238,rfl,hp239⟩:=St.shape hS233 1 rfl
   refine ⟨⟨_,hS233.pick2⟩,?_⟩
   intro a232 hF234; clear hF230
   have hS241:=hS233.pick3.pick2
   clear hS233
   refine any_call 4 #[true,true,true,true,true,false,false,false,false,false,false,false,false,false,false,false,false,false,false,false,false,false,false,false] 51 #[.slice p237 (hObjsF s0.a).length c238,.slice p14 (hObjsF s1.a).length c15] hF234 rfl (by kernel_rfl) rfl rfl (by kernel_rfl) rfl (by kernel_rfl) (fun w=>by kernel_rfl) (by kernel_rfl) ?_
   obtain ⟨y242,hx243,hm244⟩:=bind1E hm; clear hm
   refine (help_Plain.ok hS241 hx243).mono ?_
   rintro _ w245 ⟨rfl,hS247⟩; clear hS241
   refine ⟨⟨_,hS247.pick3⟩,?_⟩
   intro a246 hF248; clear hF234
   refine any_many 2 [(5,some (.bool (!(y242)))),(6,some (.bool (!(y242))))] [0,1,5,23,24,25,26,27,28,29,30,31,32,33,34,35,36,37,38,39,40] #[true,true,true,true,true,true,true,false,false,false,false,false,false,false,false,false,false,false,false,false,false,false,false,false] (by rfl) hF248 (by kernel_rfl) (by kernel_rfl) (by exact ⟨fun wS hw=>by kernel_rfl,fun wS hw=>by kernel_rfl,trivial⟩) (fun _ _ _ _ _ h=>h) ⟨_,hS247.pick3⟩ (l':=[(23,.bool (!(y242))),(5,.slice p14 (hObjsF s1.a).length c15),(0,nP b0 0),(1,nP b1 0)]) (by kernel_rfl) ?_
   intro a250 hF249; clear hF248
   cases hc251:(!(y242))
   case true =>
    rw [hc251] at hF249
    have hm252:=ifYes hc251 hm244; clear hm244
    refine any_many 17 [(7,none),(8,none),(9,none),(10,none),(11,none),(12,none),(13,none),(14,some (.bool true)),(15,some (.bool true)),(16,none),(17,none),(18,none),(19,none),(20,none),(21,none),(22,none),(23,some (.bool true))] [0,1,5,40] #[true,true,true,true,true,true,true,true,true,true,true,true,true,true,true,true,true,true,true,true,true,true,true,true] (by rfl) hF249 (by kernel_rfl) (by kernel_rfl) (by exact (And.intro trivial (And.intro trivial (And.intro trivial (And.intro trivial (And.intro trivial (And.intro trivial (And.intro trivial (And.intro (fun wS hw=>by kernel_rfl) (And.intro (fun wS hw=>by kernel_rfl) (And.intro trivial (And.intro trivial (And.intro trivial (And.intro trivial (And.intro trivial (And.intro trivial (And.intro trivial (And.intro (fun wS hw=>by kernel_rfl) trivial)))))))))))))))))) (fun _ _ _ _ _ h=>h) ⟨_,hS247.pick3⟩ (l':=[(40,.bool true),(5,.slice p14 (hObjsF s1.a).length c15),(0,nP b0 0),(1,nP b1 0)]) (by kernel_rfl) ?_
    intro a254 hF253; clear hF249
    refine any_done (by kernel_rfl) ?_
    have hS255:=hS247.drop
    clear hS247
    exact thenN ⟨true,hF253,hS255,hm252⟩
   rw [hc251] at hF249
   have hm256:=ifNot hc251 hm244; clear hm244
   refine any_many 5 [(7,some (nP b0 0)),(9,some (nP b1 0)),(10,some (nP b1 0)),(11,some (nP b1 3)),(12,some (nI (s1.ph)))] [0,1,5,23,24,25,29,30,31,32,33,34,35,36,37,38,39,40] #[true,true,true,true,true,true,true,true,false,true,true,true,true,false,false,false,false,false,false,false,false,false,false,false] (by rfl) hF249 (by kernel_rfl) (by kernel_rfl) (by exact ⟨fun wS hw=>by kernel_rfl,fun wS hw=>by kernel_rfl,fun wS hw=>by kernel_rfl,fun wS hw=>by kernel_rfl,fun wS hw=>hw.elim fun qs hw=>run_loadV rfl rfl (run_loadS rfl rfl (St.rhsee (k:=0) hw rfl).2.2.1),trivial⟩) (fun _ _ _ _ _ h=>h) ⟨_,hS247.pick3⟩ (l':=[(29,nI (s1.ph)),(24,nP b0 0),(23,.bool false),(5,.slice p14 (hObjsF s1.a).length c15),(0,nP b0 0),(1,nP b1 0)]) (by kernel_rfl) ?_
   intro a258 hF257; clear hF249
   have hS259:=hS247.pick2
   clear hS247
   refine any_call 8 #[true,true,true,true,true,true,true,true,true,true,true,true,true,false,false,false,false,false,false,false,false,false,false,false] 37 #[nP b0 0] hF257 rfl (by kernel_rfl) rfl rfl (by kernel_rfl) rfl (by kernel_rfl) (fun w=>by kernel_rfl) (by kernel_rfl) ?_
   refine (p_Phase hS259).mono ?_
   rintro _ w260 ⟨rfl,hS262⟩; clear hS259
   refine ⟨⟨_,hS262.pick3⟩,?_⟩
   intro a261 hF263; clear hF257
   refine any_many 3 [(13,some (.bool (s0.ph != s1.ph))),(14,some (.bool (s0.ph != s1.ph))),(15,some (.bool (s0.ph != s1.ph)))] [0,1,5,32,33,34,35,36,37,38,39,40] #[true,true,true,true,true,true,true,true,true,true,true,true,true,true,true,true,false,false,false,false,false,false,false,false] (by rfl) hF263 (by kernel_rfl) (by kernel_rfl) (by exact ⟨fun wS hw=>by kernel_rfl,fun wS hw=>by kernel_rfl,fun wS hw=>by kernel_rfl,trivial⟩) (fun _ _ _ _ _ h=>h) ⟨_,hS262.pick3⟩ (l':=[(32,.bool (s0.ph != s1.ph)),(5,.slice p14 (hObjsF s1.a).length c15),(0,nP b0 0),(1,nP b1 0)]) (by kernel_rfl) ?_
   intro a265 hF264; clear hF263
   cases hc266:(s0.ph != s1.ph)
   case true =>
    rw [hc266] at hF264
    have hm267:=ifYes hc266 hm256; clear hm256
    refine any_many 8 [(16,none),(17,none),(18,none),(19,none),(20,none),(21,none),(22,none),(23,some (.bool true))] [0,1,5,40] #[true,true,true,true,true,true,true,true,true,true,true,true,true,true,true,true,true,true,true,true,true,true,true,true] (by rfl) hF264 (by kernel_rfl) (by kernel_rfl) (by exact (And.intro trivial (And.intro trivial (And.intro trivial (And.intro trivial (And.intro trivial (And.intro trivial (And.intro trivial (And.intro (fun wS hw=>by kernel_rfl) trivial))))))))) (fun _ _ _ _ _ h=>h) ⟨_,hS262.pick3⟩ (l':=[(40,.bool true),(5,.slice p14 (hObjsF s1.a).length c15),(0,nP b0 0),(1,nP b1 0)]) (by kernel_rfl) ?_
    intro a269 hF268; clear hF264
    refine any_done (by kernel_rfl) ?_
    have hS270:=hS262.pick1.drop
    clear hS262
    have hS271:=hS270.pick2.pick1.pick2
    clear hS270
    exact thenN ⟨true,hF268,hS271,hm267⟩
   rw [hc266] at hF264
   have hm272:=ifNot hc266 hm256; clear hm256
   refine any_many 5 [(16,some (nP b0 0)),(18,some (nP b1 0)),(19,some (nP b1 0)),(20,some (nP b1 5)),(21,some (nI (s1.cy)))] [0,1,5,32,33,34,38,39,40] #[true,true,true,true,true,true,true,true,true,true,true,true,true,true,true,true,true,false,true,true,true,true,false,false] (by rfl) hF264 (by kernel_rfl) (by kernel_rfl) (by exact ⟨fun wS hw=>by kernel_rfl,fun wS hw=>by kernel_rfl,fun wS hw=>by kernel_rfl,fun wS hw=>by kernel_rfl,fun wS hw=>hw.elim fun qs hw=>run_loadV rfl rfl (run_loadS rfl rfl (St.rhsee (k:=0) hw rfl).2.2.2.1),trivial⟩) (fun _ _ _ _ _ h=>h) ⟨_,hS262.pick3⟩ (l':=[(38,nI (s1.cy)),(33,nP b0 0),(32,.bool false),(5,.slice p14 (hObjsF s1.a).length c15),(0,nP b0 0),(1,nP b1 0)]) (by kernel_rfl) ?_
   intro a274 hF273; clear hF264
   refine any_call 17 #[true,true,true,true,true,true,true,true,true,true,true,true,true,true,true,true,true,true,true,true,true,true,false,false] 50 #[nP b0 0] hF273 rfl (by kernel_rfl) rfl rfl (by kernel_rfl) rfl (by kernel_rfl) (fun w=>by kernel_rfl) (by kernel_rfl) ?_
   refine (p_Cycles hS262).mono ?_
   rintro _ w275 ⟨rfl,hS277⟩; clear hS262
   refine ⟨⟨_,hS277.pick3⟩,?_⟩
   intro a276 hF278; clear hF273
   refine any_many 2 [(22,some (.bool (s0.cy != s1.cy))),(23,some (.bool (s0.cy != s1.cy)))] [0,1,5,40] #[true,true,true,true,true,true,true,true,true,true,true,true,true,true,true,true,true,true,true,true,true,true,true,true] (by rfl) hF278 (by kernel_rfl) (by kernel_rfl) (by exact ⟨fun wS hw=>by kernel_rfl,fun wS hw=>by kernel_rfl,trivial⟩) (fun _ _ _ _ _ h=>h) ⟨_,hS277.pick3⟩ (l':=[(40,.bool (s0.cy != s1.cy)),(5,.slice p14 (hObjsF s1.a).length c15),(0,nP b0 0),(1,nP b1 0)]) (by kernel_rfl) ?_
   intro a280 hF279; clear hF278
   refine any_done (by kernel_rfl) ?_
   have hS281:=hS277.pick1.drop
   clear hS277
   have hS282:=hS281.pick2.pick1.pick2
   clear hS281
   exact thenN ⟨s0.cy != s1.cy,hF279,hS282,hm272⟩
def law09_play.j2 (s0:HSt) (i2:Op09) (x221:Int) (s230:HSt) (x249:Int):Option (Bool×HSt×HSt):=bind1 (some (IntKind.i64.wrap (Int.tmod (IntKind.u64.wrap i2.i) 10))) fun x263=>bind2 (pStore x221 x263 x249 s0) fun x272 s273=>bind2 (pStore x221 x263 x249 s230) fun x283 s284=>some (x272 == x283,s273,s284)
def law09_play.j3 (s342:HSt) (s363:HSt) (y372:Bool):Option (Bool×HSt×HSt):=some (y372,s342,s363)
def law09_play.j1 (s0:HSt) (s1:HSt) (i2:Op09) (k:Nat) (y207:Bool):Option (Bool×HSt×HSt):=(if (y207) then bind2 (law09_pick.m k s1 i2.at') fun x221 s222=>bind2 (law09_pick.m k s222 i2.to) fun x229 s230=>(if (i2.kind == 6) then bind1 (some (wrap64 ((Int.tmod i2.w 1000) * 2))) fun x311=>law09_play.j2 s0 i2 x221 s230 x311 else law09_play.j2 s0 i2 x221 s230 (wrap64 (wrap64 (x229 * 2)+1))) else bind1 (some (IntKind.i64.wrap (1+(IntKind.i64.wrap (Int.tmod (IntKind.u64.wrap i2.of) 6))))) fun x325=>bind1 (law09_sizes.m k x325) fun x333=>bind3 (pAlloc x325 x333 s0) fun x340 x341 s342=>bind1 (law09_sizes.m k x325) fun x353=>bind3 (pAlloc x325 x353 s1) fun x361 x362 s363=>(if (x340 == x361) then law09_play.j3 s342 s363 (x341 == x362) else law09_play.j3 s342 s363 false))
def law09_play.m (k:Nat) (s0:HSt) (s1:HSt) (i2:Op09):Option (Bool×HSt×HSt):=(if (i2.kind == 1) then bind2 (pStore i2.at' i2.i i2.w s0) fun x20 s21=>bind2 (pStore i2.at' i2.i i2.w s1) fun x29 s30=>some (x20 == x29,s21,s30) else (if (i2.kind == 2) then bind2 (law09_pick.m k s1 i2.at') fun x54 s55=>bind1 (pShade x54 s0) fun s68=>bind1 (pShade x54 s55) fun s79=>some (true,s68,s79) else (if (i2.kind == 3) then bind2 (law09_pick.m k s1 i2.at') fun x102 s103=>bind2 (law09_pick.m k s103 i2.to) fun x110 s111=>bind2 (pBegin s0 [x102,x110,i2.w]) fun x127 s128=>bind2 (pBegin s111 [x102,x110,i2.w]) fun x138 s139=>some (x127 == x138,s128,s139) else (if (i2.kind == 4) then bind2 (pStep s0) fun L161 s162=>bind2 (ref06_Step.m k s1) fun L178 s179=>some (sameG L161 L178,s162,s179) else (if (i2.kind == 5) then law09_play.j1 s0 s1 i2 k true else law09_play.j1 s0 s1 i2 k (i2.kind == 6))))))
theorem law09_play.ok {w0 w:World} {F0:List Nat} {ps:List Piece} {k:Nat} {b0 ab0:Nat} {s0:HSt} {b1 ab1 sb1 g1 cb1:Nat} {s1:HSt} {i2:Op09} {r0:Bool} {t0:HSt} {t1:HSt} (hS:St w0 F0 (HeapP b0 ab0 s0::RHeapP b1 ab1 sb1 g1 cb1 s1::ps) w) (hm:law09_play.m k s0 s1 i2=some (r0,t0,t1)) :
    Calls Tryz.prog 35 #[nP b0 0,nP b1 0,.agg #[nI (i2.kind),nI (i2.of),nI (i2.at'),nI (i2.i),nI (i2.w),nI (i2.to)]] w fun e w'=>e=.returned (.bool r0)∧St w0 F0 (HeapP b0 ab0 t0::RHeapP b1 ab1 sb1 g1 cb1 t1::ps) w':=by
 refine ev_enterL 142 [nP b0 0,nP b1 0,.agg #[nI (i2.kind),nI (i2.of),nI (i2.at'),nI (i2.i),nI (i2.w),nI (i2.to)]] Tryz.func35 rfl rfl (by simp) ?_
 intro a hF
 have hF0:Fr 142 a [(0,nP b0 0),(1,nP b1 0),(2,.agg #[nI (i2.kind),nI (i2.of),nI (i2.at'),nI (i2.i),nI (i2.w),nI (i2.to)])]:=hF; clear hF
 unfold law09_play.m at hm
 refine wp_seq (wp_region_lit ?_)
 refine ev_runs 1 hF0 (l':=[(5,nB w),(0,nP b0 0),(1,nP b1 0),(2,.agg #[nI (i2.kind),nI (i2.of),nI (i2.at'),nI (i2.i),nI (i2.w),nI (i2.to)])]) (w':=w.alloc (.cells #[nI (i2.kind),nI (i2.of),nI (i2.at'),nI (i2.i),nI (i2.w),nI (i2.to)] 66)) (by kernel_rfl) ?_
 intro a2 hF1; clear hF0
 have hS4:St w0 F0 (BlkP (w.heap.size) 66 #[nI (i2.kind),nI (i2.of),nI (i2.at'),nI (i2.i),nI (i2.w),nI (i2.to)]::HeapP b0 ab0 s0::RHeapP b1 ab1 sb1 g1 cb1 s1::ps) (w.alloc (.cells #[nI (i2.kind),nI (i2.of),nI (i2.at'),nI (i2.i),nI (i2.w),nI (i2.to)] 66)):=St.new hS #[nI (i2.kind),nI (i2.of),nI (i2.at'),nI (i2.i),nI (i2.w),nI (i2.to)] 66
 refine ev_runK 1 hF1 [0,1,5] (l':=[(5,nB w),(0,nP b0 0),(1,nP b1 0)]) (w':=w.alloc (.cells #[nI (i2.kind),nI (i2.of),nI (i2.at'),nI (i2.i),nI (i2.w),nI (i2.to)] 66)) (by kernel_rfl) ?_
 intro a6 hF5; clear hF1
 refine wpList_nil (thenN (wp_seq (wp_seq (wp_region_lit ?_))))
 refine ev_runs 1 hF5 (l':=[(17,nB w),(5,nB w),(0,nP b0 0),(1,nP b1 0)]) (w':=w.alloc (.cells #[nI (i2.kind),nI (i2.of),nI (i2.at'),nI (i2.i),nI (i2.w),nI (i2.to)] 66)) (by kernel_rfl) ?_
 intro a8 hF7; clear hF5
 refine ev_one (nI (i2.kind)) (w.alloc (.cells #[nI (i2.kind),nI (i2.of),nI (i2.at'),nI (i2.i),nI (i2.w),nI (i2.to)] 66)) hF7 (by kernel_rfl) rfl (by kernel_rfl) (run_loadV rfl rfl (run_loadS rfl rfl (hS4.cell 0 rfl 0 rfl))) (l':=[(18,nI (i2.kind)),(17,nB w),(5,nB w),(0,nP b0 0),(1,nP b1 0)]) (by kernel_rfl) ?_
 intro a10 hF9; clear hF7
 refine wpList_nil ?_
 have hF11:=hF9.keep [0,1,5,18]
 clear hF9
 refine thenN ?_
 refine wp_block ?_
 refine wp_seq (wp_region_lit ?_)
 refine ev_runK 2 hF11 [0,1,5,18,49] (l':=[(49,.bool (i2.kind == 1)),(18,nI (i2.kind)),(5,nB w),(0,nP b0 0),(1,nP b1 0)]) (w':=w.alloc (.cells #[nI (i2.kind),nI (i2.of),nI (i2.at'),nI (i2.i),nI (i2.w),nI (i2.to)] 66)) (by kernel_rfl) ?_
 intro a13 hF12; clear hF11
 refine wpList_nil (thenN ?_)
 cases hc14:(i2.kind == 1)
 case true =>
  rw [hc14] at hF12
  have hm15:=ifYes hc14 hm; clear hm
  refine ev_condT hF12 rfl rfl ?_
  refine wp_seq ?_
  have hS16:=hS4.drew; clear hS4
  refine any_start (fun wS=>∃ qs,St w0 F0 (BlkP (w.heap.size) 66 #[nI (i2.kind),nI (i2.of),nI (i2.at'),nI (i2.i),nI (i2.w),nI (i2.to)]::qs) wS) 18 #[false,false,false,false,false,false,false,false,false,false,false,false,false,false,false,false,false,false] (by kernel_rfl) (by kernel_rfl) (by kernel_rfl) ?_
  refine any_many 14 [(0,some (nP b0 0)),(1,some (nP (w.heap.size) 2)),(2,some (nI (i2.at'))),(3,some (nP (w.heap.size) 3)),(4,some (nI (i2.i))),(5,some (nP (w.heap.size) 4)),(6,some (nI (i2.w))),(8,some (nP b1 0)),(9,some (nP (w.heap.size) 2)),(10,some (nI (i2.at'))),(11,some (nP (w.heap.size) 3)),(12,some (nI (i2.i))),(13,some (nP (w.heap.size) 4)),(14,some (nI (i2.w)))] [6,51,53,55,57,58,59,61,63,65,66,67] #[true,true,true,true,true,true,true,false,true,true,true,true,true,true,true,false,false,false] (by rfl) hF12 (by kernel_rfl) (by kernel_rfl) (by exact ⟨fun wS hw=>by kernel_rfl,fun wS hw=>by kernel_rfl,fun wS hw=>hw.elim fun qs hw=>run_loadV rfl rfl (run_loadS rfl rfl (hw.cell 0 rfl 2 rfl)),fun wS hw=>by kernel_rfl,fun wS hw=>hw.elim fun qs hw=>run_loadV rfl rfl (run_loadS rfl rfl (hw.cell 0 rfl 3 rfl)),fun wS hw=>by kernel_rfl,fun wS hw=>hw.elim fun qs hw=>run_loadV rfl rfl (run_loadS rfl rfl (hw.cell 0 rfl 4 rfl)),fun wS hw=>by kernel_rfl,fun wS hw=>by kernel_rfl,fun wS hw=>hw.elim fun qs hw=>run_loadV rfl rfl (run_loadS rfl rfl (hw.cell 0 rfl 2 rfl)),fun wS hw=>by kernel_rfl,fun wS hw=>hw.elim fun qs hw=>run_loadV rfl rfl (run_loadS rfl rfl (hw.cell 0 rfl 3 rfl)),fun wS hw=>by kernel_rfl,fun wS hw=>hw.elim fun qs hw=>run_loadV rfl rfl (run_loadS rfl rfl (hw.cell 0 rfl 4 rfl)),trivial⟩) (fun _ _ _ _ _ h=>h) ⟨_,hS16⟩ (l':=[(65,nI (i2.w)),(63,nI (i2.i)),(61,nI (i2.at')),(59,nP b1 0),(57,nI (i2.w)),(55,nI (i2.i)),(53,nI (i2.at')),(51,nP b0 0)]) (by kernel_rfl) ?_
  intro a18 hF17; clear hF12
  have hS19:=hS16.pick1
  clear hS16
  refine any_call 7 #[true,true,true,true,true,true,true,true,true,true,true,true,true,true,true,false,false,false] 22 #[nP b0 0,nI (i2.at'),nI (i2.i),nI (i2.w)] hF17 rfl (by kernel_rfl) rfl rfl (by kernel_rfl) rfl (by kernel_rfl) (fun w=>by kernel_rfl) (by kernel_rfl) ?_
  obtain ⟨x20,s21,hx22,hm23⟩:=bind2E hm15; clear hm15
  refine (p_Store hS19 hx22).mono ?_
  rintro _ w24 ⟨rfl,hS26⟩; clear hS19
  refine ⟨⟨_,hS26.pick1⟩,?_⟩
  intro a25 hF27; clear hF17
  have hS28:=hS26.pick2
  clear hS26
  refine any_call 15 #[true,true,true,true,true,true,true,true,true,true,true,true,true,true,true,true,false,false] 23 #[nP b1 0,nI (i2.at'),nI (i2.i),nI (i2.w)] hF27 rfl (by kernel_rfl) rfl rfl (by kernel_rfl) rfl (by kernel_rfl) (fun w=>by kernel_rfl) (by kernel_rfl) ?_
  obtain ⟨x29,s30,hx31,hm32⟩:=bind2E hm23; clear hm23
  refine (q_Store hS28 hx31).mono ?_
  rintro _ w33 ⟨rfl,hS35⟩; clear hS28
  refine ⟨⟨_,hS35.pick2⟩,?_⟩
  intro a34 hF36; clear hF27
  refine any_many 2 [(16,some (.bool (x20 == x29))),(17,some (.bool (x20 == x29)))] [6] #[true,true,true,true,true,true,true,true,true,true,true,true,true,true,true,true,true,true] (by rfl) hF36 (by kernel_rfl) (by kernel_rfl) (by exact ⟨fun wS hw=>by kernel_rfl,fun wS hw=>by kernel_rfl,trivial⟩) (fun _ _ _ _ _ h=>h) ⟨_,hS35.pick2⟩ (l':=[(6,.bool (x20 == x29))]) (by kernel_rfl) ?_
  intro a38 hF37; clear hF36
  refine any_done (by kernel_rfl) ?_
  have hS39:=hS35.pick2.drop
  clear hS35
  refine thenN ?_
  refine wp_ret ?_
  refine blockR ?_
  refine thenR ?_
  have hS40:=hS39.pick1
  clear hS39
  simp only [Option.some.injEq,Prod.mk.injEq] at hm32
  obtain ⟨rfl,rfl,rfl⟩:=hm32
  refine ev_ret hF37 [6] (.bool (x20 == x29)) rfl rfl rfl ?_
  exact ⟨rfl,hS40⟩
 rw [hc14] at hF12
 have hm44:=ifNot hc14 hm; clear hm
 refine ev_condF hF12 rfl rfl ?_
 refine wp_seq (wp_region_lit ?_)
 refine ev_runK 2 hF12 [0,1,5,18,68] (l':=[(68,.bool (i2.kind == 2)),(18,nI (i2.kind)),(5,nB w),(0,nP b0 0),(1,nP b1 0)]) (w':=w.alloc (.cells #[nI (i2.kind),nI (i2.of),nI (i2.at'),nI (i2.i),nI (i2.w),nI (i2.to)] 66)) (by kernel_rfl) ?_
 intro a46 hF45; clear hF12
 refine wpList_nil (thenN ?_)
 cases hc47:(i2.kind == 2)
 case true =>
  rw [hc47] at hF45
  have hm48:=ifYes hc47 hm44; clear hm44
  refine ev_condT hF45 rfl rfl ?_
  refine wp_seq (wp_region_lit ?_)
  refine ev_runs 2 hF45 (l':=[(71,nP (w.heap.size) 2),(70,nP b1 0),(68,.bool true),(18,nI (i2.kind)),(5,nB w),(0,nP b0 0),(1,nP b1 0)]) (w':=w.alloc (.cells #[nI (i2.kind),nI (i2.of),nI (i2.at'),nI (i2.i),nI (i2.w),nI (i2.to)] 66)) (by kernel_rfl) ?_
  intro a50 hF49; clear hF45
  refine ev_one (nI (i2.at')) (w.alloc (.cells #[nI (i2.kind),nI (i2.of),nI (i2.at'),nI (i2.i),nI (i2.w),nI (i2.to)] 66)) hF49 (by kernel_rfl) rfl (by kernel_rfl) (run_loadV rfl rfl (run_loadS rfl rfl (hS4.cell 0 rfl 2 rfl))) (l':=[(72,nI (i2.at')),(71,nP (w.heap.size) 2),(70,nP b1 0),(68,.bool true),(18,nI (i2.kind)),(5,nB w),(0,nP b0 0),(1,nP b1 0)]) (by kernel_rfl) ?_
  intro a52 hF51; clear hF49
  have hS53:=hS4.pick2
  clear hS4
  refine ev_call 44 #[nP b1 0,nI (i2.at')] hF51 rfl rfl (by kernel_rfl) rfl (by kernel_rfl) (fun w=>by kernel_rfl) ?_
  obtain ⟨x54,s55,hx56,hm57⟩:=bind2E hm48; clear hm48
  refine (law09_pick.ok hS53 hx56).mono ?_
  rintro _ w58 ⟨rfl,hS60⟩ a59 hF61; clear hF51 hS53
  refine ev_runK 1 hF61 [0,1,7] (l':=[(7,nI x54),(0,nP b0 0),(1,nP b1 0)]) (w':=w58) (by kernel_rfl) ?_
  intro a63 hF62; clear hF61
  refine wpList_nil ?_
  have hS64:=hS60.pick1.drop
  clear hS60
  refine thenN (wp_seq (wp_region_lit ?_))
  refine ev_runs 2 hF62 (l':=[(75,nI x54),(74,nP b0 0),(7,nI x54),(0,nP b0 0),(1,nP b1 0)]) (w':=w58) (by kernel_rfl) ?_
  intro a66 hF65; clear hF62
  have hS67:=hS64.pick1
  clear hS64
  refine ev_call 113 #[nP b0 0,nI x54] hF65 rfl rfl (by kernel_rfl) rfl (by kernel_rfl) (fun w=>by kernel_rfl) ?_
  obtain ⟨s68,hx69,hm70⟩:=bind1E hm57; clear hm57
  refine (p_Shade hS67 hx69).mono ?_
  rintro _ w71 ⟨rfl,hS73⟩ a72 hF74; clear hF65 hS67
  refine wpList_nil ?_
  have hF75:=hF74.keep [1,7]
  clear hF74
  refine thenN (wp_region_lit ?_)
  refine ev_runs 2 hF75 (l':=[(78,nI x54),(77,nP b1 0),(7,nI x54),(1,nP b1 0)]) (w':=w71) (by kernel_rfl) ?_
  intro a77 hF76; clear hF75
  have hS78:=hS73.pick1
  clear hS73
  refine ev_call 115 #[nP b1 0,nI x54] hF76 rfl rfl (by kernel_rfl) rfl (by kernel_rfl) (fun w=>by kernel_rfl) ?_
  obtain ⟨s79,hx80,hm81⟩:=bind1E hm70; clear hm70
  refine (q_ShadeW hS78 hx80).mono ?_
  rintro _ w82 ⟨rfl,hS84⟩ a83 hF85; clear hF76 hS78
  refine wpList_nil ?_
  have hF86:=hF85.keep []
  clear hF85
  refine blockN ?_
  refine thenN (wp_seq (wp_region_lit ?_))
  refine ev_runs 1 hF86 (l':=[(6,.bool true)]) (w':=w82) (by kernel_rfl) ?_
  intro a88 hF87; clear hF86
  refine wpList_nil (thenN ?_)
  refine wp_ret ?_
  have hS89:=hS84.pick1
  clear hS84
  simp only [Option.some.injEq,Prod.mk.injEq] at hm81
  obtain ⟨rfl,rfl,rfl⟩:=hm81
  refine ev_ret hF87 [6] (.bool true) rfl rfl rfl ?_
  exact ⟨rfl,hS89⟩
 rw [hc47] at hF45
 have hm93:=ifNot hc47 hm44; clear hm44
 refine ev_condF hF45 rfl rfl ?_
 refine wp_seq (wp_region_lit ?_)
 refine ev_runK 2 hF45 [0,1,5,18,80] (l':=[(80,.bool (i2.kind == 3)),(18,nI (i2.kind)),(5,nB w),(0,nP b0 0),(1,nP b1 0)]) (w':=w.alloc (.cells #[nI (i2.kind),nI (i2.of),nI (i2.at'),nI (i2.i),nI (i2.w),nI (i2.to)] 66)) (by kernel_rfl) ?_
 intro a95 hF94; clear hF45
 refine wpList_nil (thenN ?_)
 cases hc96:(i2.kind == 3)
 case true =>
  rw [hc96] at hF94
  have hm97:=ifYes hc96 hm93; clear hm93
  refine ev_condT hF94 rfl rfl ?_
  refine wp_seq ?_
  have hS98:=hS4.drew; clear hS4
  refine any_start (fun wS=>∃ qs,St w0 F0 (BlkP (w.heap.size) 66 #[nI (i2.kind),nI (i2.of),nI (i2.at'),nI (i2.i),nI (i2.w),nI (i2.to)]::qs) wS) 12 #[false,false,false,false,false,false,false,false,false,false,false,false] (by kernel_rfl) (by kernel_rfl) (by kernel_rfl) ?_
  refine any_many 8 [(0,some (nP b1 0)),(1,some (nP (w.heap.size) 2)),(2,some (nI (i2.at'))),(4,some (nP b1 0)),(5,some (nP (w.heap.size) 5)),(6,some (nI (i2.to))),(8,some (nP (w.heap.size) 4)),(9,some (nI (i2.w)))] [0,1,8,82,84,85,86,88,89,91,92] #[true,true,true,false,true,true,true,false,true,true,false,false] (by rfl) hF94 (by kernel_rfl) (by kernel_rfl) (by exact ⟨fun wS hw=>by kernel_rfl,fun wS hw=>by kernel_rfl,fun wS hw=>hw.elim fun qs hw=>run_loadV rfl rfl (run_loadS rfl rfl (hw.cell 0 rfl 2 rfl)),fun wS hw=>by kernel_rfl,fun wS hw=>by kernel_rfl,fun wS hw=>hw.elim fun qs hw=>run_loadV rfl rfl (run_loadS rfl rfl (hw.cell 0 rfl 5 rfl)),fun wS hw=>by kernel_rfl,fun wS hw=>hw.elim fun qs hw=>run_loadV rfl rfl (run_loadS rfl rfl (hw.cell 0 rfl 4 rfl)),trivial⟩) (fun _ _ _ _ _ h=>h) ⟨_,hS98⟩ (l':=[(91,nI (i2.w)),(88,nI (i2.to)),(86,nP b1 0),(84,nI (i2.at')),(82,nP b1 0),(0,nP b0 0),(1,nP b1 0)]) (by kernel_rfl) ?_
  intro a100 hF99; clear hF94
  have hS101:=hS98.pick2
  clear hS98
  refine any_call 3 #[true,true,true,true,true,true,true,false,true,true,false,false] 44 #[nP b1 0,nI (i2.at')] hF99 rfl (by kernel_rfl) rfl rfl (by kernel_rfl) rfl (by kernel_rfl) (fun w=>by kernel_rfl) (by kernel_rfl) ?_
  obtain ⟨x102,s103,hx104,hm105⟩:=bind2E hm97; clear hm97
  refine (law09_pick.ok hS101 hx104).mono ?_
  rintro _ w106 ⟨rfl,hS108⟩; clear hS101
  refine ⟨⟨_,hS108.pick1⟩,?_⟩
  intro a107 hF109; clear hF99
  refine any_call 7 #[true,true,true,true,true,true,true,true,true,true,false,false] 44 #[nP b1 0,nI (i2.to)] hF109 rfl (by kernel_rfl) rfl rfl (by kernel_rfl) rfl (by kernel_rfl) (fun w=>by kernel_rfl) (by kernel_rfl) ?_
  obtain ⟨x110,s111,hx112,hm113⟩:=bind2E hm105; clear hm105
  refine (law09_pick.ok hS108 hx112).mono ?_
  rintro _ w114 ⟨rfl,hS116⟩; clear hS108
  refine ⟨⟨_,hS116.pick1⟩,?_⟩
  intro a115 hF117; clear hF109
  refine any_one 10 (by kernel_rfl) ?_
  have hS118:St w0 F0 (RowP (.slice (some ⟨w114.heap.size,0,none⟩) 3 3) [x102,x110,i2.w]::RHeapP b1 ab1 sb1 g1 cb1 s111::BlkP (w.heap.size) 66 #[nI (i2.kind),nI (i2.of),nI (i2.at'),nI (i2.i),nI (i2.w),nI (i2.to)]::HeapP b0 ab0 s0::ps) (w114.alloc (.cells #[nI x102,nI x110,nI (i2.w)] 3)):=St.lit hS116 [x102,x110,i2.w] (by unfold maxLen; simp)
  clear hS116
  refine op_step 10 #[true,true,true,true,true,true,true,true,true,true,true,false] (.slice (some ⟨w114.heap.size,0,none⟩) 3 3) (w114.alloc (.cells #[nI x102,nI x110,nI (i2.w)] 3)) hF117 rfl (by kernel_rfl) rfl (by kernel_rfl) (by kernel_rfl) (l':=[(92,.slice (some ⟨w114.heap.size,0,none⟩) 3 3),(89,nI x110),(85,nI x102),(91,nI (i2.w)),(88,nI (i2.to)),(86,nP b1 0),(84,nI (i2.at')),(82,nP b1 0),(0,nP b0 0),(1,nP b1 0)]) (by kernel_rfl) ⟨_,hS118.pick2⟩ (by kernel_rfl) ?_
  intro a120 hF119; clear hF117
  refine any_many 1 [(11,some (.slice (some ⟨w114.heap.size,0,none⟩) 3 3))] [0,1,8] #[true,true,true,true,true,true,true,true,true,true,true,true] (by rfl) hF119 (by kernel_rfl) (by kernel_rfl) (by exact ⟨fun wS hw=>by kernel_rfl,trivial⟩) (fun _ _ _ _ _ h=>h) ⟨_,hS118.pick2⟩ (l':=[(8,.slice (some ⟨w114.heap.size,0,none⟩) 3 3),(0,nP b0 0),(1,nP b1 0)]) (by kernel_rfl) ?_
  intro a122 hF121; clear hF119
  refine any_done (by kernel_rfl) ?_
  have hS123:=hS118.pick2.drop
  clear hS118
  refine thenN (wp_seq (wp_region_lit ?_))
  refine ev_runs 2 hF121 (l':=[(94,.slice (some ⟨w114.heap.size,0,none⟩) 3 3),(93,nP b0 0),(8,.slice (some ⟨w114.heap.size,0,none⟩) 3 3),(0,nP b0 0),(1,nP b1 0)]) (w':=w114.alloc (.cells #[nI x102,nI x110,nI (i2.w)] 3)) (by kernel_rfl) ?_
  intro a125 hF124; clear hF121
  have hS126:=hS123.pick2
  clear hS123
  refine ev_call 45 #[nP b0 0,.slice (some ⟨w114.heap.size,0,none⟩) 3 3] hF124 rfl rfl (by kernel_rfl) rfl (by kernel_rfl) (fun w=>by kernel_rfl) ?_
  obtain ⟨x127,s128,hx129,hm130⟩:=bind2E hm113; clear hm113
  refine (p_Begin hS126 hx129).mono ?_
  rintro _ w131 ⟨rfl,hS133⟩ a132 hF134; clear hF124 hS126
  refine ev_runs 2 hF134 (l':=[(97,.slice (some ⟨w114.heap.size,0,none⟩) 3 3),(96,nP b1 0),(95,nI x127),(94,.slice (some ⟨w114.heap.size,0,none⟩) 3 3),(93,nP b0 0),(8,.slice (some ⟨w114.heap.size,0,none⟩) 3 3),(0,nP b0 0),(1,nP b1 0)]) (w':=w131) (by kernel_rfl) ?_
  intro a136 hF135; clear hF134
  have hS137:=hS133.pick1.pick2
  clear hS133
  refine ev_call 58 #[nP b1 0,.slice (some ⟨w114.heap.size,0,none⟩) 3 3] hF135 rfl rfl (by kernel_rfl) rfl (by kernel_rfl) (fun w=>by kernel_rfl) ?_
  obtain ⟨x138,s139,hx140,hm141⟩:=bind2E hm130; clear hm130
  refine (q_Begin hS137 hx140).mono ?_
  rintro _ w142 ⟨rfl,hS144⟩ a143 hF145; clear hF135 hS137
  refine ev_runK 2 hF145 [6] (l':=[(6,.bool (x127 == x138))]) (w':=w142) (by kernel_rfl) ?_
  intro a147 hF146; clear hF145
  refine wpList_nil ?_
  have hS148:=hS144.pick1.drop
  clear hS144
  refine thenN ?_
  refine wp_ret ?_
  refine blockR ?_
  refine thenR ?_
  have hS149:=hS148.pick1
  clear hS148
  simp only [Option.some.injEq,Prod.mk.injEq] at hm141
  obtain ⟨rfl,rfl,rfl⟩:=hm141
  refine ev_ret hF146 [6] (.bool (x127 == x138)) rfl rfl rfl ?_
  exact ⟨rfl,hS149⟩
 rw [hc96] at hF94
 have hm153:=ifNot hc96 hm93; clear hm93
 refine ev_condF hF94 rfl rfl ?_
 refine wp_seq (wp_region_lit ?_)
 refine ev_runK 2 hF94 [0,1,5,18,100] (l':=[(100,.bool (i2.kind == 4)),(18,nI (i2.kind)),(5,nB w),(0,nP b0 0),(1,nP b1 0)]) (w':=w.alloc (.cells #[nI (i2.kind),nI (i2.of),nI (i2.at'),nI (i2.i),nI (i2.w),nI (i2.to)] 66)) (by kernel_rfl) ?_
 intro a155 hF154; clear hF94
 refine wpList_nil (thenN ?_)
 cases hc156:(i2.kind == 4)
 case true =>
  rw [hc156] at hF154
  have hm157:=ifYes hc156 hm153; clear hm153
  refine ev_condT hF154 rfl rfl ?_
  refine wp_seq (wp_region_lit ?_)
  refine ev_runs 1 hF154 (l':=[(102,nP b0 0),(100,.bool true),(18,nI (i2.kind)),(5,nB w),(0,nP b0 0),(1,nP b1 0)]) (w':=w.alloc (.cells #[nI (i2.kind),nI (i2.of),nI (i2.at'),nI (i2.i),nI (i2.w),nI (i2.to)] 66)) (by kernel_rfl) ?_
  intro a159 hF158; clear hF154
  have hS160:=hS4.pick1
  clear hS4
  refine ev_call 46 #[nP b0 0] hF158 rfl rfl (by kernel_rfl) rfl (by kernel_rfl) (fun w=>by kernel_rfl) ?_
  obtain ⟨L161,s162,hx163,hm164⟩:=bind2E hm157; clear hm157
  refine (p_Step hS160 hx163).mono ?_
  rintro _ w165 ⟨z169,rfl,hS167⟩ a166 hF168; clear hF158 hS160
  obtain ⟨hl174,p171,c172,rfl,hp173⟩:=St.shapeG (k:=1) hS167 rfl
  refine ev_runs 1 hF168 (l':=[(104,nP b1 0),(103,.slice p171 L161.length c172),(102,nP b0 0),(100,.bool true),(18,nI (i2.kind)),(5,nB w),(0,nP b0 0),(1,nP b1 0)]) (w':=w165) (by kernel_rfl) ?_
  intro a176 hF175; clear hF168
  have hS177:=hS167.pick3
  clear hS167
  refine ev_call 59 #[nP b1 0] hF175 rfl rfl (by kernel_rfl) rfl (by kernel_rfl) (fun w=>by kernel_rfl) ?_
  obtain ⟨L178,s179,hx180,hm181⟩:=bind2E hm164; clear hm164
  refine (ref06_Step.ok hS177 hx180).mono ?_
  rintro _ w182 ⟨z186,rfl,hS184⟩ a183 hF185; clear hF175 hS177
  obtain ⟨hl191,p188,c189,rfl,hp190⟩:=St.shapeG (k:=1) hS184 rfl
  have hS192:=hS184.pick1.pick3
  clear hS184
  refine ev_call 70 #[.slice p171 L161.length c172,.slice p188 L178.length c189,.func (.func 73) #[] #[]] hF185 rfl rfl (by kernel_rfl) rfl (by kernel_rfl) (fun w=>by kernel_rfl) ?_
  refine (p_SameG hS192).mono ?_
  rintro _ w193 ⟨rfl,hS195⟩ a194 hF196; clear hF185 hS192
  refine ev_runK 1 hF196 [6] (l':=[(6,.bool (sameG L161 L178))]) (w':=w193) (by kernel_rfl) ?_
  intro a198 hF197; clear hF196
  refine wpList_nil ?_
  have hS199:=hS195.drop.drop.pick2.drop
  clear hS195
  refine thenN ?_
  refine wp_ret ?_
  refine blockR ?_
  refine thenR ?_
  have hS200:=hS199.pick1
  clear hS199
  simp only [Option.some.injEq,Prod.mk.injEq] at hm181
  obtain ⟨rfl,rfl,rfl⟩:=hm181
  refine ev_ret hF197 [6] (.bool (sameG L161 L178)) rfl rfl rfl ?_
  exact ⟨rfl,hS200⟩
 rw [hc156] at hF154
 have hm204:=ifNot hc156 hm153; clear hm153
 refine ev_condF hF154 rfl rfl ?_
 refine wp_seq (wp_seq (wp_region_lit ?_))
 refine ev_runK 2 hF154 [0,1,5,18,107] (l':=[(107,.bool (i2.kind == 5)),(18,nI (i2.kind)),(5,nB w),(0,nP b0 0),(1,nP b1 0)]) (w':=w.alloc (.cells #[nI (i2.kind),nI (i2.of),nI (i2.at'),nI (i2.i),nI (i2.w),nI (i2.to)] 66)) (by kernel_rfl) ?_
 intro a206 hF205; clear hF154
 refine wpList_nil (thenN ?_)
 refine joinQ (fun aI wI=>∃ (y207:Bool),Fr 142 aI [(107,.bool (y207)),(5,nB w),(0,nP b0 0),(1,nP b1 0)]∧St w0 F0 (BlkP (w.heap.size) 66 #[nI (i2.kind),nI (i2.of),nI (i2.at'),nI (i2.i),nI (i2.w),nI (i2.to)]::HeapP b0 ab0 s0::RHeapP b1 ab1 sb1 g1 cb1 s1::ps) wI∧law09_play.j1 s0 s1 i2 k y207=some (r0,t0,t1)) ?_ ?_
 rotate_left
 · rintro a209 w210 ⟨y207,hF211,hS212,hm213⟩
   clear hF205 hS4 hm204
   unfold law09_play.j1 at hm213
   refine thenN ?_
   cases hc215:(y207)
   case true =>
    rw [hc215] at hF211
    have hm216:=ifYes hc215 hm213; clear hm213
    refine ev_condT hF211 rfl rfl ?_
    refine wp_seq ?_
    have hS217:=hS212.drew; clear hS212
    refine any_start (fun wS=>∃ qs,St w0 F0 (BlkP (w.heap.size) 66 #[nI (i2.kind),nI (i2.of),nI (i2.at'),nI (i2.i),nI (i2.w),nI (i2.to)]::qs) wS) 11 #[false,false,false,false,false,false,false,false,false,false,false] (by kernel_rfl) (by kernel_rfl) (by kernel_rfl) ?_
    refine any_many 6 [(0,some (nP b1 0)),(1,some (nP (w.heap.size) 2)),(2,some (nI (i2.at'))),(4,some (nP b1 0)),(5,some (nP (w.heap.size) 5)),(6,some (nI (i2.to)))] [0,1,5,9,10,110,112,113,114,116,117,118] #[true,true,true,false,true,true,true,false,false,false,false] (by rfl) hF211 (by kernel_rfl) (by kernel_rfl) (by exact ⟨fun wS hw=>by kernel_rfl,fun wS hw=>by kernel_rfl,fun wS hw=>hw.elim fun qs hw=>run_loadV rfl rfl (run_loadS rfl rfl (hw.cell 0 rfl 2 rfl)),fun wS hw=>by kernel_rfl,fun wS hw=>by kernel_rfl,fun wS hw=>hw.elim fun qs hw=>run_loadV rfl rfl (run_loadS rfl rfl (hw.cell 0 rfl 5 rfl)),trivial⟩) (fun _ _ _ _ _ h=>h) ⟨_,hS217⟩ (l':=[(116,nI (i2.to)),(114,nP b1 0),(112,nI (i2.at')),(110,nP b1 0),(5,nB w),(0,nP b0 0),(1,nP b1 0)]) (by kernel_rfl) ?_
    intro a219 hF218; clear hF211
    have hS220:=hS217.pick2
    clear hS217
    refine any_call 3 #[true,true,true,true,true,true,true,false,false,false,false] 44 #[nP b1 0,nI (i2.at')] hF218 rfl (by kernel_rfl) rfl rfl (by kernel_rfl) rfl (by kernel_rfl) (fun w=>by kernel_rfl) (by kernel_rfl) ?_
    obtain ⟨x221,s222,hx223,hm224⟩:=bind2E hm216; clear hm216
    refine (law09_pick.ok hS220 hx223).mono ?_
    rintro _ w225 ⟨rfl,hS227⟩; clear hS220
    refine ⟨⟨_,hS227.pick1⟩,?_⟩
    intro a226 hF228; clear hF218
    refine any_call 7 #[true,true,true,true,true,true,true,true,false,false,false] 44 #[nP b1 0,nI (i2.to)] hF228 rfl (by kernel_rfl) rfl rfl (by kernel_rfl) rfl (by kernel_rfl) (fun w=>by kernel_rfl) (by kernel_rfl) ?_
    obtain ⟨x229,s230,hx231,hm232⟩:=bind2E hm224; clear hm224
    refine (law09_pick.ok hS227 hx231).mono ?_
    rintro _ w233 ⟨rfl,hS235⟩; clear hS227
    refine ⟨⟨_,hS235.pick1⟩,?_⟩
    intro a234 hF236; clear hF228
    refine any_call 8 #[true,true,true,true,true,true,true,true,true,false,false] 75 #[nI x229] hF236 rfl (by kernel_rfl) rfl rfl (by kernel_rfl) rfl (by kernel_rfl) (fun w=>by kernel_rfl) (by kernel_rfl) ?_
    refine (p_rPtr hS235).mono ?_
    rintro _ w237 ⟨rfl,hS239⟩; clear hS235
    refine ⟨⟨_,hS239.pick1⟩,?_⟩
    intro a238 hF240; clear hF236
    refine any_many 2 [(9,some (nI x221)),(10,some (nI (wrap64 (wrap64 (x229 * 2)+1))))] [0,1,5,9,10] #[true,true,true,true,true,true,true,true,true,true,true] (by rfl) hF240 (by kernel_rfl) (by kernel_rfl) (by exact ⟨fun wS hw=>by kernel_rfl,fun wS hw=>by kernel_rfl,trivial⟩) (fun _ _ _ _ _ h=>h) ⟨_,hS239.pick1⟩ (l':=[(10,nI (wrap64 (wrap64 (x229 * 2)+1))),(9,nI x221),(5,nB w),(0,nP b0 0),(1,nP b1 0)]) (by kernel_rfl) ?_
    intro a242 hF241; clear hF240
    refine any_done (by kernel_rfl) ?_
    refine thenN (wp_seq (wp_seq (wp_region_lit ?_)))
    refine ev_runs 1 hF241 (l':=[(119,nB w),(10,nI (wrap64 (wrap64 (x229 * 2)+1))),(9,nI x221),(5,nB w),(0,nP b0 0),(1,nP b1 0)]) (w':=w237) (by kernel_rfl) ?_
    intro a244 hF243; clear hF241
    refine ev_one (nI (i2.kind)) w237 hF243 (by kernel_rfl) rfl (by kernel_rfl) (run_loadV rfl rfl (run_loadS rfl rfl (hS239.cell 1 rfl 0 rfl))) (l':=[(120,nI (i2.kind)),(119,nB w),(10,nI (wrap64 (wrap64 (x229 * 2)+1))),(9,nI x221),(5,nB w),(0,nP b0 0),(1,nP b1 0)]) (by kernel_rfl) ?_
    intro a246 hF245; clear hF243
    refine ev_runK 1 hF245 [0,1,5,9,10,121] (l':=[(121,.bool (i2.kind == 6)),(10,nI (wrap64 (wrap64 (x229 * 2)+1))),(9,nI x221),(5,nB w),(0,nP b0 0),(1,nP b1 0)]) (w':=w237) (by kernel_rfl) ?_
    intro a248 hF247; clear hF245
    refine wpList_nil (thenN ?_)
    refine joinQ (fun aI wI=>∃ (x249:Int),Fr 142 aI [(10,nI x249),(9,nI x221),(5,nB w),(0,nP b0 0),(1,nP b1 0)]∧St w0 F0 (RHeapP b1 ab1 sb1 g1 cb1 s230::BlkP (w.heap.size) 66 #[nI (i2.kind),nI (i2.of),nI (i2.at'),nI (i2.i),nI (i2.w),nI (i2.to)]::HeapP b0 ab0 s0::ps) wI∧law09_play.j2 s0 i2 x221 s230 x249=some (r0,t0,t1)) ?_ ?_
    rotate_left
    · rintro a251 w252 ⟨x249,hF253,hS254,hm255⟩
      clear hF247 hS239 hm232
      unfold law09_play.j2 at hm255
      refine thenN (wp_seq (wp_region_lit ?_))
      refine ev_runs 1 hF253 (l':=[(126,nP (w.heap.size) 3),(10,nI x249),(9,nI x221),(5,nB w),(0,nP b0 0),(1,nP b1 0)]) (w':=w252) (by kernel_rfl) ?_
      intro a258 hF257; clear hF253
      refine ev_one (nI (i2.i)) w252 hF257 (by kernel_rfl) rfl (by kernel_rfl) (run_loadV rfl rfl (run_loadS rfl rfl (hS254.cell 1 rfl 3 rfl))) (l':=[(127,nI (i2.i)),(126,nP (w.heap.size) 3),(10,nI x249),(9,nI x221),(5,nB w),(0,nP b0 0),(1,nP b1 0)]) (by kernel_rfl) ?_
      intro a260 hF259; clear hF257
      refine ev_runs 4 hF259 (l':=[(11,nI (IntKind.i64.wrap (Int.tmod (IntKind.u64.wrap i2.i) 10))),(130,nI (IntKind.i64.wrap (Int.tmod (IntKind.u64.wrap i2.i) 10))),(129,.int .u64 (Int.tmod (IntKind.u64.wrap i2.i) 10)),(128,.int .u64 (IntKind.u64.wrap i2.i)),(127,nI (i2.i)),(126,nP (w.heap.size) 3),(10,nI x249),(9,nI x221),(5,nB w),(0,nP b0 0),(1,nP b1 0)]) (w':=w252) (by kernel_rfl) ?_
      intro a262 hF261; clear hF259
      obtain ⟨x263,hx264,hm265⟩:=bind1E hm255; clear hm255
      have hF266:=hF261; rw [Option.some.inj hx264] at hF266; clear hF261
      refine wpList_nil ?_
      have hF267:=hF266.keep [0,1,9,10,11]
      clear hF266
      have hS268:=hS254.pick1.drop
      clear hS254
      refine thenN (wp_seq (wp_region_lit ?_))
      refine ev_runs 4 hF267 (l':=[(134,nI x249),(133,nI x263),(132,nI x221),(131,nP b0 0),(11,nI x263),(10,nI x249),(9,nI x221),(0,nP b0 0),(1,nP b1 0)]) (w':=w252) (by kernel_rfl) ?_
      intro a270 hF269; clear hF267
      have hS271:=hS268.pick1
      clear hS268
      refine ev_call 22 #[nP b0 0,nI x221,nI x263,nI x249] hF269 rfl rfl (by kernel_rfl) rfl (by kernel_rfl) (fun w=>by kernel_rfl) ?_
      obtain ⟨x272,s273,hx274,hm275⟩:=bind2E hm265; clear hm265
      refine (p_Store hS271 hx274).mono ?_
      rintro _ w276 ⟨rfl,hS278⟩ a277 hF279; clear hF269 hS271
      refine ev_runs 4 hF279 (l':=[(139,nI x249),(138,nI x263),(137,nI x221),(136,nP b1 0),(135,nI x272),(134,nI x249),(133,nI x263),(132,nI x221),(131,nP b0 0),(11,nI x263),(10,nI x249),(9,nI x221),(0,nP b0 0),(1,nP b1 0)]) (w':=w276) (by kernel_rfl) ?_
      intro a281 hF280; clear hF279
      have hS282:=hS278.pick1
      clear hS278
      refine ev_call 23 #[nP b1 0,nI x221,nI x263,nI x249] hF280 rfl rfl (by kernel_rfl) rfl (by kernel_rfl) (fun w=>by kernel_rfl) ?_
      obtain ⟨x283,s284,hx285,hm286⟩:=bind2E hm275; clear hm275
      refine (q_Store hS282 hx285).mono ?_
      rintro _ w287 ⟨rfl,hS289⟩ a288 hF290; clear hF280 hS282
      refine ev_runK 2 hF290 [6] (l':=[(6,.bool (x272 == x283))]) (w':=w287) (by kernel_rfl) ?_
      intro a292 hF291; clear hF290
      refine wpList_nil (thenN ?_)
      refine wp_ret ?_
      refine blockR ?_
      refine thenR ?_
      have hS293:=hS289.pick1
      clear hS289
      simp only [Option.some.injEq,Prod.mk.injEq] at hm286
      obtain ⟨rfl,rfl,rfl⟩:=hm286
      refine ev_ret hF291 [6] (.bool (x272 == x283)) rfl rfl rfl ?_
      exact ⟨rfl,hS293⟩
    · skip
      cases hc297:(i2.kind == 6)
      case true =>
       rw [hc297] at hF247
       have hm298:=ifYes hc297 hm232; clear hm232
       refine ev_condT hF247 rfl rfl ?_
       refine wp_region_lit ?_
       refine ev_runs 1 hF247 (l':=[(122,nP (w.heap.size) 4),(121,.bool true),(10,nI (wrap64 (wrap64 (x229 * 2)+1))),(9,nI x221),(5,nB w),(0,nP b0 0),(1,nP b1 0)]) (w':=w237) (by kernel_rfl) ?_
       intro a300 hF299; clear hF247
       refine ev_one (nI (i2.w)) w237 hF299 (by kernel_rfl) rfl (by kernel_rfl) (run_loadV rfl rfl (run_loadS rfl rfl (hS239.cell 1 rfl 4 rfl))) (l':=[(123,nI (i2.w)),(122,nP (w.heap.size) 4),(121,.bool true),(10,nI (wrap64 (wrap64 (x229 * 2)+1))),(9,nI x221),(5,nB w),(0,nP b0 0),(1,nP b1 0)]) (by kernel_rfl) ?_
       intro a302 hF301; clear hF299
       refine ev_runs 1 hF301 (l':=[(124,nI (Int.tmod i2.w 1000)),(123,nI (i2.w)),(122,nP (w.heap.size) 4),(121,.bool true),(10,nI (wrap64 (wrap64 (x229 * 2)+1))),(9,nI x221),(5,nB w),(0,nP b0 0),(1,nP b1 0)]) (w':=w237) (by kernel_rfl) ?_
       intro a304 hF303; clear hF301
       refine ev_call 109 #[nI (Int.tmod i2.w 1000)] hF303 rfl rfl (by kernel_rfl) rfl (by kernel_rfl) (fun w=>by kernel_rfl) ?_
       refine (p_rInt hS239).mono ?_
       rintro _ w305 ⟨rfl,hS307⟩ a306 hF308; clear hF303 hS239
       refine ev_runs 1 hF308 (l':=[(10,nI (wrap64 ((Int.tmod i2.w 1000) * 2))),(125,nI (wrap64 ((Int.tmod i2.w 1000) * 2))),(124,nI (Int.tmod i2.w 1000)),(123,nI (i2.w)),(122,nP (w.heap.size) 4),(121,.bool true),(9,nI x221),(5,nB w),(0,nP b0 0),(1,nP b1 0)]) (w':=w305) (by kernel_rfl) ?_
       intro a310 hF309; clear hF308
       obtain ⟨x311,hx312,hm313⟩:=bind1E hm298; clear hm298
       have hF314:=hF309; rw [Option.some.inj hx312] at hF314; clear hF309
       refine wpList_nil ?_
       have hF315:=hF314.keep [0,1,5,9,10]
       clear hF314
       exact thenN ⟨x311,hF315,hS307,hm313⟩
      rw [hc297] at hF247
      have hm316:=ifNot hc297 hm232; clear hm232
      refine ev_condF hF247 rfl rfl ?_
      refine wp_skip ?_
      have hF317:=hF247.keep [0,1,5,9,10]
      clear hF247
      exact thenN ⟨wrap64 (wrap64 (x229 * 2)+1),hF317,hS239,hm316⟩
   rw [hc215] at hF211
   have hm318:=ifNot hc215 hm213; clear hm213
   refine ev_condF hF211 rfl rfl ?_
   refine wp_seq (wp_region_lit ?_)
   refine ev_runs 1 hF211 (l':=[(19,nP (w.heap.size) 1),(107,.bool false),(5,nB w),(0,nP b0 0),(1,nP b1 0)]) (w':=w210) (by kernel_rfl) ?_
   intro a320 hF319; clear hF211
   refine ev_one (nI (i2.of)) w210 hF319 (by kernel_rfl) rfl (by kernel_rfl) (run_loadV rfl rfl (run_loadS rfl rfl (hS212.cell 0 rfl 1 rfl))) (l':=[(20,nI (i2.of)),(19,nP (w.heap.size) 1),(107,.bool false),(5,nB w),(0,nP b0 0),(1,nP b1 0)]) (by kernel_rfl) ?_
   intro a322 hF321; clear hF319
   refine ev_runs 5 hF321 (l':=[(12,nI (IntKind.i64.wrap (1+(IntKind.i64.wrap (Int.tmod (IntKind.u64.wrap i2.of) 6))))),(24,nI (IntKind.i64.wrap (1+(IntKind.i64.wrap (Int.tmod (IntKind.u64.wrap i2.of) 6))))),(23,nI (IntKind.i64.wrap (Int.tmod (IntKind.u64.wrap i2.of) 6))),(22,.int .u64 (Int.tmod (IntKind.u64.wrap i2.of) 6)),(21,.int .u64 (IntKind.u64.wrap i2.of)),(20,nI (i2.of)),(19,nP (w.heap.size) 1),(107,.bool false),(5,nB w),(0,nP b0 0),(1,nP b1 0)]) (w':=w210) (by kernel_rfl) ?_
   intro a324 hF323; clear hF321
   obtain ⟨x325,hx326,hm327⟩:=bind1E hm318; clear hm318
   have hF328:=hF323; rw [Option.some.inj hx326] at hF328; clear hF323
   refine wpList_nil ?_
   have hF329:=hF328.keep [0,1,12]
   clear hF328
   have hS330:=hS212.drop
   clear hS212
   refine thenN (wp_seq (wp_region_lit ?_))
   refine ev_runs 3 hF329 (l':=[(28,nI x325),(27,nI x325),(26,nP b0 0),(12,nI x325),(0,nP b0 0),(1,nP b1 0)]) (w':=w210) (by kernel_rfl) ?_
   intro a332 hF331; clear hF329
   refine ev_call 126 #[nI x325] hF331 rfl rfl (by kernel_rfl) rfl (by kernel_rfl) (fun w=>by kernel_rfl) ?_
   obtain ⟨x333,hx334,hm335⟩:=bind1E hm327; clear hm327
   refine (law09_sizes.ok hS330 hx334).mono ?_
   rintro _ w336 ⟨rfl,hS338⟩ a337 hF339; clear hF331 hS330
   refine ev_call 101 #[nP b0 0,nI x325,nI x333] hF339 rfl rfl (by kernel_rfl) rfl (by kernel_rfl) (fun w=>by kernel_rfl) ?_
   obtain ⟨x340,x341,s342,hx343,hm344⟩:=bind3E hm335; clear hm335
   refine (p_Alloc hS338 hx343).mono ?_
   rintro _ w345 ⟨rfl,hS347⟩ a346 hF348; clear hF339 hS338
   refine ev_runK 5 hF348 [1,12,13,14] (l':=[(14,nI x341),(13,nI x340),(12,nI x325),(1,nP b1 0)]) (w':=w345) (by kernel_rfl) ?_
   intro a350 hF349; clear hF348
   refine wpList_nil (thenN (wp_seq (wp_region_lit ?_)))
   refine ev_runs 3 hF349 (l':=[(36,nI x325),(35,nI x325),(34,nP b1 0),(14,nI x341),(13,nI x340),(12,nI x325),(1,nP b1 0)]) (w':=w345) (by kernel_rfl) ?_
   intro a352 hF351; clear hF349
   refine ev_call 126 #[nI x325] hF351 rfl rfl (by kernel_rfl) rfl (by kernel_rfl) (fun w=>by kernel_rfl) ?_
   obtain ⟨x353,hx354,hm355⟩:=bind1E hm344; clear hm344
   refine (law09_sizes.ok hS347 hx354).mono ?_
   rintro _ w356 ⟨rfl,hS358⟩ a357 hF359; clear hF351 hS347
   have hS360:=hS358.pick1
   clear hS358
   refine ev_call 102 #[nP b1 0,nI x325,nI x353] hF359 rfl rfl (by kernel_rfl) rfl (by kernel_rfl) (fun w=>by kernel_rfl) ?_
   obtain ⟨x361,x362,s363,hx364,hm365⟩:=bind3E hm355; clear hm355
   refine (q_Alloc hS360 hx364).mono ?_
   rintro _ w366 ⟨rfl,hS368⟩ a367 hF369; clear hF359 hS360
   refine ev_runK 5 hF369 [13,14,15,16] (l':=[(16,nI x362),(15,nI x361),(14,nI x341),(13,nI x340)]) (w':=w366) (by kernel_rfl) ?_
   intro a371 hF370; clear hF369
   refine wpList_nil (thenN (wp_seq ?_))
   refine joinQ (fun aI wI=>∃ (y372:Bool),Fr 142 aI [(6,.bool (y372))]∧St w0 F0 (RHeapP b1 ab1 sb1 g1 cb1 s363::HeapP b0 ab0 s342::ps) wI∧law09_play.j3 s342 s363 y372=some (r0,t0,t1)) ?_ ?_
   rotate_left
   · rintro a374 w375 ⟨y372,hF376,hS377,hm378⟩
     clear hF370 hS368 hm365
     unfold law09_play.j3 at hm378
     refine thenN ?_
     refine wp_ret ?_
     refine blockR ?_
     refine thenR ?_
     have hS380:=hS377.pick1
     clear hS377
     simp only [Option.some.injEq,Prod.mk.injEq] at hm378
     obtain ⟨rfl,rfl,rfl⟩:=hm378
     refine ev_ret hF376 [6] (.bool (y372)) rfl rfl rfl ?_
     exact ⟨rfl,hS380⟩
   · skip
     refine wp_region_lit ?_
     refine ev_runs 4 hF370 (l':=[(44,.bool (x340 == x361)),(43,.bool (x340 == x361)),(42,nI x361),(41,nI x340),(16,nI x362),(15,nI x361),(14,nI x341),(13,nI x340)]) (w':=w366) (by kernel_rfl) ?_
     intro a385 hF384; clear hF370
     cases hc386:(x340 == x361)
     case true =>
      rw [hc386] at hF384
      have hm387:=ifYes hc386 hm365; clear hm365
      refine ev_runK 5 hF384 [6] (l':=[(6,.bool (x341 == x362))]) (w':=w366) (by kernel_rfl) ?_
      intro a389 hF388; clear hF384
      refine wpList_nil ?_
      exact thenN ⟨x341 == x362,hF388,hS368,hm387⟩
     rw [hc386] at hF384
     have hm390:=ifNot hc386 hm365; clear hm365
     refine ev_runK 5 hF384 [6] (l':=[(6,.bool false)]) (w':=w366) (by kernel_rfl) ?_
     intro a392 hF391; clear hF384
     refine wpList_nil ?_
     exact thenN ⟨false,hF391,hS368,hm390⟩
 · skip
   cases hc393:(i2.kind == 5)
   case true =>
    rw [hc393] at hF205
    have hm394:=ifYes hc393 hm204; clear hm204
    refine ev_condT hF205 rfl rfl ?_
    refine wp_skip ?_
    have hF395:=hF205.keep [0,1,5,107]
    clear hF205
    exact thenN ⟨true,hF395,hS4,hm394⟩
   rw [hc393] at hF205
   have hm396:=ifNot hc393 hm204; clear hm204
   refine ev_condF hF205 rfl rfl ?_
   refine wp_region_lit ?_
   refine ev_runK 2 hF205 [0,1,5,107] (l':=[(107,.bool (i2.kind == 6)),(5,nB w),(0,nP b0 0),(1,nP b1 0)]) (w':=w.alloc (.cells #[nI (i2.kind),nI (i2.of),nI (i2.at'),nI (i2.i),nI (i2.w),nI (i2.to)] 66)) (by kernel_rfl) ?_
   intro a398 hF397; clear hF205
   refine wpList_nil ?_
   exact thenN ⟨i2.kind == 6,hF397,hS4,hm396⟩
end Go.Proofs.YtffnjpapggidlaaGreat
