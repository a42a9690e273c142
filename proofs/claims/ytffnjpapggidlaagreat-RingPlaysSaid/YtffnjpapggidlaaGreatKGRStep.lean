/- GRStep -/
import Derived.Test.YtffnjpapggidlaaGreatKGHelp
import Derived.Test.YtffnjpapggidlaaGreatKPrimV
import Derived.Test.YtffnjpapggidlaaGreatKRHeapW
import Derived.Deep.LoopGhost
import Derived.KernelRfl
namespace Go.Proofs.YtffnjpapggidlaaGreat
open Go.RowKit
set_option linter.unusedVariables false
def ref06_grey.l2b (s11:HSt) (rec59:Int→Option (Int×Bool×HSt)) (x56:Int):Option (Int×Bool×HSt):=(if (decide (x56<((hObjsF s11.a).length:Int))) then (if (inR x56 (hObjsF s11.a).length) then (if (inR (atI (hObjsF s11.a) x56) (s11.a.c).length) then (if ((s11.col (atI (hObjsF s11.a) x56)) == 1) then some (atI (hObjsF s11.a) x56,true,s11) else rec59 (IntKind.i64.wrap (x56+1))) else none) else none) else some (0,false,{ s11 with ov:=false }))
def ref06_grey.l2 (s11:HSt):Nat→Int→Option (Int×Bool×HSt)
  | 0=>fun _=>none
  | kI+1=>ref06_grey.l2b s11 (ref06_grey.l2 s11 kI)
def ref06_grey.j1 (k:Nat) (x9:Int) (s11:HSt) (y20:Bool) (y21:Bool):Option (Int×Bool×HSt):=(if (y20) then some (x9,y21,s11) else ref06_grey.l2 s11 k 0)
def ref06_grey.m (k:Nat) (s0:HSt):Option (Int×Bool×HSt):=bind3 (pPop s0) fun x9 y10 s11=>(if (y10) then ref06_grey.j1 k x9 s11 true true else ref06_grey.j1 k x9 s11 (!(s11.ov)) false)
set_option maxRecDepth 100000 in
set_option maxHeartbeats 1500000 in
theorem ref06_grey.ok {w0 w:World} {F0:List Nat} {ps:List Piece} {k:Nat} {b0 ab0 sb0 g0 cb0:Nat} {s0:HSt} {r0:Int} {r1:Bool} {t0:HSt} (hS:St w0 F0 (RHeapP b0 ab0 sb0 g0 cb0 s0::ps) w) (hm:ref06_grey.m k s0=some (r0,r1,t0)) :
    Calls Tryz.prog 198 #[nP b0 0] w fun e w'=>e=.returned (.tuple #[.int .i64 r0,.bool r1])∧St w0 F0 (RHeapP b0 ab0 sb0 g0 cb0 t0::ps) w':=by
 refine ev_enterL 61 [nP b0 0] Tryz.func198 rfl rfl (by simp) ?_
 intro a hF
 have hF0:Fr 61 a [(0,nP b0 0)]:=hF; clear hF
 unfold ref06_grey.m at hm
 refine wp_seq (wp_region_lit ?_)
 refine ev_runK 2 hF0 [0] (l':=[(0,nP b0 0)]) (w':=w) (by kernel_rfl) ?_
 intro a2 hF1; clear hF0
 refine wpList_nil (thenN (wp_seq (wp_region_lit ?_)))
 refine ev_runs 3 hF1 (l':=[(11,nP b0 2),(10,nP b0 0),(9,nP b0 0),(0,nP b0 0)]) (w':=w) (by kernel_rfl) ?_
 intro a4 hF3; clear hF1
 obtain ⟨gl5,hg6⟩:=St.rhG (k:=0) hS rfl
 refine ev_one (nP gl5 0) w hF3 (by kernel_rfl) rfl (by kernel_rfl) (run_loadV rfl rfl (run_loadS rfl rfl hg6)) (l':=[(12,nP gl5 0),(11,nP b0 2),(10,nP b0 0),(9,nP b0 0),(0,nP b0 0)]) (by kernel_rfl) ?_
 intro a8 hF7; clear hF3
 refine ev_call 228 #[nP gl5 0] hF7 rfl rfl (by kernel_rfl) rfl (by kernel_rfl) (fun w=>by kernel_rfl) ?_
 obtain ⟨x9,y10,s11,hx12,hm13⟩:=bind3E hm; clear hm
 refine (q_Pop hg6 hS hx12).mono ?_
 rintro _ w14 ⟨rfl,hS16⟩ a15 hF17; clear hF7 hS
 refine ev_runK 5 hF17 [0,4,5] (l':=[(5,.bool (y10)),(4,nI x9),(0,nP b0 0)]) (w':=w14) (by kernel_rfl) ?_
 intro a19 hF18; clear hF17
 refine wpList_nil (thenN (wp_seq (wp_seq ?_)))
 refine joinQ (fun aI wI=>∃ (y20:Bool) (y21:Bool),Fr 61 aI [(26,.bool (y20)),(5,.bool (y21)),(4,nI x9),(0,nP b0 0)]∧St w0 F0 (RHeapP b0 ab0 sb0 g0 cb0 s11::ps) wI∧ref06_grey.j1 k x9 s11 y20 y21=some (r0,r1,t0)) ?_ ?_
 rotate_left
 · rintro a23 w24 ⟨y20,y21,hF25,hS26,hm27⟩
   clear hF18 hS16 hm13
   unfold ref06_grey.j1 at hm27
   refine thenN ?_
   cases hc29:(y20)
   case true =>
    rw [hc29] at hF25
    have hm30:=ifYes hc29 hm27; clear hm27
    refine ev_condT hF25 rfl rfl ?_
    refine wp_seq (wp_region_lit ?_)
    refine ev_runK 4 hF25 [2,3] (l':=[(3,.bool (y21)),(2,nI x9)]) (w':=w24) (by kernel_rfl) ?_
    intro a32 hF31; clear hF25
    refine wpList_nil (thenN ?_)
    refine wp_ret ?_
    refine thenR ?_
    simp only [Option.some.injEq,Prod.mk.injEq] at hm30
    obtain ⟨rfl,rfl,rfl⟩:=hm30
    refine ev_ret hF31 [2,3] (.tuple #[nI x9,.bool (y21)]) rfl rfl rfl ?_
    exact ⟨rfl,hS26⟩
   rw [hc29] at hF25
   have hm36:=ifNot hc29 hm27; clear hm27
   refine ev_condF hF25 rfl rfl ?_
   refine wp_skip ?_
   have hF37:=hF25.keep [0]
   clear hF25
   refine thenN (wp_seq (wp_region_lit ?_))
   refine ev_runs 3 hF37 (l':=[(31,nP b0 0),(30,nP b0 0),(29,nP b0 0),(0,nP b0 0)]) (w':=w24) (by kernel_rfl) ?_
   intro a39 hF38; clear hF37
   refine ev_one (nP ab0 0) w24 hF38 (by kernel_rfl) rfl (by kernel_rfl) (run_loadV rfl rfl (run_loadS rfl rfl (St.rhsee (k:=0) hS26 rfl).1)) (l':=[(32,nP ab0 0),(31,nP b0 0),(30,nP b0 0),(29,nP b0 0),(0,nP b0 0)]) (by kernel_rfl) ?_
   intro a41 hF40; clear hF38
   refine ev_call 103 #[nP ab0 0] hF40 rfl rfl (by kernel_rfl) rfl (by kernel_rfl) (fun w=>by kernel_rfl) ?_
   refine (q_Objects hS26).mono ?_
   rintro _ w42 ⟨z46,rfl,hS44⟩ a43 hF45; clear hF40 hS26
   obtain ⟨hl51,p48,c49,rfl,hp50⟩:=St.shape hS44 1 rfl
   refine ev_runK 1 hF45 [0,6] (l':=[(6,.slice p48 (hObjsF s11.a).length c49),(0,nP b0 0)]) (w':=w42) (by kernel_rfl) ?_
   intro a53 hF52; clear hF45
   refine wpList_nil (thenN (wp_seq (wp_seq (wp_region_lit ?_))))
   refine ev_runs 1 hF52 (l':=[(7,nI 0),(6,.slice p48 (hObjsF s11.a).length c49),(0,nP b0 0)]) (w':=w42) (by kernel_rfl) ?_
   intro a55 hF54; clear hF52
   refine wpList_nil (thenN ?_)
   refine wp_block ?_
   refine wp_loop_ghost (fun kI aI wI=>∃ (x56:Int),Fr 61 aI [(7,nI x56),(6,.slice p48 (hObjsF s11.a).length c49),(0,nP b0 0)]∧St w0 F0 (RHeapP b0 ab0 sb0 g0 cb0 s11::RowP (.slice p48 (hObjsF s11.a).length c49) (hObjsF s11.a)::ps) wI∧ref06_grey.l2 s11 kI x56=some (r0,r1,t0)) k ⟨0,hF54,hS44,hm36⟩ ?_
   rintro k57 a58 w59 ⟨x56,hF60,hS61,hm62⟩
   clear hF54 hS44 hm36
   rcases k57 with _ | k57
   · cases hm62
   have hm63:ref06_grey.l2b s11 (ref06_grey.l2 s11 k57) x56=some (r0,r1,t0):=hm62
   clear hm62
   unfold ref06_grey.l2b at hm63
   refine wp_seq (wp_seq (wp_region_lit ?_))
   refine ev_runK 4 hF60 [0,6,7,37] (l':=[(37,.bool (decide (x56<((hObjsF s11.a).length:Int)))),(7,nI x56),(6,.slice p48 (hObjsF s11.a).length c49),(0,nP b0 0)]) (w':=w59) (by kernel_rfl) ?_
   intro a65 hF64; clear hF60
   refine wpList_nil (thenN ?_)
   cases hc66:(decide (x56<((hObjsF s11.a).length:Int)))
   case true =>
    rw [hc66] at hF64
    have hm67:=ifYes hc66 hm63; clear hm63
    refine ev_condT hF64 rfl rfl ?_
    refine wp_skip ?_
    have hF68:=hF64.keep [0,6,7]
    clear hF64
    refine thenN (wp_seq ?_)
    refine wp_block ?_
    refine wp_seq ?_
    obtain ⟨hc69,hm70⟩:=ifTE hm67; clear hm67
    obtain ⟨g71,rfl⟩:=hp50.resolve_left (by have:=inR_spec hc69; omega)
    obtain ⟨hc72,hm73⟩:=ifTE hm70; clear hm70
    have hS74:=hS61.drew; clear hS61
    refine any_start (fun wS=>∃ qs,St w0 F0 (RHeapP b0 ab0 sb0 g0 cb0 s11::RowP (.slice (some ⟨g71,0,none⟩) (hObjsF s11.a).length c49) (hObjsF s11.a)::qs) wS) 11 #[false,false,false,false,false,false,false,false,false,false,false] (by kernel_rfl) (by kernel_rfl) (by kernel_rfl) ?_
    refine any_many 11 [(0,some (nP b0 0)),(1,some (nP b0 0)),(2,some (nP b0 1)),(3,some (.slice (some ⟨cb0,0,none⟩) (s11.a.c.length) (s11.a.c.length))),(4,some (.slice (some ⟨g71,0,none⟩) (hObjsF s11.a).length c49)),(5,some (nI x56)),(6,some (nP g71 (x56.toNat))),(7,some (nI (atI (hObjsF s11.a) x56))),(8,some (nP cb0 ((atI (hObjsF s11.a) x56).toNat))),(9,some (nI (s11.col (atI (hObjsF s11.a) x56)))),(10,some (.bool ((s11.col (atI (hObjsF s11.a) x56)) == 1)))] [0,6,7,50] #[true,true,true,true,true,true,true,true,true,true,true] (by rfl) hF68 (by kernel_rfl) (by kernel_rfl) (by exact ⟨fun wS hw=>by kernel_rfl,fun wS hw=>by kernel_rfl,fun wS hw=>by kernel_rfl,fun wS hw=>hw.elim fun qs hw=>run_loadV rfl rfl (run_loadS rfl rfl (St.rhsee (k:=0) hw rfl).2.1),fun wS hw=>by kernel_rfl,fun wS hw=>by kernel_rfl,fun wS hw=>run_idx rfl rfl rfl rfl rfl (inR_spec hc69).1 (inR_spec hc69).2 _,fun wS hw=>run_load1 rfl rfl rfl (hw.elim fun qs hw=>hw.atI 1 rfl hc69),fun wS hw=>run_idx rfl rfl rfl rfl rfl (inR_spec hc72).1 (inR_spec hc72).2 _,fun wS hw=>run_load1 rfl rfl rfl (hw.elim fun qs hw=>St.rhcol (k:=0) hw rfl hc72),fun wS hw=>by kernel_rfl,trivial⟩) (fun _ _ _ _ _ h=>h) ⟨_,hS74⟩ (l':=[(50,.bool ((s11.col (atI (hObjsF s11.a) x56)) == 1)),(7,nI x56),(6,.slice (some ⟨g71,0,none⟩) (hObjsF s11.a).length c49),(0,nP b0 0)]) (by kernel_rfl) ?_
    intro a76 hF75; clear hF68
    refine any_done (by kernel_rfl) ?_
    refine thenN ?_
    cases hc77:((s11.col (atI (hObjsF s11.a) x56)) == 1)
    case true =>
     rw [hc77] at hF75
     have hm78:=ifYes hc77 hm73; clear hm73
     refine ev_condT hF75 rfl rfl ?_
     refine wp_seq (wp_region_lit ?_)
     refine ev_runs 2 hF75 (l':=[(52,nI x56),(51,.slice (some ⟨g71,0,none⟩) (hObjsF s11.a).length c49),(50,.bool true),(7,nI x56),(6,.slice (some ⟨g71,0,none⟩) (hObjsF s11.a).length c49),(0,nP b0 0)]) (w':=w59.drew) (by kernel_rfl) ?_
     intro a80 hF79; clear hF75
     refine ev_one (nP g71 (x56.toNat)) (w59.drew) hF79 (by kernel_rfl) rfl (by kernel_rfl) (run_idx rfl rfl rfl rfl rfl (inR_spec hc69).1 (inR_spec hc69).2 _) (l':=[(53,nP g71 (x56.toNat)),(52,nI x56),(51,.slice (some ⟨g71,0,none⟩) (hObjsF s11.a).length c49),(50,.bool true),(7,nI x56),(6,.slice (some ⟨g71,0,none⟩) (hObjsF s11.a).length c49),(0,nP b0 0)]) (by kernel_rfl) ?_
     intro a82 hF81; clear hF79
     refine ev_one (nI (atI (hObjsF s11.a) x56)) (w59.drew) hF81 (by kernel_rfl) rfl (by kernel_rfl) (run_load1 rfl rfl rfl (hS74.atI 1 rfl hc69)) (l':=[(54,nI (atI (hObjsF s11.a) x56)),(53,nP g71 (x56.toNat)),(52,nI x56),(51,.slice (some ⟨g71,0,none⟩) (hObjsF s11.a).length c49),(50,.bool true),(7,nI x56),(6,.slice (some ⟨g71,0,none⟩) (hObjsF s11.a).length c49),(0,nP b0 0)]) (by kernel_rfl) ?_
     intro a84 hF83; clear hF81
     refine ev_runK 2 hF83 [2,3] (l':=[(3,.bool true),(2,nI (atI (hObjsF s11.a) x56))]) (w':=w59.drew) (by kernel_rfl) ?_
     intro a86 hF85; clear hF83
     refine wpList_nil ?_
     have hS87:=hS74.pick1.drop
     clear hS74
     refine thenN ?_
     refine wp_ret ?_
     refine blockR ?_
     refine thenR (thenR ?_)
     refine blockR ?_
     refine thenR ?_
     simp only [Option.some.injEq,Prod.mk.injEq] at hm78
     obtain ⟨rfl,rfl,rfl⟩:=hm78
     refine ev_ret hF85 [2,3] (.tuple #[nI (atI (hObjsF s11.a) x56),.bool true]) rfl rfl rfl ?_
     exact ⟨rfl,hS87⟩
    rw [hc77] at hF75
    have hm91:=ifNot hc77 hm73; clear hm73
    refine ev_condF hF75 rfl rfl ?_
    refine wp_skip ?_
    have hF92:=hF75.keep [0,6,7]
    clear hF75
    refine blockN ?_
    refine thenN (wp_region_lit ?_)
    refine ev_runK 3 hF92 [0,6,7] (l':=[(7,nI (IntKind.i64.wrap (x56+1))),(6,.slice (some ⟨g71,0,none⟩) (hObjsF s11.a).length c49),(0,nP b0 0)]) (w':=w59.drew) (by kernel_rfl) ?_
    intro a94 hF93; clear hF92
    refine wpList_nil ?_
    exact thenN ⟨k57,Nat.lt_succ_self _,IntKind.i64.wrap (x56+1),hF93,hS74,hm91⟩
   rw [hc66] at hF64
   have hm95:=ifNot hc66 hm63; clear hm63
   refine ev_condF hF64 rfl rfl ?_
   refine wp_exit ?_
   refine thenE ?_
   refine thenE ?_
   refine blockE ?_
   refine thenN (wp_seq (wp_region_lit ?_))
   refine ev_runs 3 hF64 (l':=[(57,nP b0 2),(56,nP b0 0),(55,nP b0 0),(37,.bool false),(7,nI x56),(6,.slice p48 (hObjsF s11.a).length c49),(0,nP b0 0)]) (w':=w59) (by kernel_rfl) ?_
   intro a97 hF96; clear hF64
   obtain ⟨gl98,hg99⟩:=St.rhG (k:=0) hS61 rfl
   refine ev_one (nP gl98 0) w59 hF96 (by kernel_rfl) rfl (by kernel_rfl) (run_loadV rfl rfl (run_loadS rfl rfl hg99)) (l':=[(58,nP gl98 0),(57,nP b0 2),(56,nP b0 0),(55,nP b0 0),(37,.bool false),(7,nI x56),(6,.slice p48 (hObjsF s11.a).length c49),(0,nP b0 0)]) (by kernel_rfl) ?_
   intro a101 hF100; clear hF96
   refine ev_runs 2 hF100 (l':=[(60,nP gl98 1),(59,nP gl98 0),(58,nP gl98 0),(57,nP b0 2),(56,nP b0 0),(55,nP b0 0),(37,.bool false),(7,nI x56),(6,.slice p48 (hObjsF s11.a).length c49),(0,nP b0 0)]) (w':=w59) (by kernel_rfl) ?_
   intro a103 hF102; clear hF100
   refine ev_storeOv hg99 hF102 (by kernel_rfl) rfl rfl rfl rfl (by kernel_rfl) hS61 (l':=[(60,nP gl98 1),(59,nP gl98 0),(58,nP gl98 0),(57,nP b0 2),(56,nP b0 0),(55,nP b0 0),(37,.bool false),(7,nI x56),(6,.slice p48 (hObjsF s11.a).length c49),(0,nP b0 0)]) (by kernel_rfl) ?_
   intro w104 a105 hS106 hF107; clear hF102 hS61
   refine wpList_nil ?_
   have hF108:=hF107.keep []
   clear hF107
   have hS109:=hS106.pick1.drop
   clear hS106
   refine thenN (wp_seq (wp_region_lit ?_))
   refine ev_runs 2 hF108 (l':=[(3,.bool false),(2,nI 0)]) (w':=w104) (by kernel_rfl) ?_
   intro a111 hF110; clear hF108
   refine wpList_nil (thenN ?_)
   refine wp_ret ?_
   simp only [Option.some.injEq,Prod.mk.injEq] at hm95
   obtain ⟨rfl,rfl,rfl⟩:=hm95
   refine ev_ret hF110 [2,3] (.tuple #[nI 0,.bool false]) rfl rfl rfl ?_
   exact ⟨rfl,hS109⟩
 · skip
   refine wp_region_lit ?_
   refine ev_runs 2 hF18 (l':=[(17,.bool (y10)),(16,.bool (y10)),(5,.bool (y10)),(4,nI x9),(0,nP b0 0)]) (w':=w14) (by kernel_rfl) ?_
   intro a116 hF115; clear hF18
   cases hc117:(y10)
   case true =>
    rw [hc117] at hF115
    have hm118:=ifYes hc117 hm13; clear hm13
    refine ev_runK 9 hF115 [0,4,5,26] (l':=[(26,.bool true),(5,.bool true),(4,nI x9),(0,nP b0 0)]) (w':=w14) (by kernel_rfl) ?_
    intro a120 hF119; clear hF115
    refine wpList_nil ?_
    exact thenN ⟨true,true,hF119,hS16,hm118⟩
   rw [hc117] at hF115
   have hm121:=ifNot hc117 hm13; clear hm13
   refine ev_runs 3 hF115 (l':=[(20,nP b0 2),(19,nP b0 0),(18,nP b0 0),(17,.bool false),(16,.bool false),(5,.bool false),(4,nI x9),(0,nP b0 0)]) (w':=w14) (by kernel_rfl) ?_
   intro a123 hF122; clear hF115
   obtain ⟨gl124,hg125⟩:=St.rhG (k:=0) hS16 rfl
   refine ev_one (nP gl124 0) w14 hF122 (by kernel_rfl) rfl (by kernel_rfl) (run_loadV rfl rfl (run_loadS rfl rfl hg125)) (l':=[(21,nP gl124 0),(20,nP b0 2),(19,nP b0 0),(18,nP b0 0),(17,.bool false),(16,.bool false),(5,.bool false),(4,nI x9),(0,nP b0 0)]) (by kernel_rfl) ?_
   intro a127 hF126; clear hF122
   refine ev_runs 2 hF126 (l':=[(23,nP gl124 1),(22,nP gl124 0),(21,nP gl124 0),(20,nP b0 2),(19,nP b0 0),(18,nP b0 0),(17,.bool false),(16,.bool false),(5,.bool false),(4,nI x9),(0,nP b0 0)]) (w':=w14) (by kernel_rfl) ?_
   intro a129 hF128; clear hF126
   refine ev_one (.bool (s11.ov)) w14 hF128 (by kernel_rfl) rfl (by kernel_rfl) (run_loadV rfl rfl (run_loadS rfl rfl (St.rhOv (k:=0) hg125 hS16 rfl))) (l':=[(24,.bool (s11.ov)),(23,nP gl124 1),(22,nP gl124 0),(21,nP gl124 0),(20,nP b0 2),(19,nP b0 0),(18,nP b0 0),(17,.bool false),(16,.bool false),(5,.bool false),(4,nI x9),(0,nP b0 0)]) (by kernel_rfl) ?_
   intro a131 hF130; clear hF128
   refine ev_runK 2 hF130 [0,4,5,26] (l':=[(26,.bool (!(s11.ov))),(5,.bool false),(4,nI x9),(0,nP b0 0)]) (w':=w14) (by kernel_rfl) ?_
   intro a133 hF132; clear hF130
   refine wpList_nil ?_
   exact thenN ⟨!(s11.ov),false,hF132,hS16,hm121⟩
def ref06_mark.j4 (x40:Int) (rec43:HSt→Int→Option (List Gn×HSt)) (s67:HSt):Option (List Gn×HSt):=rec43 s67 (IntKind.i64.wrap (x40+1))
def ref06_mark.l3b (x8:Int) (s10:HSt) (rec43:HSt→Int→Option (List Gn×HSt)) (s39:HSt) (x40:Int):Option (List Gn×HSt):=(if (decide (x40<((aWords s10.a x8).length:Int))) then (if (inR x40 (aWords s10.a x8).length) then (if (vIsPtr (atI (aWords s10.a x8) x40)) then bind1 (pAt (atI (aWords s10.a x8) x40)) fun x85=>bind1 (pShade x85 s39) fun s92=>ref06_mark.j4 x40 rec43 s92 else ref06_mark.j4 x40 rec43 s39) else none) else (if (inR x8 (s39.a.c).length) then (if (isObj s39.a x8) then some ([],(hBlack x8 s39)) else none) else none))
def ref06_mark.l3 (x8:Int) (s10:HSt):Nat→HSt→Int→Option (List Gn×HSt)
  | 0=>fun _ _=>none
  | kI+1=>ref06_mark.l3b x8 s10 (ref06_mark.l3 x8 s10 kI)
def ref06_mark.j8 (s10:HSt) (x148:Int) (rec151:Int→Option (List Gn×HSt)) (y182:Bool):Option (List Gn×HSt):=(if (y182) then bind2 (pAStore (atI (hObjsF s10.a) x148) 1 0 s10) fun x195 s196=>bind1 (pShade (atI (hObjsF s10.a) x148) s196) fun s210=>some ([(⟨5,(atI (hObjsF s10.a) x148),(aWords s10.a (atI (hObjsF s10.a) x148)),true⟩:Gn)],s210) else rec151 (IntKind.i64.wrap (x148+1)))
def ref06_mark.l7b (s10:HSt) (rec151:Int→Option (List Gn×HSt)) (x148:Int):Option (List Gn×HSt):=(if (decide (x148<((hObjsF s10.a).length:Int))) then (if (inR x148 (hObjsF s10.a).length) then (if ((aKind s10.a.c (atI (hObjsF s10.a) x148)) == 5) then (if (inR (atI (hObjsF s10.a) x148) (s10.a.c).length) then (if ((s10.col (atI (hObjsF s10.a) x148)) == 0) then (if (decide (((aWords s10.a (atI (hObjsF s10.a) x148)).length:Int) > 1)) then (if (inR (1:Int) (aWords s10.a (atI (hObjsF s10.a) x148)).length) then ref06_mark.j8 s10 x148 rec151 ((atI (aWords s10.a (atI (hObjsF s10.a) x148)) (1:Int)) != 0) else none) else ref06_mark.j8 s10 x148 rec151 false) else ref06_mark.j8 s10 x148 rec151 false) else none) else ref06_mark.j8 s10 x148 rec151 false) else none) else (if (okTo s10 2 0 s10.cy) then some ([],{ s10 with ph:=2,sp:=0,cy:=s10.cy }) else none))
def ref06_mark.l7 (s10:HSt):Nat→Int→Option (List Gn×HSt)
  | 0=>fun _=>none
  | kI+1=>ref06_mark.l7b s10 (ref06_mark.l7 s10 kI)
def ref06_mark.m (k:Nat) (s0:HSt):Option (List Gn×HSt):=bind3 (ref06_grey.m k s0) fun x8 y9 s10=>(if (y9) then ref06_mark.l3 x8 s10 k s10 0 else ref06_mark.l7 s10 k 0)
set_option maxRecDepth 100000 in
set_option maxHeartbeats 40000000 in
theorem ref06_mark.ok {w0 w:World} {F0:List Nat} {ps:List Piece} {k:Nat} {b0 ab0 sb0 g0 cb0:Nat} {s0:HSt} {r0:List Gn} {t0:HSt} (hS:St w0 F0 (RHeapP b0 ab0 sb0 g0 cb0 s0::ps) w) (hm:ref06_mark.m k s0=some (r0,t0)) :
    Calls Tryz.prog 139 #[nP b0 0] w fun e w'=>∃ vr0,e=.returned (vr0)∧St w0 F0 (RHeapP b0 ab0 sb0 g0 cb0 t0::GonesP vr0 r0::ps) w':=by
 refine ev_enterL 122 [nP b0 0] Tryz.func139 rfl rfl (by simp) ?_
 intro a hF
 have hF0:Fr 122 a [(0,nP b0 0)]:=hF; clear hF
 unfold ref06_mark.m at hm
 refine wp_seq (wp_region_lit ?_)
 have hS2:St w0 F0 (GonesP (.slice none 0 0) []::RHeapP b0 ab0 sb0 g0 cb0 s0::ps) w:=St.nilG hS
 refine ev_runK 1 hF0 [0] (l':=[(0,nP b0 0)]) (w':=w) (by kernel_rfl) ?_
 intro a4 hF3; clear hF0
 refine wpList_nil ?_
 have hS5:=hS2.drop
 clear hS2
 refine thenN (wp_seq (wp_region_lit ?_))
 refine ev_runs 1 hF3 (l':=[(11,nP b0 0),(0,nP b0 0)]) (w':=w) (by kernel_rfl) ?_
 intro a7 hF6; clear hF3
 refine ev_call 198 #[nP b0 0] hF6 rfl rfl (by kernel_rfl) rfl (by kernel_rfl) (fun w=>by kernel_rfl) ?_
 obtain ⟨x8,y9,s10,hx11,hm12⟩:=bind3E hm; clear hm
 refine (ref06_grey.ok hS5 hx11).mono ?_
 rintro _ w13 ⟨rfl,hS15⟩ a14 hF16; clear hF6 hS5
 refine ev_runK 5 hF16 [0,3,4] (l':=[(4,.bool (y9)),(3,nI x8),(0,nP b0 0)]) (w':=w13) (by kernel_rfl) ?_
 intro a18 hF17; clear hF16
 refine wpList_nil (thenN (wp_seq (wp_seq (wp_region_lit ?_))))
 refine ev_runK 1 hF17 [0,3,15] (l':=[(15,.bool (y9)),(3,nI x8),(0,nP b0 0)]) (w':=w13) (by kernel_rfl) ?_
 intro a20 hF19; clear hF17
 refine wpList_nil (thenN ?_)
 cases hc21:(y9)
 case true =>
  rw [hc21] at hF19
  have hm22:=ifYes hc21 hm12; clear hm12
  refine ev_condT hF19 rfl rfl ?_
  refine wp_seq (wp_region_lit ?_)
  refine ev_runs 2 hF19 (l':=[(17,nI x8),(16,nP b0 0),(15,.bool true),(3,nI x8),(0,nP b0 0)]) (w':=w13) (by kernel_rfl) ?_
  intro a24 hF23; clear hF19
  refine ev_call 133 #[nP b0 0,nI x8] hF23 rfl rfl (by kernel_rfl) rfl (by kernel_rfl) (fun w=>by kernel_rfl) ?_
  refine (q_words hS15).mono ?_
  rintro _ w25 ⟨z29,rfl,hS27⟩ a26 hF28; clear hF23 hS15
  obtain ⟨hl34,p31,c32,rfl,hp33⟩:=St.shape hS27 1 rfl
  refine ev_runK 1 hF28 [0,3,5] (l':=[(5,.slice p31 (aWords s10.a x8).length c32),(3,nI x8),(0,nP b0 0)]) (w':=w25) (by kernel_rfl) ?_
  intro a36 hF35; clear hF28
  refine wpList_nil (thenN (wp_seq (wp_seq (wp_region_lit ?_))))
  refine ev_runs 1 hF35 (l':=[(6,nI 0),(5,.slice p31 (aWords s10.a x8).length c32),(3,nI x8),(0,nP b0 0)]) (w':=w25) (by kernel_rfl) ?_
  intro a38 hF37; clear hF35
  refine wpList_nil (thenN ?_)
  refine wp_block ?_
  refine wp_loop_ghost (fun kI aI wI=>∃ (s39:HSt) (x40:Int),Fr 122 aI [(6,nI x40),(5,.slice p31 (aWords s10.a x8).length c32),(3,nI x8),(0,nP b0 0)]∧St w0 F0 (RHeapP b0 ab0 sb0 g0 cb0 s39::RowP (.slice p31 (aWords s10.a x8).length c32) (aWords s10.a x8)::ps) wI∧ref06_mark.l3 x8 s10 kI s39 x40=some (r0,t0)) k ⟨s10,0,hF37,hS27,hm22⟩ ?_
  rintro k41 a42 w43 ⟨s39,x40,hF44,hS45,hm46⟩
  clear hF37 hS27 hm22
  rcases k41 with _ | k41
  · cases hm46
  have hm47:ref06_mark.l3b x8 s10 (ref06_mark.l3 x8 s10 k41) s39 x40=some (r0,t0):=hm46
  clear hm46
  unfold ref06_mark.l3b at hm47
  refine wp_seq (wp_seq (wp_region_lit ?_))
  refine ev_runK 4 hF44 [0,3,5,6,22] (l':=[(22,.bool (decide (x40<((aWords s10.a x8).length:Int)))),(6,nI x40),(5,.slice p31 (aWords s10.a x8).length c32),(3,nI x8),(0,nP b0 0)]) (w':=w43) (by kernel_rfl) ?_
  intro a49 hF48; clear hF44
  refine wpList_nil (thenN ?_)
  cases hc50:(decide (x40<((aWords s10.a x8).length:Int)))
  case true =>
   rw [hc50] at hF48
   have hm51:=ifYes hc50 hm47; clear hm47
   refine ev_condT hF48 rfl rfl ?_
   refine wp_skip ?_
   have hF52:=hF48.keep [0,3,5,6]
   clear hF48
   refine thenN (wp_seq ?_)
   refine wp_block ?_
   refine wp_seq (wp_region_lit ?_)
   refine ev_runs 2 hF52 (l':=[(26,nI x40),(25,.slice p31 (aWords s10.a x8).length c32),(6,nI x40),(5,.slice p31 (aWords s10.a x8).length c32),(3,nI x8),(0,nP b0 0)]) (w':=w43) (by kernel_rfl) ?_
   intro a54 hF53; clear hF52
   obtain ⟨hc55,hm56⟩:=ifTE hm51; clear hm51
   obtain ⟨g57,rfl⟩:=hp33.resolve_left (by have:=inR_spec hc55; omega)
   refine ev_one (nP g57 (x40.toNat)) w43 hF53 (by kernel_rfl) rfl (by kernel_rfl) (run_idx rfl rfl rfl rfl rfl (inR_spec hc55).1 (inR_spec hc55).2 _) (l':=[(27,nP g57 (x40.toNat)),(26,nI x40),(25,.slice (some ⟨g57,0,none⟩) (aWords s10.a x8).length c32),(6,nI x40),(5,.slice (some ⟨g57,0,none⟩) (aWords s10.a x8).length c32),(3,nI x8),(0,nP b0 0)]) (by kernel_rfl) ?_
   intro a59 hF58; clear hF53
   refine ev_one (nI (atI (aWords s10.a x8) x40)) w43 hF58 (by kernel_rfl) rfl (by kernel_rfl) (run_load1 rfl rfl rfl (hS45.atI 1 rfl hc55)) (l':=[(28,nI (atI (aWords s10.a x8) x40)),(27,nP g57 (x40.toNat)),(26,nI x40),(25,.slice (some ⟨g57,0,none⟩) (aWords s10.a x8).length c32),(6,nI x40),(5,.slice (some ⟨g57,0,none⟩) (aWords s10.a x8).length c32),(3,nI x8),(0,nP b0 0)]) (by kernel_rfl) ?_
   intro a61 hF60; clear hF58
   refine ev_call 42 #[nI (atI (aWords s10.a x8) x40)] hF60 rfl rfl (by kernel_rfl) rfl (by kernel_rfl) (fun w=>by kernel_rfl) ?_
   refine (p_rIsPtr hS45).mono ?_
   rintro _ w62 ⟨rfl,hS64⟩ a63 hF65; clear hF60 hS45
   refine wpList_nil ?_
   have hF66:=hF65.keep [0,3,5,6,29]
   clear hF65
   refine thenN ?_
   refine joinQ (fun aI wI=>∃ (s67:HSt),Fr 122 aI [(6,nI x40),(5,.slice (some ⟨g57,0,none⟩) (aWords s10.a x8).length c32),(3,nI x8),(0,nP b0 0)]∧St w0 F0 (RHeapP b0 ab0 sb0 g0 cb0 s67::RowP (.slice (some ⟨g57,0,none⟩) (aWords s10.a x8).length c32) (aWords s10.a x8)::ps) wI∧ref06_mark.j4 x40 (ref06_mark.l3 x8 s10 k41) s67=some (r0,t0)) ?_ ?_
   rotate_left
   · rintro a69 w70 ⟨s67,hF71,hS72,hm73⟩
     clear hF66 hS64 hm56
     unfold ref06_mark.j4 at hm73
     refine blockN ?_
     refine thenN (wp_region_lit ?_)
     refine ev_runK 3 hF71 [0,3,5,6] (l':=[(6,nI (IntKind.i64.wrap (x40+1))),(5,.slice (some ⟨g57,0,none⟩) (aWords s10.a x8).length c32),(3,nI x8),(0,nP b0 0)]) (w':=w70) (by kernel_rfl) ?_
     intro a76 hF75; clear hF71
     refine wpList_nil ?_
     exact thenN ⟨k41,Nat.lt_succ_self _,s67,IntKind.i64.wrap (x40+1),hF75,hS72,hm73⟩
   · skip
     cases hc77:(vIsPtr (atI (aWords s10.a x8) x40))
     case true =>
      rw [hc77] at hF66
      have hm78:=ifYes hc77 hm56; clear hm56
      refine ev_condT hF66 rfl rfl ?_
      refine wp_region_lit ?_
      refine ev_runs 3 hF66 (l':=[(32,nI x40),(31,.slice (some ⟨g57,0,none⟩) (aWords s10.a x8).length c32),(30,nP b0 0),(29,.bool true),(6,nI x40),(5,.slice (some ⟨g57,0,none⟩) (aWords s10.a x8).length c32),(3,nI x8),(0,nP b0 0)]) (w':=w62) (by kernel_rfl) ?_
      intro a80 hF79; clear hF66
      refine ev_one (nP g57 (x40.toNat)) w62 hF79 (by kernel_rfl) rfl (by kernel_rfl) (run_idx rfl rfl rfl rfl rfl (inR_spec hc55).1 (inR_spec hc55).2 _) (l':=[(33,nP g57 (x40.toNat)),(32,nI x40),(31,.slice (some ⟨g57,0,none⟩) (aWords s10.a x8).length c32),(30,nP b0 0),(29,.bool true),(6,nI x40),(5,.slice (some ⟨g57,0,none⟩) (aWords s10.a x8).length c32),(3,nI x8),(0,nP b0 0)]) (by kernel_rfl) ?_
      intro a82 hF81; clear hF79
      refine ev_one (nI (atI (aWords s10.a x8) x40)) w62 hF81 (by kernel_rfl) rfl (by kernel_rfl) (run_load1 rfl rfl rfl (hS64.atI 1 rfl hc55)) (l':=[(34,nI (atI (aWords s10.a x8) x40)),(33,nP g57 (x40.toNat)),(32,nI x40),(31,.slice (some ⟨g57,0,none⟩) (aWords s10.a x8).length c32),(30,nP b0 0),(29,.bool true),(6,nI x40),(5,.slice (some ⟨g57,0,none⟩) (aWords s10.a x8).length c32),(3,nI x8),(0,nP b0 0)]) (by kernel_rfl) ?_
      intro a84 hF83; clear hF81
      refine ev_call 40 #[nI (atI (aWords s10.a x8) x40)] hF83 rfl rfl (by kernel_rfl) rfl (by kernel_rfl) (fun w=>by kernel_rfl) ?_
      obtain ⟨x85,hx86,hm87⟩:=bind1E hm78; clear hm78
      refine (p_rAt hS64 hx86).mono ?_
      rintro _ w88 ⟨rfl,hS90⟩ a89 hF91; clear hF83 hS64
      refine ev_call 115 #[nP b0 0,nI x85] hF91 rfl rfl (by kernel_rfl) rfl (by kernel_rfl) (fun w=>by kernel_rfl) ?_
      obtain ⟨s92,hx93,hm94⟩:=bind1E hm87; clear hm87
      refine (q_ShadeW hS90 hx93).mono ?_
      rintro _ w95 ⟨rfl,hS97⟩ a96 hF98; clear hF91 hS90
      refine wpList_nil ?_
      have hF99:=hF98.keep [0,3,5,6]
      clear hF98
      exact thenN ⟨s92,hF99,hS97,hm94⟩
     rw [hc77] at hF66
     have hm100:=ifNot hc77 hm56; clear hm56
     refine ev_condF hF66 rfl rfl ?_
     refine wp_skip ?_
     have hF101:=hF66.keep [0,3,5,6]
     clear hF66
     exact thenN ⟨s39,hF101,hS64,hm100⟩
  rw [hc50] at hF48
  have hm102:=ifNot hc50 hm47; clear hm47
  refine ev_condF hF48 rfl rfl ?_
  refine wp_exit ?_
  refine thenE ?_
  refine thenE ?_
  refine blockE ?_
  refine thenN (wp_seq (wp_region_lit ?_))
  refine ev_runs 3 hF48 (l':=[(39,nP b0 1),(38,nP b0 0),(37,nP b0 0),(22,.bool false),(6,nI x40),(5,.slice p31 (aWords s10.a x8).length c32),(3,nI x8),(0,nP b0 0)]) (w':=w43) (by kernel_rfl) ?_
  intro a104 hF103; clear hF48
  refine ev_one (.slice (some ⟨cb0,0,none⟩) (s39.a.c.length) (s39.a.c.length)) w43 hF103 (by kernel_rfl) rfl (by kernel_rfl) (run_loadV rfl rfl (run_loadS rfl rfl (St.rhsee (k:=0) hS45 rfl).2.1)) (l':=[(40,.slice (some ⟨cb0,0,none⟩) (s39.a.c.length) (s39.a.c.length)),(39,nP b0 1),(38,nP b0 0),(37,nP b0 0),(22,.bool false),(6,nI x40),(5,.slice p31 (aWords s10.a x8).length c32),(3,nI x8),(0,nP b0 0)]) (by kernel_rfl) ?_
  intro a106 hF105; clear hF103
  refine ev_runs 1 hF105 (l':=[(41,nI x8),(40,.slice (some ⟨cb0,0,none⟩) (s39.a.c.length) (s39.a.c.length)),(39,nP b0 1),(38,nP b0 0),(37,nP b0 0),(22,.bool false),(6,nI x40),(5,.slice p31 (aWords s10.a x8).length c32),(3,nI x8),(0,nP b0 0)]) (w':=w43) (by kernel_rfl) ?_
  intro a108 hF107; clear hF105
  obtain ⟨hc109,hm110⟩:=ifTE hm102; clear hm102
  refine ev_one (nP cb0 (x8.toNat)) w43 hF107 (by kernel_rfl) rfl (by kernel_rfl) (run_idx rfl rfl rfl rfl rfl (inR_spec hc109).1 (inR_spec hc109).2 _) (l':=[(42,nP cb0 (x8.toNat)),(41,nI x8),(40,.slice (some ⟨cb0,0,none⟩) (s39.a.c.length) (s39.a.c.length)),(39,nP b0 1),(38,nP b0 0),(37,nP b0 0),(22,.bool false),(6,nI x40),(5,.slice p31 (aWords s10.a x8).length c32),(3,nI x8),(0,nP b0 0)]) (by kernel_rfl) ?_
  intro a112 hF111; clear hF107
  obtain ⟨hc113,hm114⟩:=ifTE hm110; clear hm110
  refine ev_storeC (i:=x8) hF111 (by kernel_rfl) rfl rfl rfl rfl (by kernel_rfl) hc113 hS45 (l':=[(42,nP cb0 (x8.toNat)),(41,nI x8),(40,.slice (some ⟨cb0,0,none⟩) (s39.a.c.length) (s39.a.c.length)),(39,nP b0 1),(38,nP b0 0),(37,nP b0 0),(22,.bool false),(6,nI x40),(5,.slice p31 (aWords s10.a x8).length c32),(3,nI x8),(0,nP b0 0)]) (by kernel_rfl) ?_
  intro w115 a116 hS117 hF118; clear hF111 hS45
  refine wpList_nil ?_
  have hF119:=hF118.keep []
  clear hF118
  have hS120:=hS117.pick1.drop
  clear hS117
  refine thenN (wp_seq (wp_region_lit ?_))
  have hS122:St w0 F0 (GonesP (.slice none 0 0) []::RHeapP b0 ab0 sb0 g0 cb0 (hBlack x8 s39)::ps) w115:=St.nilG hS120
  clear hS120
  refine ev_runs 1 hF119 (l':=[(2,.slice none 0 0)]) (w':=w115) (by kernel_rfl) ?_
  intro a124 hF123; clear hF119
  refine wpList_nil (thenN ?_)
  refine wp_ret ?_
  refine thenR ?_
  have hS125:=hS122.pick1
  clear hS122
  simp only [Option.some.injEq,Prod.mk.injEq] at hm114
  obtain ⟨rfl,rfl⟩:=hm114
  refine ev_ret hF123 [2] (.slice none 0 0) rfl rfl rfl ?_
  exact ⟨_,rfl,hS125⟩
 rw [hc21] at hF19
 have hm128:=ifNot hc21 hm12; clear hm12
 refine ev_condF hF19 rfl rfl ?_
 refine wp_skip ?_
 have hF129:=hF19.keep [0]
 clear hF19
 refine thenN (wp_seq (wp_region_lit ?_))
 refine ev_runs 3 hF129 (l':=[(45,nP b0 0),(44,nP b0 0),(43,nP b0 0),(0,nP b0 0)]) (w':=w13) (by kernel_rfl) ?_
 intro a131 hF130; clear hF129
 refine ev_one (nP ab0 0) w13 hF130 (by kernel_rfl) rfl (by kernel_rfl) (run_loadV rfl rfl (run_loadS rfl rfl (St.rhsee (k:=0) hS15 rfl).1)) (l':=[(46,nP ab0 0),(45,nP b0 0),(44,nP b0 0),(43,nP b0 0),(0,nP b0 0)]) (by kernel_rfl) ?_
 intro a133 hF132; clear hF130
 refine ev_call 103 #[nP ab0 0] hF132 rfl rfl (by kernel_rfl) rfl (by kernel_rfl) (fun w=>by kernel_rfl) ?_
 refine (q_Objects hS15).mono ?_
 rintro _ w134 ⟨z138,rfl,hS136⟩ a135 hF137; clear hF132 hS15
 obtain ⟨hl143,p140,c141,rfl,hp142⟩:=St.shape hS136 1 rfl
 refine ev_runK 1 hF137 [0,7] (l':=[(7,.slice p140 (hObjsF s10.a).length c141),(0,nP b0 0)]) (w':=w134) (by kernel_rfl) ?_
 intro a145 hF144; clear hF137
 refine wpList_nil (thenN (wp_seq (wp_seq (wp_region_lit ?_))))
 refine ev_runs 1 hF144 (l':=[(8,nI 0),(7,.slice p140 (hObjsF s10.a).length c141),(0,nP b0 0)]) (w':=w134) (by kernel_rfl) ?_
 intro a147 hF146; clear hF144
 refine wpList_nil (thenN ?_)
 refine wp_block ?_
 refine wp_loop_ghost (fun kI aI wI=>∃ (x148:Int),Fr 122 aI [(8,nI x148),(7,.slice p140 (hObjsF s10.a).length c141),(0,nP b0 0)]∧St w0 F0 (RHeapP b0 ab0 sb0 g0 cb0 s10::RowP (.slice p140 (hObjsF s10.a).length c141) (hObjsF s10.a)::ps) wI∧ref06_mark.l7 s10 kI x148=some (r0,t0)) k ⟨0,hF146,hS136,hm128⟩ ?_
 rintro k149 a150 w151 ⟨x148,hF152,hS153,hm154⟩
 clear hF146 hS136 hm128
 rcases k149 with _ | k149
 · cases hm154
 have hm155:ref06_mark.l7b s10 (ref06_mark.l7 s10 k149) x148=some (r0,t0):=hm154
 clear hm154
 unfold ref06_mark.l7b at hm155
 refine wp_seq (wp_seq (wp_region_lit ?_))
 refine ev_runK 4 hF152 [0,7,8,51] (l':=[(51,.bool (decide (x148<((hObjsF s10.a).length:Int)))),(8,nI x148),(7,.slice p140 (hObjsF s10.a).length c141),(0,nP b0 0)]) (w':=w151) (by kernel_rfl) ?_
 intro a157 hF156; clear hF152
 refine wpList_nil (thenN ?_)
 cases hc158:(decide (x148<((hObjsF s10.a).length:Int)))
 case true =>
  rw [hc158] at hF156
  have hm159:=ifYes hc158 hm155; clear hm155
  refine ev_condT hF156 rfl rfl ?_
  refine wp_skip ?_
  have hF160:=hF156.keep [0,7,8]
  clear hF156
  refine thenN (wp_seq ?_)
  refine wp_block ?_
  refine wp_seq (wp_region_lit ?_)
  refine ev_runs 3 hF160 (l':=[(56,nI x148),(55,.slice p140 (hObjsF s10.a).length c141),(54,nP b0 0),(8,nI x148),(7,.slice p140 (hObjsF s10.a).length c141),(0,nP b0 0)]) (w':=w151) (by kernel_rfl) ?_
  intro a162 hF161; clear hF160
  obtain ⟨hc163,hm164⟩:=ifTE hm159; clear hm159
  obtain ⟨g165,rfl⟩:=hp142.resolve_left (by have:=inR_spec hc163; omega)
  refine ev_one (nP g165 (x148.toNat)) w151 hF161 (by kernel_rfl) rfl (by kernel_rfl) (run_idx rfl rfl rfl rfl rfl (inR_spec hc163).1 (inR_spec hc163).2 _) (l':=[(57,nP g165 (x148.toNat)),(56,nI x148),(55,.slice (some ⟨g165,0,none⟩) (hObjsF s10.a).length c141),(54,nP b0 0),(8,nI x148),(7,.slice (some ⟨g165,0,none⟩) (hObjsF s10.a).length c141),(0,nP b0 0)]) (by kernel_rfl) ?_
  intro a167 hF166; clear hF161
  refine ev_one (nI (atI (hObjsF s10.a) x148)) w151 hF166 (by kernel_rfl) rfl (by kernel_rfl) (run_load1 rfl rfl rfl (hS153.atI 1 rfl hc163)) (l':=[(58,nI (atI (hObjsF s10.a) x148)),(57,nP g165 (x148.toNat)),(56,nI x148),(55,.slice (some ⟨g165,0,none⟩) (hObjsF s10.a).length c141),(54,nP b0 0),(8,nI x148),(7,.slice (some ⟨g165,0,none⟩) (hObjsF s10.a).length c141),(0,nP b0 0)]) (by kernel_rfl) ?_
  intro a169 hF168; clear hF166
  refine ev_call 133 #[nP b0 0,nI (atI (hObjsF s10.a) x148)] hF168 rfl rfl (by kernel_rfl) rfl (by kernel_rfl) (fun w=>by kernel_rfl) ?_
  refine (q_words hS153).mono ?_
  rintro _ w170 ⟨z174,rfl,hS172⟩ a171 hF173; clear hF168 hS153
  obtain ⟨hl179,p176,c177,rfl,hp178⟩:=St.shape hS172 1 rfl
  refine ev_runK 1 hF173 [0,7,8,9] (l':=[(9,.slice p176 ((aWords s10.a (atI (hObjsF s10.a) x148)).length) c177),(8,nI x148),(7,.slice (some ⟨g165,0,none⟩) (hObjsF s10.a).length c141),(0,nP b0 0)]) (w':=w170) (by kernel_rfl) ?_
  intro a181 hF180; clear hF173
  refine wpList_nil (thenN (wp_seq ?_))
  refine joinQ (fun aI wI=>∃ (y182:Bool),Fr 122 aI [(93,.bool (y182)),(9,.slice p176 ((aWords s10.a (atI (hObjsF s10.a) x148)).length) c177),(8,nI x148),(7,.slice (some ⟨g165,0,none⟩) (hObjsF s10.a).length c141),(0,nP b0 0)]∧St w0 F0 (RHeapP b0 ab0 sb0 g0 cb0 s10::RowP (.slice (some ⟨g165,0,none⟩) (hObjsF s10.a).length c141) (hObjsF s10.a)::RowP (.slice p176 ((aWords s10.a (atI (hObjsF s10.a) x148)).length) c177) (aWords s10.a (atI (hObjsF s10.a) x148))::ps) wI∧ref06_mark.j8 s10 x148 (ref06_mark.l7 s10 k149) y182=some (r0,t0)) ?_ ?_
  rotate_left
  · rintro a184 w185 ⟨y182,hF186,hS187,hm188⟩
    clear hF180 hS172 hm164
    unfold ref06_mark.j8 at hm188
    refine thenN ?_
    cases hc190:(y182)
    case true =>
     rw [hc190] at hF186
     have hm191:=ifYes hc190 hm188; clear hm188
     refine ev_condT hF186 rfl rfl ?_
     refine wp_seq ?_
     have hS192:=hS187.drew; clear hS187
     refine any_start (fun wS=>∃ qs,St w0 F0 (RHeapXP b0 ab0 sb0 g0 cb0::RowP (.slice (some ⟨g165,0,none⟩) (hObjsF s10.a).length c141) (hObjsF s10.a)::qs) wS) 9 #[false,false,false,false,false,false,false,false,false] (by kernel_rfl) (by kernel_rfl) (by kernel_rfl) ?_
     refine any_many 8 [(0,some (nP b0 0)),(1,some (nP b0 0)),(2,some (nP b0 0)),(3,some (nP ab0 0)),(4,some (.slice (some ⟨g165,0,none⟩) (hObjsF s10.a).length c141)),(5,some (nI x148)),(6,some (nP g165 (x148.toNat))),(7,some (nI (atI (hObjsF s10.a) x148)))] [0,7,8,9,97,101] #[true,true,true,true,true,true,true,true,false] (by rfl) hF186 (by kernel_rfl) (by kernel_rfl) (by exact ⟨fun wS hw=>by kernel_rfl,fun wS hw=>by kernel_rfl,fun wS hw=>by kernel_rfl,fun wS hw=>hw.elim fun qs hw=>run_loadV rfl rfl (run_loadS rfl rfl (St.rhA (k:=0) hw rfl)),fun wS hw=>by kernel_rfl,fun wS hw=>by kernel_rfl,fun wS hw=>run_idx rfl rfl rfl rfl rfl (inR_spec hc163).1 (inR_spec hc163).2 _,fun wS hw=>run_load1 rfl rfl rfl (hw.elim fun qs hw=>hw.atI 1 rfl hc163),trivial⟩) (fun _ _ _ _ _ h=>h) ⟨_,St.toRX (hS192)⟩ (l':=[(101,nI (atI (hObjsF s10.a) x148)),(97,nP ab0 0),(9,.slice p176 ((aWords s10.a (atI (hObjsF s10.a) x148)).length) c177),(8,nI x148),(7,.slice (some ⟨g165,0,none⟩) (hObjsF s10.a).length c141),(0,nP b0 0)]) (by kernel_rfl) ?_
     intro a194 hF193; clear hF186
     refine any_call 8 #[true,true,true,true,true,true,true,true,true] 47 #[nP ab0 0,nI (atI (hObjsF s10.a) x148),nI 1,nI 0] hF193 rfl (by kernel_rfl) rfl rfl (by kernel_rfl) rfl (by kernel_rfl) (fun w=>by kernel_rfl) (by kernel_rfl) ?_
     obtain ⟨x195,s196,hx197,hm198⟩:=bind2E hm191; clear hm191
     refine (q_AStore hS192 hx197).mono ?_
     rintro _ w199 ⟨rfl,hS201⟩; clear hS192
     refine ⟨⟨_,St.toRX (hS201)⟩,?_⟩
     intro a200 hF202; clear hF193
     refine any_done (by kernel_rfl) ?_
     have hF203:=hF202.keep [0,7,8,9]
     clear hF202
     refine thenN (wp_seq (wp_region_lit ?_))
     refine ev_runs 3 hF203 (l':=[(105,nI x148),(104,.slice (some ⟨g165,0,none⟩) (hObjsF s10.a).length c141),(103,nP b0 0),(9,.slice p176 ((aWords s10.a (atI (hObjsF s10.a) x148)).length) c177),(8,nI x148),(7,.slice (some ⟨g165,0,none⟩) (hObjsF s10.a).length c141),(0,nP b0 0)]) (w':=w199) (by kernel_rfl) ?_
     intro a205 hF204; clear hF203
     refine ev_one (nP g165 (x148.toNat)) w199 hF204 (by kernel_rfl) rfl (by kernel_rfl) (run_idx rfl rfl rfl rfl rfl (inR_spec hc163).1 (inR_spec hc163).2 _) (l':=[(106,nP g165 (x148.toNat)),(105,nI x148),(104,.slice (some ⟨g165,0,none⟩) (hObjsF s10.a).length c141),(103,nP b0 0),(9,.slice p176 ((aWords s10.a (atI (hObjsF s10.a) x148)).length) c177),(8,nI x148),(7,.slice (some ⟨g165,0,none⟩) (hObjsF s10.a).length c141),(0,nP b0 0)]) (by kernel_rfl) ?_
     intro a207 hF206; clear hF204
     refine ev_one (nI (atI (hObjsF s10.a) x148)) w199 hF206 (by kernel_rfl) rfl (by kernel_rfl) (run_load1 rfl rfl rfl (hS201.atI 1 rfl hc163)) (l':=[(107,nI (atI (hObjsF s10.a) x148)),(106,nP g165 (x148.toNat)),(105,nI x148),(104,.slice (some ⟨g165,0,none⟩) (hObjsF s10.a).length c141),(103,nP b0 0),(9,.slice p176 ((aWords s10.a (atI (hObjsF s10.a) x148)).length) c177),(8,nI x148),(7,.slice (some ⟨g165,0,none⟩) (hObjsF s10.a).length c141),(0,nP b0 0)]) (by kernel_rfl) ?_
     intro a209 hF208; clear hF206
     refine ev_call 115 #[nP b0 0,nI (atI (hObjsF s10.a) x148)] hF208 rfl rfl (by kernel_rfl) rfl (by kernel_rfl) (fun w=>by kernel_rfl) ?_
     obtain ⟨s210,hx211,hm212⟩:=bind1E hm198; clear hm198
     refine (q_ShadeW hS201 hx211).mono ?_
     rintro _ w213 ⟨rfl,hS215⟩ a214 hF216; clear hF208 hS201
     refine wpList_nil ?_
     have hF217:=hF216.keep [7,8,9]
     clear hF216
     refine thenN (wp_seq (wp_region_lit ?_))
     refine ev_runs 2 hF217 (l':=[(110,nI x148),(109,.slice (some ⟨g165,0,none⟩) (hObjsF s10.a).length c141),(9,.slice p176 ((aWords s10.a (atI (hObjsF s10.a) x148)).length) c177),(8,nI x148),(7,.slice (some ⟨g165,0,none⟩) (hObjsF s10.a).length c141)]) (w':=w213) (by kernel_rfl) ?_
     intro a219 hF218; clear hF217
     refine ev_one (nP g165 (x148.toNat)) w213 hF218 (by kernel_rfl) rfl (by kernel_rfl) (run_idx rfl rfl rfl rfl rfl (inR_spec hc163).1 (inR_spec hc163).2 _) (l':=[(111,nP g165 (x148.toNat)),(110,nI x148),(109,.slice (some ⟨g165,0,none⟩) (hObjsF s10.a).length c141),(9,.slice p176 ((aWords s10.a (atI (hObjsF s10.a) x148)).length) c177),(8,nI x148),(7,.slice (some ⟨g165,0,none⟩) (hObjsF s10.a).length c141)]) (by kernel_rfl) ?_
     intro a221 hF220; clear hF218
     refine ev_one (nI (atI (hObjsF s10.a) x148)) w213 hF220 (by kernel_rfl) rfl (by kernel_rfl) (run_load1 rfl rfl rfl (hS215.atI 1 rfl hc163)) (l':=[(112,nI (atI (hObjsF s10.a) x148)),(111,nP g165 (x148.toNat)),(110,nI x148),(109,.slice (some ⟨g165,0,none⟩) (hObjsF s10.a).length c141),(9,.slice p176 ((aWords s10.a (atI (hObjsF s10.a) x148)).length) c177),(8,nI x148),(7,.slice (some ⟨g165,0,none⟩) (hObjsF s10.a).length c141)]) (by kernel_rfl) ?_
     intro a223 hF222; clear hF220
     refine ev_runs 2 hF222 (l':=[(114,.agg #[nI 5,nI (atI (hObjsF s10.a) x148),.slice p176 ((aWords s10.a (atI (hObjsF s10.a) x148)).length) c177,.bool true]),(113,.slice p176 ((aWords s10.a (atI (hObjsF s10.a) x148)).length) c177),(112,nI (atI (hObjsF s10.a) x148)),(111,nP g165 (x148.toNat)),(110,nI x148),(109,.slice (some ⟨g165,0,none⟩) (hObjsF s10.a).length c141),(9,.slice p176 ((aWords s10.a (atI (hObjsF s10.a) x148)).length) c177),(8,nI x148),(7,.slice (some ⟨g165,0,none⟩) (hObjsF s10.a).length c141)]) (w':=w213) (by kernel_rfl) ?_
     intro a225 hF224; clear hF222
     have hS227:=hS215.pick2
     clear hS215
     refine ev_runs 1 hF224 (l':=[(115,.slice (some ⟨w213.heap.size,0,none⟩) 1 1),(114,.agg #[nI 5,nI (atI (hObjsF s10.a) x148),.slice p176 ((aWords s10.a (atI (hObjsF s10.a) x148)).length) c177,.bool true]),(113,.slice p176 ((aWords s10.a (atI (hObjsF s10.a) x148)).length) c177),(112,nI (atI (hObjsF s10.a) x148)),(111,nP g165 (x148.toNat)),(110,nI x148),(109,.slice (some ⟨g165,0,none⟩) (hObjsF s10.a).length c141),(9,.slice p176 ((aWords s10.a (atI (hObjsF s10.a) x148)).length) c177),(8,nI x148),(7,.slice (some ⟨g165,0,none⟩) (hObjsF s10.a).length c141)]) (w':=w213.alloc (.cells #[nI 5,nI (atI (hObjsF s10.a) x148),.slice p176 ((aWords s10.a (atI (hObjsF s10.a) x148)).length) c177,.bool true] 79)) (by kernel_rfl) ?_
     intro a229 hF228; clear hF224
     have hS230:St w0 F0 (GonesP (.slice (some ⟨w213.heap.size,0,none⟩) 1 1) [(⟨5,(atI (hObjsF s10.a) x148),(aWords s10.a (atI (hObjsF s10.a) x148)),true⟩:Gn)]::RHeapP b0 ab0 sb0 g0 cb0 s210::RowP (.slice (some ⟨g165,0,none⟩) (hObjsF s10.a).length c141) (hObjsF s10.a)::ps) (w213.alloc (.cells #[nI 5,nI (atI (hObjsF s10.a) x148),.slice p176 ((aWords s10.a (atI (hObjsF s10.a) x148)).length) c177,.bool true] 79)):=St.oneG ⟨5,(atI (hObjsF s10.a) x148),(aWords s10.a (atI (hObjsF s10.a) x148)),true⟩ hS227
     clear hS227
     refine ev_runK 1 hF228 [2] (l':=[(2,.slice (some ⟨w213.heap.size,0,none⟩) 1 1)]) (w':=w213.alloc (.cells #[nI 5,nI (atI (hObjsF s10.a) x148),.slice p176 ((aWords s10.a (atI (hObjsF s10.a) x148)).length) c177,.bool true] 79)) (by kernel_rfl) ?_
     intro a232 hF231; clear hF228
     refine wpList_nil ?_
     have hS233:=hS230.pick2.drop
     clear hS230
     refine thenN ?_
     refine wp_ret ?_
     refine blockR ?_
     refine thenR (thenR ?_)
     refine blockR ?_
     refine thenR ?_
     have hS234:=hS233.pick1
     clear hS233
     simp only [Option.some.injEq,Prod.mk.injEq] at hm212
     obtain ⟨rfl,rfl⟩:=hm212
     refine ev_ret hF231 [2] (.slice (some ⟨w213.heap.size,0,none⟩) 1 1) rfl rfl rfl ?_
     exact ⟨_,rfl,hS234⟩
    rw [hc190] at hF186
    have hm237:=ifNot hc190 hm188; clear hm188
    refine ev_condF hF186 rfl rfl ?_
    refine wp_skip ?_
    have hF238:=hF186.keep [0,7,8]
    clear hF186
    have hS239:=hS187.pick2.drop
    clear hS187
    refine blockN ?_
    refine thenN (wp_region_lit ?_)
    refine ev_runK 3 hF238 [0,7,8] (l':=[(8,nI (IntKind.i64.wrap (x148+1))),(7,.slice (some ⟨g165,0,none⟩) (hObjsF s10.a).length c141),(0,nP b0 0)]) (w':=w185) (by kernel_rfl) ?_
    intro a241 hF240; clear hF238
    refine wpList_nil ?_
    exact thenN ⟨k149,Nat.lt_succ_self _,IntKind.i64.wrap (x148+1),hF240,hS239,hm237⟩
  · skip
    have hS242:=hS172.pick1.pick2.pick2
    clear hS172
    have hS243:=hS242.drew; clear hS242
    refine any_start (fun wS=>∃ qs,St w0 F0 (RHeapP b0 ab0 sb0 g0 cb0 s10::RowP (.slice (some ⟨g165,0,none⟩) (hObjsF s10.a).length c141) (hObjsF s10.a)::RowP (.slice p176 ((aWords s10.a (atI (hObjsF s10.a) x148)).length) c177) (aWords s10.a (atI (hObjsF s10.a) x148))::qs) wS) 34 #[false,false,false,false,false,false,false,false,false,false,false,false,false,false,false,false,false,false,false,false,false,false,false,false,false,false,false,false,false,false,false,false,false,false] (by kernel_rfl) (by kernel_rfl) (by kernel_rfl) ?_
    refine any_many 8 [(0,some (nP b0 0)),(1,some (nP b0 0)),(2,some (nP b0 0)),(3,some (nP ab0 0)),(4,some (.slice (some ⟨g165,0,none⟩) (hObjsF s10.a).length c141)),(5,some (nI x148)),(6,some (nP g165 (x148.toNat))),(7,some (nI (atI (hObjsF s10.a) x148)))] [0,7,8,9,63,67,68,69,70,71,72,73,74,75,76,77,78,79,80,81,82,83,84,85,86,87,88,89,90,91,92,93] #[true,true,true,true,true,true,true,true,false,false,false,false,false,false,false,false,false,false,false,false,false,false,false,false,false,false,false,false,false,false,false,false,false,false] (by rfl) hF180 (by kernel_rfl) (by kernel_rfl) (by exact ⟨fun wS hw=>by kernel_rfl,fun wS hw=>by kernel_rfl,fun wS hw=>by kernel_rfl,fun wS hw=>hw.elim fun qs hw=>run_loadV rfl rfl (run_loadS rfl rfl (St.rhsee (k:=0) hw rfl).1),fun wS hw=>by kernel_rfl,fun wS hw=>by kernel_rfl,fun wS hw=>run_idx rfl rfl rfl rfl rfl (inR_spec hc163).1 (inR_spec hc163).2 _,fun wS hw=>run_load1 rfl rfl rfl (hw.elim fun qs hw=>hw.atI 1 rfl hc163),trivial⟩) (fun _ _ _ _ _ h=>h) ⟨_,hS243⟩ (l':=[(67,nI (atI (hObjsF s10.a) x148)),(63,nP ab0 0),(9,.slice p176 ((aWords s10.a (atI (hObjsF s10.a) x148)).length) c177),(8,nI x148),(7,.slice (some ⟨g165,0,none⟩) (hObjsF s10.a).length c141),(0,nP b0 0)]) (by kernel_rfl) ?_
    intro a245 hF244; clear hF180
    refine any_call 8 #[true,true,true,true,true,true,true,true,true,false,false,false,false,false,false,false,false,false,false,false,false,false,false,false,false,false,false,false,false,false,false,false,false,false] 104 #[nP ab0 0,nI (atI (hObjsF s10.a) x148)] hF244 rfl (by kernel_rfl) rfl rfl (by kernel_rfl) rfl (by kernel_rfl) (fun w=>by kernel_rfl) (by kernel_rfl) ?_
    refine (q_Kind hS243).mono ?_
    rintro _ w246 ⟨rfl,hS248⟩; clear hS243
    refine ⟨⟨_,hS248⟩,?_⟩
    intro a247 hF249; clear hF244
    refine any_many 2 [(9,some (.bool ((aKind s10.a.c (atI (hObjsF s10.a) x148)) == 5))),(10,some (.bool ((aKind s10.a.c (atI (hObjsF s10.a) x148)) == 5)))] [0,7,8,9,70,71,72,73,74,75,76,77,78,79,80,81,82,83,84,85,86,87,88,89,90,91,92,93] #[true,true,true,true,true,true,true,true,true,true,true,false,false,false,false,false,false,false,false,false,false,false,false,false,false,false,false,false,false,false,false,false,false,false] (by rfl) hF249 (by kernel_rfl) (by kernel_rfl) (by exact ⟨fun wS hw=>by kernel_rfl,fun wS hw=>by kernel_rfl,trivial⟩) (fun _ _ _ _ _ h=>h) ⟨_,hS248⟩ (l':=[(70,.bool ((aKind s10.a.c (atI (hObjsF s10.a) x148)) == 5)),(9,.slice p176 ((aWords s10.a (atI (hObjsF s10.a) x148)).length) c177),(8,nI x148),(7,.slice (some ⟨g165,0,none⟩) (hObjsF s10.a).length c141),(0,nP b0 0)]) (by kernel_rfl) ?_
    intro a251 hF250; clear hF249
    cases hc252:((aKind s10.a.c (atI (hObjsF s10.a) x148)) == 5)
    case true =>
     rw [hc252] at hF250
     have hm253:=ifYes hc252 hm164; clear hm164
     refine any_many 8 [(11,some (nP b0 0)),(12,some (nP b0 0)),(13,some (nP b0 1)),(14,some (.slice (some ⟨cb0,0,none⟩) (s10.a.c.length) (s10.a.c.length))),(15,some (.slice (some ⟨g165,0,none⟩) (hObjsF s10.a).length c141)),(16,some (nI x148)),(17,some (nP g165 (x148.toNat))),(18,some (nI (atI (hObjsF s10.a) x148)))] [0,7,8,9,70,74,78,79,80,81,82,83,84,85,86,87,88,89,90,91,92,93] #[true,true,true,true,true,true,true,true,true,true,true,true,true,true,true,true,true,true,true,false,false,false,false,false,false,false,false,false,false,false,false,false,false,false] (by rfl) hF250 (by kernel_rfl) (by kernel_rfl) (by exact ⟨fun wS hw=>by kernel_rfl,fun wS hw=>by kernel_rfl,fun wS hw=>by kernel_rfl,fun wS hw=>hw.elim fun qs hw=>run_loadV rfl rfl (run_loadS rfl rfl (St.rhsee (k:=0) hw rfl).2.1),fun wS hw=>by kernel_rfl,fun wS hw=>by kernel_rfl,fun wS hw=>run_idx rfl rfl rfl rfl rfl (inR_spec hc163).1 (inR_spec hc163).2 _,fun wS hw=>run_load1 rfl rfl rfl (hw.elim fun qs hw=>hw.atI 1 rfl hc163),trivial⟩) (fun _ _ _ _ _ h=>h) ⟨_,hS248⟩ (l':=[(78,nI (atI (hObjsF s10.a) x148)),(74,.slice (some ⟨cb0,0,none⟩) (s10.a.c.length) (s10.a.c.length)),(70,.bool true),(9,.slice p176 ((aWords s10.a (atI (hObjsF s10.a) x148)).length) c177),(8,nI x148),(7,.slice (some ⟨g165,0,none⟩) (hObjsF s10.a).length c141),(0,nP b0 0)]) (by kernel_rfl) ?_
     intro a255 hF254; clear hF250
     obtain ⟨hc256,hm257⟩:=ifTE hm253; clear hm253
     refine any_many 5 [(19,some (nP cb0 ((atI (hObjsF s10.a) x148).toNat))),(20,some (nI (s10.col (atI (hObjsF s10.a) x148)))),(21,some (.bool ((s10.col (atI (hObjsF s10.a) x148)) == 0))),(22,some (.bool ((s10.col (atI (hObjsF s10.a) x148)) == 0))),(23,some (.bool ((s10.col (atI (hObjsF s10.a) x148)) == 0)))] [0,7,8,9,83,84,85,86,87,88,89,90,91,92,93] #[true,true,true,true,true,true,true,true,true,true,true,true,true,true,true,true,true,true,true,true,true,true,true,true,false,false,false,false,false,false,false,false,false,false] (by rfl) hF254 (by kernel_rfl) (by kernel_rfl) (by exact ⟨fun wS hw=>run_idx rfl rfl rfl rfl rfl (inR_spec hc256).1 (inR_spec hc256).2 _,fun wS hw=>run_load1 rfl rfl rfl (hw.elim fun qs hw=>St.rhcol (k:=0) hw rfl hc256),fun wS hw=>by kernel_rfl,fun wS hw=>by kernel_rfl,fun wS hw=>by kernel_rfl,trivial⟩) (fun _ _ _ _ _ h=>h) ⟨_,hS248⟩ (l':=[(83,.bool ((s10.col (atI (hObjsF s10.a) x148)) == 0)),(9,.slice p176 ((aWords s10.a (atI (hObjsF s10.a) x148)).length) c177),(8,nI x148),(7,.slice (some ⟨g165,0,none⟩) (hObjsF s10.a).length c141),(0,nP b0 0)]) (by kernel_rfl) ?_
     intro a259 hF258; clear hF254
     cases hc260:((s10.col (atI (hObjsF s10.a) x148)) == 0)
     case true =>
      rw [hc260] at hF258
      have hm261:=ifYes hc260 hm257; clear hm257
      refine any_many 5 [(24,some (.slice p176 ((aWords s10.a (atI (hObjsF s10.a) x148)).length) c177)),(25,some (nI (((aWords s10.a (atI (hObjsF s10.a) x148)).length:Int)))),(26,some (.bool (decide (((aWords s10.a (atI (hObjsF s10.a) x148)).length:Int) > 1)))),(27,some (.bool (decide (((aWords s10.a (atI (hObjsF s10.a) x148)).length:Int) > 1)))),(28,some (.bool (decide (((aWords s10.a (atI (hObjsF s10.a) x148)).length:Int) > 1))))] [0,7,8,9,88,89,90,91,92,93] #[true,true,true,true,true,true,true,true,true,true,true,true,true,true,true,true,true,true,true,true,true,true,true,true,true,true,true,true,true,false,false,false,false,false] (by rfl) hF258 (by kernel_rfl) (by kernel_rfl) (by exact ⟨fun wS hw=>by kernel_rfl,fun wS hw=>by kernel_rfl,fun wS hw=>by kernel_rfl,fun wS hw=>by kernel_rfl,fun wS hw=>by kernel_rfl,trivial⟩) (fun _ _ _ _ _ h=>h) ⟨_,hS248⟩ (l':=[(88,.bool (decide (((aWords s10.a (atI (hObjsF s10.a) x148)).length:Int) > 1))),(9,.slice p176 ((aWords s10.a (atI (hObjsF s10.a) x148)).length) c177),(8,nI x148),(7,.slice (some ⟨g165,0,none⟩) (hObjsF s10.a).length c141),(0,nP b0 0)]) (by kernel_rfl) ?_
      intro a263 hF262; clear hF258
      cases hc264:(decide (((aWords s10.a (atI (hObjsF s10.a) x148)).length:Int) > 1))
      case true =>
       rw [hc264] at hF262
       have hm265:=ifYes hc264 hm261; clear hm261
       refine any_many 1 [(29,some (.slice p176 ((aWords s10.a (atI (hObjsF s10.a) x148)).length) c177))] [0,7,8,9,88,89,90,91,92,93] #[true,true,true,true,true,true,true,true,true,true,true,true,true,true,true,true,true,true,true,true,true,true,true,true,true,true,true,true,true,true,false,false,false,false] (by rfl) hF262 (by kernel_rfl) (by kernel_rfl) (by exact ⟨fun wS hw=>by kernel_rfl,trivial⟩) (fun _ _ _ _ _ h=>h) ⟨_,hS248⟩ (l':=[(89,.slice p176 ((aWords s10.a (atI (hObjsF s10.a) x148)).length) c177),(88,.bool true),(9,.slice p176 ((aWords s10.a (atI (hObjsF s10.a) x148)).length) c177),(8,nI x148),(7,.slice (some ⟨g165,0,none⟩) (hObjsF s10.a).length c141),(0,nP b0 0)]) (by kernel_rfl) ?_
       intro a267 hF266; clear hF262
       obtain ⟨hc268,hm269⟩:=ifTE hm265; clear hm265
       obtain ⟨g270,rfl⟩:=hp178.resolve_left (by have:=inR_spec hc268; omega)
       refine any_many 4 [(30,some (nP g270 ((1:Int).toNat))),(31,some (nI (atI (aWords s10.a (atI (hObjsF s10.a) x148)) (1:Int)))),(32,some (.bool ((atI (aWords s10.a (atI (hObjsF s10.a) x148)) (1:Int)) != 0))),(33,some (.bool ((atI (aWords s10.a (atI (hObjsF s10.a) x148)) (1:Int)) != 0)))] [0,7,8,9,93] #[true,true,true,true,true,true,true,true,true,true,true,true,true,true,true,true,true,true,true,true,true,true,true,true,true,true,true,true,true,true,true,true,true,true] (by rfl) hF266 (by kernel_rfl) (by kernel_rfl) (by exact ⟨fun wS hw=>run_idx rfl rfl rfl rfl rfl (inR_spec hc268).1 (inR_spec hc268).2 _,fun wS hw=>run_load1 rfl rfl rfl (hw.elim fun qs hw=>hw.atI 2 rfl hc268),fun wS hw=>by kernel_rfl,fun wS hw=>by kernel_rfl,trivial⟩) (fun _ _ _ _ _ h=>h) ⟨_,hS248⟩ (l':=[(93,.bool ((atI (aWords s10.a (atI (hObjsF s10.a) x148)) (1:Int)) != 0)),(9,.slice (some ⟨g270,0,none⟩) ((aWords s10.a (atI (hObjsF s10.a) x148)).length) c177),(8,nI x148),(7,.slice (some ⟨g165,0,none⟩) (hObjsF s10.a).length c141),(0,nP b0 0)]) (by kernel_rfl) ?_
       intro a272 hF271; clear hF266
       refine any_done (by kernel_rfl) ?_
       exact thenN ⟨(atI (aWords s10.a (atI (hObjsF s10.a) x148)) (1:Int)) != 0,hF271,hS248,hm269⟩
      rw [hc264] at hF262
      have hm273:=ifNot hc264 hm261; clear hm261
      refine any_many 5 [(29,none),(30,none),(31,none),(32,none),(33,some (.bool false))] [0,7,8,9,93] #[true,true,true,true,true,true,true,true,true,true,true,true,true,true,true,true,true,true,true,true,true,true,true,true,true,true,true,true,true,true,true,true,true,true] (by rfl) hF262 (by kernel_rfl) (by kernel_rfl) (by exact (And.intro trivial (And.intro trivial (And.intro trivial (And.intro trivial (And.intro (fun wS hw=>by kernel_rfl) trivial)))))) (fun _ _ _ _ _ h=>h) ⟨_,hS248⟩ (l':=[(93,.bool false),(9,.slice p176 ((aWords s10.a (atI (hObjsF s10.a) x148)).length) c177),(8,nI x148),(7,.slice (some ⟨g165,0,none⟩) (hObjsF s10.a).length c141),(0,nP b0 0)]) (by kernel_rfl) ?_
      intro a275 hF274; clear hF262
      refine any_done (by kernel_rfl) ?_
      exact thenN ⟨false,hF274,hS248,hm273⟩
     rw [hc260] at hF258
     have hm276:=ifNot hc260 hm257; clear hm257
     refine any_many 10 [(24,none),(25,none),(26,none),(27,some (.bool false)),(28,some (.bool false)),(29,none),(30,none),(31,none),(32,none),(33,some (.bool false))] [0,7,8,9,93] #[true,true,true,true,true,true,true,true,true,true,true,true,true,true,true,true,true,true,true,true,true,true,true,true,true,true,true,true,true,true,true,true,true,true] (by rfl) hF258 (by kernel_rfl) (by kernel_rfl) (by exact (And.intro trivial (And.intro trivial (And.intro trivial (And.intro (fun wS hw=>by kernel_rfl) (And.intro (fun wS hw=>by kernel_rfl) (And.intro trivial (And.intro trivial (And.intro trivial (And.intro trivial (And.intro (fun wS hw=>by kernel_rfl) trivial))))))))))) (fun _ _ _ _ _ h=>h) ⟨_,hS248⟩ (l':=[(93,.bool false),(9,.slice p176 ((aWords s10.a (atI (hObjsF s10.a) x148)).length) c177),(8,nI x148),(7,.slice (some ⟨g165,0,none⟩) (hObjsF s10.a).length c141),(0,nP b0 0)]) (by kernel_rfl) ?_
     intro a278 hF277; clear hF258
     refine any_done (by kernel_rfl) ?_
     exact thenN ⟨false,hF277,hS248,hm276⟩
    rw [hc252] at hF250
    have hm279:=ifNot hc252 hm164; clear hm164
    refine any_many 23 [(11,none),(12,none),(13,none),(14,none),(15,none),(16,none),(17,none),(18,none),(19,none),(20,none),(21,none),(22,some (.bool false)),(23,some (.bool false)),(24,none),(25,none),(26,none),(27,some (.bool false)),(28,some (.bool false)),(29,none),(30,none),(31,none),(32,none),(33,some (.bool false))] [0,7,8,9,93] #[true,true,true,true,true,true,true,true,true,true,true,true,true,true,true,true,true,true,true,true,true,true,true,true,true,true,true,true,true,true,true,true,true,true] (by rfl) hF250 (by kernel_rfl) (by kernel_rfl) (by exact (And.intro trivial (And.intro trivial (And.intro trivial (And.intro trivial (And.intro trivial (And.intro trivial (And.intro trivial (And.intro trivial (And.intro trivial (And.intro trivial (And.intro trivial (And.intro (fun wS hw=>by kernel_rfl) (And.intro (fun wS hw=>by kernel_rfl) (And.intro trivial (And.intro trivial (And.intro trivial (And.intro (fun wS hw=>by kernel_rfl) (And.intro (fun wS hw=>by kernel_rfl) (And.intro trivial (And.intro trivial (And.intro trivial (And.intro trivial (And.intro (fun wS hw=>by kernel_rfl) trivial)))))))))))))))))))))))) (fun _ _ _ _ _ h=>h) ⟨_,hS248⟩ (l':=[(93,.bool false),(9,.slice p176 ((aWords s10.a (atI (hObjsF s10.a) x148)).length) c177),(8,nI x148),(7,.slice (some ⟨g165,0,none⟩) (hObjsF s10.a).length c141),(0,nP b0 0)]) (by kernel_rfl) ?_
    intro a281 hF280; clear hF250
    refine any_done (by kernel_rfl) ?_
    exact thenN ⟨false,hF280,hS248,hm279⟩
 rw [hc158] at hF156
 have hm282:=ifNot hc158 hm155; clear hm155
 refine ev_condF hF156 rfl rfl ?_
 refine wp_exit ?_
 refine thenE ?_
 refine thenE ?_
 refine blockE ?_
 refine thenN (wp_seq (wp_region_lit ?_))
 refine ev_runs 4 hF156 (l':=[(119,nP b0 3),(118,nP b0 0),(117,nP b0 0),(116,nP b0 0),(51,.bool false),(8,nI x148),(7,.slice p140 (hObjsF s10.a).length c141),(0,nP b0 0)]) (w':=w151) (by kernel_rfl) ?_
 intro a284 hF283; clear hF156
 obtain ⟨ok285,gl286,gc287,cc288,hS289⟩:=St.openRH2 hS153; clear hS153
 refine ev_store (nI 2) #[nP ab0 0,.slice (some ⟨cb0,0,none⟩) (s10.a.c.length) (s10.a.c.length),nP gl286 0,nI 2,nI (s10.sp),nI (s10.cy)] hF283 (by kernel_rfl) rfl rfl rfl rfl (by kernel_rfl) hS289 (by kernel_rfl) (by kernel_rfl) (by kernel_rfl) (l':=[(119,nP b0 3),(118,nP b0 0),(117,nP b0 0),(116,nP b0 0),(51,.bool false),(8,nI x148),(7,.slice p140 (hObjsF s10.a).length c141),(0,nP b0 0)]) (by kernel_rfl) ?_
 intro w290 a291 hS292 hF293; clear hF283 hS289
 refine ev_runs 2 hF293 (l':=[(121,nP b0 4),(120,nP b0 0),(119,nP b0 3),(118,nP b0 0),(117,nP b0 0),(116,nP b0 0),(51,.bool false),(8,nI x148),(7,.slice p140 (hObjsF s10.a).length c141),(0,nP b0 0)]) (w':=w290) (by kernel_rfl) ?_
 intro a295 hF294; clear hF293
 refine ev_store (nI 0) #[nP ab0 0,.slice (some ⟨cb0,0,none⟩) (s10.a.c.length) (s10.a.c.length),nP gl286 0,nI 2,nI 0,nI (s10.cy)] hF294 (by kernel_rfl) rfl rfl rfl rfl (by kernel_rfl) hS292 (by kernel_rfl) (by kernel_rfl) (by kernel_rfl) (l':=[(121,nP b0 4),(120,nP b0 0),(119,nP b0 3),(118,nP b0 0),(117,nP b0 0),(116,nP b0 0),(51,.bool false),(8,nI x148),(7,.slice p140 (hObjsF s10.a).length c141),(0,nP b0 0)]) (by kernel_rfl) ?_
 intro w296 a297 hS298 hF299; clear hF294 hS292
 refine wpList_nil ?_
 have hF300:=hF299.keep []
 clear hF299
 have hS301:=hS298.pick2.drop
 clear hS298
 refine thenN (wp_seq (wp_region_lit ?_))
 have hS303:St w0 F0 (GonesP (.slice none 0 0) []::BlkP b0 83 #[nP ab0 0,.slice (some ⟨cb0,0,none⟩) (s10.a.c.length) (s10.a.c.length),nP gl286 0,nI 2,nI 0,nI (s10.cy)]::RRestP ab0 sb0 g0 cb0 gl286 gc287 cc288 s10::ps) w296:=St.nilG hS301
 clear hS301
 refine ev_runs 1 hF300 (l':=[(2,.slice none 0 0)]) (w':=w296) (by kernel_rfl) ?_
 intro a305 hF304; clear hF300
 refine wpList_nil (thenN ?_)
 refine wp_ret ?_
 have hS306:=hS303.pick2.pick2
 clear hS303
 obtain ⟨hc307,hm308⟩:=ifTE hm282; clear hm282
 have hS309:=St.closeRH2 hS306 ok285 hc307; clear hS306
 simp only [Option.some.injEq,Prod.mk.injEq] at hm308
 obtain ⟨rfl,rfl⟩:=hm308
 refine ev_ret hF304 [2] (.slice none 0 0) rfl rfl rfl ?_
 exact ⟨_,rfl,hS309⟩
def ref06_sweep.j7 (x31:Int) (rec34:List Gn→Int→Option (List Gn×HSt)) (L56:List Gn):Option (List Gn×HSt):=rec34 L56 (IntKind.i64.wrap (x31+1))
def ref06_sweep.j6 (s0:HSt) (L29:List Gn) (x31:Int) (rec34:List Gn→Int→Option (List Gn×HSt)) (y48:Bool):Option (List Gn×HSt):=(if (y48) then (if (inR x31 (hObjsF s0.a).length) then bind1 (appX L29 [(⟨(aKind s0.a.c (atI (hObjsF s0.a) x31)),(atI (hObjsF s0.a) x31),(aWords s0.a (atI (hObjsF s0.a) x31)),false⟩:Gn)]) fun L102=>ref06_sweep.j7 x31 rec34 L102 else none) else ref06_sweep.j7 x31 rec34 L29)
def ref06_sweep.j9 (L29:List Gn) (s143:HSt) (x194:Int) (x195:Int):Option (List Gn×HSt):=(if (okTo s143 x194 ((IntKind.i64.wrap (s143.sp+1))) x195) then some (L29,{ s143 with ph:=x194,sp:=(IntKind.i64.wrap (s143.sp+1)),cy:=x195 }) else none)
def ref06_sweep.l8b (L29:List Gn) (rec147:HSt→Int→Option (List Gn×HSt)) (s143:HSt) (x144:Int):Option (List Gn×HSt):=(if (decide (x144<(L29.length:Int))) then (if (inR x144 L29.length) then bind2 (pFree ((atG L29 x144).at') s143) fun x163 s164=>rec147 s164 (IntKind.i64.wrap (x144+1)) else none) else (if (decide ((IntKind.i64.wrap (s143.sp+1)) ≥ ((s143.a.l.length:Nat):Int))) then ref06_sweep.j9 L29 s143 0 (IntKind.i64.wrap (s143.cy+1)) else ref06_sweep.j9 L29 s143 s143.ph s143.cy))
def ref06_sweep.l8 (L29:List Gn):Nat→HSt→Int→Option (List Gn×HSt)
  | 0=>fun _ _=>none
  | kI+1=>ref06_sweep.l8b L29 (ref06_sweep.l8 L29 kI)
def ref06_sweep.l5b (s0:HSt) (k:Nat) (rec34:List Gn→Int→Option (List Gn×HSt)) (L29:List Gn) (x31:Int):Option (List Gn×HSt):=(if (decide (x31<((hObjsF s0.a).length:Int))) then (if (inR x31 (hObjsF s0.a).length) then (if ((IntKind.i64.wrap (Int.tdiv (atI (hObjsF s0.a) x31) 32)) == s0.sp) then (if (inR (atI (hObjsF s0.a) x31) (s0.a.c).length) then ref06_sweep.j6 s0 L29 x31 rec34 ((s0.col (atI (hObjsF s0.a) x31)) == 0) else none) else ref06_sweep.j6 s0 L29 x31 rec34 false) else none) else ref06_sweep.l8 L29 k s0 0)
def ref06_sweep.l5 (s0:HSt) (k:Nat):Nat→List Gn→Int→Option (List Gn×HSt)
  | 0=>fun _ _=>none
  | kI+1=>ref06_sweep.l5b s0 k (ref06_sweep.l5 s0 k kI)
def ref06_sweep.m (k:Nat) (s0:HSt):Option (List Gn×HSt):=ref06_sweep.l5 s0 k k [] 0
set_option maxRecDepth 100000 in
set_option maxHeartbeats 40000000 in
theorem ref06_sweep.ok {w0 w:World} {F0:List Nat} {ps:List Piece} {k:Nat} {b0 ab0 sb0 g0 cb0:Nat} {s0:HSt} {r0:List Gn} {t0:HSt} (hS:St w0 F0 (RHeapP b0 ab0 sb0 g0 cb0 s0::ps) w) (hm:ref06_sweep.m k s0=some (r0,t0)) :
    Calls Tryz.prog 140 #[nP b0 0] w fun e w'=>∃ vr0,e=.returned (vr0)∧St w0 F0 (RHeapP b0 ab0 sb0 g0 cb0 t0::GonesP vr0 r0::ps) w':=by
 refine ev_enterL 115 [nP b0 0] Tryz.func140 rfl rfl (by simp) ?_
 intro a hF
 have hF0:Fr 115 a [(0,nP b0 0)]:=hF; clear hF
 unfold ref06_sweep.m at hm
 refine wp_seq (wp_region_lit ?_)
 have hS2:St w0 F0 (GonesP (.slice none 0 0) []::RHeapP b0 ab0 sb0 g0 cb0 s0::ps) w:=St.nilG hS
 refine ev_runK 1 hF0 [0] (l':=[(0,nP b0 0)]) (w':=w) (by kernel_rfl) ?_
 intro a4 hF3; clear hF0
 refine wpList_nil ?_
 have hS5:=hS2.drop
 clear hS2
 refine thenN (wp_seq (wp_region_lit ?_))
 have hS7:St w0 F0 (GonesP (.slice none 0 0) []::RHeapP b0 ab0 sb0 g0 cb0 s0::ps) w:=St.nilG hS5
 clear hS5
 refine ev_runs 1 hF3 (l':=[(3,.slice none 0 0),(0,nP b0 0)]) (w':=w) (by kernel_rfl) ?_
 intro a9 hF8; clear hF3
 refine wpList_nil (thenN (wp_seq (wp_region_lit ?_)))
 refine ev_runs 3 hF8 (l':=[(9,nP b0 0),(8,nP b0 0),(7,nP b0 0),(3,.slice none 0 0),(0,nP b0 0)]) (w':=w) (by kernel_rfl) ?_
 intro a11 hF10; clear hF8
 refine ev_one (nP ab0 0) w hF10 (by kernel_rfl) rfl (by kernel_rfl) (run_loadV rfl rfl (run_loadS rfl rfl (St.rhsee (k:=1) hS7 rfl).1)) (l':=[(10,nP ab0 0),(9,nP b0 0),(8,nP b0 0),(7,nP b0 0),(3,.slice none 0 0),(0,nP b0 0)]) (by kernel_rfl) ?_
 intro a13 hF12; clear hF10
 have hS14:=hS7.pick1
 clear hS7
 refine ev_call 103 #[nP ab0 0] hF12 rfl rfl (by kernel_rfl) rfl (by kernel_rfl) (fun w=>by kernel_rfl) ?_
 refine (q_Objects hS14).mono ?_
 rintro _ w15 ⟨z19,rfl,hS17⟩ a16 hF18; clear hF12 hS14
 obtain ⟨hl24,p21,c22,rfl,hp23⟩:=St.shape hS17 1 rfl
 refine ev_runK 1 hF18 [0,3,4] (l':=[(4,.slice p21 (hObjsF s0.a).length c22),(3,.slice none 0 0),(0,nP b0 0)]) (w':=w15) (by kernel_rfl) ?_
 intro a26 hF25; clear hF18
 refine wpList_nil (thenN (wp_seq (wp_seq (wp_region_lit ?_))))
 refine ev_runs 1 hF25 (l':=[(5,nI 0),(4,.slice p21 (hObjsF s0.a).length c22),(3,.slice none 0 0),(0,nP b0 0)]) (w':=w15) (by kernel_rfl) ?_
 intro a28 hF27; clear hF25
 refine wpList_nil (thenN ?_)
 refine wp_block ?_
 refine wp_loop_ghost (fun kI aI wI=>∃ (v30:Value) (L29:List Gn) (x31:Int),Fr 115 aI [(5,nI x31),(4,.slice p21 (hObjsF s0.a).length c22),(3,v30),(0,nP b0 0)]∧St w0 F0 (RHeapP b0 ab0 sb0 g0 cb0 s0::RowP (.slice p21 (hObjsF s0.a).length c22) (hObjsF s0.a)::GonesP (v30) L29::ps) wI∧ref06_sweep.l5 s0 k kI L29 x31=some (r0,t0)) k ⟨.slice none 0 0,[],0,hF27,hS17,hm⟩ ?_
 rintro k32 a33 w34 ⟨v30,L29,x31,hF35,hS36,hm37⟩
 clear hF27 hS17 hm
 rcases k32 with _ | k32
 · cases hm37
 have hm38:ref06_sweep.l5b s0 k (ref06_sweep.l5 s0 k k32) L29 x31=some (r0,t0):=hm37
 clear hm37
 unfold ref06_sweep.l5b at hm38
 obtain ⟨hl42,p39,c40,rfl,hp41⟩:=St.shapeG (k:=2) hS36 rfl
 refine wp_seq (wp_seq (wp_region_lit ?_))
 refine ev_runK 4 hF35 [0,3,4,5,15] (l':=[(15,.bool (decide (x31<((hObjsF s0.a).length:Int)))),(5,nI x31),(4,.slice p21 (hObjsF s0.a).length c22),(3,.slice p39 L29.length c40),(0,nP b0 0)]) (w':=w34) (by kernel_rfl) ?_
 intro a44 hF43; clear hF35
 refine wpList_nil (thenN ?_)
 cases hc45:(decide (x31<((hObjsF s0.a).length:Int)))
 case true =>
  rw [hc45] at hF43
  have hm46:=ifYes hc45 hm38; clear hm38
  refine ev_condT hF43 rfl rfl ?_
  refine wp_skip ?_
  have hF47:=hF43.keep [0,3,4,5]
  clear hF43
  refine thenN (wp_seq ?_)
  refine wp_block ?_
  refine wp_seq ?_
  refine joinQ (fun aI wI=>∃ (y48:Bool),Fr 115 aI [(40,.bool (y48)),(5,nI x31),(4,.slice p21 (hObjsF s0.a).length c22),(3,.slice p39 L29.length c40),(0,nP b0 0)]∧St w0 F0 (RowP (.slice p21 (hObjsF s0.a).length c22) (hObjsF s0.a)::RHeapP b0 ab0 sb0 g0 cb0 s0::GonesP (.slice p39 L29.length c40) L29::ps) wI∧ref06_sweep.j6 s0 L29 x31 (ref06_sweep.l5 s0 k k32) y48=some (r0,t0)) ?_ ?_
  rotate_left
  · rintro a50 w51 ⟨y48,hF52,hS53,hm54⟩
    clear hF47 hS36 hm46
    unfold ref06_sweep.j6 at hm54
    refine thenN ?_
    refine joinQ (fun aI wI=>∃ (v57:Value) (L56:List Gn),Fr 115 aI [(5,nI x31),(4,.slice p21 (hObjsF s0.a).length c22),(3,v57),(0,nP b0 0)]∧St w0 F0 (RowP (.slice p21 (hObjsF s0.a).length c22) (hObjsF s0.a)::RHeapP b0 ab0 sb0 g0 cb0 s0::GonesP (v57) L56::ps) wI∧ref06_sweep.j7 x31 (ref06_sweep.l5 s0 k k32) L56=some (r0,t0)) ?_ ?_
    rotate_left
    · rintro a59 w60 ⟨v57,L56,hF61,hS62,hm63⟩
      clear hF52 hS53 hm54
      unfold ref06_sweep.j7 at hm63
      obtain ⟨hl68,p65,c66,rfl,hp67⟩:=St.shapeG (k:=2) hS62 rfl
      refine blockN ?_
      refine thenN (wp_region_lit ?_)
      refine ev_runK 3 hF61 [0,3,4,5] (l':=[(5,nI (IntKind.i64.wrap (x31+1))),(4,.slice p21 (hObjsF s0.a).length c22),(3,.slice p65 L56.length c66),(0,nP b0 0)]) (w':=w60) (by kernel_rfl) ?_
      intro a70 hF69; clear hF61
      refine wpList_nil ?_
      have hS71:=hS62.pick2.pick1.pick2
      clear hS62
      exact thenN ⟨k32,Nat.lt_succ_self _,.slice p65 L56.length c66,L56,IntKind.i64.wrap (x31+1),hF69,hS71,hm63⟩
    · skip
      cases hc72:(y48)
      case true =>
       rw [hc72] at hF52
       have hm73:=ifYes hc72 hm54; clear hm54
       refine ev_condT hF52 rfl rfl ?_
       obtain ⟨hc74,hm75⟩:=ifTE hm73; clear hm73
       obtain ⟨g76,rfl⟩:=hp23.resolve_left (by have:=inR_spec hc74; omega)
       have hS77:=hS53.pick1
       clear hS53
       have hS78:=hS77.drew; clear hS77
       refine any_start (fun wS=>∃ qs,St w0 F0 (RHeapXP b0 ab0 sb0 g0 cb0::RowP (.slice (some ⟨g76,0,none⟩) (hObjsF s0.a).length c22) (hObjsF s0.a)::qs) wS) 24 #[false,false,false,false,false,false,false,false,false,false,false,false,false,false,false,false,false,false,false,false,false,false,false,false] (by kernel_rfl) (by kernel_rfl) (by kernel_rfl) ?_
       refine any_many 18 [(0,some (.slice p39 L29.length c40)),(1,some (nP b0 0)),(2,some (nP b0 0)),(3,some (nP b0 0)),(4,some (nP ab0 0)),(5,some (.slice (some ⟨g76,0,none⟩) (hObjsF s0.a).length c22)),(6,some (nI x31)),(7,some (nP g76 (x31.toNat))),(8,some (nI (atI (hObjsF s0.a) x31))),(10,some (.slice (some ⟨g76,0,none⟩) (hObjsF s0.a).length c22)),(11,some (nI x31)),(12,some (nP g76 (x31.toNat))),(13,some (nI (atI (hObjsF s0.a) x31))),(14,some (nP b0 0)),(15,some (.slice (some ⟨g76,0,none⟩) (hObjsF s0.a).length c22)),(16,some (nI x31)),(17,some (nP g76 (x31.toNat))),(18,some (nI (atI (hObjsF s0.a) x31)))] [0,3,4,5,41,45,49,50,54,55,59,60,61,62,63] #[true,true,true,true,true,true,true,true,true,false,true,true,true,true,true,true,true,true,true,false,false,false,false,false] (by rfl) hF52 (by kernel_rfl) (by kernel_rfl) (by exact ⟨fun wS hw=>by kernel_rfl,fun wS hw=>by kernel_rfl,fun wS hw=>by kernel_rfl,fun wS hw=>by kernel_rfl,fun wS hw=>hw.elim fun qs hw=>run_loadV rfl rfl (run_loadS rfl rfl (St.rhA (k:=0) hw rfl)),fun wS hw=>by kernel_rfl,fun wS hw=>by kernel_rfl,fun wS hw=>run_idx rfl rfl rfl rfl rfl (inR_spec hc74).1 (inR_spec hc74).2 _,fun wS hw=>run_load1 rfl rfl rfl (hw.elim fun qs hw=>hw.atI 1 rfl hc74),fun wS hw=>by kernel_rfl,fun wS hw=>by kernel_rfl,fun wS hw=>run_idx rfl rfl rfl rfl rfl (inR_spec hc74).1 (inR_spec hc74).2 _,fun wS hw=>run_load1 rfl rfl rfl (hw.elim fun qs hw=>hw.atI 1 rfl hc74),fun wS hw=>by kernel_rfl,fun wS hw=>by kernel_rfl,fun wS hw=>by kernel_rfl,fun wS hw=>run_idx rfl rfl rfl rfl rfl (inR_spec hc74).1 (inR_spec hc74).2 _,fun wS hw=>run_load1 rfl rfl rfl (hw.elim fun qs hw=>hw.atI 1 rfl hc74),trivial⟩) (fun _ _ _ _ _ h=>h) ⟨_,St.toRX (hS78)⟩ (l':=[(59,nI (atI (hObjsF s0.a) x31)),(55,nP b0 0),(54,nI (atI (hObjsF s0.a) x31)),(49,nI (atI (hObjsF s0.a) x31)),(45,nP ab0 0),(41,.slice p39 L29.length c40),(5,nI x31),(4,.slice (some ⟨g76,0,none⟩) (hObjsF s0.a).length c22),(3,.slice p39 L29.length c40),(0,nP b0 0)]) (by kernel_rfl) ?_
       intro a80 hF79; clear hF52
       refine any_call 9 #[true,true,true,true,true,true,true,true,true,true,true,true,true,true,true,true,true,true,true,false,false,false,false,false] 104 #[nP ab0 0,nI (atI (hObjsF s0.a) x31)] hF79 rfl (by kernel_rfl) rfl rfl (by kernel_rfl) rfl (by kernel_rfl) (fun w=>by kernel_rfl) (by kernel_rfl) ?_
       refine (q_Kind hS78).mono ?_
       rintro _ w81 ⟨rfl,hS83⟩; clear hS78
       refine ⟨⟨_,St.toRX (hS83)⟩,?_⟩
       intro a82 hF84; clear hF79
       refine any_call 19 #[true,true,true,true,true,true,true,true,true,true,true,true,true,true,true,true,true,true,true,true,false,false,false,false] 133 #[nP b0 0,nI (atI (hObjsF s0.a) x31)] hF84 rfl (by kernel_rfl) rfl rfl (by kernel_rfl) rfl (by kernel_rfl) (fun w=>by kernel_rfl) (by kernel_rfl) ?_
       refine (q_words hS83).mono ?_
       rintro _ w85 ⟨z89,rfl,hS87⟩; clear hS83
       obtain ⟨hl94,p91,c92,rfl,hp93⟩:=St.shape hS87 1 rfl
       refine ⟨⟨_,St.toRX (hS87.pick2.pick1)⟩,?_⟩
       intro a86 hF88; clear hF84
       refine any_many 1 [(20,some (.agg #[nI (aKind s0.a.c (atI (hObjsF s0.a) x31)),nI (atI (hObjsF s0.a) x31),.slice p91 ((aWords s0.a (atI (hObjsF s0.a) x31)).length) c92,.bool false]))] [0,3,4,5,41,61,62,63] #[true,true,true,true,true,true,true,true,true,true,true,true,true,true,true,true,true,true,true,true,true,false,false,false] (by rfl) hF88 (by kernel_rfl) (by kernel_rfl) (by exact ⟨fun wS hw=>by kernel_rfl,trivial⟩) (fun _ _ _ _ _ h=>h) ⟨_,St.toRX (hS87.pick2.pick1)⟩ (l':=[(61,.agg #[nI (aKind s0.a.c (atI (hObjsF s0.a) x31)),nI (atI (hObjsF s0.a) x31),.slice p91 ((aWords s0.a (atI (hObjsF s0.a) x31)).length) c92,.bool false]),(41,.slice p39 L29.length c40),(5,nI x31),(4,.slice (some ⟨g76,0,none⟩) (hObjsF s0.a).length c22),(3,.slice p39 L29.length c40),(0,nP b0 0)]) (by kernel_rfl) ?_
       intro a96 hF95; clear hF88
       refine any_one 21 (by kernel_rfl) ?_
       have hS97:=hS87.pick1
       clear hS87
       have hS98:St w0 F0 (GonesP (.slice (some ⟨w85.heap.size,0,none⟩) 1 1) [(⟨(aKind s0.a.c (atI (hObjsF s0.a) x31)),(atI (hObjsF s0.a) x31),(aWords s0.a (atI (hObjsF s0.a) x31)),false⟩:Gn)]::RHeapP b0 ab0 sb0 g0 cb0 s0::RowP (.slice (some ⟨g76,0,none⟩) (hObjsF s0.a).length c22) (hObjsF s0.a)::GonesP (.slice p39 L29.length c40) L29::ps) (w85.alloc (.cells #[nI (aKind s0.a.c (atI (hObjsF s0.a) x31)),nI (atI (hObjsF s0.a) x31),.slice p91 ((aWords s0.a (atI (hObjsF s0.a) x31)).length) c92,.bool false] 79)):=St.oneG ⟨(aKind s0.a.c (atI (hObjsF s0.a) x31)),(atI (hObjsF s0.a) x31),(aWords s0.a (atI (hObjsF s0.a) x31)),false⟩ hS97
       clear hS97
       refine op_step 21 #[true,true,true,true,true,true,true,true,true,true,true,true,true,true,true,true,true,true,true,true,true,true,false,false] (.slice (some ⟨w85.heap.size,0,none⟩) 1 1) (w85.alloc (.cells #[nI (aKind s0.a.c (atI (hObjsF s0.a) x31)),nI (atI (hObjsF s0.a) x31),.slice p91 ((aWords s0.a (atI (hObjsF s0.a) x31)).length) c92,.bool false] 79)) hF95 rfl (by kernel_rfl) rfl (by kernel_rfl) (by kernel_rfl) (l':=[(62,.slice (some ⟨w85.heap.size,0,none⟩) 1 1),(61,.agg #[nI (aKind s0.a.c (atI (hObjsF s0.a) x31)),nI (atI (hObjsF s0.a) x31),.slice p91 ((aWords s0.a (atI (hObjsF s0.a) x31)).length) c92,.bool false]),(41,.slice p39 L29.length c40),(5,nI x31),(4,.slice (some ⟨g76,0,none⟩) (hObjsF s0.a).length c22),(3,.slice p39 L29.length c40),(0,nP b0 0)]) (by kernel_rfl) ⟨_,St.toRX (hS98.pick2.pick2)⟩ (by kernel_rfl) ?_
       intro a100 hF99; clear hF95
       refine any_one 22 (by kernel_rfl) ?_
       have hS101:=hS98.pick3
       clear hS98
       obtain ⟨L102,hx103,hm104⟩:=bind1E hm75; clear hm75
       refine op_appG 76 rfl 22 #[true,true,true,true,true,true,true,true,true,true,true,true,true,true,true,true,true,true,true,true,true,true,true,false] 63 (.tmp 41) (.tmp 62) hF99 rfl rfl rfl (by kernel_rfl) rfl rfl rfl rfl rfl hS101 hx103 (by kernel_rfl) ?_
       intro v105 w106 a107 hS108 hF109; clear hF99 hS101
       obtain ⟨hl113,p110,c111,rfl,hp112⟩:=St.shapeG (k:=0) hS108 rfl
       have hF114:=hF109.keep [0,4,5,61,63]; clear hF109
       refine ⟨⟨_,St.toRX (hS108.pick2.pick2)⟩,?_⟩
       refine any_many 1 [(23,some (.slice p110 L102.length c111))] [0,3,4,5] #[true,true,true,true,true,true,true,true,true,true,true,true,true,true,true,true,true,true,true,true,true,true,true,true] (by rfl) hF114 (by kernel_rfl) (by kernel_rfl) (by exact ⟨fun wS hw=>by kernel_rfl,trivial⟩) (fun _ _ _ _ _ h=>h) ⟨_,St.toRX (hS108.pick2.pick2)⟩ (l':=[(3,.slice p110 L102.length c111),(5,nI x31),(4,.slice (some ⟨g76,0,none⟩) (hObjsF s0.a).length c22),(0,nP b0 0)]) (by kernel_rfl) ?_
       intro a116 hF115; clear hF114
       refine any_done (by kernel_rfl) ?_
       have hF117:Fr 115 a116 [(5,nI x31),(4,.slice (some ⟨g76,0,none⟩) (hObjsF s0.a).length c22),(3,.slice p110 L102.length c111),(0,nP b0 0)]:=Fr.re hF115 (by kernel_rfl)
       clear hF115
       have hS118:=hS108.pick1.pick2
       clear hS108
       exact thenN ⟨.slice p110 L102.length c111,L102,hF117,hS118,hm104⟩
      rw [hc72] at hF52
      have hm119:=ifNot hc72 hm54; clear hm54
      refine ev_condF hF52 rfl rfl ?_
      refine wp_skip ?_
      have hF120:=hF52.keep [0,3,4,5]
      clear hF52
      exact thenN ⟨.slice p39 L29.length c40,L29,hF120,hS53,hm119⟩
  · skip
    obtain ⟨hc121,hm122⟩:=ifTE hm46; clear hm46
    obtain ⟨g123,rfl⟩:=hp23.resolve_left (by have:=inR_spec hc121; omega)
    have hS124:=hS36.pick1
    clear hS36
    have hS125:=hS124.drew; clear hS124
    refine any_start (fun wS=>∃ qs,St w0 F0 (RowP (.slice (some ⟨g123,0,none⟩) (hObjsF s0.a).length c22) (hObjsF s0.a)::RHeapP b0 ab0 sb0 g0 cb0 s0::qs) wS) 23 #[false,false,false,false,false,false,false,false,false,false,false,false,false,false,false,false,false,false,false,false,false,false,false] (by kernel_rfl) (by kernel_rfl) (by kernel_rfl) ?_
    refine any_many 11 [(0,some (.slice (some ⟨g123,0,none⟩) (hObjsF s0.a).length c22)),(1,some (nI x31)),(2,some (nP g123 (x31.toNat))),(3,some (nI (atI (hObjsF s0.a) x31))),(4,some (nI (IntKind.i64.wrap (Int.tdiv (atI (hObjsF s0.a) x31) 32)))),(5,some (nP b0 0)),(6,some (nP b0 0)),(7,some (nP b0 4)),(8,some (nI (s0.sp))),(9,some (.bool ((IntKind.i64.wrap (Int.tdiv (atI (hObjsF s0.a) x31) 32)) == s0.sp))),(10,some (.bool ((IntKind.i64.wrap (Int.tdiv (atI (hObjsF s0.a) x31) 32)) == s0.sp)))] [0,3,4,5,28,29,30,31,32,33,34,35,36,37,38,39,40] #[true,true,true,true,true,true,true,true,true,true,true,false,false,false,false,false,false,false,false,false,false,false,false] (by rfl) hF47 (by kernel_rfl) (by kernel_rfl) (by exact ⟨fun wS hw=>by kernel_rfl,fun wS hw=>by kernel_rfl,fun wS hw=>run_idx rfl rfl rfl rfl rfl (inR_spec hc121).1 (inR_spec hc121).2 _,fun wS hw=>run_load1 rfl rfl rfl (hw.elim fun qs hw=>hw.atI 0 rfl hc121),fun wS hw=>by kernel_rfl,fun wS hw=>by kernel_rfl,fun wS hw=>by kernel_rfl,fun wS hw=>by kernel_rfl,fun wS hw=>hw.elim fun qs hw=>run_loadV rfl rfl (run_loadS rfl rfl (St.rhsp (k:=1) hw rfl)),fun wS hw=>by kernel_rfl,fun wS hw=>by kernel_rfl,trivial⟩) (fun _ _ _ _ _ h=>h) ⟨_,hS125⟩ (l':=[(28,.bool ((IntKind.i64.wrap (Int.tdiv (atI (hObjsF s0.a) x31) 32)) == s0.sp)),(5,nI x31),(4,.slice (some ⟨g123,0,none⟩) (hObjsF s0.a).length c22),(3,.slice p39 L29.length c40),(0,nP b0 0)]) (by kernel_rfl) ?_
    intro a127 hF126; clear hF47
    cases hc128:((IntKind.i64.wrap (Int.tdiv (atI (hObjsF s0.a) x31) 32)) == s0.sp)
    case true =>
     rw [hc128] at hF126
     have hm129:=ifYes hc128 hm122; clear hm122
     refine any_many 8 [(11,some (nP b0 0)),(12,some (nP b0 0)),(13,some (nP b0 1)),(14,some (.slice (some ⟨cb0,0,none⟩) (s0.a.c.length) (s0.a.c.length))),(15,some (.slice (some ⟨g123,0,none⟩) (hObjsF s0.a).length c22)),(16,some (nI x31)),(17,some (nP g123 (x31.toNat))),(18,some (nI (atI (hObjsF s0.a) x31)))] [0,3,4,5,28,32,36,37,38,39,40] #[true,true,true,true,true,true,true,true,true,true,true,true,true,true,true,true,true,true,true,false,false,false,false] (by rfl) hF126 (by kernel_rfl) (by kernel_rfl) (by exact ⟨fun wS hw=>by kernel_rfl,fun wS hw=>by kernel_rfl,fun wS hw=>by kernel_rfl,fun wS hw=>hw.elim fun qs hw=>run_loadV rfl rfl (run_loadS rfl rfl (St.rhsee (k:=1) hw rfl).2.1),fun wS hw=>by kernel_rfl,fun wS hw=>by kernel_rfl,fun wS hw=>run_idx rfl rfl rfl rfl rfl (inR_spec hc121).1 (inR_spec hc121).2 _,fun wS hw=>run_load1 rfl rfl rfl (hw.elim fun qs hw=>hw.atI 0 rfl hc121),trivial⟩) (fun _ _ _ _ _ h=>h) ⟨_,hS125⟩ (l':=[(36,nI (atI (hObjsF s0.a) x31)),(32,.slice (some ⟨cb0,0,none⟩) (s0.a.c.length) (s0.a.c.length)),(28,.bool true),(5,nI x31),(4,.slice (some ⟨g123,0,none⟩) (hObjsF s0.a).length c22),(3,.slice p39 L29.length c40),(0,nP b0 0)]) (by kernel_rfl) ?_
     intro a131 hF130; clear hF126
     obtain ⟨hc132,hm133⟩:=ifTE hm129; clear hm129
     refine any_many 4 [(19,some (nP cb0 ((atI (hObjsF s0.a) x31).toNat))),(20,some (nI (s0.col (atI (hObjsF s0.a) x31)))),(21,some (.bool ((s0.col (atI (hObjsF s0.a) x31)) == 0))),(22,some (.bool ((s0.col (atI (hObjsF s0.a) x31)) == 0)))] [0,3,4,5,40] #[true,true,true,true,true,true,true,true,true,true,true,true,true,true,true,true,true,true,true,true,true,true,true] (by rfl) hF130 (by kernel_rfl) (by kernel_rfl) (by exact ⟨fun wS hw=>run_idx rfl rfl rfl rfl rfl (inR_spec hc132).1 (inR_spec hc132).2 _,fun wS hw=>run_load1 rfl rfl rfl (hw.elim fun qs hw=>St.rhcol (k:=1) hw rfl hc132),fun wS hw=>by kernel_rfl,fun wS hw=>by kernel_rfl,trivial⟩) (fun _ _ _ _ _ h=>h) ⟨_,hS125⟩ (l':=[(40,.bool ((s0.col (atI (hObjsF s0.a) x31)) == 0)),(5,nI x31),(4,.slice (some ⟨g123,0,none⟩) (hObjsF s0.a).length c22),(3,.slice p39 L29.length c40),(0,nP b0 0)]) (by kernel_rfl) ?_
     intro a135 hF134; clear hF130
     refine any_done (by kernel_rfl) ?_
     exact thenN ⟨(s0.col (atI (hObjsF s0.a) x31)) == 0,hF134,hS125,hm133⟩
    rw [hc128] at hF126
    have hm136:=ifNot hc128 hm122; clear hm122
    refine any_many 12 [(11,none),(12,none),(13,none),(14,none),(15,none),(16,none),(17,none),(18,none),(19,none),(20,none),(21,none),(22,some (.bool false))] [0,3,4,5,40] #[true,true,true,true,true,true,true,true,true,true,true,true,true,true,true,true,true,true,true,true,true,true,true] (by rfl) hF126 (by kernel_rfl) (by kernel_rfl) (by exact (And.intro trivial (And.intro trivial (And.intro trivial (And.intro trivial (And.intro trivial (And.intro trivial (And.intro trivial (And.intro trivial (And.intro trivial (And.intro trivial (And.intro trivial (And.intro (fun wS hw=>by kernel_rfl) trivial))))))))))))) (fun _ _ _ _ _ h=>h) ⟨_,hS125⟩ (l':=[(40,.bool false),(5,nI x31),(4,.slice (some ⟨g123,0,none⟩) (hObjsF s0.a).length c22),(3,.slice p39 L29.length c40),(0,nP b0 0)]) (by kernel_rfl) ?_
    intro a138 hF137; clear hF126
    refine any_done (by kernel_rfl) ?_
    exact thenN ⟨false,hF137,hS125,hm136⟩
 rw [hc45] at hF43
 have hm139:=ifNot hc45 hm38; clear hm38
 refine ev_condF hF43 rfl rfl ?_
 refine wp_exit ?_
 refine thenE ?_
 refine thenE ?_
 refine blockE ?_
 refine thenN (wp_seq (wp_seq (wp_region_lit ?_)))
 refine ev_runK 1 hF43 [0,3,6] (l':=[(6,nI 0),(3,.slice p39 L29.length c40),(0,nP b0 0)]) (w':=w34) (by kernel_rfl) ?_
 intro a141 hF140; clear hF43
 refine wpList_nil ?_
 have hS142:=hS36.pick1.drop
 clear hS36
 refine thenN ?_
 refine wp_block ?_
 refine wp_loop_ghost (fun kI aI wI=>∃ (s143:HSt) (x144:Int),Fr 115 aI [(6,nI x144),(3,.slice p39 L29.length c40),(0,nP b0 0)]∧St w0 F0 (RHeapP b0 ab0 sb0 g0 cb0 s143::GonesP (.slice p39 L29.length c40) L29::ps) wI∧ref06_sweep.l8 L29 kI s143 x144=some (r0,t0)) k ⟨s0,0,hF140,hS142,hm139⟩ ?_
 rintro k145 a146 w147 ⟨s143,x144,hF148,hS149,hm150⟩
 clear hF140 hS142 hm139
 rcases k145 with _ | k145
 · cases hm150
 have hm151:ref06_sweep.l8b L29 (ref06_sweep.l8 L29 k145) s143 x144=some (r0,t0):=hm150
 clear hm150
 unfold ref06_sweep.l8b at hm151
 refine wp_seq (wp_seq (wp_region_lit ?_))
 refine ev_runK 4 hF148 [0,3,6,67] (l':=[(67,.bool (decide (x144<(L29.length:Int)))),(6,nI x144),(3,.slice p39 L29.length c40),(0,nP b0 0)]) (w':=w147) (by kernel_rfl) ?_
 intro a153 hF152; clear hF148
 refine wpList_nil (thenN ?_)
 cases hc154:(decide (x144<(L29.length:Int)))
 case true =>
  rw [hc154] at hF152
  have hm155:=ifYes hc154 hm151; clear hm151
  refine ev_condT hF152 rfl rfl ?_
  refine wp_skip ?_
  have hF156:=hF152.keep [0,3,6]
  clear hF152
  refine thenN (wp_seq ?_)
  refine wp_block ?_
  obtain ⟨hc157,hm158⟩:=ifTE hm155; clear hm155
  obtain ⟨g159,rfl⟩:=hp41.resolve_left (by have:=inR_spec hc157; omega)
  have hS160:=hS149.drew; clear hS149
  refine any_start (fun wS=>∃ qs,St w0 F0 (RHeapXP b0 ab0 sb0 g0 cb0::GonesP (.slice (some ⟨g159,0,none⟩) L29.length c40) L29::qs) wS) 10 #[false,false,false,false,false,false,false,false,false,false] (by kernel_rfl) (by kernel_rfl) (by kernel_rfl) ?_
  refine any_many 9 [(0,some (nP b0 0)),(1,some (nP b0 0)),(2,some (nP b0 0)),(3,some (nP ab0 0)),(4,some (.slice (some ⟨g159,0,none⟩) L29.length c40)),(5,some (nI x144)),(6,some (nP g159 ((x144.toNat * 4)))),(7,some (nP g159 ((x144.toNat * 4+1)))),(8,some (nI ((atG L29 x144).at')))] [0,3,6,73,78] #[true,true,true,true,true,true,true,true,true,false] (by rfl) hF156 (by kernel_rfl) (by kernel_rfl) (by exact ⟨fun wS hw=>by kernel_rfl,fun wS hw=>by kernel_rfl,fun wS hw=>by kernel_rfl,fun wS hw=>hw.elim fun qs hw=>run_loadV rfl rfl (run_loadS rfl rfl (St.rhA (k:=0) hw rfl)),fun wS hw=>by kernel_rfl,fun wS hw=>by kernel_rfl,fun wS hw=>run_idxX rfl rfl (by kernel_rfl) rfl rfl (inR_spec hc157).1 (inR_spec hc157).2 _,fun wS hw=>by kernel_rfl,fun wS hw=>hw.elim fun qs hw=>run_loadV rfl rfl (run_loadS rfl rfl (St.atGf (k:=1) hw rfl hc157).2.1),trivial⟩) (fun _ _ _ _ _ h=>h) ⟨_,St.toRX (hS160)⟩ (l':=[(78,nI ((atG L29 x144).at')),(73,nP ab0 0),(6,nI x144),(3,.slice (some ⟨g159,0,none⟩) L29.length c40),(0,nP b0 0)]) (by kernel_rfl) ?_
  intro a162 hF161; clear hF156
  refine any_call 9 #[true,true,true,true,true,true,true,true,true,true] 199 #[nP ab0 0,nI ((atG L29 x144).at')] hF161 rfl (by kernel_rfl) rfl rfl (by kernel_rfl) rfl (by kernel_rfl) (fun w=>by kernel_rfl) (by kernel_rfl) ?_
  obtain ⟨x163,s164,hx165,hm166⟩:=bind2E hm158; clear hm158
  refine (q_Free hS160 hx165).mono ?_
  rintro _ w167 ⟨rfl,hS169⟩; clear hS160
  refine ⟨⟨_,St.toRX (hS169)⟩,?_⟩
  intro a168 hF170; clear hF161
  refine any_done (by kernel_rfl) ?_
  have hF171:=hF170.keep [0,3,6]
  clear hF170
  refine blockN ?_
  refine thenN (wp_region_lit ?_)
  refine ev_runK 3 hF171 [0,3,6] (l':=[(6,nI (IntKind.i64.wrap (x144+1))),(3,.slice (some ⟨g159,0,none⟩) L29.length c40),(0,nP b0 0)]) (w':=w167) (by kernel_rfl) ?_
  intro a173 hF172; clear hF171
  refine wpList_nil ?_
  exact thenN ⟨k145,Nat.lt_succ_self _,s164,IntKind.i64.wrap (x144+1),hF172,hS169,hm166⟩
 rw [hc154] at hF152
 have hm174:=ifNot hc154 hm151; clear hm151
 refine ev_condF hF152 rfl rfl ?_
 refine wp_exit ?_
 refine thenE ?_
 refine thenE ?_
 refine blockE ?_
 refine thenN (wp_seq (wp_region_lit ?_))
 refine ev_runs 3 hF152 (l':=[(82,nP b0 4),(81,nP b0 0),(80,nP b0 0),(67,.bool false),(6,nI x144),(3,.slice p39 L29.length c40),(0,nP b0 0)]) (w':=w147) (by kernel_rfl) ?_
 intro a176 hF175; clear hF152
 refine ev_one (nI (s143.sp)) w147 hF175 (by kernel_rfl) rfl (by kernel_rfl) (run_loadV rfl rfl (run_loadS rfl rfl (St.rhsp (k:=0) hS149 rfl))) (l':=[(83,nI (s143.sp)),(82,nP b0 4),(81,nP b0 0),(80,nP b0 0),(67,.bool false),(6,nI x144),(3,.slice p39 L29.length c40),(0,nP b0 0)]) (by kernel_rfl) ?_
 intro a178 hF177; clear hF175
 refine ev_runs 3 hF177 (l':=[(86,nP b0 4),(85,nP b0 0),(84,nI (IntKind.i64.wrap (s143.sp+1))),(83,nI (s143.sp)),(82,nP b0 4),(81,nP b0 0),(80,nP b0 0),(67,.bool false),(6,nI x144),(3,.slice p39 L29.length c40),(0,nP b0 0)]) (w':=w147) (by kernel_rfl) ?_
 intro a180 hF179; clear hF177
 obtain ⟨ok181,gl182,gc183,cc184,hS185⟩:=St.openRH2 hS149; clear hS149
 refine ev_store (nI (IntKind.i64.wrap (s143.sp+1))) #[nP ab0 0,.slice (some ⟨cb0,0,none⟩) (s143.a.c.length) (s143.a.c.length),nP gl182 0,nI (s143.ph),nI (IntKind.i64.wrap (s143.sp+1)),nI (s143.cy)] hF179 (by kernel_rfl) rfl rfl rfl rfl (by kernel_rfl) hS185 (by kernel_rfl) (by kernel_rfl) (by kernel_rfl) (l':=[(86,nP b0 4),(85,nP b0 0),(84,nI (IntKind.i64.wrap (s143.sp+1))),(83,nI (s143.sp)),(82,nP b0 4),(81,nP b0 0),(80,nP b0 0),(67,.bool false),(6,nI x144),(3,.slice p39 L29.length c40),(0,nP b0 0)]) (by kernel_rfl) ?_
 intro w186 a187 hS188 hF189; clear hF179 hS185
 refine wpList_nil ?_
 have hF190:=hF189.keep [0,3]
 clear hF189
 refine thenN (wp_seq (wp_seq ?_))
 have hS191:=hS188.drew; clear hS188
 refine any_start (fun wS=>∃ qs,St w0 F0 (BlkP b0 83 #[nP ab0 0,.slice (some ⟨cb0,0,none⟩) (s143.a.c.length) (s143.a.c.length),nP gl182 0,nI (s143.ph),nI (IntKind.i64.wrap (s143.sp+1)),nI (s143.cy)]::RRestP ab0 sb0 g0 cb0 gl182 gc183 cc184 s143::qs) wS) 16 #[false,false,false,false,false,false,false,false,false,false,false,false,false,false,false,false] (by kernel_rfl) (by kernel_rfl) (by kernel_rfl) ?_
 refine any_many 16 [(0,some (nP b0 0)),(1,some (nP b0 0)),(2,some (nP b0 4)),(3,some (nI (IntKind.i64.wrap (s143.sp+1)))),(4,some (nP b0 0)),(5,some (nP b0 0)),(6,some (nP b0 0)),(7,some (nP ab0 0)),(8,some (nP ab0 0)),(9,some (nP ab0 0)),(10,some (nP sb0 0)),(11,some (nP sb0 0)),(12,some (nP sb0 0)),(13,some (.slice (some ⟨gc183,0,none⟩) (s143.a.l.length) (cc184))),(14,some (nI (((s143.a.l.length:Nat):Int)))),(15,some (.bool (decide ((IntKind.i64.wrap (s143.sp+1)) ≥ ((s143.a.l.length:Nat):Int)))))] [0,3,102] #[true,true,true,true,true,true,true,true,true,true,true,true,true,true,true,true] (by rfl) hF190 (by kernel_rfl) (by kernel_rfl) (by exact ⟨fun wS hw=>by kernel_rfl,fun wS hw=>by kernel_rfl,fun wS hw=>by kernel_rfl,fun wS hw=>hw.elim fun qs hw=>run_loadV rfl rfl (run_loadS rfl rfl (hw.cell 0 rfl 4 rfl)),fun wS hw=>by kernel_rfl,fun wS hw=>by kernel_rfl,fun wS hw=>by kernel_rfl,fun wS hw=>hw.elim fun qs hw=>run_loadV rfl rfl (run_loadS rfl rfl (hw.cell 0 rfl 0 rfl)),fun wS hw=>by kernel_rfl,fun wS hw=>by kernel_rfl,fun wS hw=>hw.elim fun qs hw=>run_loadV rfl rfl (run_loadS rfl rfl (St.rrA (k:=1) hw rfl)),fun wS hw=>by kernel_rfl,fun wS hw=>by kernel_rfl,fun wS hw=>hw.elim fun qs hw=>run_loadV rfl rfl (run_loadS rfl rfl (St.rrC (k:=1) hw rfl)),fun wS hw=>by kernel_rfl,fun wS hw=>by kernel_rfl,trivial⟩) (fun _ _ _ _ _ h=>h) ⟨_,hS191⟩ (l':=[(102,.bool (decide ((IntKind.i64.wrap (s143.sp+1)) ≥ ((s143.a.l.length:Nat):Int)))),(3,.slice p39 L29.length c40),(0,nP b0 0)]) (by kernel_rfl) ?_
 intro a193 hF192; clear hF190
 refine any_done (by kernel_rfl) ?_
 refine thenN ?_
 refine joinQ (fun aI wI=>∃ (x194:Int) (x195:Int),Fr 115 aI [(3,.slice p39 L29.length c40)]∧St w0 F0 (BlkP b0 83 #[nP ab0 0,.slice (some ⟨cb0,0,none⟩) (s143.a.c.length) (s143.a.c.length),nP gl182 0,nI x194,nI (IntKind.i64.wrap (s143.sp+1)),nI x195]::RRestP ab0 sb0 g0 cb0 gl182 gc183 cc184 s143::GonesP (.slice p39 L29.length c40) L29::ps) wI∧ref06_sweep.j9 L29 s143 x194 x195=some (r0,t0)) ?_ ?_
 rotate_left
 · rintro a197 w198 ⟨x194,x195,hF199,hS200,hm201⟩
   clear hF192 hS191 hm174
   unfold ref06_sweep.j9 at hm201
   refine thenN (wp_seq (wp_region_lit ?_))
   refine ev_runK 2 hF199 [2] (l':=[(2,.slice p39 L29.length c40)]) (w':=w198) (by kernel_rfl) ?_
   intro a204 hF203; clear hF199
   refine wpList_nil (thenN ?_)
   refine wp_ret ?_
   obtain ⟨hc205,hm206⟩:=ifTE hm201; clear hm201
   have hS207:=St.closeRH2 hS200 ok181 hc205; clear hS200
   simp only [Option.some.injEq,Prod.mk.injEq] at hm206
   obtain ⟨rfl,rfl⟩:=hm206
   refine ev_ret hF203 [2] (.slice p39 L29.length c40) rfl rfl rfl ?_
   exact ⟨_,rfl,hS207⟩
 · skip
   cases hc210:(decide ((IntKind.i64.wrap (s143.sp+1)) ≥ ((s143.a.l.length:Nat):Int)))
   case true =>
    rw [hc210] at hF192
    have hm211:=ifYes hc210 hm174; clear hm174
    refine ev_condT hF192 rfl rfl ?_
    refine wp_region_lit ?_
    refine ev_runs 5 hF192 (l':=[(107,nP b0 5),(106,nP b0 0),(105,nP b0 0),(104,nP b0 0),(103,nP b0 0),(102,.bool true),(3,.slice p39 L29.length c40),(0,nP b0 0)]) (w':=w186.drew) (by kernel_rfl) ?_
    intro a213 hF212; clear hF192
    refine ev_one (nI (s143.cy)) (w186.drew) hF212 (by kernel_rfl) rfl (by kernel_rfl) (run_loadV rfl rfl (run_loadS rfl rfl (hS191.cell 0 rfl 5 rfl))) (l':=[(108,nI (s143.cy)),(107,nP b0 5),(106,nP b0 0),(105,nP b0 0),(104,nP b0 0),(103,nP b0 0),(102,.bool true),(3,.slice p39 L29.length c40),(0,nP b0 0)]) (by kernel_rfl) ?_
    intro a215 hF214; clear hF212
    refine ev_runs 3 hF214 (l':=[(111,nP b0 3),(110,nP b0 0),(109,nI (IntKind.i64.wrap (s143.cy+1))),(108,nI (s143.cy)),(107,nP b0 5),(106,nP b0 0),(105,nP b0 0),(104,nP b0 0),(103,nP b0 0),(102,.bool true),(3,.slice p39 L29.length c40),(0,nP b0 0)]) (w':=w186.drew) (by kernel_rfl) ?_
    intro a217 hF216; clear hF214
    refine ev_store (nI 0) #[nP ab0 0,.slice (some ⟨cb0,0,none⟩) (s143.a.c.length) (s143.a.c.length),nP gl182 0,nI 0,nI (IntKind.i64.wrap (s143.sp+1)),nI (s143.cy)] hF216 (by kernel_rfl) rfl rfl rfl rfl (by kernel_rfl) hS191 (by kernel_rfl) (by kernel_rfl) (by kernel_rfl) (l':=[(111,nP b0 3),(110,nP b0 0),(109,nI (IntKind.i64.wrap (s143.cy+1))),(108,nI (s143.cy)),(107,nP b0 5),(106,nP b0 0),(105,nP b0 0),(104,nP b0 0),(103,nP b0 0),(102,.bool true),(3,.slice p39 L29.length c40),(0,nP b0 0)]) (by kernel_rfl) ?_
    intro w218 a219 hS220 hF221; clear hF216 hS191
    refine ev_runs 2 hF221 (l':=[(113,nP b0 5),(112,nP b0 0),(111,nP b0 3),(110,nP b0 0),(109,nI (IntKind.i64.wrap (s143.cy+1))),(108,nI (s143.cy)),(107,nP b0 5),(106,nP b0 0),(105,nP b0 0),(104,nP b0 0),(103,nP b0 0),(102,.bool true),(3,.slice p39 L29.length c40),(0,nP b0 0)]) (w':=w218) (by kernel_rfl) ?_
    intro a223 hF222; clear hF221
    refine ev_store (nI (IntKind.i64.wrap (s143.cy+1))) #[nP ab0 0,.slice (some ⟨cb0,0,none⟩) (s143.a.c.length) (s143.a.c.length),nP gl182 0,nI 0,nI (IntKind.i64.wrap (s143.sp+1)),nI (IntKind.i64.wrap (s143.cy+1))] hF222 (by kernel_rfl) rfl rfl rfl rfl (by kernel_rfl) hS220 (by kernel_rfl) (by kernel_rfl) (by kernel_rfl) (l':=[(113,nP b0 5),(112,nP b0 0),(111,nP b0 3),(110,nP b0 0),(109,nI (IntKind.i64.wrap (s143.cy+1))),(108,nI (s143.cy)),(107,nP b0 5),(106,nP b0 0),(105,nP b0 0),(104,nP b0 0),(103,nP b0 0),(102,.bool true),(3,.slice p39 L29.length c40),(0,nP b0 0)]) (by kernel_rfl) ?_
    intro w224 a225 hS226 hF227; clear hF222 hS220
    refine wpList_nil ?_
    have hF228:=hF227.keep [3]
    clear hF227
    exact thenN ⟨0,IntKind.i64.wrap (s143.cy+1),hF228,hS226,hm211⟩
   rw [hc210] at hF192
   have hm229:=ifNot hc210 hm174; clear hm174
   refine ev_condF hF192 rfl rfl ?_
   refine wp_skip ?_
   have hF230:=hF192.keep [3]
   clear hF192
   exact thenN ⟨s143.ph,s143.cy,hF230,hS191,hm229⟩
def ref06_Step.m (k:Nat) (s0:HSt):Option (List Gn×HSt):=(if (s0.ph == 1) then bind2 (ref06_mark.m k s0) fun L17 s18=>some (L17,s18) else (if (s0.ph == 2) then bind2 (ref06_sweep.m k s0) fun L42 s43=>some (L42,s43) else some ([],s0)))
set_option maxRecDepth 100000 in
set_option maxHeartbeats 1500000 in
theorem ref06_Step.ok {w0 w:World} {F0:List Nat} {ps:List Piece} {k:Nat} {b0 ab0 sb0 g0 cb0:Nat} {s0:HSt} {r0:List Gn} {t0:HSt} (hS:St w0 F0 (RHeapP b0 ab0 sb0 g0 cb0 s0::ps) w) (hm:ref06_Step.m k s0=some (r0,t0)) :
    Calls Tryz.prog 59 #[nP b0 0] w fun e w'=>∃ vr0,e=.returned (vr0)∧St w0 F0 (RHeapP b0 ab0 sb0 g0 cb0 t0::GonesP vr0 r0::ps) w':=by
 refine ev_enterL 15 [nP b0 0] Tryz.func59 rfl rfl (by simp) ?_
 intro a hF
 have hF0:Fr 15 a [(0,nP b0 0)]:=hF; clear hF
 unfold ref06_Step.m at hm
 refine wp_seq (wp_region_lit ?_)
 have hS2:St w0 F0 (GonesP (.slice none 0 0) []::RHeapP b0 ab0 sb0 g0 cb0 s0::ps) w:=St.nilG hS
 refine ev_runK 1 hF0 [0] (l':=[(0,nP b0 0)]) (w':=w) (by kernel_rfl) ?_
 intro a4 hF3; clear hF0
 refine wpList_nil ?_
 have hS5:=hS2.drop
 clear hS2
 refine thenN (wp_seq (wp_seq (wp_region_lit ?_)))
 refine ev_runs 3 hF3 (l':=[(5,nP b0 3),(4,nP b0 0),(3,nP b0 0),(0,nP b0 0)]) (w':=w) (by kernel_rfl) ?_
 intro a7 hF6; clear hF3
 refine ev_one (nI (s0.ph)) w hF6 (by kernel_rfl) rfl (by kernel_rfl) (run_loadV rfl rfl (run_loadS rfl rfl (St.rhsee (k:=0) hS5 rfl).2.2.1)) (l':=[(6,nI (s0.ph)),(5,nP b0 3),(4,nP b0 0),(3,nP b0 0),(0,nP b0 0)]) (by kernel_rfl) ?_
 intro a9 hF8; clear hF6
 refine wpList_nil ?_
 have hF10:=hF8.keep [0,6]
 clear hF8
 refine thenN ?_
 refine wp_block ?_
 refine wp_seq (wp_region_lit ?_)
 refine ev_runK 2 hF10 [0,6,7] (l':=[(7,.bool (s0.ph == 1)),(6,nI (s0.ph)),(0,nP b0 0)]) (w':=w) (by kernel_rfl) ?_
 intro a12 hF11; clear hF10
 refine wpList_nil (thenN ?_)
 cases hc13:(s0.ph == 1)
 case true =>
  rw [hc13] at hF11
  have hm14:=ifYes hc13 hm; clear hm
  refine ev_condT hF11 rfl rfl ?_
  refine wp_seq (wp_region_lit ?_)
  refine ev_runs 1 hF11 (l':=[(9,nP b0 0),(7,.bool true),(6,nI (s0.ph)),(0,nP b0 0)]) (w':=w) (by kernel_rfl) ?_
  intro a16 hF15; clear hF11
  refine ev_call 139 #[nP b0 0] hF15 rfl rfl (by kernel_rfl) rfl (by kernel_rfl) (fun w=>by kernel_rfl) ?_
  obtain ⟨L17,s18,hx19,hm20⟩:=bind2E hm14; clear hm14
  refine (ref06_mark.ok hS5 hx19).mono ?_
  rintro _ w21 ⟨z25,rfl,hS23⟩ a22 hF24; clear hF15 hS5
  obtain ⟨hl30,p27,c28,rfl,hp29⟩:=St.shapeG (k:=1) hS23 rfl
  refine ev_runK 1 hF24 [2] (l':=[(2,.slice p27 L17.length c28)]) (w':=w21) (by kernel_rfl) ?_
  intro a32 hF31; clear hF24
  refine wpList_nil (thenN ?_)
  refine wp_ret ?_
  refine blockR ?_
  refine thenR ?_
  simp only [Option.some.injEq,Prod.mk.injEq] at hm20
  obtain ⟨rfl,rfl⟩:=hm20
  refine ev_ret hF31 [2] (.slice p27 L17.length c28) rfl rfl rfl ?_
  exact ⟨_,rfl,hS23⟩
 rw [hc13] at hF11
 have hm35:=ifNot hc13 hm; clear hm
 refine ev_condF hF11 rfl rfl ?_
 refine wp_seq (wp_region_lit ?_)
 refine ev_runK 2 hF11 [0,11] (l':=[(11,.bool (s0.ph == 2)),(0,nP b0 0)]) (w':=w) (by kernel_rfl) ?_
 intro a37 hF36; clear hF11
 refine wpList_nil (thenN ?_)
 cases hc38:(s0.ph == 2)
 case true =>
  rw [hc38] at hF36
  have hm39:=ifYes hc38 hm35; clear hm35
  refine ev_condT hF36 rfl rfl ?_
  refine wp_seq (wp_region_lit ?_)
  refine ev_runs 1 hF36 (l':=[(13,nP b0 0),(11,.bool true),(0,nP b0 0)]) (w':=w) (by kernel_rfl) ?_
  intro a41 hF40; clear hF36
  refine ev_call 140 #[nP b0 0] hF40 rfl rfl (by kernel_rfl) rfl (by kernel_rfl) (fun w=>by kernel_rfl) ?_
  obtain ⟨L42,s43,hx44,hm45⟩:=bind2E hm39; clear hm39
  refine (ref06_sweep.ok hS5 hx44).mono ?_
  rintro _ w46 ⟨z50,rfl,hS48⟩ a47 hF49; clear hF40 hS5
  obtain ⟨hl55,p52,c53,rfl,hp54⟩:=St.shapeG (k:=1) hS48 rfl
  refine ev_runK 1 hF49 [2] (l':=[(2,.slice p52 L42.length c53)]) (w':=w46) (by kernel_rfl) ?_
  intro a57 hF56; clear hF49
  refine wpList_nil (thenN ?_)
  refine wp_ret ?_
  refine blockR ?_
  refine thenR ?_
  simp only [Option.some.injEq,Prod.mk.injEq] at hm45
  obtain ⟨rfl,rfl⟩:=hm45
  refine ev_ret hF56 [2] (.slice p52 L42.length c53) rfl rfl rfl ?_
  exact ⟨_,rfl,hS48⟩
 rw [hc38] at hF36
 have hm60:=ifNot hc38 hm35; clear hm35
 refine ev_condF hF36 rfl rfl ?_
 refine wp_skip ?_
 have hF61:=hF36.keep []
 clear hF36
 refine blockN ?_
 refine thenN (wp_seq (wp_region_lit ?_))
 have hS63:St w0 F0 (GonesP (.slice none 0 0) []::RHeapP b0 ab0 sb0 g0 cb0 s0::ps) w:=St.nilG hS5
 clear hS5
 refine ev_runs 1 hF61 (l':=[(2,.slice none 0 0)]) (w':=w) (by kernel_rfl) ?_
 intro a65 hF64; clear hF61
 refine wpList_nil (thenN ?_)
 refine wp_ret ?_
 have hS66:=hS63.pick1
 clear hS63
 simp only [Option.some.injEq,Prod.mk.injEq] at hm60
 obtain ⟨rfl,rfl⟩:=hm60
 refine ev_ret hF64 [2] (.slice none 0 0) rfl rfl rfl ?_
 exact ⟨_,rfl,hS66⟩
end Go.Proofs.YtffnjpapggidlaaGreat
