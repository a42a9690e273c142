/- GView G11 GViewWords VwBL VwB0 -/
import Derived.Test.YtjdlnmbfomojdaaKPrimV
import Derived.Test.YtjdlnmbfomojdaaKGHelp
import Derived.Deep.LoopGhost
import Derived.KernelRfl
namespace Go.Proofs.Ytjdlnmbfomojdaa
open Go.RowKit
set_option linter.unusedVariables false
def view_Gor.l2b (s0:HSt) (L10:List Int) (x48:Int) (x49:Int) (x50:Int) (rec69:Int→Int→Int→Int→Int→Int→Int→Option (Gr×Int×HSt)) (x60:Int) (x61:Int) (x62:Int) (x63:Int) (x64:Int) (x65:Int) (x66:Int):Option (Gr×Int×HSt):=(if (decide (x66<6)) then (if (inR (IntKind.i64.wrap (3+x66)) L10.length) then (if (x66 == 0) then rec69 (atI L10 (IntKind.i64.wrap (3+x66))) x61 x62 x63 x64 x65 (IntKind.i64.wrap (x66+1)) else (if (x66 == 1) then rec69 x60 (atI L10 (IntKind.i64.wrap (3+x66))) x62 x63 x64 x65 (IntKind.i64.wrap (x66+1)) else (if (x66 == 2) then rec69 x60 x61 (atI L10 (IntKind.i64.wrap (3+x66))) x63 x64 x65 (IntKind.i64.wrap (x66+1)) else (if (x66 == 3) then rec69 x60 x61 x62 (atI L10 (IntKind.i64.wrap (3+x66))) x64 x65 (IntKind.i64.wrap (x66+1)) else (if (x66 == 4) then rec69 x60 x61 x62 x63 (atI L10 (IntKind.i64.wrap (3+x66))) x65 (IntKind.i64.wrap (x66+1)) else (if (x66 == 5) then rec69 x60 x61 x62 x63 x64 (atI L10 (IntKind.i64.wrap (3+x66))) (IntKind.i64.wrap (x66+1)) else none)))))) else none) else (if (inR (9:Int) L10.length) then bind1 (pAt (atI L10 (9:Int))) fun x174=>some ((⟨x48,x49,x50,x60,x61,x62,x63,x64,x65,x174⟩:Gr),0,s0) else none))
def view_Gor.l2 (s0:HSt) (L10:List Int) (x48:Int) (x49:Int) (x50:Int):Nat→Int→Int→Int→Int→Int→Int→Int→Option (Gr×Int×HSt)
  | 0=>fun _ _ _ _ _ _ _=>none
  | kI+1=>view_Gor.l2b s0 L10 x48 x49 x50 (view_Gor.l2 s0 L10 x48 x49 x50 kI)
def view_Gor.j1 (s0:HSt) (k:Nat) (L10:List Int) (x48:Int) (x49:Int) (x50:Int):Option (Gr×Int×HSt):=view_Gor.l2 s0 L10 x48 x49 x50 k 0 0 0 0 0 0 0
def view_Gor.m (k:Nat) (s0:HSt) (i1:Int):Option (Gr×Int×HSt):=bind2 (pSeen4 i1 s0) fun L10 x11=>(if (x11 != 0) then some ((⟨0,0,0,0,0,0,0,0,0,0⟩:Gr),x11,s0) else (if (inR (0:Int) L10.length) then (if (inR (1:Int) L10.length) then (if (inR (2:Int) L10.length) then bind1 (pNum (atI L10 (0:Int))) fun x215=>bind1 (pNum (atI L10 (1:Int))) fun x222=>bind1 (pNum (atI L10 (2:Int))) fun x229=>view_Gor.j1 s0 k L10 x215 x222 x229 else none) else none) else none))
set_option maxRecDepth 100000 in
set_option maxHeartbeats 1500000 in
theorem view_Gor.ok {w0 w:World} {F0:List Nat} {ps:List Piece} {k:Nat} {b0 ab0:Nat} {s0:HSt} {i1:Int} {r0:Gr} {r1:Int} {t0:HSt} (hS:St w0 F0 (HeapP b0 ab0 s0::ps) w) (hm:view_Gor.m k s0 i1=some (r0,r1,t0)) :
    Calls Try.prog 30 #[nP b0 0,nI i1] w fun e w'=>e=.returned (.tuple #[.agg #[nI (r0.id),nI (r0.status),nI (r0.pc),nI (r0.a),nI (r0.b),nI (r0.c),nI (r0.d),nI (r0.e),nI (r0.f),nI (r0.sudogs)],.int .i64 r1])∧St w0 F0 (HeapP b0 ab0 t0::ps) w':=by
 refine ev_enterL 51 [nP b0 0,nI i1] Try.func30 rfl rfl (by simp) ?_
 intro a hF
 have hF0:Fr 51 a [(0,nP b0 0),(1,nI i1)]:=hF; clear hF
 unfold view_Gor.m at hm
 refine wp_seq (wp_region_lit ?_)
 refine ev_runs 1 hF0 (l':=[(4,nB w),(0,nP b0 0),(1,nI i1)]) (w':=w.alloc (.cells #[nI 0,nI 0,nI 0,nI 0,nI 0,nI 0,nI 0,nI 0,nI 0,nI 0] 55)) (by kernel_rfl) ?_
 intro a2 hF1; clear hF0
 have hS4:St w0 F0 (BlkP (w.heap.size) 55 #[nI 0,nI 0,nI 0,nI 0,nI 0,nI 0,nI 0,nI 0,nI 0,nI 0]::HeapP b0 ab0 s0::ps) (w.alloc (.cells #[nI 0,nI 0,nI 0,nI 0,nI 0,nI 0,nI 0,nI 0,nI 0,nI 0] 55)):=St.new hS #[nI 0,nI 0,nI 0,nI 0,nI 0,nI 0,nI 0,nI 0,nI 0,nI 0] 55
 refine ev_runK 1 hF1 [0,1,4] (l':=[(4,nB w),(0,nP b0 0),(1,nI i1)]) (w':=w.alloc (.cells #[nI 0,nI 0,nI 0,nI 0,nI 0,nI 0,nI 0,nI 0,nI 0,nI 0] 55)) (by kernel_rfl) ?_
 intro a6 hF5; clear hF1
 refine wpList_nil (thenN (wp_seq (wp_region_lit ?_)))
 refine ev_runs 2 hF5 (l':=[(12,nI i1),(11,nP b0 0),(4,nB w),(0,nP b0 0),(1,nI i1)]) (w':=w.alloc (.cells #[nI 0,nI 0,nI 0,nI 0,nI 0,nI 0,nI 0,nI 0,nI 0,nI 0] 55)) (by kernel_rfl) ?_
 intro a8 hF7; clear hF5
 have hS9:=hS4.pick1
 clear hS4
 refine ev_call 68 #[nP b0 0,nI i1,nI 4] hF7 rfl rfl (by kernel_rfl) rfl (by kernel_rfl) (fun w=>by kernel_rfl) ?_
 obtain ⟨L10,x11,hx12,hm13⟩:=bind2E hm; clear hm
 refine (p_seen4 hS9 hx12).mono ?_
 rintro _ w14 ⟨z18,rfl,hS16⟩ a15 hF17; clear hF7 hS9
 obtain ⟨hl23,p20,c21,rfl,hp22⟩:=St.shape hS16 1 rfl
 refine ev_runK 5 hF17 [4,6,7] (l':=[(7,nI x11),(6,.slice p20 L10.length c21),(4,nB w)]) (w':=w14) (by kernel_rfl) ?_
 intro a25 hF24; clear hF17
 refine wpList_nil (thenN (wp_seq (wp_seq (wp_region_lit ?_))))
 refine ev_runK 2 hF24 [4,6,7,17] (l':=[(17,.bool (x11 != 0)),(7,nI x11),(6,.slice p20 L10.length c21),(4,nB w)]) (w':=w14) (by kernel_rfl) ?_
 intro a27 hF26; clear hF24
 refine wpList_nil (thenN ?_)
 cases hc28:(x11 != 0)
 case true =>
  rw [hc28] at hF26
  have hm29:=ifYes hc28 hm13; clear hm13
  refine ev_condT hF26 rfl rfl ?_
  refine wp_seq (wp_region_lit ?_)
  refine ev_runs 2 hF26 (l':=[(19,nI x11),(18,.agg #[nI 0,nI 0,nI 0,nI 0,nI 0,nI 0,nI 0,nI 0,nI 0,nI 0]),(17,.bool true),(7,nI x11),(6,.slice p20 L10.length c21),(4,nB w)]) (w':=w14) (by kernel_rfl) ?_
  intro a31 hF30; clear hF26
  have hS32:=hS16.pick2
  clear hS16
  refine ev_store (.agg #[nI 0,nI 0,nI 0,nI 0,nI 0,nI 0,nI 0,nI 0,nI 0,nI 0]) #[nI 0,nI 0,nI 0,nI 0,nI 0,nI 0,nI 0,nI 0,nI 0,nI 0] hF30 (by kernel_rfl) rfl rfl rfl rfl (by kernel_rfl) hS32 (by kernel_rfl) (by kernel_rfl) (by kernel_rfl) (l':=[(19,nI x11),(18,.agg #[nI 0,nI 0,nI 0,nI 0,nI 0,nI 0,nI 0,nI 0,nI 0,nI 0]),(17,.bool true),(7,nI x11),(6,.slice p20 L10.length c21),(4,nB w)]) (by kernel_rfl) ?_
  intro w33 a34 hS35 hF36; clear hF30 hS32
  refine ev_runK 1 hF36 [4,5] (l':=[(5,nI x11),(4,nB w)]) (w':=w33) (by kernel_rfl) ?_
  intro a38 hF37; clear hF36
  refine wpList_nil ?_
  have hS39:=hS35.pick2.drop
  clear hS35
  refine thenN ?_
  refine wp_ret ?_
  refine thenR ?_
  have hS40:=hS39.pick1
  clear hS39
  simp only [Option.some.injEq,Prod.mk.injEq] at hm29
  obtain ⟨rfl,rfl,rfl⟩:=hm29
  refine ev_retC hF37 _ [.agg #[nI 0,nI 0,nI 0,nI 0,nI 0,nI 0,nI 0,nI 0,nI 0,nI 0],nI x11] (.tuple #[.agg #[nI 0,nI 0,nI 0,nI 0,nI 0,nI 0,nI 0,nI 0,nI 0,nI 0],nI x11]) rfl ⟨⟨rfl,_,rfl,(run_loadA (cs:=[nI 0,nI 0,nI 0,nI 0,nI 0,nI 0,nI 0,nI 0,nI 0,nI 0]) rfl rfl (by kernel_rfl) (blk_cells hS40 1 rfl rfl))⟩,⟨rfl,rfl⟩,trivial⟩ rfl ?_
  have hS44:=hS40.pick1.drop
  clear hS40
  exact ⟨rfl,hS44⟩
 rw [hc28] at hF26
 have hm45:=ifNot hc28 hm13; clear hm13
 refine ev_condF hF26 rfl rfl ?_
 refine wp_skip ?_
 have hF46:=hF26.keep [4,6]
 clear hF26
 refine thenN (wp_seq ?_)
 refine joinQ (fun aI wI=>∃ (g47:Nat) (x48:Int) (x49:Int) (x50:Int),Fr 51 aI [(8,nP g47 0),(6,.slice p20 L10.length c21),(4,nB w)]∧St w0 F0 (BlkP g47 55 #[nI x48,nI x49,nI x50,nI 0,nI 0,nI 0,nI 0,nI 0,nI 0,nI (-1)]::RowP (.slice p20 L10.length c21) L10::HeapP b0 ab0 s0::BlkP (w.heap.size) 55 #[nI 0,nI 0,nI 0,nI 0,nI 0,nI 0,nI 0,nI 0,nI 0,nI 0]::ps) wI∧view_Gor.j1 s0 k L10 x48 x49 x50=some (r0,r1,t0)) ?_ ?_
 rotate_left
 · rintro a52 w53 ⟨g47,x48,x49,x50,hF54,hS55,hm56⟩
   clear hF46 hS16 hm45
   unfold view_Gor.j1 at hm56
   refine thenN (wp_seq (wp_seq (wp_region_lit ?_)))
   refine ev_runs 1 hF54 (l':=[(33,nI 0),(8,nP g47 0),(6,.slice p20 L10.length c21),(4,nB w)]) (w':=w53) (by kernel_rfl) ?_
   intro a59 hF58; clear hF54
   refine wpList_nil (thenN ?_)
   refine wp_block ?_
   refine wp_loop_ghost (fun kI aI wI=>∃ (x60:Int) (x61:Int) (x62:Int) (x63:Int) (x64:Int) (x65:Int) (x66:Int),Fr 51 aI [(33,nI x66),(8,nP g47 0),(6,.slice p20 L10.length c21),(4,nB w)]∧St w0 F0 (BlkP g47 55 #[nI x48,nI x49,nI x50,nI x60,nI x61,nI x62,nI x63,nI x64,nI x65,nI (-1)]::RowP (.slice p20 L10.length c21) L10::HeapP b0 ab0 s0::BlkP (w.heap.size) 55 #[nI 0,nI 0,nI 0,nI 0,nI 0,nI 0,nI 0,nI 0,nI 0,nI 0]::ps) wI∧view_Gor.l2 s0 L10 x48 x49 x50 kI x60 x61 x62 x63 x64 x65 x66=some (r0,r1,t0)) k ⟨0,0,0,0,0,0,0,hF58,hS55,hm56⟩ ?_
   rintro k67 a68 w69 ⟨x60,x61,x62,x63,x64,x65,x66,hF70,hS71,hm72⟩
   clear hF58 hS55 hm56
   rcases k67 with _ | k67
   · cases hm72
   have hm73:view_Gor.l2b s0 L10 x48 x49 x50 (view_Gor.l2 s0 L10 x48 x49 x50 k67) x60 x61 x62 x63 x64 x65 x66=some (r0,r1,t0):=hm72
   clear hm72
   unfold view_Gor.l2b at hm73
   refine wp_seq (wp_region_lit ?_)
   refine ev_runs 1 hF70 (l':=[(34,.bool (decide (x66<6))),(33,nI x66),(8,nP g47 0),(6,.slice p20 L10.length c21),(4,nB w)]) (w':=w69) (by kernel_rfl) ?_
   intro a75 hF74; clear hF70
   refine wpList_nil (thenN (wp_seq ?_))
   cases hc76:(decide (x66<6))
   case true =>
    rw [hc76] at hF74
    have hm77:=ifYes hc76 hm73; clear hm73
    refine ev_condT hF74 rfl rfl ?_
    refine wp_skip ?_
    have hF78:=hF74.keep [4,6,8,33]
    clear hF74
    refine thenN (wp_seq ?_)
    refine wp_block ?_
    refine wp_seq (wp_region_lit ?_)
    refine ev_runK 2 hF78 [4,6,8,9,33] (l':=[(9,nI x66),(33,nI x66),(8,nP g47 0),(6,.slice p20 L10.length c21),(4,nB w)]) (w':=w69) (by kernel_rfl) ?_
    intro a80 hF79; clear hF78
    refine wpList_nil (thenN (wp_region_lit ?_))
    refine ev_runs 4 hF79 (l':=[(39,nI (IntKind.i64.wrap (3+x66))),(38,nI x66),(37,.slice p20 L10.length c21),(36,nI x66),(9,nI x66),(33,nI x66),(8,nP g47 0),(6,.slice p20 L10.length c21),(4,nB w)]) (w':=w69) (by kernel_rfl) ?_
    intro a82 hF81; clear hF79
    obtain ⟨hc83,hm84⟩:=ifTE hm77; clear hm77
    obtain ⟨g85,rfl⟩:=hp22.resolve_left (by have:=inR_spec hc83; omega)
    refine ev_one (nP g85 ((IntKind.i64.wrap (3+x66)).toNat)) w69 hF81 (by kernel_rfl) rfl (by kernel_rfl) (run_idx rfl rfl rfl rfl rfl (inR_spec hc83).1 (inR_spec hc83).2 _) (l':=[(40,nP g85 ((IntKind.i64.wrap (3+x66)).toNat)),(39,nI (IntKind.i64.wrap (3+x66))),(38,nI x66),(37,nS g85 L10 c21),(36,nI x66),(9,nI x66),(33,nI x66),(8,nP g47 0),(6,nS g85 L10 c21),(4,nB w)]) (by kernel_rfl) ?_
    intro a87 hF86; clear hF81
    refine ev_one (nI (atI L10 (IntKind.i64.wrap (3+x66)))) w69 hF86 (by kernel_rfl) rfl (by kernel_rfl) (run_load1 rfl rfl rfl (hS71.atI 1 rfl hc83)) (l':=[(41,nI (atI L10 (IntKind.i64.wrap (3+x66)))),(40,nP g85 ((IntKind.i64.wrap (3+x66)).toNat)),(39,nI (IntKind.i64.wrap (3+x66))),(38,nI x66),(37,nS g85 L10 c21),(36,nI x66),(9,nI x66),(33,nI x66),(8,nP g47 0),(6,nS g85 L10 c21),(4,nB w)]) (by kernel_rfl) ?_
    intro a89 hF88; clear hF86
    refine ev_runs 1 hF88 (l':=[(42,nP g47 3),(41,nI (atI L10 (IntKind.i64.wrap (3+x66)))),(40,nP g85 ((IntKind.i64.wrap (3+x66)).toNat)),(39,nI (IntKind.i64.wrap (3+x66))),(38,nI x66),(37,nS g85 L10 c21),(36,nI x66),(9,nI x66),(33,nI x66),(8,nP g47 0),(6,nS g85 L10 c21),(4,nB w)]) (w':=w69) (by kernel_rfl) ?_
    intro a91 hF90; clear hF88
    cases hc92:(x66 == 0)
    case true =>
     have hm93:=ifYes hc92 hm84; clear hm84
     refine ev_one (nP g47 3) w69 hF90 (by kernel_rfl) rfl (by kernel_rfl) (run_idxA (q:=0) rfl rfl rfl rfl (congrArg (Value.int .i64) (eq_of_beq hc92)) (by decide) (by decide) (by kernel_rfl) _) (l':=[(43,nP g47 3),(42,nP g47 3),(41,nI (atI L10 (IntKind.i64.wrap (3+x66)))),(40,nP g85 ((IntKind.i64.wrap (3+x66)).toNat)),(39,nI (IntKind.i64.wrap (3+x66))),(38,nI x66),(37,nS g85 L10 c21),(36,nI x66),(9,nI x66),(33,nI x66),(8,nP g47 0),(6,nS g85 L10 c21),(4,nB w)]) (by kernel_rfl) ?_
     intro a95 hF94; clear hF90
     refine ev_store (nI (atI L10 (IntKind.i64.wrap (3+x66)))) #[nI x48,nI x49,nI x50,nI (atI L10 (IntKind.i64.wrap (3+x66))),nI x61,nI x62,nI x63,nI x64,nI x65,nI (-1)] hF94 (by kernel_rfl) rfl rfl rfl rfl (by kernel_rfl) hS71 (by kernel_rfl) (by kernel_rfl) (by kernel_rfl) (l':=[(43,nP g47 3),(42,nP g47 3),(41,nI (atI L10 (IntKind.i64.wrap (3+x66)))),(40,nP g85 ((IntKind.i64.wrap (3+x66)).toNat)),(39,nI (IntKind.i64.wrap (3+x66))),(38,nI x66),(37,nS g85 L10 c21),(36,nI x66),(9,nI x66),(33,nI x66),(8,nP g47 0),(6,nS g85 L10 c21),(4,nB w)]) (by kernel_rfl) ?_
     intro w96 a97 hS98 hF99; clear hF94 hS71
     refine wpList_nil ?_
     have hF100:=hF99.keep [4,6,8,33]
     clear hF99
     refine blockN ?_
     refine thenN (wp_region_lit ?_)
     refine ev_runK 2 hF100 [4,6,8,33] (l':=[(33,nI (IntKind.i64.wrap (x66+1))),(8,nP g47 0),(6,nS g85 L10 c21),(4,nB w)]) (w':=w96) (by kernel_rfl) ?_
     intro a102 hF101; clear hF100
     refine wpList_nil ?_
     exact thenN ⟨k67,Nat.lt_succ_self _,atI L10 (IntKind.i64.wrap (3+x66)),x61,x62,x63,x64,x65,IntKind.i64.wrap (x66+1),hF101,hS98,hm93⟩
    have hm103:=ifNot hc92 hm84; clear hm84
    cases hc104:(x66 == 1)
    case true =>
     have hm105:=ifYes hc104 hm103; clear hm103
     refine ev_one (nP g47 4) w69 hF90 (by kernel_rfl) rfl (by kernel_rfl) (run_idxA (q:=1) rfl rfl rfl rfl (congrArg (Value.int .i64) (eq_of_beq hc104)) (by decide) (by decide) (by kernel_rfl) _) (l':=[(43,nP g47 4),(42,nP g47 3),(41,nI (atI L10 (IntKind.i64.wrap (3+x66)))),(40,nP g85 ((IntKind.i64.wrap (3+x66)).toNat)),(39,nI (IntKind.i64.wrap (3+x66))),(38,nI x66),(37,nS g85 L10 c21),(36,nI x66),(9,nI x66),(33,nI x66),(8,nP g47 0),(6,nS g85 L10 c21),(4,nB w)]) (by kernel_rfl) ?_
     intro a107 hF106; clear hF90
     refine ev_store (nI (atI L10 (IntKind.i64.wrap (3+x66)))) #[nI x48,nI x49,nI x50,nI x60,nI (atI L10 (IntKind.i64.wrap (3+x66))),nI x62,nI x63,nI x64,nI x65,nI (-1)] hF106 (by kernel_rfl) rfl rfl rfl rfl (by kernel_rfl) hS71 (by kernel_rfl) (by kernel_rfl) (by kernel_rfl) (l':=[(43,nP g47 4),(42,nP g47 3),(41,nI (atI L10 (IntKind.i64.wrap (3+x66)))),(40,nP g85 ((IntKind.i64.wrap (3+x66)).toNat)),(39,nI (IntKind.i64.wrap (3+x66))),(38,nI x66),(37,nS g85 L10 c21),(36,nI x66),(9,nI x66),(33,nI x66),(8,nP g47 0),(6,nS g85 L10 c21),(4,nB w)]) (by kernel_rfl) ?_
     intro w108 a109 hS110 hF111; clear hF106 hS71
     refine wpList_nil ?_
     have hF112:=hF111.keep [4,6,8,33]
     clear hF111
     refine blockN ?_
     refine thenN (wp_region_lit ?_)
     refine ev_runK 2 hF112 [4,6,8,33] (l':=[(33,nI (IntKind.i64.wrap (x66+1))),(8,nP g47 0),(6,nS g85 L10 c21),(4,nB w)]) (w':=w108) (by kernel_rfl) ?_
     intro a114 hF113; clear hF112
     refine wpList_nil ?_
     exact thenN ⟨k67,Nat.lt_succ_self _,x60,atI L10 (IntKind.i64.wrap (3+x66)),x62,x63,x64,x65,IntKind.i64.wrap (x66+1),hF113,hS110,hm105⟩
    have hm115:=ifNot hc104 hm103; clear hm103
    cases hc116:(x66 == 2)
    case true =>
     have hm117:=ifYes hc116 hm115; clear hm115
     refine ev_one (nP g47 5) w69 hF90 (by kernel_rfl) rfl (by kernel_rfl) (run_idxA (q:=2) rfl rfl rfl rfl (congrArg (Value.int .i64) (eq_of_beq hc116)) (by decide) (by decide) (by kernel_rfl) _) (l':=[(43,nP g47 5),(42,nP g47 3),(41,nI (atI L10 (IntKind.i64.wrap (3+x66)))),(40,nP g85 ((IntKind.i64.wrap (3+x66)).toNat)),(39,nI (IntKind.i64.wrap (3+x66))),(38,nI x66),(37,nS g85 L10 c21),(36,nI x66),(9,nI x66),(33,nI x66),(8,nP g47 0),(6,nS g85 L10 c21),(4,nB w)]) (by kernel_rfl) ?_
     intro a119 hF118; clear hF90
     refine ev_store (nI (atI L10 (IntKind.i64.wrap (3+x66)))) #[nI x48,nI x49,nI x50,nI x60,nI x61,nI (atI L10 (IntKind.i64.wrap (3+x66))),nI x63,nI x64,nI x65,nI (-1)] hF118 (by kernel_rfl) rfl rfl rfl rfl (by kernel_rfl) hS71 (by kernel_rfl) (by kernel_rfl) (by kernel_rfl) (l':=[(43,nP g47 5),(42,nP g47 3),(41,nI (atI L10 (IntKind.i64.wrap (3+x66)))),(40,nP g85 ((IntKind.i64.wrap (3+x66)).toNat)),(39,nI (IntKind.i64.wrap (3+x66))),(38,nI x66),(37,nS g85 L10 c21),(36,nI x66),(9,nI x66),(33,nI x66),(8,nP g47 0),(6,nS g85 L10 c21),(4,nB w)]) (by kernel_rfl) ?_
     intro w120 a121 hS122 hF123; clear hF118 hS71
     refine wpList_nil ?_
     have hF124:=hF123.keep [4,6,8,33]
     clear hF123
     refine blockN ?_
     refine thenN (wp_region_lit ?_)
     refine ev_runK 2 hF124 [4,6,8,33] (l':=[(33,nI (IntKind.i64.wrap (x66+1))),(8,nP g47 0),(6,nS g85 L10 c21),(4,nB w)]) (w':=w120) (by kernel_rfl) ?_
     intro a126 hF125; clear hF124
     refine wpList_nil ?_
     exact thenN ⟨k67,Nat.lt_succ_self _,x60,x61,atI L10 (IntKind.i64.wrap (3+x66)),x63,x64,x65,IntKind.i64.wrap (x66+1),hF125,hS122,hm117⟩
    have hm127:=ifNot hc116 hm115; clear hm115
    cases hc128:(x66 == 3)
    case true =>
     have hm129:=ifYes hc128 hm127; clear hm127
     refine ev_one (nP g47 6) w69 hF90 (by kernel_rfl) rfl (by kernel_rfl) (run_idxA (q:=3) rfl rfl rfl rfl (congrArg (Value.int .i64) (eq_of_beq hc128)) (by decide) (by decide) (by kernel_rfl) _) (l':=[(43,nP g47 6),(42,nP g47 3),(41,nI (atI L10 (IntKind.i64.wrap (3+x66)))),(40,nP g85 ((IntKind.i64.wrap (3+x66)).toNat)),(39,nI (IntKind.i64.wrap (3+x66))),(38,nI x66),(37,nS g85 L10 c21),(36,nI x66),(9,nI x66),(33,nI x66),(8,nP g47 0),(6,nS g85 L10 c21),(4,nB w)]) (by kernel_rfl) ?_
     intro a131 hF130; clear hF90
     refine ev_store (nI (atI L10 (IntKind.i64.wrap (3+x66)))) #[nI x48,nI x49,nI x50,nI x60,nI x61,nI x62,nI (atI L10 (IntKind.i64.wrap (3+x66))),nI x64,nI x65,nI (-1)] hF130 (by kernel_rfl) rfl rfl rfl rfl (by kernel_rfl) hS71 (by kernel_rfl) (by kernel_rfl) (by kernel_rfl) (l':=[(43,nP g47 6),(42,nP g47 3),(41,nI (atI L10 (IntKind.i64.wrap (3+x66)))),(40,nP g85 ((IntKind.i64.wrap (3+x66)).toNat)),(39,nI (IntKind.i64.wrap (3+x66))),(38,nI x66),(37,nS g85 L10 c21),(36,nI x66),(9,nI x66),(33,nI x66),(8,nP g47 0),(6,nS g85 L10 c21),(4,nB w)]) (by kernel_rfl) ?_
     intro w132 a133 hS134 hF135; clear hF130 hS71
     refine wpList_nil ?_
     have hF136:=hF135.keep [4,6,8,33]
     clear hF135
     refine blockN ?_
     refine thenN (wp_region_lit ?_)
     refine ev_runK 2 hF136 [4,6,8,33] (l':=[(33,nI (IntKind.i64.wrap (x66+1))),(8,nP g47 0),(6,nS g85 L10 c21),(4,nB w)]) (w':=w132) (by kernel_rfl) ?_
     intro a138 hF137; clear hF136
     refine wpList_nil ?_
     exact thenN ⟨k67,Nat.lt_succ_self _,x60,x61,x62,atI L10 (IntKind.i64.wrap (3+x66)),x64,x65,IntKind.i64.wrap (x66+1),hF137,hS134,hm129⟩
    have hm139:=ifNot hc128 hm127; clear hm127
    cases hc140:(x66 == 4)
    case true =>
     have hm141:=ifYes hc140 hm139; clear hm139
     refine ev_one (nP g47 7) w69 hF90 (by kernel_rfl) rfl (by kernel_rfl) (run_idxA (q:=4) rfl rfl rfl rfl (congrArg (Value.int .i64) (eq_of_beq hc140)) (by decide) (by decide) (by kernel_rfl) _) (l':=[(43,nP g47 7),(42,nP g47 3),(41,nI (atI L10 (IntKind.i64.wrap (3+x66)))),(40,nP g85 ((IntKind.i64.wrap (3+x66)).toNat)),(39,nI (IntKind.i64.wrap (3+x66))),(38,nI x66),(37,nS g85 L10 c21),(36,nI x66),(9,nI x66),(33,nI x66),(8,nP g47 0),(6,nS g85 L10 c21),(4,nB w)]) (by kernel_rfl) ?_
     intro a143 hF142; clear hF90
     refine ev_store (nI (atI L10 (IntKind.i64.wrap (3+x66)))) #[nI x48,nI x49,nI x50,nI x60,nI x61,nI x62,nI x63,nI (atI L10 (IntKind.i64.wrap (3+x66))),nI x65,nI (-1)] hF142 (by kernel_rfl) rfl rfl rfl rfl (by kernel_rfl) hS71 (by kernel_rfl) (by kernel_rfl) (by kernel_rfl) (l':=[(43,nP g47 7),(42,nP g47 3),(41,nI (atI L10 (IntKind.i64.wrap (3+x66)))),(40,nP g85 ((IntKind.i64.wrap (3+x66)).toNat)),(39,nI (IntKind.i64.wrap (3+x66))),(38,nI x66),(37,nS g85 L10 c21),(36,nI x66),(9,nI x66),(33,nI x66),(8,nP g47 0),(6,nS g85 L10 c21),(4,nB w)]) (by kernel_rfl) ?_
     intro w144 a145 hS146 hF147; clear hF142 hS71
     refine wpList_nil ?_
     have hF148:=hF147.keep [4,6,8,33]
     clear hF147
     refine blockN ?_
     refine thenN (wp_region_lit ?_)
     refine ev_runK 2 hF148 [4,6,8,33] (l':=[(33,nI (IntKind.i64.wrap (x66+1))),(8,nP g47 0),(6,nS g85 L10 c21),(4,nB w)]) (w':=w144) (by kernel_rfl) ?_
     intro a150 hF149; clear hF148
     refine wpList_nil ?_
     exact thenN ⟨k67,Nat.lt_succ_self _,x60,x61,x62,x63,atI L10 (IntKind.i64.wrap (3+x66)),x65,IntKind.i64.wrap (x66+1),hF149,hS146,hm141⟩
    have hm151:=ifNot hc140 hm139; clear hm139
    cases hc152:(x66 == 5)
    case true =>
     have hm153:=ifYes hc152 hm151; clear hm151
     refine ev_one (nP g47 8) w69 hF90 (by kernel_rfl) rfl (by kernel_rfl) (run_idxA (q:=5) rfl rfl rfl rfl (congrArg (Value.int .i64) (eq_of_beq hc152)) (by decide) (by decide) (by kernel_rfl) _) (l':=[(43,nP g47 8),(42,nP g47 3),(41,nI (atI L10 (IntKind.i64.wrap (3+x66)))),(40,nP g85 ((IntKind.i64.wrap (3+x66)).toNat)),(39,nI (IntKind.i64.wrap (3+x66))),(38,nI x66),(37,nS g85 L10 c21),(36,nI x66),(9,nI x66),(33,nI x66),(8,nP g47 0),(6,nS g85 L10 c21),(4,nB w)]) (by kernel_rfl) ?_
     intro a155 hF154; clear hF90
     refine ev_store (nI (atI L10 (IntKind.i64.wrap (3+x66)))) #[nI x48,nI x49,nI x50,nI x60,nI x61,nI x62,nI x63,nI x64,nI (atI L10 (IntKind.i64.wrap (3+x66))),nI (-1)] hF154 (by kernel_rfl) rfl rfl rfl rfl (by kernel_rfl) hS71 (by kernel_rfl) (by kernel_rfl) (by kernel_rfl) (l':=[(43,nP g47 8),(42,nP g47 3),(41,nI (atI L10 (IntKind.i64.wrap (3+x66)))),(40,nP g85 ((IntKind.i64.wrap (3+x66)).toNat)),(39,nI (IntKind.i64.wrap (3+x66))),(38,nI x66),(37,nS g85 L10 c21),(36,nI x66),(9,nI x66),(33,nI x66),(8,nP g47 0),(6,nS g85 L10 c21),(4,nB w)]) (by kernel_rfl) ?_
     intro w156 a157 hS158 hF159; clear hF154 hS71
     refine wpList_nil ?_
     have hF160:=hF159.keep [4,6,8,33]
     clear hF159
     refine blockN ?_
     refine thenN (wp_region_lit ?_)
     refine ev_runK 2 hF160 [4,6,8,33] (l':=[(33,nI (IntKind.i64.wrap (x66+1))),(8,nP g47 0),(6,nS g85 L10 c21),(4,nB w)]) (w':=w156) (by kernel_rfl) ?_
     intro a162 hF161; clear hF160
     refine wpList_nil ?_
     exact thenN ⟨k67,Nat.lt_succ_self _,x60,x61,x62,x63,x64,atI L10 (IntKind.i64.wrap (3+x66)),IntKind.i64.wrap (x66+1),hF161,hS158,hm153⟩
    have hm163:=ifNot hc152 hm151; clear hm151
    exact absurd hm163 (by simp)
   rw [hc76] at hF74
   have hm164:=ifNot hc76 hm73; clear hm73
   refine ev_condF hF74 rfl rfl ?_
   refine wp_exit ?_
   refine thenE ?_
   refine thenE ?_
   refine blockE ?_
   refine thenN (wp_seq (wp_region_lit ?_))
   refine ev_runs 1 hF74 (l':=[(45,.slice p20 L10.length c21),(34,.bool false),(33,nI x66),(8,nP g47 0),(6,.slice p20 L10.length c21),(4,nB w)]) (w':=w69) (by kernel_rfl) ?_
   intro a166 hF165; clear hF74
   obtain ⟨hc167,hm168⟩:=ifTE hm164; clear hm164
   obtain ⟨g169,rfl⟩:=hp22.resolve_left (by have:=inR_spec hc167; omega)
   refine ev_one (nP g169 ((9:Int).toNat)) w69 hF165 (by kernel_rfl) rfl (by kernel_rfl) (run_idx rfl rfl rfl rfl rfl (inR_spec hc167).1 (inR_spec hc167).2 _) (l':=[(46,nP g169 ((9:Int).toNat)),(45,nS g169 L10 c21),(34,.bool false),(33,nI x66),(8,nP g47 0),(6,nS g169 L10 c21),(4,nB w)]) (by kernel_rfl) ?_
   intro a171 hF170; clear hF165
   refine ev_one (nI (atI L10 (9:Int))) w69 hF170 (by kernel_rfl) rfl (by kernel_rfl) (run_load1 rfl rfl rfl (hS71.atI 1 rfl hc167)) (l':=[(47,nI (atI L10 (9:Int))),(46,nP g169 ((9:Int).toNat)),(45,nS g169 L10 c21),(34,.bool false),(33,nI x66),(8,nP g47 0),(6,nS g169 L10 c21),(4,nB w)]) (by kernel_rfl) ?_
   intro a173 hF172; clear hF170
   refine ev_call 48 #[nI (atI L10 (9:Int))] hF172 rfl rfl (by kernel_rfl) rfl (by kernel_rfl) (fun w=>by kernel_rfl) ?_
   obtain ⟨x174,hx175,hm176⟩:=bind1E hm168; clear hm168
   refine (p_vAt hS71 hx175).mono ?_
   rintro _ w177 ⟨rfl,hS179⟩ a178 hF180; clear hF172 hS71
   refine ev_runs 1 hF180 (l':=[(49,nP g47 9),(48,nI x174),(47,nI (atI L10 (9:Int))),(46,nP g169 ((9:Int).toNat)),(45,nS g169 L10 c21),(34,.bool false),(33,nI x66),(8,nP g47 0),(6,nS g169 L10 c21),(4,nB w)]) (w':=w177) (by kernel_rfl) ?_
   intro a182 hF181; clear hF180
   refine ev_store (nI x174) #[nI x48,nI x49,nI x50,nI x60,nI x61,nI x62,nI x63,nI x64,nI x65,nI x174] hF181 (by kernel_rfl) rfl rfl rfl rfl (by kernel_rfl) hS179 (by kernel_rfl) (by kernel_rfl) (by kernel_rfl) (l':=[(49,nP g47 9),(48,nI x174),(47,nI (atI L10 (9:Int))),(46,nP g169 ((9:Int).toNat)),(45,nS g169 L10 c21),(34,.bool false),(33,nI x66),(8,nP g47 0),(6,nS g169 L10 c21),(4,nB w)]) (by kernel_rfl) ?_
   intro w183 a184 hS185 hF186; clear hF181 hS179
   refine wpList_nil ?_
   have hF187:=hF186.keep [4,8]
   clear hF186
   have hS188:=hS185.pick1.drop
   clear hS185
   refine thenN (wp_seq (wp_region_lit ?_))
   refine ev_one (.agg #[nI x48,nI x49,nI x50,nI x60,nI x61,nI x62,nI x63,nI x64,nI x65,nI x174]) w183 hF187 (by kernel_rfl) rfl (by kernel_rfl) (run_loadV rfl rfl (run_loadA (cs:=[nI x48,nI x49,nI x50,nI x60,nI x61,nI x62,nI x63,nI x64,nI x65,nI x174]) rfl rfl (by kernel_rfl) (blk_cells hS188 0 rfl rfl))) (l':=[(50,.agg #[nI x48,nI x49,nI x50,nI x60,nI x61,nI x62,nI x63,nI x64,nI x65,nI x174]),(8,nP g47 0),(4,nB w)]) (by kernel_rfl) ?_
   intro a190 hF189; clear hF187
   have hS191:=hS188.pick2
   clear hS188
   refine ev_store (.agg #[nI x48,nI x49,nI x50,nI x60,nI x61,nI x62,nI x63,nI x64,nI x65,nI x174]) #[nI x48,nI x49,nI x50,nI x60,nI x61,nI x62,nI x63,nI x64,nI x65,nI x174] hF189 (by kernel_rfl) rfl rfl rfl rfl (by kernel_rfl) hS191 (by kernel_rfl) (by kernel_rfl) (by kernel_rfl) (l':=[(50,.agg #[nI x48,nI x49,nI x50,nI x60,nI x61,nI x62,nI x63,nI x64,nI x65,nI x174]),(8,nP g47 0),(4,nB w)]) (by kernel_rfl) ?_
   intro w192 a193 hS194 hF195; clear hF189 hS191
   refine ev_runK 1 hF195 [4,5] (l':=[(5,nI 0),(4,nB w)]) (w':=w192) (by kernel_rfl) ?_
   intro a197 hF196; clear hF195
   refine wpList_nil ?_
   have hS198:=hS194.pick1.drop
   clear hS194
   refine thenN ?_
   refine wp_ret ?_
   have hS199:=hS198.pick1
   clear hS198
   simp only [Option.some.injEq,Prod.mk.injEq] at hm176
   obtain ⟨rfl,rfl,rfl⟩:=hm176
   refine ev_retC hF196 _ [.agg #[nI x48,nI x49,nI x50,nI x60,nI x61,nI x62,nI x63,nI x64,nI x65,nI x174],nI 0] (.tuple #[.agg #[nI x48,nI x49,nI x50,nI x60,nI x61,nI x62,nI x63,nI x64,nI x65,nI x174],nI 0]) rfl ⟨⟨rfl,_,rfl,(run_loadA (cs:=[nI x48,nI x49,nI x50,nI x60,nI x61,nI x62,nI x63,nI x64,nI x65,nI x174]) rfl rfl (by kernel_rfl) (blk_cells hS199 1 rfl rfl))⟩,⟨rfl,rfl⟩,trivial⟩ rfl ?_
   have hS203:=hS199.pick1.drop
   clear hS199
   exact ⟨rfl,hS203⟩
 · skip
   obtain ⟨hc204,hm205⟩:=ifTE hm45; clear hm45
   obtain ⟨g206,rfl⟩:=hp22.resolve_left (by have:=inR_spec hc204; omega)
   obtain ⟨hc207,hm208⟩:=ifTE hm205; clear hm205
   obtain ⟨hc209,hm210⟩:=ifTE hm208; clear hm208
   have hS211:=hS16.pick1
   clear hS16
   have hS212:=hS211.drew; clear hS211
   refine any_start (fun wS=>∃ qs,St w0 F0 (RowP (nS g206 L10 c21) L10::qs) wS) 15 #[false,false,false,false,false,false,false,false,false,false,false,false,false,false,false] (by kernel_rfl) (by kernel_rfl) (by kernel_rfl) ?_
   refine any_many 9 [(0,some (nS g206 L10 c21)),(1,some (nP g206 ((0:Int).toNat))),(2,some (nI (atI L10 (0:Int)))),(4,some (nS g206 L10 c21)),(5,some (nP g206 ((1:Int).toNat))),(6,some (nI (atI L10 (1:Int)))),(8,some (nS g206 L10 c21)),(9,some (nP g206 ((2:Int).toNat))),(10,some (nI (atI L10 (2:Int))))] [4,6,8,22,23,26,27,30,31,32] #[true,true,true,false,true,true,true,false,true,true,true,false,false,false,false] (by rfl) hF46 (by kernel_rfl) (by kernel_rfl) (by exact ⟨fun wS hw=>by kernel_rfl,fun wS hw=>run_idx rfl rfl rfl rfl rfl (inR_spec hc204).1 (inR_spec hc204).2 _,fun wS hw=>run_load1 rfl rfl rfl (hw.elim fun qs hw=>hw.atI 0 rfl hc204),fun wS hw=>by kernel_rfl,fun wS hw=>run_idx rfl rfl rfl rfl rfl (inR_spec hc207).1 (inR_spec hc207).2 _,fun wS hw=>run_load1 rfl rfl rfl (hw.elim fun qs hw=>hw.atI 0 rfl hc207),fun wS hw=>by kernel_rfl,fun wS hw=>run_idx rfl rfl rfl rfl rfl (inR_spec hc209).1 (inR_spec hc209).2 _,fun wS hw=>run_load1 rfl rfl rfl (hw.elim fun qs hw=>hw.atI 0 rfl hc209),trivial⟩) (fun _ _ _ _ _ h=>h) ⟨_,hS212⟩ (l':=[(30,nI (atI L10 (2:Int))),(26,nI (atI L10 (1:Int))),(22,nI (atI L10 (0:Int))),(6,nS g206 L10 c21),(4,nB w)]) (by kernel_rfl) ?_
   intro a214 hF213; clear hF46
   refine any_two 3 13 (by kernel_rfl) ?_ ?_
   · skip
     refine op_call 3 #[true,true,true,true,true,true,true,false,true,true,true,false,false,false,false] 69 #[nI (atI L10 (0:Int))] hF213 rfl rfl rfl (by kernel_rfl) rfl (by kernel_rfl) (fun w=>by kernel_rfl) (by kernel_rfl) ?_
     obtain ⟨x215,hx216,hm217⟩:=bind1E hm210; clear hm210
     refine (p_vNum hS212 hx216).mono ?_
     rintro _ w218 ⟨rfl,hS220⟩; clear hS212
     refine ⟨⟨_,hS220⟩,?_⟩
     intro a219 hF221; clear hF213
     refine any_two 7 13 (by kernel_rfl) ?_ ?_
     · skip
       refine op_call 7 #[true,true,true,true,true,true,true,true,true,true,true,false,false,false,false] 69 #[nI (atI L10 (1:Int))] hF221 rfl rfl rfl (by kernel_rfl) rfl (by kernel_rfl) (fun w=>by kernel_rfl) (by kernel_rfl) ?_
       obtain ⟨x222,hx223,hm224⟩:=bind1E hm217; clear hm217
       refine (p_vNum hS220 hx223).mono ?_
       rintro _ w225 ⟨rfl,hS227⟩; clear hS220
       refine ⟨⟨_,hS227⟩,?_⟩
       intro a226 hF228; clear hF221
       refine any_two 11 13 (by kernel_rfl) ?_ ?_
       · skip
         refine op_call 11 #[true,true,true,true,true,true,true,true,true,true,true,true,false,false,false] 69 #[nI (atI L10 (2:Int))] hF228 rfl rfl rfl (by kernel_rfl) rfl (by kernel_rfl) (fun w=>by kernel_rfl) (by kernel_rfl) ?_
         obtain ⟨x229,hx230,hm231⟩:=bind1E hm224; clear hm224
         refine (p_vNum hS227 hx230).mono ?_
         rintro _ w232 ⟨rfl,hS234⟩; clear hS227
         refine ⟨⟨_,hS234⟩,?_⟩
         intro a233 hF235; clear hF228
         refine any_many 1 [(12,some (.agg #[nI x215,nI x222,nI x229,nI 0,nI 0,nI 0,nI 0,nI 0,nI 0,nI (-1)]))] [4,6,8,32] #[true,true,true,true,true,true,true,true,true,true,true,true,true,false,false] (by rfl) hF235 (by kernel_rfl) (by kernel_rfl) (by exact ⟨fun wS hw=>by kernel_rfl,trivial⟩) (fun _ _ _ _ _ h=>h) ⟨_,hS234⟩ (l':=[(32,.agg #[nI x215,nI x222,nI x229,nI 0,nI 0,nI 0,nI 0,nI 0,nI 0,nI (-1)]),(6,nS g206 L10 c21),(4,nB w)]) (by kernel_rfl) ?_
         intro a237 hF236; clear hF235
         refine any_one 13 (by kernel_rfl) ?_
         have hS238:St w0 F0 (BlkP (w232.heap.size) 55 #[nI 0,nI 0,nI 0,nI 0,nI 0,nI 0,nI 0,nI 0,nI 0,nI 0]::RowP (nS g206 L10 c21) L10::HeapP b0 ab0 s0::BlkP (w.heap.size) 55 #[nI 0,nI 0,nI 0,nI 0,nI 0,nI 0,nI 0,nI 0,nI 0,nI 0]::ps) (w232.alloc (.cells #[nI 0,nI 0,nI 0,nI 0,nI 0,nI 0,nI 0,nI 0,nI 0,nI 0] 55)):=St.new hS234 #[nI 0,nI 0,nI 0,nI 0,nI 0,nI 0,nI 0,nI 0,nI 0,nI 0] 55
         clear hS234
         refine op_step 13 #[true,true,true,true,true,true,true,true,true,true,true,true,true,true,false] (nB w232) (w232.alloc (.cells #[nI 0,nI 0,nI 0,nI 0,nI 0,nI 0,nI 0,nI 0,nI 0,nI 0] 55)) hF236 rfl (by kernel_rfl) rfl (by kernel_rfl) (by kernel_rfl) (l':=[(8,nB w232),(32,.agg #[nI x215,nI x222,nI x229,nI 0,nI 0,nI 0,nI 0,nI 0,nI 0,nI (-1)]),(6,nS g206 L10 c21),(4,nB w)]) (by kernel_rfl) ⟨_,hS238.pick1⟩ (by kernel_rfl) ?_
         intro a240 hF239; clear hF236
         refine any_one 14 (by kernel_rfl) ?_
         refine op_store 14 #[true,true,true,true,true,true,true,true,true,true,true,true,true,true,true] (.agg #[nI x215,nI x222,nI x229,nI 0,nI 0,nI 0,nI 0,nI 0,nI 0,nI (-1)]) #[nI x215,nI x222,nI x229,nI 0,nI 0,nI 0,nI 0,nI 0,nI 0,nI (-1)] hF239 rfl (by kernel_rfl) rfl rfl rfl rfl (by kernel_rfl) hS238 (by kernel_rfl) (by kernel_rfl) (by kernel_rfl) (l':=[(8,nB w232),(32,.agg #[nI x215,nI x222,nI x229,nI 0,nI 0,nI 0,nI 0,nI 0,nI 0,nI (-1)]),(6,nS g206 L10 c21),(4,nB w)]) (by kernel_rfl) (by kernel_rfl) ?_
         intro w241 a242 hS243 hF244; clear hF239 hS238
         refine ⟨⟨_,hS243.pick1⟩,?_⟩
         refine any_done (by kernel_rfl) ?_
         have hF245:=hF244.keep [4,6,8]
         clear hF244
         exact thenN ⟨(w232.heap.size),x215,x222,x229,hF245,hS243,hm231⟩
       · skip
         have hS246:St w0 F0 (BlkP (w225.heap.size) 55 #[nI 0,nI 0,nI 0,nI 0,nI 0,nI 0,nI 0,nI 0,nI 0,nI 0]::RowP (nS g206 L10 c21) L10::HeapP b0 ab0 s0::BlkP (w.heap.size) 55 #[nI 0,nI 0,nI 0,nI 0,nI 0,nI 0,nI 0,nI 0,nI 0,nI 0]::ps) (w225.alloc (.cells #[nI 0,nI 0,nI 0,nI 0,nI 0,nI 0,nI 0,nI 0,nI 0,nI 0] 55)):=St.new hS227 #[nI 0,nI 0,nI 0,nI 0,nI 0,nI 0,nI 0,nI 0,nI 0,nI 0] 55
         clear hS227
         refine op_step 13 #[true,true,true,true,true,true,true,true,true,true,true,false,false,true,false] (nB w225) (w225.alloc (.cells #[nI 0,nI 0,nI 0,nI 0,nI 0,nI 0,nI 0,nI 0,nI 0,nI 0] 55)) hF228 rfl (by kernel_rfl) rfl (by kernel_rfl) (by kernel_rfl) (l':=[(8,nB w225),(27,nI x222),(23,nI x215),(30,nI (atI L10 (2:Int))),(26,nI (atI L10 (1:Int))),(22,nI (atI L10 (0:Int))),(6,nS g206 L10 c21),(4,nB w)]) (by kernel_rfl) ⟨_,hS246.pick1⟩ (by kernel_rfl) ?_
         intro a248 hF247; clear hF228
         refine any_call 11 #[true,true,true,true,true,true,true,true,true,true,true,true,false,true,false] 69 #[nI (atI L10 (2:Int))] hF247 rfl (by kernel_rfl) rfl rfl (by kernel_rfl) rfl (by kernel_rfl) (fun w=>by kernel_rfl) (by kernel_rfl) ?_
         obtain ⟨x249,hx250,hm251⟩:=bind1E hm224; clear hm224
         refine (p_vNum hS246 hx250).mono ?_
         rintro _ w252 ⟨rfl,hS254⟩; clear hS246
         refine ⟨⟨_,hS254.pick1⟩,?_⟩
         intro a253 hF255; clear hF247
         refine any_many 1 [(12,some (.agg #[nI x215,nI x222,nI x249,nI 0,nI 0,nI 0,nI 0,nI 0,nI 0,nI (-1)]))] [4,6,8,32] #[true,true,true,true,true,true,true,true,true,true,true,true,true,true,false] (by rfl) hF255 (by kernel_rfl) (by kernel_rfl) (by exact ⟨fun wS hw=>by kernel_rfl,trivial⟩) (fun _ _ _ _ _ h=>h) ⟨_,hS254.pick1⟩ (l':=[(32,.agg #[nI x215,nI x222,nI x249,nI 0,nI 0,nI 0,nI 0,nI 0,nI 0,nI (-1)]),(8,nB w225),(6,nS g206 L10 c21),(4,nB w)]) (by kernel_rfl) ?_
         intro a257 hF256; clear hF255
         refine any_one 14 (by kernel_rfl) ?_
         refine op_store 14 #[true,true,true,true,true,true,true,true,true,true,true,true,true,true,true] (.agg #[nI x215,nI x222,nI x249,nI 0,nI 0,nI 0,nI 0,nI 0,nI 0,nI (-1)]) #[nI x215,nI x222,nI x249,nI 0,nI 0,nI 0,nI 0,nI 0,nI 0,nI (-1)] hF256 rfl (by kernel_rfl) rfl rfl rfl rfl (by kernel_rfl) hS254 (by kernel_rfl) (by kernel_rfl) (by kernel_rfl) (l':=[(32,.agg #[nI x215,nI x222,nI x249,nI 0,nI 0,nI 0,nI 0,nI 0,nI 0,nI (-1)]),(8,nB w225),(6,nS g206 L10 c21),(4,nB w)]) (by kernel_rfl) (by kernel_rfl) ?_
         intro w258 a259 hS260 hF261; clear hF256 hS254
         refine ⟨⟨_,hS260.pick1⟩,?_⟩
         refine any_done (by kernel_rfl) ?_
         have hF262:=hF261.keep [4,6,8]
         clear hF261
         exact thenN ⟨(w225.heap.size),x215,x222,x249,hF262,hS260,hm251⟩
     · skip
       have hS263:St w0 F0 (BlkP (w218.heap.size) 55 #[nI 0,nI 0,nI 0,nI 0,nI 0,nI 0,nI 0,nI 0,nI 0,nI 0]::RowP (nS g206 L10 c21) L10::HeapP b0 ab0 s0::BlkP (w.heap.size) 55 #[nI 0,nI 0,nI 0,nI 0,nI 0,nI 0,nI 0,nI 0,nI 0,nI 0]::ps) (w218.alloc (.cells #[nI 0,nI 0,nI 0,nI 0,nI 0,nI 0,nI 0,nI 0,nI 0,nI 0] 55)):=St.new hS220 #[nI 0,nI 0,nI 0,nI 0,nI 0,nI 0,nI 0,nI 0,nI 0,nI 0] 55
       clear hS220
       refine op_step 13 #[true,true,true,true,true,true,true,false,true,true,true,false,false,true,false] (nB w218) (w218.alloc (.cells #[nI 0,nI 0,nI 0,nI 0,nI 0,nI 0,nI 0,nI 0,nI 0,nI 0] 55)) hF221 rfl (by kernel_rfl) rfl (by kernel_rfl) (by kernel_rfl) (l':=[(8,nB w218),(23,nI x215),(30,nI (atI L10 (2:Int))),(26,nI (atI L10 (1:Int))),(22,nI (atI L10 (0:Int))),(6,nS g206 L10 c21),(4,nB w)]) (by kernel_rfl) ⟨_,hS263.pick1⟩ (by kernel_rfl) ?_
       intro a265 hF264; clear hF221
       refine any_call 7 #[true,true,true,true,true,true,true,true,true,true,true,false,false,true,false] 69 #[nI (atI L10 (1:Int))] hF264 rfl (by kernel_rfl) rfl rfl (by kernel_rfl) rfl (by kernel_rfl) (fun w=>by kernel_rfl) (by kernel_rfl) ?_
       obtain ⟨x266,hx267,hm268⟩:=bind1E hm217; clear hm217
       refine (p_vNum hS263 hx267).mono ?_
       rintro _ w269 ⟨rfl,hS271⟩; clear hS263
       refine ⟨⟨_,hS271.pick1⟩,?_⟩
       intro a270 hF272; clear hF264
       refine any_call 11 #[true,true,true,true,true,true,true,true,true,true,true,true,false,true,false] 69 #[nI (atI L10 (2:Int))] hF272 rfl (by kernel_rfl) rfl rfl (by kernel_rfl) rfl (by kernel_rfl) (fun w=>by kernel_rfl) (by kernel_rfl) ?_
       obtain ⟨x273,hx274,hm275⟩:=bind1E hm268; clear hm268
       refine (p_vNum hS271 hx274).mono ?_
       rintro _ w276 ⟨rfl,hS278⟩; clear hS271
       refine ⟨⟨_,hS278.pick1⟩,?_⟩
       intro a277 hF279; clear hF272
       refine any_many 1 [(12,some (.agg #[nI x215,nI x266,nI x273,nI 0,nI 0,nI 0,nI 0,nI 0,nI 0,nI (-1)]))] [4,6,8,32] #[true,true,true,true,true,true,true,true,true,true,true,true,true,true,false] (by rfl) hF279 (by kernel_rfl) (by kernel_rfl) (by exact ⟨fun wS hw=>by kernel_rfl,trivial⟩) (fun _ _ _ _ _ h=>h) ⟨_,hS278.pick1⟩ (l':=[(32,.agg #[nI x215,nI x266,nI x273,nI 0,nI 0,nI 0,nI 0,nI 0,nI 0,nI (-1)]),(8,nB w218),(6,nS g206 L10 c21),(4,nB w)]) (by kernel_rfl) ?_
       intro a281 hF280; clear hF279
       refine any_one 14 (by kernel_rfl) ?_
       refine op_store 14 #[true,true,true,true,true,true,true,true,true,true,true,true,true,true,true] (.agg #[nI x215,nI x266,nI x273,nI 0,nI 0,nI 0,nI 0,nI 0,nI 0,nI (-1)]) #[nI x215,nI x266,nI x273,nI 0,nI 0,nI 0,nI 0,nI 0,nI 0,nI (-1)] hF280 rfl (by kernel_rfl) rfl rfl rfl rfl (by kernel_rfl) hS278 (by kernel_rfl) (by kernel_rfl) (by kernel_rfl) (l':=[(32,.agg #[nI x215,nI x266,nI x273,nI 0,nI 0,nI 0,nI 0,nI 0,nI 0,nI (-1)]),(8,nB w218),(6,nS g206 L10 c21),(4,nB w)]) (by kernel_rfl) (by kernel_rfl) ?_
       intro w282 a283 hS284 hF285; clear hF280 hS278
       refine ⟨⟨_,hS284.pick1⟩,?_⟩
       refine any_done (by kernel_rfl) ?_
       have hF286:=hF285.keep [4,6,8]
       clear hF285
       exact thenN ⟨(w218.heap.size),x215,x266,x273,hF286,hS284,hm275⟩
   · skip
     have hS287:St w0 F0 (BlkP ((w14.drew).heap.size) 55 #[nI 0,nI 0,nI 0,nI 0,nI 0,nI 0,nI 0,nI 0,nI 0,nI 0]::RowP (nS g206 L10 c21) L10::HeapP b0 ab0 s0::BlkP (w.heap.size) 55 #[nI 0,nI 0,nI 0,nI 0,nI 0,nI 0,nI 0,nI 0,nI 0,nI 0]::ps) ((w14.drew).alloc (.cells #[nI 0,nI 0,nI 0,nI 0,nI 0,nI 0,nI 0,nI 0,nI 0,nI 0] 55)):=St.new hS212 #[nI 0,nI 0,nI 0,nI 0,nI 0,nI 0,nI 0,nI 0,nI 0,nI 0] 55
     clear hS212
     refine op_step 13 #[true,true,true,false,true,true,true,false,true,true,true,false,false,true,false] (nB (w14.drew)) ((w14.drew).alloc (.cells #[nI 0,nI 0,nI 0,nI 0,nI 0,nI 0,nI 0,nI 0,nI 0,nI 0] 55)) hF213 rfl (by kernel_rfl) rfl (by kernel_rfl) (by kernel_rfl) (l':=[(8,nB (w14.drew)),(30,nI (atI L10 (2:Int))),(26,nI (atI L10 (1:Int))),(22,nI (atI L10 (0:Int))),(6,nS g206 L10 c21),(4,nB w)]) (by kernel_rfl) ⟨_,hS287.pick1⟩ (by kernel_rfl) ?_
     intro a289 hF288; clear hF213
     refine any_call 3 #[true,true,true,true,true,true,true,false,true,true,true,false,false,true,false] 69 #[nI (atI L10 (0:Int))] hF288 rfl (by kernel_rfl) rfl rfl (by kernel_rfl) rfl (by kernel_rfl) (fun w=>by kernel_rfl) (by kernel_rfl) ?_
     obtain ⟨x290,hx291,hm292⟩:=bind1E hm210; clear hm210
     refine (p_vNum hS287 hx291).mono ?_
     rintro _ w293 ⟨rfl,hS295⟩; clear hS287
     refine ⟨⟨_,hS295.pick1⟩,?_⟩
     intro a294 hF296; clear hF288
     refine any_call 7 #[true,true,true,true,true,true,true,true,true,true,true,false,false,true,false] 69 #[nI (atI L10 (1:Int))] hF296 rfl (by kernel_rfl) rfl rfl (by kernel_rfl) rfl (by kernel_rfl) (fun w=>by kernel_rfl) (by kernel_rfl) ?_
     obtain ⟨x297,hx298,hm299⟩:=bind1E hm292; clear hm292
     refine (p_vNum hS295 hx298).mono ?_
     rintro _ w300 ⟨rfl,hS302⟩; clear hS295
     refine ⟨⟨_,hS302.pick1⟩,?_⟩
     intro a301 hF303; clear hF296
     refine any_call 11 #[true,true,true,true,true,true,true,true,true,true,true,true,false,true,false] 69 #[nI (atI L10 (2:Int))] hF303 rfl (by kernel_rfl) rfl rfl (by kernel_rfl) rfl (by kernel_rfl) (fun w=>by kernel_rfl) (by kernel_rfl) ?_
     obtain ⟨x304,hx305,hm306⟩:=bind1E hm299; clear hm299
     refine (p_vNum hS302 hx305).mono ?_
     rintro _ w307 ⟨rfl,hS309⟩; clear hS302
     refine ⟨⟨_,hS309.pick1⟩,?_⟩
     intro a308 hF310; clear hF303
     refine any_many 1 [(12,some (.agg #[nI x290,nI x297,nI x304,nI 0,nI 0,nI 0,nI 0,nI 0,nI 0,nI (-1)]))] [4,6,8,32] #[true,true,true,true,true,true,true,true,true,true,true,true,true,true,false] (by rfl) hF310 (by kernel_rfl) (by kernel_rfl) (by exact ⟨fun wS hw=>by kernel_rfl,trivial⟩) (fun _ _ _ _ _ h=>h) ⟨_,hS309.pick1⟩ (l':=[(32,.agg #[nI x290,nI x297,nI x304,nI 0,nI 0,nI 0,nI 0,nI 0,nI 0,nI (-1)]),(8,nB (w14.drew)),(6,nS g206 L10 c21),(4,nB w)]) (by kernel_rfl) ?_
     intro a312 hF311; clear hF310
     refine any_one 14 (by kernel_rfl) ?_
     refine op_store 14 #[true,true,true,true,true,true,true,true,true,true,true,true,true,true,true] (.agg #[nI x290,nI x297,nI x304,nI 0,nI 0,nI 0,nI 0,nI 0,nI 0,nI (-1)]) #[nI x290,nI x297,nI x304,nI 0,nI 0,nI 0,nI 0,nI 0,nI 0,nI (-1)] hF311 rfl (by kernel_rfl) rfl rfl rfl rfl (by kernel_rfl) hS309 (by kernel_rfl) (by kernel_rfl) (by kernel_rfl) (l':=[(32,.agg #[nI x290,nI x297,nI x304,nI 0,nI 0,nI 0,nI 0,nI 0,nI 0,nI (-1)]),(8,nB (w14.drew)),(6,nS g206 L10 c21),(4,nB w)]) (by kernel_rfl) (by kernel_rfl) ?_
     intro w313 a314 hS315 hF316; clear hF311 hS309
     refine ⟨⟨_,hS315.pick1⟩,?_⟩
     refine any_done (by kernel_rfl) ?_
     have hF317:=hF316.keep [4,6,8]
     clear hF316
     exact thenN ⟨((w14.drew).heap.size),x290,x297,x304,hF317,hS315,hm306⟩
end Go.Proofs.Ytjdlnmbfomojdaa
namespace Go.Proofs.Ytjdlnmbfomojdaa
open Go.RowKit
set_option linter.unusedVariables false
def law11_both.j4 (x54:Int) (rec57:HSt→HSt→Int→Option (HSt×HSt)) (s78:HSt) (s94:HSt) (y103:Bool):Option (HSt×HSt):=(if (y103) then none else rec57 s78 s94 (IntKind.i64.wrap (x54+1)))
def law11_both.l3b (rec57:HSt→HSt→Int→Option (HSt×HSt)) (s52:HSt) (s53:HSt) (x54:Int):Option (HSt×HSt):=(if (decide (x54<4)) then (if (inR x54 ([1,3,4,5]).length) then (if (inR x54 ([9,7,10,2]).length) then bind3 (pAlloc (atI [1,3,4,5] x54) (atI [9,7,10,2] x54) s52) fun x76 x77 s78=>bind3 (pAlloc (atI [1,3,4,5] x54) (atI [9,7,10,2] x54) s53) fun x92 x93 s94=>(if (x76 != x92) then law11_both.j4 x54 rec57 s78 s94 true else law11_both.j4 x54 rec57 s78 s94 (x77 != x93)) else none) else none) else some (s52,s53))
def law11_both.l3:Nat→HSt→HSt→Int→Option (HSt×HSt)
  | 0=>fun _ _ _=>none
  | kI+1=>law11_both.l3b (law11_both.l3 kI)
def law11_both.m (k:Nat):Option (HSt×HSt):=bind1 (pNew 4) fun s3=>bind1 (prNew 4) fun s15=>law11_both.l3 k s3 s15 0
set_option maxRecDepth 100000 in
set_option maxHeartbeats 1500000 in
theorem law11_both.ok {w0 w:World} {F0:List Nat} {ps:List Piece} {k:Nat}  {r0:HSt} {r1:HSt} (hS:St w0 F0 (ps) w) (hm:law11_both.m k=some (r0,r1)) :
    Calls Try.prog 19 #[.bool false] w fun e w'=>∃ br0 abr0 br1 abr1 sbr1 gr1 cbr1,e=.returned (.tuple #[.pointer (some ⟨br0,0,none⟩),.pointer (some ⟨br1,0,none⟩)])∧St w0 F0 (HeapP br0 abr0 r0::RHeapP br1 abr1 sbr1 gr1 cbr1 r1::ps) w':=by
 refine ev_enterL 77 [.bool false] Try.func19 rfl rfl (by simp) ?_
 intro a hF
 have hF0:Fr 77 a [(0,.bool false)]:=hF; clear hF
 unfold law11_both.m at hm
 refine wp_seq (wp_region_lit ?_)
 refine ev_runK 2 hF0 [0] (l':=[(0,.bool false)]) (w':=w) (by kernel_rfl) ?_
 intro a2 hF1; clear hF0
 refine wpList_nil (thenN (wp_seq (wp_region_lit ?_)))
 refine ev_call 8 #[nI 4] hF1 rfl rfl (by kernel_rfl) rfl (by kernel_rfl) (fun w=>by kernel_rfl) ?_
 obtain ⟨s3,hx4,hm5⟩:=bind1E hm; clear hm
 refine (p_New hS hx4).mono ?_
 rintro _ w6 ⟨z10,z11,rfl,hS8⟩ a7 hF9; clear hF1 hS
 refine ev_runK 5 hF9 [0,4] (l':=[(4,nP z10 0),(0,.bool false)]) (w':=w6) (by kernel_rfl) ?_
 intro a14 hF13; clear hF9
 refine wpList_nil (thenN (wp_seq (wp_region_lit ?_)))
 refine ev_call 59 #[nI 4] hF13 rfl rfl (by kernel_rfl) rfl (by kernel_rfl) (fun w=>by kernel_rfl) ?_
 obtain ⟨s15,hx16,hm17⟩:=bind1E hm5; clear hm5
 refine (q_New hS8 hx16).mono ?_
 rintro _ w18 ⟨z22,z23,z24,z25,z26,rfl,hS20⟩ a19 hF21; clear hF13 hS8
 refine ev_runK 5 hF21 [0,4,6] (l':=[(6,nP z22 0),(4,nP z10 0),(0,.bool false)]) (w':=w18) (by kernel_rfl) ?_
 intro a29 hF28; clear hF21
 refine wpList_nil (thenN (wp_seq (wp_seq (wp_region_lit ?_))))
 refine ev_runs 4 hF28 (l':=[(26,nP z10 0),(25,.bool false),(24,.bool false),(23,nP z10 0),(6,nP z22 0),(4,nP z10 0),(0,.bool false)]) (w':=w18) (by kernel_rfl) ?_
 intro a31 hF30; clear hF28
 have hS32:=hS20.pick1
 clear hS20
 refine ev_call 10 #[nP z10 0] hF30 rfl rfl (by kernel_rfl) rfl (by kernel_rfl) (fun w=>by kernel_rfl) ?_
 refine (p_Arena hS32).mono ?_
 rintro _ w33 ⟨rfl,hS35⟩ a34 hF36; clear hF30 hS32
 refine ev_runK 2 hF36 [0,4,6,29] (l':=[(29,.bool false),(6,nP z22 0),(4,nP z10 0),(0,.bool false)]) (w':=w33) (by kernel_rfl) ?_
 intro a38 hF37; clear hF36
 refine wpList_nil (thenN ?_)
 refine ev_condF hF37 rfl rfl ?_
 refine wp_skip ?_
 have hF39:=hF37.keep [0,4,6]
 clear hF37
 refine thenN (wp_seq (wp_region_lit ?_))
 refine ev_runs 1 hF39 (l':=[(30,.slice (some ⟨w33.heap.size,0,none⟩) 4 4),(6,nP z22 0),(4,nP z10 0),(0,.bool false)]) (w':=w33.alloc (.cells #[nI 1,nI 3,nI 4,nI 5] 3)) (by kernel_rfl) ?_
 intro a41 hF40; clear hF39
 have hS43:St w0 F0 (RowP (.slice (some ⟨w33.heap.size,0,none⟩) 4 4) [1,3,4,5]::HeapP z10 z11 s3::RHeapP z22 z23 z24 z25 z26 s15::ps) (w33.alloc (.cells #[nI 1,nI 3,nI 4,nI 5] 3)):=St.lit hS35 [1,3,4,5] (by unfold maxLen; simp)
 clear hS35
 refine ev_runs 1 hF40 (l':=[(31,.slice (some ⟨(w33.alloc (.cells #[nI 1,nI 3,nI 4,nI 5] 3)).heap.size,0,none⟩) 4 4),(30,.slice (some ⟨w33.heap.size,0,none⟩) 4 4),(6,nP z22 0),(4,nP z10 0),(0,.bool false)]) (w':=(w33.alloc (.cells #[nI 1,nI 3,nI 4,nI 5] 3)).alloc (.cells #[nI 9,nI 7,nI 10,nI 2] 3)) (by kernel_rfl) ?_
 intro a45 hF44; clear hF40
 have hS47:St w0 F0 (RowP (.slice (some ⟨(w33.alloc (.cells #[nI 1,nI 3,nI 4,nI 5] 3)).heap.size,0,none⟩) 4 4) [9,7,10,2]::RowP (.slice (some ⟨w33.heap.size,0,none⟩) 4 4) [1,3,4,5]::HeapP z10 z11 s3::RHeapP z22 z23 z24 z25 z26 s15::ps) ((w33.alloc (.cells #[nI 1,nI 3,nI 4,nI 5] 3)).alloc (.cells #[nI 9,nI 7,nI 10,nI 2] 3)):=St.lit hS43 [9,7,10,2] (by unfold maxLen; simp)
 clear hS43
 refine ev_runK 2 hF44 [0,4,6,8,9] (l':=[(9,.slice (some ⟨(w33.alloc (.cells #[nI 1,nI 3,nI 4,nI 5] 3)).heap.size,0,none⟩) 4 4),(8,.slice (some ⟨w33.heap.size,0,none⟩) 4 4),(6,nP z22 0),(4,nP z10 0),(0,.bool false)]) (w':=(w33.alloc (.cells #[nI 1,nI 3,nI 4,nI 5] 3)).alloc (.cells #[nI 9,nI 7,nI 10,nI 2] 3)) (by kernel_rfl) ?_
 intro a49 hF48; clear hF44
 refine wpList_nil (thenN (wp_seq (wp_seq (wp_region_lit ?_))))
 refine ev_runs 1 hF48 (l':=[(10,nI 0),(9,.slice (some ⟨(w33.alloc (.cells #[nI 1,nI 3,nI 4,nI 5] 3)).heap.size,0,none⟩) 4 4),(8,.slice (some ⟨w33.heap.size,0,none⟩) 4 4),(6,nP z22 0),(4,nP z10 0),(0,.bool false)]) (w':=(w33.alloc (.cells #[nI 1,nI 3,nI 4,nI 5] 3)).alloc (.cells #[nI 9,nI 7,nI 10,nI 2] 3)) (by kernel_rfl) ?_
 intro a51 hF50; clear hF48
 refine wpList_nil (thenN ?_)
 refine wp_block ?_
 refine wp_loop_ghost (fun kI aI wI=>∃ (s52:HSt) (s53:HSt) (x54:Int),Fr 77 aI [(10,nI x54),(9,.slice (some ⟨(w33.alloc (.cells #[nI 1,nI 3,nI 4,nI 5] 3)).heap.size,0,none⟩) 4 4),(8,.slice (some ⟨w33.heap.size,0,none⟩) 4 4),(6,nP z22 0),(4,nP z10 0),(0,.bool false)]∧St w0 F0 (RowP (.slice (some ⟨(w33.alloc (.cells #[nI 1,nI 3,nI 4,nI 5] 3)).heap.size,0,none⟩) 4 4) [9,7,10,2]::RowP (.slice (some ⟨w33.heap.size,0,none⟩) 4 4) [1,3,4,5]::HeapP z10 z11 s52::RHeapP z22 z23 z24 z25 z26 s53::ps) wI∧law11_both.l3 kI s52 s53 x54=some (r0,r1)) k ⟨s3,s15,0,hF50,hS47,hm17⟩ ?_
 rintro k55 a56 w57 ⟨s52,s53,x54,hF58,hS59,hm60⟩
 clear hF50 hS47 hm17
 rcases k55 with _ | k55
 · cases hm60
 have hm61:law11_both.l3b (law11_both.l3 k55) s52 s53 x54=some (r0,r1):=hm60
 clear hm60
 unfold law11_both.l3b at hm61
 refine wp_seq (wp_seq (wp_region_lit ?_))
 refine ev_runK 2 hF58 [0,4,6,8,9,10,33] (l':=[(33,.bool (decide (x54<4))),(10,nI x54),(9,.slice (some ⟨(w33.alloc (.cells #[nI 1,nI 3,nI 4,nI 5] 3)).heap.size,0,none⟩) 4 4),(8,.slice (some ⟨w33.heap.size,0,none⟩) 4 4),(6,nP z22 0),(4,nP z10 0),(0,.bool false)]) (w':=w57) (by kernel_rfl) ?_
 intro a63 hF62; clear hF58
 refine wpList_nil (thenN ?_)
 cases hc64:(decide (x54<4))
 case true =>
  rw [hc64] at hF62
  have hm65:=ifYes hc64 hm61; clear hm61
  refine ev_condT hF62 rfl rfl ?_
  refine wp_skip ?_
  have hF66:=hF62.keep [0,4,6,8,9,10]
  clear hF62
  refine thenN (wp_seq ?_)
  refine wp_block ?_
  refine wp_seq ?_
  obtain ⟨hc67,hm68⟩:=ifTE hm65; clear hm65
  obtain ⟨hc69,hm70⟩:=ifTE hm68; clear hm68
  have hS71:=hS59.pick1
  clear hS59
  have hS72:=hS71.drew; clear hS71
  refine any_start (fun wS=>∃ qs,St w0 F0 (RowP (.slice (some ⟨w33.heap.size,0,none⟩) 4 4) [1,3,4,5]::RowP (.slice (some ⟨(w33.alloc (.cells #[nI 1,nI 3,nI 4,nI 5] 3)).heap.size,0,none⟩) 4 4) [9,7,10,2]::qs) wS) 15 #[false,false,false,false,false,false,false,false,false,false,false,false,false,false,false] (by kernel_rfl) (by kernel_rfl) (by kernel_rfl) ?_
  refine any_many 9 [(0,some (nP z10 0)),(1,some (.slice (some ⟨w33.heap.size,0,none⟩) 4 4)),(2,some (nI x54)),(3,some (nP (w33.heap.size) (x54.toNat))),(4,some (nI (atI [1,3,4,5] x54))),(5,some (.slice (some ⟨(w33.alloc (.cells #[nI 1,nI 3,nI 4,nI 5] 3)).heap.size,0,none⟩) 4 4)),(6,some (nI x54)),(7,some (nP ((w33.alloc (.cells #[nI 1,nI 3,nI 4,nI 5] 3)).heap.size) (x54.toNat))),(8,some (nI (atI [9,7,10,2] x54)))] [0,4,6,8,9,10,11,12,36,37,41,45,46,47,48] #[true,true,true,true,true,true,true,true,true,false,false,false,false,false,false] (by rfl) hF66 (by kernel_rfl) (by kernel_rfl) (by exact ⟨fun wS hw=>by kernel_rfl,fun wS hw=>by kernel_rfl,fun wS hw=>by kernel_rfl,fun wS hw=>run_idx rfl rfl rfl rfl rfl (inR_spec hc67).1 (inR_spec hc67).2 _,fun wS hw=>run_load1 rfl rfl rfl (hw.elim fun qs hw=>hw.atI 0 rfl hc67),fun wS hw=>by kernel_rfl,fun wS hw=>by kernel_rfl,fun wS hw=>run_idx rfl rfl rfl rfl rfl (inR_spec hc69).1 (inR_spec hc69).2 _,fun wS hw=>run_load1 rfl rfl rfl (hw.elim fun qs hw=>hw.atI 1 rfl hc69),trivial⟩) (fun _ _ _ _ _ h=>h) ⟨_,hS72⟩ (l':=[(45,nI (atI [9,7,10,2] x54)),(41,nI (atI [1,3,4,5] x54)),(37,nP z10 0),(10,nI x54),(9,.slice (some ⟨(w33.alloc (.cells #[nI 1,nI 3,nI 4,nI 5] 3)).heap.size,0,none⟩) 4 4),(8,.slice (some ⟨w33.heap.size,0,none⟩) 4 4),(6,nP z22 0),(4,nP z10 0),(0,.bool false)]) (by kernel_rfl) ?_
  intro a74 hF73; clear hF66
  have hS75:=hS72.pick2
  clear hS72
  refine any_call 9 #[true,true,true,true,true,true,true,true,true,true,false,false,false,false,false] 11 #[nP z10 0,nI (atI [1,3,4,5] x54),nI (atI [9,7,10,2] x54)] hF73 rfl (by kernel_rfl) rfl rfl (by kernel_rfl) rfl (by kernel_rfl) (fun w=>by kernel_rfl) (by kernel_rfl) ?_
  obtain ⟨x76,x77,s78,hx79,hm80⟩:=bind3E hm70; clear hm70
  refine (p_Alloc hS75 hx79).mono ?_
  rintro _ w81 ⟨rfl,hS83⟩; clear hS75
  refine ⟨⟨_,hS83.pick2.pick2⟩,?_⟩
  intro a82 hF84; clear hF73
  refine any_many 5 [(10,some (.tuple #[nI x76,nI x77])),(11,some (nI x76)),(12,some (nI x77)),(13,some (nI x76)),(14,some (nI x77))] [0,4,6,8,9,10,11,12] #[true,true,true,true,true,true,true,true,true,true,true,true,true,true,true] (by rfl) hF84 (by kernel_rfl) (by kernel_rfl) (by exact ⟨fun wS hw=>by kernel_rfl,fun wS hw=>by kernel_rfl,fun wS hw=>by kernel_rfl,fun wS hw=>by kernel_rfl,fun wS hw=>by kernel_rfl,trivial⟩) (fun _ _ _ _ _ h=>h) ⟨_,hS83.pick2.pick2⟩ (l':=[(12,nI x77),(11,nI x76),(10,nI x54),(9,.slice (some ⟨(w33.alloc (.cells #[nI 1,nI 3,nI 4,nI 5] 3)).heap.size,0,none⟩) 4 4),(8,.slice (some ⟨w33.heap.size,0,none⟩) 4 4),(6,nP z22 0),(4,nP z10 0),(0,.bool false)]) (by kernel_rfl) ?_
  intro a86 hF85; clear hF84
  refine any_done (by kernel_rfl) ?_
  refine thenN (wp_seq ?_)
  have hS87:=hS83.pick2.pick2
  clear hS83
  have hS88:=hS87.drew; clear hS87
  refine any_start (fun wS=>∃ qs,St w0 F0 (RowP (.slice (some ⟨w33.heap.size,0,none⟩) 4 4) [1,3,4,5]::RowP (.slice (some ⟨(w33.alloc (.cells #[nI 1,nI 3,nI 4,nI 5] 3)).heap.size,0,none⟩) 4 4) [9,7,10,2]::qs) wS) 15 #[false,false,false,false,false,false,false,false,false,false,false,false,false,false,false] (by kernel_rfl) (by kernel_rfl) (by kernel_rfl) ?_
  refine any_many 9 [(0,some (nP z22 0)),(1,some (.slice (some ⟨w33.heap.size,0,none⟩) 4 4)),(2,some (nI x54)),(3,some (nP (w33.heap.size) (x54.toNat))),(4,some (nI (atI [1,3,4,5] x54))),(5,some (.slice (some ⟨(w33.alloc (.cells #[nI 1,nI 3,nI 4,nI 5] 3)).heap.size,0,none⟩) 4 4)),(6,some (nI x54)),(7,some (nP ((w33.alloc (.cells #[nI 1,nI 3,nI 4,nI 5] 3)).heap.size) (x54.toNat))),(8,some (nI (atI [9,7,10,2] x54)))] [0,4,6,8,9,10,11,12,13,14,49,50,54,58,59,60,61] #[true,true,true,true,true,true,true,true,true,false,false,false,false,false,false] (by rfl) hF85 (by kernel_rfl) (by kernel_rfl) (by exact ⟨fun wS hw=>by kernel_rfl,fun wS hw=>by kernel_rfl,fun wS hw=>by kernel_rfl,fun wS hw=>run_idx rfl rfl rfl rfl rfl (inR_spec hc67).1 (inR_spec hc67).2 _,fun wS hw=>run_load1 rfl rfl rfl (hw.elim fun qs hw=>hw.atI 0 rfl hc67),fun wS hw=>by kernel_rfl,fun wS hw=>by kernel_rfl,fun wS hw=>run_idx rfl rfl rfl rfl rfl (inR_spec hc69).1 (inR_spec hc69).2 _,fun wS hw=>run_load1 rfl rfl rfl (hw.elim fun qs hw=>hw.atI 1 rfl hc69),trivial⟩) (fun _ _ _ _ _ h=>h) ⟨_,hS88⟩ (l':=[(58,nI (atI [9,7,10,2] x54)),(54,nI (atI [1,3,4,5] x54)),(50,nP z22 0),(12,nI x77),(11,nI x76),(10,nI x54),(9,.slice (some ⟨(w33.alloc (.cells #[nI 1,nI 3,nI 4,nI 5] 3)).heap.size,0,none⟩) 4 4),(8,.slice (some ⟨w33.heap.size,0,none⟩) 4 4),(6,nP z22 0),(4,nP z10 0),(0,.bool false)]) (by kernel_rfl) ?_
  intro a90 hF89; clear hF85
  have hS91:=hS88.pick3
  clear hS88
  refine any_call 9 #[true,true,true,true,true,true,true,true,true,true,false,false,false,false,false] 60 #[nP z22 0,nI (atI [1,3,4,5] x54),nI (atI [9,7,10,2] x54)] hF89 rfl (by kernel_rfl) rfl rfl (by kernel_rfl) rfl (by kernel_rfl) (fun w=>by kernel_rfl) (by kernel_rfl) ?_
  obtain ⟨x92,x93,s94,hx95,hm96⟩:=bind3E hm80; clear hm80
  refine (q_Alloc hS91 hx95).mono ?_
  rintro _ w97 ⟨rfl,hS99⟩; clear hS91
  refine ⟨⟨_,hS99.pick2.pick2⟩,?_⟩
  intro a98 hF100; clear hF89
  refine any_many 5 [(10,some (.tuple #[nI x92,nI x93])),(11,some (nI x92)),(12,some (nI x93)),(13,some (nI x92)),(14,some (nI x93))] [0,4,6,8,9,10,11,12,13,14] #[true,true,true,true,true,true,true,true,true,true,true,true,true,true,true] (by rfl) hF100 (by kernel_rfl) (by kernel_rfl) (by exact ⟨fun wS hw=>by kernel_rfl,fun wS hw=>by kernel_rfl,fun wS hw=>by kernel_rfl,fun wS hw=>by kernel_rfl,fun wS hw=>by kernel_rfl,trivial⟩) (fun _ _ _ _ _ h=>h) ⟨_,hS99.pick2.pick2⟩ (l':=[(14,nI x93),(13,nI x92),(12,nI x77),(11,nI x76),(10,nI x54),(9,.slice (some ⟨(w33.alloc (.cells #[nI 1,nI 3,nI 4,nI 5] 3)).heap.size,0,none⟩) 4 4),(8,.slice (some ⟨w33.heap.size,0,none⟩) 4 4),(6,nP z22 0),(4,nP z10 0),(0,.bool false)]) (by kernel_rfl) ?_
  intro a102 hF101; clear hF100
  refine any_done (by kernel_rfl) ?_
  refine thenN (wp_seq ?_)
  refine joinQ (fun aI wI=>∃ (y103:Bool),Fr 77 aI [(69,.bool (y103)),(10,nI x54),(9,.slice (some ⟨(w33.alloc (.cells #[nI 1,nI 3,nI 4,nI 5] 3)).heap.size,0,none⟩) 4 4),(8,.slice (some ⟨w33.heap.size,0,none⟩) 4 4),(6,nP z22 0),(4,nP z10 0),(0,.bool false)]∧St w0 F0 (RHeapP z22 z23 z24 z25 z26 s94::RowP (.slice (some ⟨w33.heap.size,0,none⟩) 4 4) [1,3,4,5]::RowP (.slice (some ⟨(w33.alloc (.cells #[nI 1,nI 3,nI 4,nI 5] 3)).heap.size,0,none⟩) 4 4) [9,7,10,2]::HeapP z10 z11 s78::ps) wI∧law11_both.j4 x54 (law11_both.l3 k55) s78 s94 y103=some (r0,r1)) ?_ ?_
  rotate_left
  · rintro a105 w106 ⟨y103,hF107,hS108,hm109⟩
    clear hF101 hS99 hm96
    unfold law11_both.j4 at hm109
    refine thenN ?_
    cases hc111:(y103)
    case true =>
     rw [hc111] at hF107
     have hm112:=ifYes hc111 hm109; clear hm109
     refine ev_condT hF107 rfl rfl ?_
     refine wp_seq (wp_region_lit ?_)
     refine ev_runK 2 hF107 [2,3] (l':=[(3,.pointer none),(2,.pointer none)]) (w':=w106) (by kernel_rfl) ?_
     intro a114 hF113; clear hF107
     refine wpList_nil ?_
     have hS115:=hS108.drop.drop.drop.drop
     clear hS108
     refine thenN ?_
     refine wp_ret ?_
     refine blockR ?_
     refine thenR (thenR ?_)
     refine blockR ?_
     refine thenR ?_
     cases hm112
    rw [hc111] at hF107
    have hm116:=ifNot hc111 hm109; clear hm109
    refine ev_condF hF107 rfl rfl ?_
    refine wp_skip ?_
    have hF117:=hF107.keep [0,4,6,8,9,10]
    clear hF107
    refine blockN ?_
    refine thenN (wp_region_lit ?_)
    refine ev_runK 3 hF117 [0,4,6,8,9,10] (l':=[(10,nI (IntKind.i64.wrap (x54+1))),(9,.slice (some ⟨(w33.alloc (.cells #[nI 1,nI 3,nI 4,nI 5] 3)).heap.size,0,none⟩) 4 4),(8,.slice (some ⟨w33.heap.size,0,none⟩) 4 4),(6,nP z22 0),(4,nP z10 0),(0,.bool false)]) (w':=w106) (by kernel_rfl) ?_
    intro a119 hF118; clear hF117
    refine wpList_nil ?_
    have hS120:=hS108.pick3.pick2.pick3
    clear hS108
    exact thenN ⟨k55,Nat.lt_succ_self _,s78,s94,IntKind.i64.wrap (x54+1),hF118,hS120,hm116⟩
  · skip
    refine wp_region_lit ?_
    refine ev_runs 4 hF101 (l':=[(65,.bool (x76 != x92)),(64,.bool (x76 != x92)),(63,nI x92),(62,nI x76),(14,nI x93),(13,nI x92),(12,nI x77),(11,nI x76),(10,nI x54),(9,.slice (some ⟨(w33.alloc (.cells #[nI 1,nI 3,nI 4,nI 5] 3)).heap.size,0,none⟩) 4 4),(8,.slice (some ⟨w33.heap.size,0,none⟩) 4 4),(6,nP z22 0),(4,nP z10 0),(0,.bool false)]) (w':=w97) (by kernel_rfl) ?_
    intro a122 hF121; clear hF101
    cases hc123:(x76 != x92)
    case true =>
     rw [hc123] at hF121
     have hm124:=ifYes hc123 hm96; clear hm96
     refine ev_runK 4 hF121 [0,4,6,8,9,10,69] (l':=[(69,.bool true),(10,nI x54),(9,.slice (some ⟨(w33.alloc (.cells #[nI 1,nI 3,nI 4,nI 5] 3)).heap.size,0,none⟩) 4 4),(8,.slice (some ⟨w33.heap.size,0,none⟩) 4 4),(6,nP z22 0),(4,nP z10 0),(0,.bool false)]) (w':=w97) (by kernel_rfl) ?_
     intro a126 hF125; clear hF121
     refine wpList_nil ?_
     exact thenN ⟨true,hF125,hS99,hm124⟩
    rw [hc123] at hF121
    have hm127:=ifNot hc123 hm96; clear hm96
    refine ev_runK 4 hF121 [0,4,6,8,9,10,69] (l':=[(69,.bool (x77 != x93)),(10,nI x54),(9,.slice (some ⟨(w33.alloc (.cells #[nI 1,nI 3,nI 4,nI 5] 3)).heap.size,0,none⟩) 4 4),(8,.slice (some ⟨w33.heap.size,0,none⟩) 4 4),(6,nP z22 0),(4,nP z10 0),(0,.bool false)]) (w':=w97) (by kernel_rfl) ?_
    intro a129 hF128; clear hF121
    refine wpList_nil ?_
    exact thenN ⟨x77 != x93,hF128,hS99,hm127⟩
 rw [hc64] at hF62
 have hm130:=ifNot hc64 hm61; clear hm61
 refine ev_condF hF62 rfl rfl ?_
 refine wp_exit ?_
 refine thenE ?_
 refine thenE ?_
 refine blockE ?_
 refine thenN (wp_seq (wp_seq (wp_region_lit ?_)))
 refine ev_runK 1 hF62 [4,6,70] (l':=[(70,.bool false),(6,nP z22 0),(4,nP z10 0)]) (w':=w57) (by kernel_rfl) ?_
 intro a132 hF131; clear hF62
 refine wpList_nil ?_
 have hS133:=hS59.drop.drop
 clear hS59
 refine thenN ?_
 refine ev_condF hF131 rfl rfl ?_
 refine wp_skip ?_
 have hF134:=hF131.keep [4,6]
 clear hF131
 refine thenN (wp_seq (wp_region_lit ?_))
 refine ev_runK 4 hF134 [2,3] (l':=[(3,nP z22 0),(2,nP z10 0)]) (w':=w57) (by kernel_rfl) ?_
 intro a136 hF135; clear hF134
 refine wpList_nil (thenN ?_)
 refine wp_ret ?_
 simp only [Option.some.injEq,Prod.mk.injEq] at hm130
 obtain ⟨rfl,rfl⟩:=hm130
 refine ev_ret hF135 [2,3] (.tuple #[nP z10 0,nP z22 0]) rfl rfl rfl ?_
 exact ⟨_,_,_,_,_,_,_,rfl,hS133⟩
def law11_places.j8 (x23:Int) (rec30:Int→Int→Int→Int→Int→Option (Int×Int×Int×Int×HSt)) (x53:Int) (x54:Int) (x55:Int) (x56:Int):Option (Int×Int×Int×Int×HSt):=rec30 (IntKind.i64.wrap (x23+1)) x54 x55 x56 x53
def law11_places.j9 (x23:Int) (x27:Int) (rec30:Int→Int→Int→Int→Int→Option (Int×Int×Int×Int×HSt)) (x80:Int) (x81:Int) (x82:Int):Option (Int×Int×Int×Int×HSt):=law11_places.j8 x23 rec30 x27 x81 x82 x80
def law11_places.j10 (x23:Int) (x26:Int) (x27:Int) (rec30:Int→Int→Int→Int→Int→Option (Int×Int×Int×Int×HSt)) (x104:Int) (x105:Int):Option (Int×Int×Int×Int×HSt):=law11_places.j9 x23 x27 rec30 x26 x105 x104
def law11_places.l7b (s0:HSt) (rec30:Int→Int→Int→Int→Int→Option (Int×Int×Int×Int×HSt)) (x23:Int) (x24:Int) (x25:Int) (x26:Int) (x27:Int):Option (Int×Int×Int×Int×HSt):=(if (decide (x23<((hObjsF s0.a).length:Int))) then (if (inR x23 (hObjsF s0.a).length) then (if ((aKind s0.a.c (atI (hObjsF s0.a) x23)) == 1) then law11_places.j8 x23 rec30 (atI (hObjsF s0.a) x23) x24 x25 x26 else (if ((aKind s0.a.c (atI (hObjsF s0.a) x23)) == 3) then law11_places.j9 x23 x27 rec30 (atI (hObjsF s0.a) x23) x24 x25 else (if ((aKind s0.a.c (atI (hObjsF s0.a) x23)) == 4) then law11_places.j10 x23 x26 x27 rec30 (atI (hObjsF s0.a) x23) x24 else law11_places.j10 x23 x26 x27 rec30 x25 (atI (hObjsF s0.a) x23)))) else none) else some (x27,x26,x25,x24,s0))
def law11_places.l7 (s0:HSt):Nat→Int→Int→Int→Int→Int→Option (Int×Int×Int×Int×HSt)
  | 0=>fun _ _ _ _ _=>none
  | kI+1=>law11_places.l7b s0 (law11_places.l7 s0 kI)
def law11_places.m (k:Nat) (s0:HSt):Option (Int×Int×Int×Int×HSt):=law11_places.l7 s0 k 0 (-1) (-1) (-1) (-1)
set_option maxRecDepth 100000 in
set_option maxHeartbeats 1500000 in
theorem law11_places.ok {w0 w:World} {F0:List Nat} {ps:List Piece} {k:Nat} {b0 ab0 sb0 g0 cb0:Nat} {s0:HSt} {r0:Int} {r1:Int} {r2:Int} {r3:Int} {t0:HSt} (hS:St w0 F0 (RHeapP b0 ab0 sb0 g0 cb0 s0::ps) w) (hm:law11_places.m k s0=some (r0,r1,r2,r3,t0)) :
    Calls Try.prog 21 #[nP b0 0] w fun e w'=>e=.returned (.tuple #[.int .i64 r0,.int .i64 r1,.int .i64 r2,.int .i64 r3])∧St w0 F0 (RHeapP b0 ab0 sb0 g0 cb0 t0::ps) w':=by
 refine ev_enterL 58 [nP b0 0] Try.func21 rfl rfl (by simp) ?_
 intro a hF
 have hF0:Fr 58 a [(0,nP b0 0)]:=hF; clear hF
 unfold law11_places.m at hm
 refine wp_seq (wp_region_lit ?_)
 refine ev_runK 4 hF0 [0] (l':=[(0,nP b0 0)]) (w':=w) (by kernel_rfl) ?_
 intro a2 hF1; clear hF0
 refine wpList_nil (thenN (wp_seq (wp_region_lit ?_)))
 refine ev_runs 4 hF1 (l':=[(9,nI (-1)),(8,nI (-1)),(7,nI (-1)),(6,nI (-1)),(0,nP b0 0)]) (w':=w) (by kernel_rfl) ?_
 intro a4 hF3; clear hF1
 refine wpList_nil (thenN (wp_seq (wp_region_lit ?_)))
 refine ev_runs 3 hF3 (l':=[(14,nP b0 0),(13,nP b0 0),(12,nP b0 0),(9,nI (-1)),(8,nI (-1)),(7,nI (-1)),(6,nI (-1)),(0,nP b0 0)]) (w':=w) (by kernel_rfl) ?_
 intro a6 hF5; clear hF3
 refine ev_one (nP ab0 0) w hF5 (by kernel_rfl) rfl (by kernel_rfl) (run_loadV rfl rfl (run_loadS rfl rfl (St.rhsee (k:=0) hS rfl).1)) (l':=[(15,nP ab0 0),(14,nP b0 0),(13,nP b0 0),(12,nP b0 0),(9,nI (-1)),(8,nI (-1)),(7,nI (-1)),(6,nI (-1)),(0,nP b0 0)]) (by kernel_rfl) ?_
 intro a8 hF7; clear hF5
 refine ev_call 62 #[nP ab0 0] hF7 rfl rfl (by kernel_rfl) rfl (by kernel_rfl) (fun w=>by kernel_rfl) ?_
 refine (q_Objects hS).mono ?_
 rintro _ w9 ⟨z13,rfl,hS11⟩ a10 hF12; clear hF7 hS
 obtain ⟨hl18,p15,c16,rfl,hp17⟩:=St.shape hS11 1 rfl
 refine ev_runK 1 hF12 [0,6,7,8,9,10] (l':=[(10,.slice p15 (hObjsF s0.a).length c16),(9,nI (-1)),(8,nI (-1)),(7,nI (-1)),(6,nI (-1)),(0,nP b0 0)]) (w':=w9) (by kernel_rfl) ?_
 intro a20 hF19; clear hF12
 refine wpList_nil (thenN (wp_seq (wp_seq (wp_region_lit ?_))))
 refine ev_runs 1 hF19 (l':=[(11,nI 0),(10,.slice p15 (hObjsF s0.a).length c16),(9,nI (-1)),(8,nI (-1)),(7,nI (-1)),(6,nI (-1)),(0,nP b0 0)]) (w':=w9) (by kernel_rfl) ?_
 intro a22 hF21; clear hF19
 refine wpList_nil (thenN ?_)
 refine wp_block ?_
 refine wp_loop_ghost (fun kI aI wI=>∃ (x23:Int) (x24:Int) (x25:Int) (x26:Int) (x27:Int),Fr 58 aI [(11,nI x23),(10,.slice p15 (hObjsF s0.a).length c16),(9,nI x24),(8,nI x25),(7,nI x26),(6,nI x27),(0,nP b0 0)]∧St w0 F0 (RHeapP b0 ab0 sb0 g0 cb0 s0::RowP (.slice p15 (hObjsF s0.a).length c16) (hObjsF s0.a)::ps) wI∧law11_places.l7 s0 kI x23 x24 x25 x26 x27=some (r0,r1,r2,r3,t0)) k ⟨0,-1,-1,-1,-1,hF21,hS11,hm⟩ ?_
 rintro k28 a29 w30 ⟨x23,x24,x25,x26,x27,hF31,hS32,hm33⟩
 clear hF21 hS11 hm
 rcases k28 with _ | k28
 · cases hm33
 have hm34:law11_places.l7b s0 (law11_places.l7 s0 k28) x23 x24 x25 x26 x27=some (r0,r1,r2,r3,t0):=hm33
 clear hm33
 unfold law11_places.l7b at hm34
 refine wp_seq (wp_seq (wp_region_lit ?_))
 refine ev_runK 4 hF31 [0,6,7,8,9,10,11,20] (l':=[(20,.bool (decide (x23<((hObjsF s0.a).length:Int)))),(11,nI x23),(10,.slice p15 (hObjsF s0.a).length c16),(9,nI x24),(8,nI x25),(7,nI x26),(6,nI x27),(0,nP b0 0)]) (w':=w30) (by kernel_rfl) ?_
 intro a36 hF35; clear hF31
 refine wpList_nil (thenN ?_)
 cases hc37:(decide (x23<((hObjsF s0.a).length:Int)))
 case true =>
  rw [hc37] at hF35
  have hm38:=ifYes hc37 hm34; clear hm34
  refine ev_condT hF35 rfl rfl ?_
  refine wp_skip ?_
  have hF39:=hF35.keep [0,6,7,8,9,10,11]
  clear hF35
  refine thenN (wp_seq ?_)
  refine wp_block ?_
  refine wp_seq ?_
  obtain ⟨hc40,hm41⟩:=ifTE hm38; clear hm38
  obtain ⟨g42,rfl⟩:=hp17.resolve_left (by have:=inR_spec hc40; omega)
  have hS43:=hS32.drew; clear hS32
  refine any_start (fun wS=>∃ qs,St w0 F0 (RHeapP b0 ab0 sb0 g0 cb0 s0::RowP (.slice (some ⟨g42,0,none⟩) (hObjsF s0.a).length c16) (hObjsF s0.a)::qs) wS) 9 #[false,false,false,false,false,false,false,false,false] (by kernel_rfl) (by kernel_rfl) (by kernel_rfl) ?_
  refine any_many 8 [(0,some (nP b0 0)),(1,some (nP b0 0)),(2,some (nP b0 0)),(3,some (nP ab0 0)),(4,some (.slice (some ⟨g42,0,none⟩) (hObjsF s0.a).length c16)),(5,some (nI x23)),(6,some (nP g42 (x23.toNat))),(7,some (nI (atI (hObjsF s0.a) x23)))] [0,6,7,8,9,10,11,26,30,31] #[true,true,true,true,true,true,true,true,false] (by rfl) hF39 (by kernel_rfl) (by kernel_rfl) (by exact ⟨fun wS hw=>by kernel_rfl,fun wS hw=>by kernel_rfl,fun wS hw=>by kernel_rfl,fun wS hw=>hw.elim fun qs hw=>run_loadV rfl rfl (run_loadS rfl rfl (St.rhsee (k:=0) hw rfl).1),fun wS hw=>by kernel_rfl,fun wS hw=>by kernel_rfl,fun wS hw=>run_idx rfl rfl rfl rfl rfl (inR_spec hc40).1 (inR_spec hc40).2 _,fun wS hw=>run_load1 rfl rfl rfl (hw.elim fun qs hw=>hw.atI 1 rfl hc40),trivial⟩) (fun _ _ _ _ _ h=>h) ⟨_,hS43⟩ (l':=[(30,nI (atI (hObjsF s0.a) x23)),(26,nP ab0 0),(11,nI x23),(10,.slice (some ⟨g42,0,none⟩) (hObjsF s0.a).length c16),(9,nI x24),(8,nI x25),(7,nI x26),(6,nI x27),(0,nP b0 0)]) (by kernel_rfl) ?_
  intro a45 hF44; clear hF39
  refine any_call 8 #[true,true,true,true,true,true,true,true,true] 63 #[nP ab0 0,nI (atI (hObjsF s0.a) x23)] hF44 rfl (by kernel_rfl) rfl rfl (by kernel_rfl) rfl (by kernel_rfl) (fun w=>by kernel_rfl) (by kernel_rfl) ?_
  refine (q_Kind hS43).mono ?_
  rintro _ w46 ⟨rfl,hS48⟩; clear hS43
  refine ⟨⟨_,hS48⟩,?_⟩
  intro a47 hF49; clear hF44
  refine any_done (by kernel_rfl) ?_
  have hF50:=hF49.keep [0,6,7,8,9,10,11,31]
  clear hF49
  refine thenN ?_
  refine wp_block ?_
  refine wp_seq (wp_region_lit ?_)
  refine ev_runK 2 hF50 [0,6,7,8,9,10,11,31,36] (l':=[(36,.bool ((aKind s0.a.c (atI (hObjsF s0.a) x23)) == 1)),(31,nI (aKind s0.a.c (atI (hObjsF s0.a) x23))),(11,nI x23),(10,.slice (some ⟨g42,0,none⟩) (hObjsF s0.a).length c16),(9,nI x24),(8,nI x25),(7,nI x26),(6,nI x27),(0,nP b0 0)]) (w':=w46) (by kernel_rfl) ?_
  intro a52 hF51; clear hF50
  refine wpList_nil (thenN ?_)
  refine joinQ (fun aI wI=>∃ (x53:Int) (x54:Int) (x55:Int) (x56:Int),Fr 58 aI [(6,nI x53),(11,nI x23),(10,.slice (some ⟨g42,0,none⟩) (hObjsF s0.a).length c16),(9,nI x54),(8,nI x55),(7,nI x56),(0,nP b0 0)]∧St w0 F0 (RHeapP b0 ab0 sb0 g0 cb0 s0::RowP (.slice (some ⟨g42,0,none⟩) (hObjsF s0.a).length c16) (hObjsF s0.a)::ps) wI∧law11_places.j8 x23 (law11_places.l7 s0 k28) x53 x54 x55 x56=some (r0,r1,r2,r3,t0)) ?_ ?_
  rotate_left
  · rintro a58 w59 ⟨x53,x54,x55,x56,hF60,hS61,hm62⟩
    clear hF51 hS48 hm41
    unfold law11_places.j8 at hm62
    refine blockN ?_
    refine blockN ?_
    refine thenN (wp_region_lit ?_)
    refine ev_runK 3 hF60 [0,6,7,8,9,10,11] (l':=[(11,nI (IntKind.i64.wrap (x23+1))),(6,nI x53),(10,.slice (some ⟨g42,0,none⟩) (hObjsF s0.a).length c16),(9,nI x54),(8,nI x55),(7,nI x56),(0,nP b0 0)]) (w':=w59) (by kernel_rfl) ?_
    intro a65 hF64; clear hF60
    refine wpList_nil ?_
    have hF66:Fr 58 a65 [(11,nI (IntKind.i64.wrap (x23+1))),(10,.slice (some ⟨g42,0,none⟩) (hObjsF s0.a).length c16),(9,nI x54),(8,nI x55),(7,nI x56),(6,nI x53),(0,nP b0 0)]:=Fr.re hF64 (by kernel_rfl)
    clear hF64
    exact thenN ⟨k28,Nat.lt_succ_self _,IntKind.i64.wrap (x23+1),x54,x55,x56,x53,hF66,hS61,hm62⟩
  · skip
    cases hc67:((aKind s0.a.c (atI (hObjsF s0.a) x23)) == 1)
    case true =>
     rw [hc67] at hF51
     have hm68:=ifYes hc67 hm41; clear hm41
     refine ev_condT hF51 rfl rfl ?_
     refine wp_region_lit ?_
     refine ev_runs 2 hF51 (l':=[(39,nI x23),(38,.slice (some ⟨g42,0,none⟩) (hObjsF s0.a).length c16),(36,.bool true),(31,nI (aKind s0.a.c (atI (hObjsF s0.a) x23))),(11,nI x23),(10,.slice (some ⟨g42,0,none⟩) (hObjsF s0.a).length c16),(9,nI x24),(8,nI x25),(7,nI x26),(6,nI x27),(0,nP b0 0)]) (w':=w46) (by kernel_rfl) ?_
     intro a70 hF69; clear hF51
     refine ev_one (nP g42 (x23.toNat)) w46 hF69 (by kernel_rfl) rfl (by kernel_rfl) (run_idx rfl rfl rfl rfl rfl (inR_spec hc40).1 (inR_spec hc40).2 _) (l':=[(40,nP g42 (x23.toNat)),(39,nI x23),(38,.slice (some ⟨g42,0,none⟩) (hObjsF s0.a).length c16),(36,.bool true),(31,nI (aKind s0.a.c (atI (hObjsF s0.a) x23))),(11,nI x23),(10,.slice (some ⟨g42,0,none⟩) (hObjsF s0.a).length c16),(9,nI x24),(8,nI x25),(7,nI x26),(6,nI x27),(0,nP b0 0)]) (by kernel_rfl) ?_
     intro a72 hF71; clear hF69
     refine ev_one (nI (atI (hObjsF s0.a) x23)) w46 hF71 (by kernel_rfl) rfl (by kernel_rfl) (run_load1 rfl rfl rfl (hS48.atI 1 rfl hc40)) (l':=[(41,nI (atI (hObjsF s0.a) x23)),(40,nP g42 (x23.toNat)),(39,nI x23),(38,.slice (some ⟨g42,0,none⟩) (hObjsF s0.a).length c16),(36,.bool true),(31,nI (aKind s0.a.c (atI (hObjsF s0.a) x23))),(11,nI x23),(10,.slice (some ⟨g42,0,none⟩) (hObjsF s0.a).length c16),(9,nI x24),(8,nI x25),(7,nI x26),(6,nI x27),(0,nP b0 0)]) (by kernel_rfl) ?_
     intro a74 hF73; clear hF71
     refine ev_runK 1 hF73 [0,6,7,8,9,10,11] (l':=[(6,nI (atI (hObjsF s0.a) x23)),(11,nI x23),(10,.slice (some ⟨g42,0,none⟩) (hObjsF s0.a).length c16),(9,nI x24),(8,nI x25),(7,nI x26),(0,nP b0 0)]) (w':=w46) (by kernel_rfl) ?_
     intro a76 hF75; clear hF73
     refine wpList_nil ?_
     exact thenN ⟨atI (hObjsF s0.a) x23,x24,x25,x26,hF75,hS48,hm68⟩
    rw [hc67] at hF51
    have hm77:=ifNot hc67 hm41; clear hm41
    refine ev_condF hF51 rfl rfl ?_
    refine wp_seq (wp_region_lit ?_)
    refine ev_runK 2 hF51 [0,6,7,8,9,10,11,31,42] (l':=[(42,.bool ((aKind s0.a.c (atI (hObjsF s0.a) x23)) == 3)),(31,nI (aKind s0.a.c (atI (hObjsF s0.a) x23))),(11,nI x23),(10,.slice (some ⟨g42,0,none⟩) (hObjsF s0.a).length c16),(9,nI x24),(8,nI x25),(7,nI x26),(6,nI x27),(0,nP b0 0)]) (w':=w46) (by kernel_rfl) ?_
    intro a79 hF78; clear hF51
    refine wpList_nil (thenN ?_)
    refine joinQ (fun aI wI=>∃ (x80:Int) (x81:Int) (x82:Int),Fr 58 aI [(7,nI x80),(11,nI x23),(10,.slice (some ⟨g42,0,none⟩) (hObjsF s0.a).length c16),(9,nI x81),(8,nI x82),(6,nI x27),(0,nP b0 0)]∧St w0 F0 (RHeapP b0 ab0 sb0 g0 cb0 s0::RowP (.slice (some ⟨g42,0,none⟩) (hObjsF s0.a).length c16) (hObjsF s0.a)::ps) wI∧law11_places.j9 x23 x27 (law11_places.l7 s0 k28) x80 x81 x82=some (r0,r1,r2,r3,t0)) ?_ ?_
    rotate_left
    · rintro a84 w85 ⟨x80,x81,x82,hF86,hS87,hm88⟩
      clear hF78 hS48 hm77
      unfold law11_places.j9 at hm88
      have hF90:Fr 58 a84 [(6,nI x27),(11,nI x23),(10,.slice (some ⟨g42,0,none⟩) (hObjsF s0.a).length c16),(9,nI x81),(8,nI x82),(7,nI x80),(0,nP b0 0)]:=Fr.re hF86 (by kernel_rfl)
      clear hF86
      exact thenN ⟨x27,x81,x82,x80,hF90,hS87,hm88⟩
    · skip
      cases hc91:((aKind s0.a.c (atI (hObjsF s0.a) x23)) == 3)
      case true =>
       rw [hc91] at hF78
       have hm92:=ifYes hc91 hm77; clear hm77
       refine ev_condT hF78 rfl rfl ?_
       refine wp_region_lit ?_
       refine ev_runs 2 hF78 (l':=[(45,nI x23),(44,.slice (some ⟨g42,0,none⟩) (hObjsF s0.a).length c16),(42,.bool true),(31,nI (aKind s0.a.c (atI (hObjsF s0.a) x23))),(11,nI x23),(10,.slice (some ⟨g42,0,none⟩) (hObjsF s0.a).length c16),(9,nI x24),(8,nI x25),(7,nI x26),(6,nI x27),(0,nP b0 0)]) (w':=w46) (by kernel_rfl) ?_
       intro a94 hF93; clear hF78
       refine ev_one (nP g42 (x23.toNat)) w46 hF93 (by kernel_rfl) rfl (by kernel_rfl) (run_idx rfl rfl rfl rfl rfl (inR_spec hc40).1 (inR_spec hc40).2 _) (l':=[(46,nP g42 (x23.toNat)),(45,nI x23),(44,.slice (some ⟨g42,0,none⟩) (hObjsF s0.a).length c16),(42,.bool true),(31,nI (aKind s0.a.c (atI (hObjsF s0.a) x23))),(11,nI x23),(10,.slice (some ⟨g42,0,none⟩) (hObjsF s0.a).length c16),(9,nI x24),(8,nI x25),(7,nI x26),(6,nI x27),(0,nP b0 0)]) (by kernel_rfl) ?_
       intro a96 hF95; clear hF93
       refine ev_one (nI (atI (hObjsF s0.a) x23)) w46 hF95 (by kernel_rfl) rfl (by kernel_rfl) (run_load1 rfl rfl rfl (hS48.atI 1 rfl hc40)) (l':=[(47,nI (atI (hObjsF s0.a) x23)),(46,nP g42 (x23.toNat)),(45,nI x23),(44,.slice (some ⟨g42,0,none⟩) (hObjsF s0.a).length c16),(42,.bool true),(31,nI (aKind s0.a.c (atI (hObjsF s0.a) x23))),(11,nI x23),(10,.slice (some ⟨g42,0,none⟩) (hObjsF s0.a).length c16),(9,nI x24),(8,nI x25),(7,nI x26),(6,nI x27),(0,nP b0 0)]) (by kernel_rfl) ?_
       intro a98 hF97; clear hF95
       refine ev_runK 1 hF97 [0,6,7,8,9,10,11] (l':=[(7,nI (atI (hObjsF s0.a) x23)),(11,nI x23),(10,.slice (some ⟨g42,0,none⟩) (hObjsF s0.a).length c16),(9,nI x24),(8,nI x25),(6,nI x27),(0,nP b0 0)]) (w':=w46) (by kernel_rfl) ?_
       intro a100 hF99; clear hF97
       refine wpList_nil ?_
       exact thenN ⟨atI (hObjsF s0.a) x23,x24,x25,hF99,hS48,hm92⟩
      rw [hc91] at hF78
      have hm101:=ifNot hc91 hm77; clear hm77
      refine ev_condF hF78 rfl rfl ?_
      refine wp_seq (wp_region_lit ?_)
      refine ev_runK 2 hF78 [0,6,7,8,9,10,11,48] (l':=[(48,.bool ((aKind s0.a.c (atI (hObjsF s0.a) x23)) == 4)),(11,nI x23),(10,.slice (some ⟨g42,0,none⟩) (hObjsF s0.a).length c16),(9,nI x24),(8,nI x25),(7,nI x26),(6,nI x27),(0,nP b0 0)]) (w':=w46) (by kernel_rfl) ?_
      intro a103 hF102; clear hF78
      refine wpList_nil (thenN ?_)
      refine joinQ (fun aI wI=>∃ (x104:Int) (x105:Int),Fr 58 aI [(8,nI x104),(11,nI x23),(10,.slice (some ⟨g42,0,none⟩) (hObjsF s0.a).length c16),(9,nI x105),(7,nI x26),(6,nI x27),(0,nP b0 0)]∧St w0 F0 (RHeapP b0 ab0 sb0 g0 cb0 s0::RowP (.slice (some ⟨g42,0,none⟩) (hObjsF s0.a).length c16) (hObjsF s0.a)::ps) wI∧law11_places.j10 x23 x26 x27 (law11_places.l7 s0 k28) x104 x105=some (r0,r1,r2,r3,t0)) ?_ ?_
      rotate_left
      · rintro a107 w108 ⟨x104,x105,hF109,hS110,hm111⟩
        clear hF102 hS48 hm101
        unfold law11_places.j10 at hm111
        have hF113:Fr 58 a107 [(7,nI x26),(11,nI x23),(10,.slice (some ⟨g42,0,none⟩) (hObjsF s0.a).length c16),(9,nI x105),(8,nI x104),(6,nI x27),(0,nP b0 0)]:=Fr.re hF109 (by kernel_rfl)
        clear hF109
        exact thenN ⟨x26,x105,x104,hF113,hS110,hm111⟩
      · skip
        cases hc114:((aKind s0.a.c (atI (hObjsF s0.a) x23)) == 4)
        case true =>
         rw [hc114] at hF102
         have hm115:=ifYes hc114 hm101; clear hm101
         refine ev_condT hF102 rfl rfl ?_
         refine wp_region_lit ?_
         refine ev_runs 2 hF102 (l':=[(51,nI x23),(50,.slice (some ⟨g42,0,none⟩) (hObjsF s0.a).length c16),(48,.bool true),(11,nI x23),(10,.slice (some ⟨g42,0,none⟩) (hObjsF s0.a).length c16),(9,nI x24),(8,nI x25),(7,nI x26),(6,nI x27),(0,nP b0 0)]) (w':=w46) (by kernel_rfl) ?_
         intro a117 hF116; clear hF102
         refine ev_one (nP g42 (x23.toNat)) w46 hF116 (by kernel_rfl) rfl (by kernel_rfl) (run_idx rfl rfl rfl rfl rfl (inR_spec hc40).1 (inR_spec hc40).2 _) (l':=[(52,nP g42 (x23.toNat)),(51,nI x23),(50,.slice (some ⟨g42,0,none⟩) (hObjsF s0.a).length c16),(48,.bool true),(11,nI x23),(10,.slice (some ⟨g42,0,none⟩) (hObjsF s0.a).length c16),(9,nI x24),(8,nI x25),(7,nI x26),(6,nI x27),(0,nP b0 0)]) (by kernel_rfl) ?_
         intro a119 hF118; clear hF116
         refine ev_one (nI (atI (hObjsF s0.a) x23)) w46 hF118 (by kernel_rfl) rfl (by kernel_rfl) (run_load1 rfl rfl rfl (hS48.atI 1 rfl hc40)) (l':=[(53,nI (atI (hObjsF s0.a) x23)),(52,nP g42 (x23.toNat)),(51,nI x23),(50,.slice (some ⟨g42,0,none⟩) (hObjsF s0.a).length c16),(48,.bool true),(11,nI x23),(10,.slice (some ⟨g42,0,none⟩) (hObjsF s0.a).length c16),(9,nI x24),(8,nI x25),(7,nI x26),(6,nI x27),(0,nP b0 0)]) (by kernel_rfl) ?_
         intro a121 hF120; clear hF118
         refine ev_runK 1 hF120 [0,6,7,8,9,10,11] (l':=[(8,nI (atI (hObjsF s0.a) x23)),(11,nI x23),(10,.slice (some ⟨g42,0,none⟩) (hObjsF s0.a).length c16),(9,nI x24),(7,nI x26),(6,nI x27),(0,nP b0 0)]) (w':=w46) (by kernel_rfl) ?_
         intro a123 hF122; clear hF120
         refine wpList_nil ?_
         exact thenN ⟨atI (hObjsF s0.a) x23,x24,hF122,hS48,hm115⟩
        rw [hc114] at hF102
        have hm124:=ifNot hc114 hm101; clear hm101
        refine ev_condF hF102 rfl rfl ?_
        refine wp_region_lit ?_
        refine ev_runs 2 hF102 (l':=[(33,nI x23),(32,.slice (some ⟨g42,0,none⟩) (hObjsF s0.a).length c16),(48,.bool false),(11,nI x23),(10,.slice (some ⟨g42,0,none⟩) (hObjsF s0.a).length c16),(9,nI x24),(8,nI x25),(7,nI x26),(6,nI x27),(0,nP b0 0)]) (w':=w46) (by kernel_rfl) ?_
        intro a126 hF125; clear hF102
        refine ev_one (nP g42 (x23.toNat)) w46 hF125 (by kernel_rfl) rfl (by kernel_rfl) (run_idx rfl rfl rfl rfl rfl (inR_spec hc40).1 (inR_spec hc40).2 _) (l':=[(34,nP g42 (x23.toNat)),(33,nI x23),(32,.slice (some ⟨g42,0,none⟩) (hObjsF s0.a).length c16),(48,.bool false),(11,nI x23),(10,.slice (some ⟨g42,0,none⟩) (hObjsF s0.a).length c16),(9,nI x24),(8,nI x25),(7,nI x26),(6,nI x27),(0,nP b0 0)]) (by kernel_rfl) ?_
        intro a128 hF127; clear hF125
        refine ev_one (nI (atI (hObjsF s0.a) x23)) w46 hF127 (by kernel_rfl) rfl (by kernel_rfl) (run_load1 rfl rfl rfl (hS48.atI 1 rfl hc40)) (l':=[(35,nI (atI (hObjsF s0.a) x23)),(34,nP g42 (x23.toNat)),(33,nI x23),(32,.slice (some ⟨g42,0,none⟩) (hObjsF s0.a).length c16),(48,.bool false),(11,nI x23),(10,.slice (some ⟨g42,0,none⟩) (hObjsF s0.a).length c16),(9,nI x24),(8,nI x25),(7,nI x26),(6,nI x27),(0,nP b0 0)]) (by kernel_rfl) ?_
        intro a130 hF129; clear hF127
        refine ev_runK 1 hF129 [0,6,7,8,9,10,11] (l':=[(9,nI (atI (hObjsF s0.a) x23)),(11,nI x23),(10,.slice (some ⟨g42,0,none⟩) (hObjsF s0.a).length c16),(8,nI x25),(7,nI x26),(6,nI x27),(0,nP b0 0)]) (w':=w46) (by kernel_rfl) ?_
        intro a132 hF131; clear hF129
        refine wpList_nil ?_
        have hF133:Fr 58 a132 [(8,nI x25),(11,nI x23),(10,.slice (some ⟨g42,0,none⟩) (hObjsF s0.a).length c16),(9,nI (atI (hObjsF s0.a) x23)),(7,nI x26),(6,nI x27),(0,nP b0 0)]:=Fr.re hF131 (by kernel_rfl)
        clear hF131
        exact thenN ⟨x25,atI (hObjsF s0.a) x23,hF133,hS48,hm124⟩
 rw [hc37] at hF35
 have hm134:=ifNot hc37 hm34; clear hm34
 refine ev_condF hF35 rfl rfl ?_
 refine wp_exit ?_
 refine thenE ?_
 refine thenE ?_
 refine blockE ?_
 refine thenN (wp_seq (wp_region_lit ?_))
 refine ev_runK 8 hF35 [2,3,4,5] (l':=[(5,nI x24),(4,nI x25),(3,nI x26),(2,nI x27)]) (w':=w30) (by kernel_rfl) ?_
 intro a136 hF135; clear hF35
 refine wpList_nil ?_
 have hS137:=hS32.pick1.drop
 clear hS32
 refine thenN ?_
 refine wp_ret ?_
 simp only [Option.some.injEq,Prod.mk.injEq] at hm134
 obtain ⟨rfl,rfl,rfl,rfl,rfl⟩:=hm134
 refine ev_ret hF135 [2,3,4,5] (.tuple #[nI x27,nI x26,nI x25,nI x24]) rfl rfl rfl ?_
 exact ⟨rfl,hS137⟩
def law11_awake.j1 (y87:Bool):Option (Bool):=some (y87)
def law11_awake.m (k:Nat):Option (Bool):=bind2 (law11_both.m k ) fun s3 s4=>bind5 (law11_places.m k s4) fun x28 x29 x30 x31 s32=>bind2 (pPutChan x28 (⟨2,0,0,0,-1,-1,-1,-1,5⟩:Ch) s3) fun x56 s57=>bind2 (pChan x28 s57) fun q68 x69=>(if (x56 == 0) then (if (x69 == 0) then law11_awake.j1 ((q68.cap == (2:Int)) && ((q68.closed == (0:Int)) && ((q68.count == (0:Int)) && ((q68.start == (0:Int)) && ((q68.buf == (-1:Int)) && ((q68.th == (-1:Int)) && ((q68.tt == (-1:Int)) && ((q68.sh == (-1:Int)) && ((q68.st == (5:Int)) && (true)))))))))) else law11_awake.j1 false) else law11_awake.j1 false)
set_option maxRecDepth 100000 in
set_option maxHeartbeats 1500000 in
theorem law11_awake.ok {w0 w:World} {F0:List Nat} {ps:List Piece} {k:Nat}  {r0:Bool} (hS:St w0 F0 (ps) w) (hm:law11_awake.m k=some r0) :
    Calls Try.prog 20 #[] w fun e w'=>e=.returned (.bool r0)∧St w0 F0 (ps) w':=by
 refine ev_enterL 50 [] Try.func20 rfl rfl (by simp) ?_
 intro a hF
 have hF0:Fr 50 a []:=hF; clear hF
 unfold law11_awake.m at hm
 refine wp_seq (wp_region_lit ?_)
 refine ev_runK 1 hF0 [] (l':=[]) (w':=w) (by kernel_rfl) ?_
 intro a2 hF1; clear hF0
 refine wpList_nil (thenN (wp_seq (wp_region_lit ?_)))
 refine ev_call 19 #[.bool false] hF1 rfl rfl (by kernel_rfl) rfl (by kernel_rfl) (fun w=>by kernel_rfl) ?_
 obtain ⟨s3,s4,hx5,hm6⟩:=bind2E hm; clear hm
 refine (law11_both.ok hS hx5).mono ?_
 rintro _ w7 ⟨z11,z12,z13,z14,z15,z16,z17,rfl,hS9⟩ a8 hF10; clear hF1 hS
 refine ev_runK 5 hF10 [1,2] (l':=[(2,nP z13 0),(1,nP z11 0)]) (w':=w7) (by kernel_rfl) ?_
 intro a21 hF20; clear hF10
 refine wpList_nil (thenN (wp_seq (wp_seq (wp_region_lit ?_))))
 refine ev_runK 6 hF20 [1,2,20] (l':=[(20,.bool false),(2,nP z13 0),(1,nP z11 0)]) (w':=w7) (by kernel_rfl) ?_
 intro a23 hF22; clear hF20
 refine wpList_nil (thenN ?_)
 refine ev_condF hF22 rfl rfl ?_
 refine wp_skip ?_
 have hF24:=hF22.keep [1,2]
 clear hF22
 refine thenN (wp_seq (wp_region_lit ?_))
 refine ev_runs 1 hF24 (l':=[(22,nP z13 0),(2,nP z13 0),(1,nP z11 0)]) (w':=w7) (by kernel_rfl) ?_
 intro a26 hF25; clear hF24
 have hS27:=hS9.pick1
 clear hS9
 refine ev_call 21 #[nP z13 0] hF25 rfl rfl (by kernel_rfl) rfl (by kernel_rfl) (fun w=>by kernel_rfl) ?_
 obtain ⟨x28,x29,x30,x31,s32,hx33,hm34⟩:=bind5E hm6; clear hm6
 refine (law11_places.ok hS27 hx33).mono ?_
 rintro _ w35 ⟨rfl,hS37⟩ a36 hF38; clear hF25 hS27
 refine ev_runK 9 hF38 [1,3] (l':=[(3,nI x28),(1,nP z11 0)]) (w':=w35) (by kernel_rfl) ?_
 intro a40 hF39; clear hF38
 refine wpList_nil ?_
 have hS41:=hS37.drop
 clear hS37
 refine thenN (wp_seq (wp_region_lit ?_))
 refine ev_runs 2 hF39 (l':=[(7,nB w35),(28,.agg #[nI 2,nI 0,nI 0,nI 0,nI (-1),nI (-1),nI (-1),nI (-1),nI 5]),(3,nI x28),(1,nP z11 0)]) (w':=w35.alloc (.cells #[nI 0,nI 0,nI 0,nI 0,nI 0,nI 0,nI 0,nI 0,nI 0] 46)) (by kernel_rfl) ?_
 intro a43 hF42; clear hF39
 have hS45:St w0 F0 (BlkP (w35.heap.size) 46 #[nI 0,nI 0,nI 0,nI 0,nI 0,nI 0,nI 0,nI 0,nI 0]::HeapP z11 z12 s3::ps) (w35.alloc (.cells #[nI 0,nI 0,nI 0,nI 0,nI 0,nI 0,nI 0,nI 0,nI 0] 46)):=St.new hS41 #[nI 0,nI 0,nI 0,nI 0,nI 0,nI 0,nI 0,nI 0,nI 0] 46
 clear hS41
 refine ev_store (.agg #[nI 2,nI 0,nI 0,nI 0,nI (-1),nI (-1),nI (-1),nI (-1),nI 5]) #[nI 2,nI 0,nI 0,nI 0,nI (-1),nI (-1),nI (-1),nI (-1),nI 5] hF42 (by kernel_rfl) rfl rfl rfl rfl (by kernel_rfl) hS45 (by kernel_rfl) (by kernel_rfl) (by kernel_rfl) (l':=[(7,nB w35),(28,.agg #[nI 2,nI 0,nI 0,nI 0,nI (-1),nI (-1),nI (-1),nI (-1),nI 5]),(3,nI x28),(1,nP z11 0)]) (by kernel_rfl) ?_
 intro w46 a47 hS48 hF49; clear hF42 hS45
 refine wpList_nil ?_
 have hF50:=hF49.keep [1,3,7]
 clear hF49
 refine thenN (wp_seq (wp_region_lit ?_))
 refine ev_runs 2 hF50 (l':=[(30,nI x28),(29,nP z11 0),(7,nB w35),(3,nI x28),(1,nP z11 0)]) (w':=w46) (by kernel_rfl) ?_
 intro a52 hF51; clear hF50
 refine ev_one (.agg #[nI 2,nI 0,nI 0,nI 0,nI (-1),nI (-1),nI (-1),nI (-1),nI 5]) w46 hF51 (by kernel_rfl) rfl (by kernel_rfl) (run_loadV rfl rfl (run_loadA (cs:=[nI 2,nI 0,nI 0,nI 0,nI (-1),nI (-1),nI (-1),nI (-1),nI 5]) rfl rfl (by kernel_rfl) (blk_cells hS48 0 rfl rfl))) (l':=[(31,.agg #[nI 2,nI 0,nI 0,nI 0,nI (-1),nI (-1),nI (-1),nI (-1),nI 5]),(30,nI x28),(29,nP z11 0),(7,nB w35),(3,nI x28),(1,nP z11 0)]) (by kernel_rfl) ?_
 intro a54 hF53; clear hF51
 have hS55:=hS48.pick1
 clear hS48
 refine ev_call 22 #[nP z11 0,nI x28,.agg #[nI 2,nI 0,nI 0,nI 0,nI (-1),nI (-1),nI (-1),nI (-1),nI 5]] hF53 rfl rfl (by kernel_rfl) rfl (by kernel_rfl) (fun w=>by kernel_rfl) ?_
 obtain ⟨x56,s57,hx58,hm59⟩:=bind2E hm34; clear hm34
 refine (p_PutChan hS55 hx58).mono ?_
 rintro _ w60 ⟨rfl,hS62⟩ a61 hF63; clear hF53 hS55
 refine ev_runK 1 hF63 [1,3,7,8] (l':=[(8,nI x56),(7,nB w35),(3,nI x28),(1,nP z11 0)]) (w':=w60) (by kernel_rfl) ?_
 intro a65 hF64; clear hF63
 refine wpList_nil (thenN (wp_seq (wp_region_lit ?_)))
 refine ev_runs 2 hF64 (l':=[(35,nI x28),(34,nP z11 0),(8,nI x56),(7,nB w35),(3,nI x28),(1,nP z11 0)]) (w':=w60) (by kernel_rfl) ?_
 intro a67 hF66; clear hF64
 refine ev_call 28 #[nP z11 0,nI x28] hF66 rfl rfl (by kernel_rfl) rfl (by kernel_rfl) (fun w=>by kernel_rfl) ?_
 obtain ⟨q68,x69,hx70,hm71⟩:=bind2E hm59; clear hm59
 refine (p_Chan hS62 hx70).mono ?_
 rintro _ w72 ⟨rfl,hS74⟩ a73 hF75; clear hF66 hS62
 refine ev_runs 4 hF75 (l':=[(9,nB w72),(38,nI x69),(37,.agg #[nI (q68.cap),nI (q68.closed),nI (q68.count),nI (q68.start),nI (q68.buf),nI (q68.th),nI (q68.tt),nI (q68.sh),nI (q68.st)]),(33,.tuple #[.agg #[nI (q68.cap),nI (q68.closed),nI (q68.count),nI (q68.start),nI (q68.buf),nI (q68.th),nI (q68.tt),nI (q68.sh),nI (q68.st)],nI x69]),(36,.tuple #[.agg #[nI (q68.cap),nI (q68.closed),nI (q68.count),nI (q68.start),nI (q68.buf),nI (q68.th),nI (q68.tt),nI (q68.sh),nI (q68.st)],nI x69]),(35,nI x28),(34,nP z11 0),(8,nI x56),(7,nB w35),(3,nI x28),(1,nP z11 0)]) (w':=w72.alloc (.cells #[nI 0,nI 0,nI 0,nI 0,nI 0,nI 0,nI 0,nI 0,nI 0] 46)) (by kernel_rfl) ?_
 intro a77 hF76; clear hF75
 have hS79:St w0 F0 (BlkP (w72.heap.size) 46 #[nI 0,nI 0,nI 0,nI 0,nI 0,nI 0,nI 0,nI 0,nI 0]::HeapP z11 z12 s57::BlkP (w35.heap.size) 46 #[nI 2,nI 0,nI 0,nI 0,nI (-1),nI (-1),nI (-1),nI (-1),nI 5]::ps) (w72.alloc (.cells #[nI 0,nI 0,nI 0,nI 0,nI 0,nI 0,nI 0,nI 0,nI 0] 46)):=St.new hS74 #[nI 0,nI 0,nI 0,nI 0,nI 0,nI 0,nI 0,nI 0,nI 0] 46
 clear hS74
 refine ev_store (.agg #[nI (q68.cap),nI (q68.closed),nI (q68.count),nI (q68.start),nI (q68.buf),nI (q68.th),nI (q68.tt),nI (q68.sh),nI (q68.st)]) #[nI (q68.cap),nI (q68.closed),nI (q68.count),nI (q68.start),nI (q68.buf),nI (q68.th),nI (q68.tt),nI (q68.sh),nI (q68.st)] hF76 (by kernel_rfl) rfl rfl rfl rfl (by kernel_rfl) hS79 (by kernel_rfl) (by kernel_rfl) (by kernel_rfl) (l':=[(9,nB w72),(38,nI x69),(37,.agg #[nI (q68.cap),nI (q68.closed),nI (q68.count),nI (q68.start),nI (q68.buf),nI (q68.th),nI (q68.tt),nI (q68.sh),nI (q68.st)]),(33,.tuple #[.agg #[nI (q68.cap),nI (q68.closed),nI (q68.count),nI (q68.start),nI (q68.buf),nI (q68.th),nI (q68.tt),nI (q68.sh),nI (q68.st)],nI x69]),(36,.tuple #[.agg #[nI (q68.cap),nI (q68.closed),nI (q68.count),nI (q68.start),nI (q68.buf),nI (q68.th),nI (q68.tt),nI (q68.sh),nI (q68.st)],nI x69]),(35,nI x28),(34,nP z11 0),(8,nI x56),(7,nB w35),(3,nI x28),(1,nP z11 0)]) (by kernel_rfl) ?_
 intro w80 a81 hS82 hF83; clear hF76 hS79
 refine ev_runK 1 hF83 [7,8,9,10] (l':=[(10,nI x69),(9,nB w72),(8,nI x56),(7,nB w35)]) (w':=w80) (by kernel_rfl) ?_
 intro a85 hF84; clear hF83
 refine wpList_nil ?_
 have hS86:=hS82.pick1.drop
 clear hS82
 refine thenN (wp_seq ?_)
 refine joinQ (fun aI wI=>∃ (y87:Bool),Fr 50 aI [(0,.bool (y87))]∧St w0 F0 (ps) wI∧law11_awake.j1 y87=some r0) ?_ ?_
 rotate_left
 · rintro a89 w90 ⟨y87,hF91,hS92,hm93⟩
   clear hF84 hS86 hm71
   unfold law11_awake.j1 at hm93
   refine thenN ?_
   refine wp_ret ?_
   obtain rfl:=Option.some.inj hm93
   refine ev_ret hF91 [0] (.bool (y87)) rfl rfl rfl ?_
   exact ⟨rfl,hS92⟩
 · skip
   refine wp_region_lit ?_
   refine ev_runs 3 hF84 (l':=[(41,.bool (x56 == 0)),(40,.bool (x56 == 0)),(39,nI x56),(10,nI x69),(9,nB w72),(8,nI x56),(7,nB w35)]) (w':=w80) (by kernel_rfl) ?_
   intro a97 hF96; clear hF84
   cases hc98:(x56 == 0)
   case true =>
    rw [hc98] at hF96
    have hm99:=ifYes hc98 hm71; clear hm71
    refine ev_runs 4 hF96 (l':=[(45,.bool (x69 == 0)),(44,.bool (x69 == 0)),(43,.bool (x69 == 0)),(42,nI x69),(41,.bool true),(40,.bool true),(39,nI x56),(10,nI x69),(9,nB w72),(8,nI x56),(7,nB w35)]) (w':=w80) (by kernel_rfl) ?_
    intro a101 hF100; clear hF96
    cases hc102:(x69 == 0)
    case true =>
     rw [hc102] at hF100
     have hm103:=ifYes hc102 hm99; clear hm99
     refine ev_one (.agg #[nI (q68.cap),nI (q68.closed),nI (q68.count),nI (q68.start),nI (q68.buf),nI (q68.th),nI (q68.tt),nI (q68.sh),nI (q68.st)]) w80 hF100 (by kernel_rfl) rfl (by kernel_rfl) (run_loadV rfl rfl (run_loadA (cs:=[nI (q68.cap),nI (q68.closed),nI (q68.count),nI (q68.start),nI (q68.buf),nI (q68.th),nI (q68.tt),nI (q68.sh),nI (q68.st)]) rfl rfl (by kernel_rfl) (blk_cells hS86 0 rfl rfl))) (l':=[(46,.agg #[nI (q68.cap),nI (q68.closed),nI (q68.count),nI (q68.start),nI (q68.buf),nI (q68.th),nI (q68.tt),nI (q68.sh),nI (q68.st)]),(45,.bool true),(44,.bool true),(43,.bool true),(42,nI x69),(41,.bool true),(40,.bool true),(39,nI x56),(10,nI x69),(9,nB w72),(8,nI x56),(7,nB w35)]) (by kernel_rfl) ?_
     intro a105 hF104; clear hF100
     refine ev_one (.agg #[nI 2,nI 0,nI 0,nI 0,nI (-1),nI (-1),nI (-1),nI (-1),nI 5]) w80 hF104 (by kernel_rfl) rfl (by kernel_rfl) (run_loadV rfl rfl (run_loadA (cs:=[nI 2,nI 0,nI 0,nI 0,nI (-1),nI (-1),nI (-1),nI (-1),nI 5]) rfl rfl (by kernel_rfl) (blk_cells hS86 1 rfl rfl))) (l':=[(47,.agg #[nI 2,nI 0,nI 0,nI 0,nI (-1),nI (-1),nI (-1),nI (-1),nI 5]),(46,.agg #[nI (q68.cap),nI (q68.closed),nI (q68.count),nI (q68.start),nI (q68.buf),nI (q68.th),nI (q68.tt),nI (q68.sh),nI (q68.st)]),(45,.bool true),(44,.bool true),(43,.bool true),(42,nI x69),(41,.bool true),(40,.bool true),(39,nI x56),(10,nI x69),(9,nB w72),(8,nI x56),(7,nB w35)]) (by kernel_rfl) ?_
     intro a107 hF106; clear hF104
     refine ev_one (.bool ((q68.cap == (2:Int)) && ((q68.closed == (0:Int)) && ((q68.count == (0:Int)) && ((q68.start == (0:Int)) && ((q68.buf == (-1:Int)) && ((q68.th == (-1:Int)) && ((q68.tt == (-1:Int)) && ((q68.sh == (-1:Int)) && ((q68.st == (5:Int)) && (true))))))))))) w80 hF106 (by kernel_rfl) rfl (by kernel_rfl) (run_eqS rfl rfl rfl (by kernel_rfl) rfl (by kernel_rfl) (eqf_int (by kernel_rfl) rfl rfl rfl (eqf_int (by kernel_rfl) rfl rfl rfl (eqf_int (by kernel_rfl) rfl rfl rfl (eqf_int (by kernel_rfl) rfl rfl rfl (eqf_int (by kernel_rfl) rfl rfl rfl (eqf_int (by kernel_rfl) rfl rfl rfl (eqf_int (by kernel_rfl) rfl rfl rfl (eqf_int (by kernel_rfl) rfl rfl rfl (eqf_int (by kernel_rfl) rfl rfl rfl eqf_nil)))))))))) (l':=[(48,.bool ((q68.cap == (2:Int)) && ((q68.closed == (0:Int)) && ((q68.count == (0:Int)) && ((q68.start == (0:Int)) && ((q68.buf == (-1:Int)) && ((q68.th == (-1:Int)) && ((q68.tt == (-1:Int)) && ((q68.sh == (-1:Int)) && ((q68.st == (5:Int)) && (true))))))))))),(47,.agg #[nI 2,nI 0,nI 0,nI 0,nI (-1),nI (-1),nI (-1),nI (-1),nI 5]),(46,.agg #[nI (q68.cap),nI (q68.closed),nI (q68.count),nI (q68.start),nI (q68.buf),nI (q68.th),nI (q68.tt),nI (q68.sh),nI (q68.st)]),(45,.bool true),(44,.bool true),(43,.bool true),(42,nI x69),(41,.bool true),(40,.bool true),(39,nI x56),(10,nI x69),(9,nB w72),(8,nI x56),(7,nB w35)]) (by kernel_rfl) ?_
     intro a109 hF108; clear hF106
     refine ev_runK 2 hF108 [0] (l':=[(0,.bool ((q68.cap == (2:Int)) && ((q68.closed == (0:Int)) && ((q68.count == (0:Int)) && ((q68.start == (0:Int)) && ((q68.buf == (-1:Int)) && ((q68.th == (-1:Int)) && ((q68.tt == (-1:Int)) && ((q68.sh == (-1:Int)) && ((q68.st == (5:Int)) && (true)))))))))))]) (w':=w80) (by kernel_rfl) ?_
     intro a111 hF110; clear hF108
     refine wpList_nil ?_
     have hS112:=hS86.drop.drop
     clear hS86
     exact thenN ⟨(q68.cap == (2:Int)) && ((q68.closed == (0:Int)) && ((q68.count == (0:Int)) && ((q68.start == (0:Int)) && ((q68.buf == (-1:Int)) && ((q68.th == (-1:Int)) && ((q68.tt == (-1:Int)) && ((q68.sh == (-1:Int)) && ((q68.st == (5:Int)) && (true))))))))),hF110,hS112,hm103⟩
    rw [hc102] at hF100
    have hm113:=ifNot hc102 hm99; clear hm99
    refine ev_runK 5 hF100 [0] (l':=[(0,.bool false)]) (w':=w80) (by kernel_rfl) ?_
    intro a115 hF114; clear hF100
    refine wpList_nil ?_
    have hS116:=hS86.drop.drop
    clear hS86
    exact thenN ⟨false,hF114,hS116,hm113⟩
   rw [hc98] at hF96
   have hm117:=ifNot hc98 hm71; clear hm71
   refine ev_runK 9 hF96 [0] (l':=[(0,.bool false)]) (w':=w80) (by kernel_rfl) ?_
   intro a119 hF118; clear hF96
   refine wpList_nil ?_
   have hS120:=hS86.drop.drop
   clear hS86
   exact thenN ⟨false,hF118,hS120,hm117⟩
def law11_small.m (k:Nat) (i0:Int):Option (Int):=bind1 (some (Int.tmod i0 1099511627776)) fun x5=>some (x5)
set_option maxRecDepth 100000 in
set_option maxHeartbeats 1500000 in
theorem law11_small.ok {w0 w:World} {F0:List Nat} {ps:List Piece} {k:Nat} {i0:Int} {r0:Int} (hS:St w0 F0 (ps) w) (hm:law11_small.m k i0=some r0) :
    Calls Try.prog 27 #[nI i0] w fun e w'=>e=.returned (.int .i64 r0)∧St w0 F0 (ps) w':=by
 refine ev_enterL 5 [nI i0] Try.func27 rfl rfl (by simp) ?_
 intro a hF
 have hF0:Fr 5 a [(0,nI i0)]:=hF; clear hF
 unfold law11_small.m at hm
 refine wp_seq (wp_region_lit ?_)
 refine ev_runK 1 hF0 [0] (l':=[(0,nI i0)]) (w':=w) (by kernel_rfl) ?_
 intro a2 hF1; clear hF0
 refine wpList_nil (thenN (wp_seq (wp_region_lit ?_)))
 refine ev_runs 3 hF1 (l':=[(2,nI (Int.tmod i0 1099511627776)),(4,nI (Int.tmod i0 1099511627776)),(3,nI i0),(0,nI i0)]) (w':=w) (by kernel_rfl) ?_
 intro a4 hF3; clear hF1
 obtain ⟨x5,hx6,hm7⟩:=bind1E hm; clear hm
 have hF8:=hF3; rw [Option.some.inj hx6] at hF8; clear hF3
 refine wpList_nil ?_
 have hF9:=hF8.keep [2]
 clear hF8
 refine thenN ?_
 refine wp_ret ?_
 obtain rfl:=Option.some.inj hm7
 refine ev_ret hF9 [2] (nI x5) rfl rfl rfl ?_
 exact ⟨rfl,hS⟩
end Go.Proofs.Ytjdlnmbfomojdaa
namespace Go.Proofs.Ytjdlnmbfomojdaa
open Go.RowKit
set_option linter.unusedVariables false
def ViewWords.j5 (x90:Int) (rec93:Int→Int→Int→Int→Int→Int→Int→Int→Int→Int→Option (Bool)) (x103:Int) (x104:Int) (x105:Int) (x106:Int) (x107:Int) (x108:Int) (x109:Int) (x110:Int) (x111:Int):Option (Bool):=rec93 x103 x104 x105 x106 x107 x108 x109 x110 x111 (IntKind.i64.wrap (x90+1))
def ViewWords.j12 (x294:Int) (rec297:Int→Option (Bool)) (x309:Int) (x323:Int):Option (Bool):=(if (x309 != x323) then some (false) else rec297 (IntKind.i64.wrap (x294+1)))
def ViewWords.j13 (x294:Int) (rec297:Int→Option (Bool)) (x309:Int) (x349:Int):Option (Bool):=ViewWords.j12 x294 rec297 x309 x349
def ViewWords.j14 (y495:Bool):Option (Bool):=some (y495)
def ViewWords.l11b (x41:Int) (x42:Int) (x43:Int) (x57:Int) (x64:Int) (x281:Int) (s282:HSt) (rec297:Int→Option (Bool)) (x294:Int):Option (Bool):=(if (decide (x294<9)) then bind2 (pLoad x41 x294 s282) fun x309 x310=>(if (x294 == x64) then (if (decide (x64 > 3)) then ViewWords.j13 x294 rec297 x309 (IntKind.i64.wrap ((IntKind.i64.wrap (2 * x57))+1)) else ViewWords.j13 x294 rec297 x309 (IntKind.i64.wrap (2 * x57))) else ViewWords.j12 x294 rec297 x309 0) else bind2 (pPutSudog x42 (⟨x57,-1,x57,-1,x57,-1,-1⟩:Su) s282) fun x368 s369=>bind2 (pLoad x42 0 s369) fun x379 x380=>bind2 (pLoad x42 2 s369) fun x391 x392=>bind2 (pLoad x42 4 s369) fun x403 x404=>bind2 (pLoad x42 5 s369) fun x415 x416=>bind2 (pPutGor x43 (⟨x57,0,0,0,0,0,0,0,x57,-1⟩:Gr) s369) fun x448 s449=>bind2 (pLoad x43 0 s449) fun x460 x461=>bind2 (pLoad x43 8 s449) fun x472 x473=>bind2 (pLoad x43 9 s449) fun x484 x485=>(if (x281 == 0) then (if (x379 == (IntKind.i64.wrap ((IntKind.i64.wrap (2 * x57))+1))) then (if (x391 == x57) then (if (x403 == (IntKind.i64.wrap (2 * x57))) then (if (x415 == (-2)) then (if (x460 == (IntKind.i64.wrap (2 * x57))) then (if (x472 == x57) then ViewWords.j14 (x484 == 0) else ViewWords.j14 false) else ViewWords.j14 false) else ViewWords.j14 false) else ViewWords.j14 false) else ViewWords.j14 false) else ViewWords.j14 false) else ViewWords.j14 false))
def ViewWords.l11 (x41:Int) (x42:Int) (x43:Int) (x57:Int) (x64:Int) (x281:Int) (s282:HSt):Nat→Int→Option (Bool)
  | 0=>fun _=>none
  | kI+1=>ViewWords.l11b x41 x42 x43 x57 x64 x281 s282 (ViewWords.l11 x41 x42 x43 x57 x64 x281 s282 kI)
def ViewWords.j6 (k:Nat) (s3:HSt) (x41:Int) (x42:Int) (x43:Int) (x57:Int) (x64:Int) (x260:Int) (x261:Int) (x262:Int) (x263:Int) (x264:Int) (x265:Int) (x266:Int) (x267:Int) (x268:Int):Option (Bool):=bind2 (pPutChan x41 (⟨x260,x261,x262,x263,x264,x265,x266,x267,x268⟩:Ch) s3) fun x281 s282=>ViewWords.l11 x41 x42 x43 x57 x64 x281 s282 k 0
def ViewWords.l4b (k:Nat) (s3:HSt) (x41:Int) (x42:Int) (x43:Int) (x57:Int) (x64:Int) (rec93:Int→Int→Int→Int→Int→Int→Int→Int→Int→Int→Option (Bool)) (x81:Int) (x82:Int) (x83:Int) (x84:Int) (x85:Int) (x86:Int) (x87:Int) (x88:Int) (x89:Int) (x90:Int):Option (Bool):=(if (decide (x90<9)) then (if (x90 == 0) then ViewWords.j5 x90 rec93 (-1) x82 x83 x84 x85 x86 x87 x88 x89 else (if (x90 == 1) then ViewWords.j5 x90 rec93 x81 (-1) x83 x84 x85 x86 x87 x88 x89 else (if (x90 == 2) then ViewWords.j5 x90 rec93 x81 x82 (-1) x84 x85 x86 x87 x88 x89 else (if (x90 == 3) then ViewWords.j5 x90 rec93 x81 x82 x83 (-1) x85 x86 x87 x88 x89 else (if (x90 == 4) then ViewWords.j5 x90 rec93 x81 x82 x83 x84 (-1) x86 x87 x88 x89 else (if (x90 == 5) then ViewWords.j5 x90 rec93 x81 x82 x83 x84 x85 (-1) x87 x88 x89 else (if (x90 == 6) then ViewWords.j5 x90 rec93 x81 x82 x83 x84 x85 x86 (-1) x88 x89 else (if (x90 == 7) then ViewWords.j5 x90 rec93 x81 x82 x83 x84 x85 x86 x87 (-1) x89 else (if (x90 == 8) then ViewWords.j5 x90 rec93 x81 x82 x83 x84 x85 x86 x87 x88 (-1) else none))))))))) else (if (x64 == 0) then ViewWords.j6 k s3 x41 x42 x43 x57 x64 x57 x82 x83 x84 x85 x86 x87 x88 x89 else (if (x64 == 1) then ViewWords.j6 k s3 x41 x42 x43 x57 x64 x81 x57 x83 x84 x85 x86 x87 x88 x89 else (if (x64 == 2) then ViewWords.j6 k s3 x41 x42 x43 x57 x64 x81 x82 x57 x84 x85 x86 x87 x88 x89 else (if (x64 == 3) then ViewWords.j6 k s3 x41 x42 x43 x57 x64 x81 x82 x83 x57 x85 x86 x87 x88 x89 else (if (x64 == 4) then ViewWords.j6 k s3 x41 x42 x43 x57 x64 x81 x82 x83 x84 x57 x86 x87 x88 x89 else (if (x64 == 5) then ViewWords.j6 k s3 x41 x42 x43 x57 x64 x81 x82 x83 x84 x85 x57 x87 x88 x89 else (if (x64 == 6) then ViewWords.j6 k s3 x41 x42 x43 x57 x64 x81 x82 x83 x84 x85 x86 x57 x88 x89 else (if (x64 == 7) then ViewWords.j6 k s3 x41 x42 x43 x57 x64 x81 x82 x83 x84 x85 x86 x87 x57 x89 else (if (x64 == 8) then ViewWords.j6 k s3 x41 x42 x43 x57 x64 x81 x82 x83 x84 x85 x86 x87 x88 x57 else none))))))))))
def ViewWords.l4 (k:Nat) (s3:HSt) (x41:Int) (x42:Int) (x43:Int) (x57:Int) (x64:Int):Nat→Int→Int→Int→Int→Int→Int→Int→Int→Int→Int→Option (Bool)
  | 0=>fun _ _ _ _ _ _ _ _ _ _=>none
  | kI+1=>ViewWords.l4b k s3 x41 x42 x43 x57 x64 (ViewWords.l4 k s3 x41 x42 x43 x57 x64 kI)
def ViewWords.j1 (i0:Int) (i1:Int) (k:Nat) (s3:HSt) (s4:HSt) (y22:Bool):Option (Bool):=(if (y22) then some (false) else bind5 (law11_places.m k s4) fun x41 x42 x43 x44 s45=>bind1 (some (IntKind.i64.wrap (Int.tmod (IntKind.u64.wrap i1) 1000))) fun x57=>bind1 (some (IntKind.i64.wrap (Int.tmod (IntKind.u64.wrap i0) 9))) fun x64=>ViewWords.l4 k s3 x41 x42 x43 x57 x64 k 0 0 0 0 0 0 0 0 0 4)
def ViewWords.m (k:Nat) (i0:Int) (i1:Int):Option (Bool):=bind2 (law11_both.m k ) fun s3 s4=>bind1 (law11_awake.m k ) fun y701=>(if (!(y701)) then ViewWords.j1 i0 i1 k s3 s4 true else ViewWords.j1 i0 i1 k s3 s4 false)
set_option maxRecDepth 100000 in
set_option maxHeartbeats 40000000 in
theorem ViewWords.ok {w0 w:World} {F0:List Nat} {ps:List Piece} {k:Nat} {i0:Int} {i1:Int} {r0:Bool} (hS:St w0 F0 (ps) w) (hm:ViewWords.m k i0 i1=some r0) :
    Calls Try.prog 5 #[nI i0,nI i1] w fun e w'=>e=.returned (.bool r0)∧St w0 F0 (ps) w':=by
 refine ev_enterL 213 [nI i0,nI i1] Try.func5 rfl rfl (by simp) ?_
 intro a hF
 have hF0:Fr 213 a [(0,nI i0),(1,nI i1)]:=hF; clear hF
 unfold ViewWords.m at hm
 refine wp_seq (wp_region_lit ?_)
 refine ev_runK 1 hF0 [0,1] (l':=[(0,nI i0),(1,nI i1)]) (w':=w) (by kernel_rfl) ?_
 intro a2 hF1; clear hF0
 refine wpList_nil (thenN (wp_seq (wp_region_lit ?_)))
 refine ev_call 19 #[.bool false] hF1 rfl rfl (by kernel_rfl) rfl (by kernel_rfl) (fun w=>by kernel_rfl) ?_
 obtain ⟨s3,s4,hx5,hm6⟩:=bind2E hm; clear hm
 refine (law11_both.ok hS hx5).mono ?_
 rintro _ w7 ⟨z11,z12,z13,z14,z15,z16,z17,rfl,hS9⟩ a8 hF10; clear hF1 hS
 refine ev_runK 5 hF10 [0,1,5,6] (l':=[(6,nP z13 0),(5,nP z11 0),(0,nI i0),(1,nI i1)]) (w':=w7) (by kernel_rfl) ?_
 intro a21 hF20; clear hF10
 refine wpList_nil (thenN (wp_seq (wp_seq ?_)))
 refine joinQ (fun aI wI=>∃ (y22:Bool),Fr 213 aI [(47,.bool (y22)),(6,nP z13 0),(5,nP z11 0),(0,nI i0),(1,nI i1)]∧St w0 F0 (HeapP z11 z12 s3::RHeapP z13 z14 z15 z16 z17 s4::ps) wI∧ViewWords.j1 i0 i1 k s3 s4 y22=some r0) ?_ ?_
 rotate_left
 · rintro a24 w25 ⟨y22,hF26,hS27,hm28⟩
   clear hF20 hS9 hm6
   unfold ViewWords.j1 at hm28
   refine thenN ?_
   cases hc30:(y22)
   case true =>
    rw [hc30] at hF26
    have hm31:=ifYes hc30 hm28; clear hm28
    refine ev_condT hF26 rfl rfl ?_
    refine wp_seq (wp_region_lit ?_)
    refine ev_runK 1 hF26 [4] (l':=[(4,.bool false)]) (w':=w25) (by kernel_rfl) ?_
    intro a33 hF32; clear hF26
    refine wpList_nil ?_
    have hS34:=hS27.drop.drop
    clear hS27
    refine thenN ?_
    refine wp_ret ?_
    refine thenR ?_
    obtain rfl:=Option.some.inj hm31
    refine ev_ret hF32 [4] (.bool false) rfl rfl rfl ?_
    exact ⟨rfl,hS34⟩
   rw [hc30] at hF26
   have hm36:=ifNot hc30 hm28; clear hm28
   refine ev_condF hF26 rfl rfl ?_
   refine wp_skip ?_
   have hF37:=hF26.keep [0,1,5,6]
   clear hF26
   refine thenN (wp_seq (wp_region_lit ?_))
   refine ev_runs 1 hF37 (l':=[(49,nP z13 0),(6,nP z13 0),(5,nP z11 0),(0,nI i0),(1,nI i1)]) (w':=w25) (by kernel_rfl) ?_
   intro a39 hF38; clear hF37
   have hS40:=hS27.pick1
   clear hS27
   refine ev_call 21 #[nP z13 0] hF38 rfl rfl (by kernel_rfl) rfl (by kernel_rfl) (fun w=>by kernel_rfl) ?_
   obtain ⟨x41,x42,x43,x44,s45,hx46,hm47⟩:=bind5E hm36; clear hm36
   refine (law11_places.ok hS40 hx46).mono ?_
   rintro _ w48 ⟨rfl,hS50⟩ a49 hF51; clear hF38 hS40
   refine ev_runK 9 hF51 [0,1,5,7,8,9] (l':=[(9,nI x43),(8,nI x42),(7,nI x41),(5,nP z11 0),(0,nI i0),(1,nI i1)]) (w':=w48) (by kernel_rfl) ?_
   intro a53 hF52; clear hF51
   refine wpList_nil ?_
   have hS54:=hS50.drop
   clear hS50
   refine thenN (wp_seq (wp_region_lit ?_))
   refine ev_runs 5 hF52 (l':=[(1,nI (IntKind.i64.wrap (Int.tmod (IntKind.u64.wrap i1) 1000))),(58,nI (IntKind.i64.wrap (Int.tmod (IntKind.u64.wrap i1) 1000))),(57,.int .u64 (Int.tmod (IntKind.u64.wrap i1) 1000)),(56,.int .u64 (IntKind.u64.wrap i1)),(55,nI i1),(9,nI x43),(8,nI x42),(7,nI x41),(5,nP z11 0),(0,nI i0)]) (w':=w48) (by kernel_rfl) ?_
   intro a56 hF55; clear hF52
   obtain ⟨x57,hx58,hm59⟩:=bind1E hm47; clear hm47
   have hF60:=hF55; rw [Option.some.inj hx58] at hF60; clear hF55
   refine wpList_nil ?_
   have hF61:=hF60.keep [0,1,5,7,8,9]
   clear hF60
   refine thenN (wp_seq (wp_region_lit ?_))
   refine ev_runs 5 hF61 (l':=[(0,nI (IntKind.i64.wrap (Int.tmod (IntKind.u64.wrap i0) 9))),(62,nI (IntKind.i64.wrap (Int.tmod (IntKind.u64.wrap i0) 9))),(61,.int .u64 (Int.tmod (IntKind.u64.wrap i0) 9)),(60,.int .u64 (IntKind.u64.wrap i0)),(59,nI i0),(1,nI x57),(9,nI x43),(8,nI x42),(7,nI x41),(5,nP z11 0)]) (w':=w48) (by kernel_rfl) ?_
   intro a63 hF62; clear hF61
   obtain ⟨x64,hx65,hm66⟩:=bind1E hm59; clear hm59
   have hF67:=hF62; rw [Option.some.inj hx65] at hF67; clear hF62
   refine wpList_nil ?_
   have hF68:=hF67.keep [0,1,5,7,8,9]
   clear hF67
   refine thenN (wp_seq (wp_region_lit ?_))
   refine ev_runs 1 hF68 (l':=[(11,nB w48),(0,nI x64),(1,nI x57),(9,nI x43),(8,nI x42),(7,nI x41),(5,nP z11 0)]) (w':=w48.alloc (.cells #[nI 0,nI 0,nI 0,nI 0,nI 0,nI 0,nI 0,nI 0,nI 0] 46)) (by kernel_rfl) ?_
   intro a70 hF69; clear hF68
   have hS72:St w0 F0 (BlkP (w48.heap.size) 46 #[nI 0,nI 0,nI 0,nI 0,nI 0,nI 0,nI 0,nI 0,nI 0]::HeapP z11 z12 s3::ps) (w48.alloc (.cells #[nI 0,nI 0,nI 0,nI 0,nI 0,nI 0,nI 0,nI 0,nI 0] 46)):=St.new hS54 #[nI 0,nI 0,nI 0,nI 0,nI 0,nI 0,nI 0,nI 0,nI 0] 46
   clear hS54
   refine wpList_nil (thenN (wp_seq (wp_region_lit ?_)))
   refine ev_runs 10 hF69 (l':=[(72,.slice (some ⟨(w48.alloc (.cells #[nI 0,nI 0,nI 0,nI 0,nI 0,nI 0,nI 0,nI 0,nI 0] 46)).heap.size,0,none⟩) 9 9),(71,nP (w48.heap.size) 8),(70,nP (w48.heap.size) 7),(69,nP (w48.heap.size) 6),(68,nP (w48.heap.size) 5),(67,nP (w48.heap.size) 4),(66,nP (w48.heap.size) 3),(65,nP (w48.heap.size) 2),(64,nP (w48.heap.size) 1),(63,nB w48),(11,nB w48),(0,nI x64),(1,nI x57),(9,nI x43),(8,nI x42),(7,nI x41),(5,nP z11 0)]) (w':=(w48.alloc (.cells #[nI 0,nI 0,nI 0,nI 0,nI 0,nI 0,nI 0,nI 0,nI 0] 46)).alloc (.cells #[nB w48,nP (w48.heap.size) 1,nP (w48.heap.size) 2,nP (w48.heap.size) 3,nP (w48.heap.size) 4,nP (w48.heap.size) 5,nP (w48.heap.size) 6,nP (w48.heap.size) 7,nP (w48.heap.size) 8] 47)) (by kernel_rfl) ?_
   intro a74 hF73; clear hF69
   have hS76:St w0 F0 (BlkP ((w48.alloc (.cells #[nI 0,nI 0,nI 0,nI 0,nI 0,nI 0,nI 0,nI 0,nI 0] 46)).heap.size) 47 #[nB w48,nP (w48.heap.size) 1,nP (w48.heap.size) 2,nP (w48.heap.size) 3,nP (w48.heap.size) 4,nP (w48.heap.size) 5,nP (w48.heap.size) 6,nP (w48.heap.size) 7,nP (w48.heap.size) 8]::BlkP (w48.heap.size) 46 #[nI 0,nI 0,nI 0,nI 0,nI 0,nI 0,nI 0,nI 0,nI 0]::HeapP z11 z12 s3::ps) ((w48.alloc (.cells #[nI 0,nI 0,nI 0,nI 0,nI 0,nI 0,nI 0,nI 0,nI 0] 46)).alloc (.cells #[nB w48,nP (w48.heap.size) 1,nP (w48.heap.size) 2,nP (w48.heap.size) 3,nP (w48.heap.size) 4,nP (w48.heap.size) 5,nP (w48.heap.size) 6,nP (w48.heap.size) 7,nP (w48.heap.size) 8] 47)):=St.new hS72 #[nB w48,nP (w48.heap.size) 1,nP (w48.heap.size) 2,nP (w48.heap.size) 3,nP (w48.heap.size) 4,nP (w48.heap.size) 5,nP (w48.heap.size) 6,nP (w48.heap.size) 7,nP (w48.heap.size) 8] 47
   clear hS72
   refine ev_runK 1 hF73 [0,1,5,7,8,9,11,12] (l':=[(12,.slice (some ⟨(w48.alloc (.cells #[nI 0,nI 0,nI 0,nI 0,nI 0,nI 0,nI 0,nI 0,nI 0] 46)).heap.size,0,none⟩) 9 9),(11,nB w48),(0,nI x64),(1,nI x57),(9,nI x43),(8,nI x42),(7,nI x41),(5,nP z11 0)]) (w':=(w48.alloc (.cells #[nI 0,nI 0,nI 0,nI 0,nI 0,nI 0,nI 0,nI 0,nI 0] 46)).alloc (.cells #[nB w48,nP (w48.heap.size) 1,nP (w48.heap.size) 2,nP (w48.heap.size) 3,nP (w48.heap.size) 4,nP (w48.heap.size) 5,nP (w48.heap.size) 6,nP (w48.heap.size) 7,nP (w48.heap.size) 8] 47)) (by kernel_rfl) ?_
   intro a78 hF77; clear hF73
   refine wpList_nil (thenN (wp_seq (wp_seq (wp_region_lit ?_))))
   refine ev_runs 1 hF77 (l':=[(13,nI 4),(12,.slice (some ⟨(w48.alloc (.cells #[nI 0,nI 0,nI 0,nI 0,nI 0,nI 0,nI 0,nI 0,nI 0] 46)).heap.size,0,none⟩) 9 9),(11,nB w48),(0,nI x64),(1,nI x57),(9,nI x43),(8,nI x42),(7,nI x41),(5,nP z11 0)]) (w':=(w48.alloc (.cells #[nI 0,nI 0,nI 0,nI 0,nI 0,nI 0,nI 0,nI 0,nI 0] 46)).alloc (.cells #[nB w48,nP (w48.heap.size) 1,nP (w48.heap.size) 2,nP (w48.heap.size) 3,nP (w48.heap.size) 4,nP (w48.heap.size) 5,nP (w48.heap.size) 6,nP (w48.heap.size) 7,nP (w48.heap.size) 8] 47)) (by kernel_rfl) ?_
   intro a80 hF79; clear hF77
   refine wpList_nil (thenN ?_)
   refine wp_block ?_
   refine wp_loop_ghost (fun kI aI wI=>∃ (x81:Int) (x82:Int) (x83:Int) (x84:Int) (x85:Int) (x86:Int) (x87:Int) (x88:Int) (x89:Int) (x90:Int),Fr 213 aI [(13,nI x90),(12,.slice (some ⟨(w48.alloc (.cells #[nI 0,nI 0,nI 0,nI 0,nI 0,nI 0,nI 0,nI 0,nI 0] 46)).heap.size,0,none⟩) 9 9),(11,nB w48),(0,nI x64),(1,nI x57),(9,nI x43),(8,nI x42),(7,nI x41),(5,nP z11 0)]∧St w0 F0 (BlkP ((w48.alloc (.cells #[nI 0,nI 0,nI 0,nI 0,nI 0,nI 0,nI 0,nI 0,nI 0] 46)).heap.size) 47 #[nB w48,nP (w48.heap.size) 1,nP (w48.heap.size) 2,nP (w48.heap.size) 3,nP (w48.heap.size) 4,nP (w48.heap.size) 5,nP (w48.heap.size) 6,nP (w48.heap.size) 7,nP (w48.heap.size) 8]::BlkP (w48.heap.size) 46 #[nI x81,nI x82,nI x83,nI x84,nI x85,nI x86,nI x87,nI x88,nI x89]::HeapP z11 z12 s3::ps) wI∧ViewWords.l4 k s3 x41 x42 x43 x57 x64 kI x81 x82 x83 x84 x85 x86 x87 x88 x89 x90=some r0) k ⟨0,0,0,0,0,0,0,0,0,4,hF79,hS76,hm66⟩ ?_
   rintro k91 a92 w93 ⟨x81,x82,x83,x84,x85,x86,x87,x88,x89,x90,hF94,hS95,hm96⟩
   clear hF79 hS76 hm66
   rcases k91 with _ | k91
   · cases hm96
   have hm97:ViewWords.l4b k s3 x41 x42 x43 x57 x64 (ViewWords.l4 k s3 x41 x42 x43 x57 x64 k91) x81 x82 x83 x84 x85 x86 x87 x88 x89 x90=some r0:=hm96
   clear hm96
   unfold ViewWords.l4b at hm97
   refine wp_seq (wp_seq (wp_region_lit ?_))
   refine ev_runK 2 hF94 [0,1,5,7,8,9,11,12,13,74] (l':=[(74,.bool (decide (x90<9))),(13,nI x90),(12,.slice (some ⟨(w48.alloc (.cells #[nI 0,nI 0,nI 0,nI 0,nI 0,nI 0,nI 0,nI 0,nI 0] 46)).heap.size,0,none⟩) 9 9),(11,nB w48),(0,nI x64),(1,nI x57),(9,nI x43),(8,nI x42),(7,nI x41),(5,nP z11 0)]) (w':=w93) (by kernel_rfl) ?_
   intro a99 hF98; clear hF94
   refine wpList_nil (thenN ?_)
   cases hc100:(decide (x90<9))
   case true =>
    rw [hc100] at hF98
    have hm101:=ifYes hc100 hm97; clear hm97
    refine ev_condT hF98 rfl rfl ?_
    refine wp_skip ?_
    have hF102:=hF98.keep [0,1,5,7,8,9,11,12,13]
    clear hF98
    refine thenN (wp_seq ?_)
    refine wp_block ?_
    refine joinQ (fun aI wI=>∃ (x103:Int) (x104:Int) (x105:Int) (x106:Int) (x107:Int) (x108:Int) (x109:Int) (x110:Int) (x111:Int),Fr 213 aI [(13,nI x90),(12,.slice (some ⟨(w48.alloc (.cells #[nI 0,nI 0,nI 0,nI 0,nI 0,nI 0,nI 0,nI 0,nI 0] 46)).heap.size,0,none⟩) 9 9),(11,nB w48),(0,nI x64),(1,nI x57),(9,nI x43),(8,nI x42),(7,nI x41),(5,nP z11 0)]∧St w0 F0 (BlkP (w48.heap.size) 46 #[nI x103,nI x104,nI x105,nI x106,nI x107,nI x108,nI x109,nI x110,nI x111]::BlkP ((w48.alloc (.cells #[nI 0,nI 0,nI 0,nI 0,nI 0,nI 0,nI 0,nI 0,nI 0] 46)).heap.size) 47 #[nB w48,nP (w48.heap.size) 1,nP (w48.heap.size) 2,nP (w48.heap.size) 3,nP (w48.heap.size) 4,nP (w48.heap.size) 5,nP (w48.heap.size) 6,nP (w48.heap.size) 7,nP (w48.heap.size) 8]::HeapP z11 z12 s3::ps) wI∧ViewWords.j5 x90 (ViewWords.l4 k s3 x41 x42 x43 x57 x64 k91) x103 x104 x105 x106 x107 x108 x109 x110 x111=some r0) ?_ ?_
    rotate_left
    · rintro a113 w114 ⟨x103,x104,x105,x106,x107,x108,x109,x110,x111,hF115,hS116,hm117⟩
      clear hF102 hS95 hm101
      unfold ViewWords.j5 at hm117
      refine blockN ?_
      refine thenN (wp_region_lit ?_)
      refine ev_runK 3 hF115 [0,1,5,7,8,9,11,12,13] (l':=[(13,nI (IntKind.i64.wrap (x90+1))),(12,.slice (some ⟨(w48.alloc (.cells #[nI 0,nI 0,nI 0,nI 0,nI 0,nI 0,nI 0,nI 0,nI 0] 46)).heap.size,0,none⟩) 9 9),(11,nB w48),(0,nI x64),(1,nI x57),(9,nI x43),(8,nI x42),(7,nI x41),(5,nP z11 0)]) (w':=w114) (by kernel_rfl) ?_
      intro a120 hF119; clear hF115
      refine wpList_nil ?_
      have hS121:=hS116.pick2.pick1.pick2
      clear hS116
      exact thenN ⟨k91,Nat.lt_succ_self _,x103,x104,x105,x106,x107,x108,x109,x110,x111,IntKind.i64.wrap (x90+1),hF119,hS121,hm117⟩
    · skip
      refine wp_region_lit ?_
      refine ev_runs 2 hF102 (l':=[(78,nI x90),(77,.slice (some ⟨(w48.alloc (.cells #[nI 0,nI 0,nI 0,nI 0,nI 0,nI 0,nI 0,nI 0,nI 0] 46)).heap.size,0,none⟩) 9 9),(13,nI x90),(12,.slice (some ⟨(w48.alloc (.cells #[nI 0,nI 0,nI 0,nI 0,nI 0,nI 0,nI 0,nI 0,nI 0] 46)).heap.size,0,none⟩) 9 9),(11,nB w48),(0,nI x64),(1,nI x57),(9,nI x43),(8,nI x42),(7,nI x41),(5,nP z11 0)]) (w':=w93) (by kernel_rfl) ?_
      intro a123 hF122; clear hF102
      cases hc124:(x90 == 0)
      case true =>
       have hm125:=ifYes hc124 hm101; clear hm101
       refine ev_one (nP ((w48.alloc (.cells #[nI 0,nI 0,nI 0,nI 0,nI 0,nI 0,nI 0,nI 0,nI 0] 46)).heap.size) 0) w93 hF122 (by kernel_rfl) rfl (by kernel_rfl) (run_idx (z:=0) rfl rfl rfl rfl (congrArg (Value.int .i64) (eq_of_beq hc124)) (by decide) (by decide) _) (l':=[(79,nP ((w48.alloc (.cells #[nI 0,nI 0,nI 0,nI 0,nI 0,nI 0,nI 0,nI 0,nI 0] 46)).heap.size) 0),(78,nI x90),(77,.slice (some ⟨(w48.alloc (.cells #[nI 0,nI 0,nI 0,nI 0,nI 0,nI 0,nI 0,nI 0,nI 0] 46)).heap.size,0,none⟩) 9 9),(13,nI x90),(12,.slice (some ⟨(w48.alloc (.cells #[nI 0,nI 0,nI 0,nI 0,nI 0,nI 0,nI 0,nI 0,nI 0] 46)).heap.size,0,none⟩) 9 9),(11,nB w48),(0,nI x64),(1,nI x57),(9,nI x43),(8,nI x42),(7,nI x41),(5,nP z11 0)]) (by kernel_rfl) ?_
       intro a127 hF126; clear hF122
       refine ev_one (nB w48) w93 hF126 (by kernel_rfl) rfl (by kernel_rfl) (run_loadV rfl rfl (run_loadS rfl rfl (hS95.cell 0 rfl 0 rfl))) (l':=[(80,nB w48),(79,nP ((w48.alloc (.cells #[nI 0,nI 0,nI 0,nI 0,nI 0,nI 0,nI 0,nI 0,nI 0] 46)).heap.size) 0),(78,nI x90),(77,.slice (some ⟨(w48.alloc (.cells #[nI 0,nI 0,nI 0,nI 0,nI 0,nI 0,nI 0,nI 0,nI 0] 46)).heap.size,0,none⟩) 9 9),(13,nI x90),(12,.slice (some ⟨(w48.alloc (.cells #[nI 0,nI 0,nI 0,nI 0,nI 0,nI 0,nI 0,nI 0,nI 0] 46)).heap.size,0,none⟩) 9 9),(11,nB w48),(0,nI x64),(1,nI x57),(9,nI x43),(8,nI x42),(7,nI x41),(5,nP z11 0)]) (by kernel_rfl) ?_
       intro a129 hF128; clear hF126
       refine ev_runs 1 hF128 (l':=[(81,nB w48),(80,nB w48),(79,nP ((w48.alloc (.cells #[nI 0,nI 0,nI 0,nI 0,nI 0,nI 0,nI 0,nI 0,nI 0] 46)).heap.size) 0),(78,nI x90),(77,.slice (some ⟨(w48.alloc (.cells #[nI 0,nI 0,nI 0,nI 0,nI 0,nI 0,nI 0,nI 0,nI 0] 46)).heap.size,0,none⟩) 9 9),(13,nI x90),(12,.slice (some ⟨(w48.alloc (.cells #[nI 0,nI 0,nI 0,nI 0,nI 0,nI 0,nI 0,nI 0,nI 0] 46)).heap.size,0,none⟩) 9 9),(11,nB w48),(0,nI x64),(1,nI x57),(9,nI x43),(8,nI x42),(7,nI x41),(5,nP z11 0)]) (w':=w93) (by kernel_rfl) ?_
       intro a131 hF130; clear hF128
       have hS132:=hS95.pick1
       clear hS95
       refine ev_store (nI (-1)) #[nI (-1),nI x82,nI x83,nI x84,nI x85,nI x86,nI x87,nI x88,nI x89] hF130 (by kernel_rfl) rfl rfl rfl rfl (by kernel_rfl) hS132 (by kernel_rfl) (by kernel_rfl) (by kernel_rfl) (l':=[(81,nB w48),(80,nB w48),(79,nP ((w48.alloc (.cells #[nI 0,nI 0,nI 0,nI 0,nI 0,nI 0,nI 0,nI 0,nI 0] 46)).heap.size) 0),(78,nI x90),(77,.slice (some ⟨(w48.alloc (.cells #[nI 0,nI 0,nI 0,nI 0,nI 0,nI 0,nI 0,nI 0,nI 0] 46)).heap.size,0,none⟩) 9 9),(13,nI x90),(12,.slice (some ⟨(w48.alloc (.cells #[nI 0,nI 0,nI 0,nI 0,nI 0,nI 0,nI 0,nI 0,nI 0] 46)).heap.size,0,none⟩) 9 9),(11,nB w48),(0,nI x64),(1,nI x57),(9,nI x43),(8,nI x42),(7,nI x41),(5,nP z11 0)]) (by kernel_rfl) ?_
       intro w133 a134 hS135 hF136; clear hF130 hS132
       refine wpList_nil ?_
       have hF137:=hF136.keep [0,1,5,7,8,9,11,12,13]
       clear hF136
       exact thenN ⟨-1,x82,x83,x84,x85,x86,x87,x88,x89,hF137,hS135,hm125⟩
      have hm138:=ifNot hc124 hm101; clear hm101
      cases hc139:(x90 == 1)
      case true =>
       have hm140:=ifYes hc139 hm138; clear hm138
       refine ev_one (nP ((w48.alloc (.cells #[nI 0,nI 0,nI 0,nI 0,nI 0,nI 0,nI 0,nI 0,nI 0] 46)).heap.size) 1) w93 hF122 (by kernel_rfl) rfl (by kernel_rfl) (run_idx (z:=1) rfl rfl rfl rfl (congrArg (Value.int .i64) (eq_of_beq hc139)) (by decide) (by decide) _) (l':=[(79,nP ((w48.alloc (.cells #[nI 0,nI 0,nI 0,nI 0,nI 0,nI 0,nI 0,nI 0,nI 0] 46)).heap.size) 1),(78,nI x90),(77,.slice (some ⟨(w48.alloc (.cells #[nI 0,nI 0,nI 0,nI 0,nI 0,nI 0,nI 0,nI 0,nI 0] 46)).heap.size,0,none⟩) 9 9),(13,nI x90),(12,.slice (some ⟨(w48.alloc (.cells #[nI 0,nI 0,nI 0,nI 0,nI 0,nI 0,nI 0,nI 0,nI 0] 46)).heap.size,0,none⟩) 9 9),(11,nB w48),(0,nI x64),(1,nI x57),(9,nI x43),(8,nI x42),(7,nI x41),(5,nP z11 0)]) (by kernel_rfl) ?_
       intro a142 hF141; clear hF122
       refine ev_one (nP (w48.heap.size) 1) w93 hF141 (by kernel_rfl) rfl (by kernel_rfl) (run_loadV rfl rfl (run_loadS rfl rfl (hS95.cell 0 rfl 1 rfl))) (l':=[(80,nP (w48.heap.size) 1),(79,nP ((w48.alloc (.cells #[nI 0,nI 0,nI 0,nI 0,nI 0,nI 0,nI 0,nI 0,nI 0] 46)).heap.size) 1),(78,nI x90),(77,.slice (some ⟨(w48.alloc (.cells #[nI 0,nI 0,nI 0,nI 0,nI 0,nI 0,nI 0,nI 0,nI 0] 46)).heap.size,0,none⟩) 9 9),(13,nI x90),(12,.slice (some ⟨(w48.alloc (.cells #[nI 0,nI 0,nI 0,nI 0,nI 0,nI 0,nI 0,nI 0,nI 0] 46)).heap.size,0,none⟩) 9 9),(11,nB w48),(0,nI x64),(1,nI x57),(9,nI x43),(8,nI x42),(7,nI x41),(5,nP z11 0)]) (by kernel_rfl) ?_
       intro a144 hF143; clear hF141
       refine ev_runs 1 hF143 (l':=[(81,nP (w48.heap.size) 1),(80,nP (w48.heap.size) 1),(79,nP ((w48.alloc (.cells #[nI 0,nI 0,nI 0,nI 0,nI 0,nI 0,nI 0,nI 0,nI 0] 46)).heap.size) 1),(78,nI x90),(77,.slice (some ⟨(w48.alloc (.cells #[nI 0,nI 0,nI 0,nI 0,nI 0,nI 0,nI 0,nI 0,nI 0] 46)).heap.size,0,none⟩) 9 9),(13,nI x90),(12,.slice (some ⟨(w48.alloc (.cells #[nI 0,nI 0,nI 0,nI 0,nI 0,nI 0,nI 0,nI 0,nI 0] 46)).heap.size,0,none⟩) 9 9),(11,nB w48),(0,nI x64),(1,nI x57),(9,nI x43),(8,nI x42),(7,nI x41),(5,nP z11 0)]) (w':=w93) (by kernel_rfl) ?_
       intro a146 hF145; clear hF143
       have hS147:=hS95.pick1
       clear hS95
       refine ev_store (nI (-1)) #[nI x81,nI (-1),nI x83,nI x84,nI x85,nI x86,nI x87,nI x88,nI x89] hF145 (by kernel_rfl) rfl rfl rfl rfl (by kernel_rfl) hS147 (by kernel_rfl) (by kernel_rfl) (by kernel_rfl) (l':=[(81,nP (w48.heap.size) 1),(80,nP (w48.heap.size) 1),(79,nP ((w48.alloc (.cells #[nI 0,nI 0,nI 0,nI 0,nI 0,nI 0,nI 0,nI 0,nI 0] 46)).heap.size) 1),(78,nI x90),(77,.slice (some ⟨(w48.alloc (.cells #[nI 0,nI 0,nI 0,nI 0,nI 0,nI 0,nI 0,nI 0,nI 0] 46)).heap.size,0,none⟩) 9 9),(13,nI x90),(12,.slice (some ⟨(w48.alloc (.cells #[nI 0,nI 0,nI 0,nI 0,nI 0,nI 0,nI 0,nI 0,nI 0] 46)).heap.size,0,none⟩) 9 9),(11,nB w48),(0,nI x64),(1,nI x57),(9,nI x43),(8,nI x42),(7,nI x41),(5,nP z11 0)]) (by kernel_rfl) ?_
       intro w148 a149 hS150 hF151; clear hF145 hS147
       refine wpList_nil ?_
       have hF152:=hF151.keep [0,1,5,7,8,9,11,12,13]
       clear hF151
       exact thenN ⟨x81,-1,x83,x84,x85,x86,x87,x88,x89,hF152,hS150,hm140⟩
      have hm153:=ifNot hc139 hm138; clear hm138
      cases hc154:(x90 == 2)
      case true =>
       have hm155:=ifYes hc154 hm153; clear hm153
       refine ev_one (nP ((w48.alloc (.cells #[nI 0,nI 0,nI 0,nI 0,nI 0,nI 0,nI 0,nI 0,nI 0] 46)).heap.size) 2) w93 hF122 (by kernel_rfl) rfl (by kernel_rfl) (run_idx (z:=2) rfl rfl rfl rfl (congrArg (Value.int .i64) (eq_of_beq hc154)) (by decide) (by decide) _) (l':=[(79,nP ((w48.alloc (.cells #[nI 0,nI 0,nI 0,nI 0,nI 0,nI 0,nI 0,nI 0,nI 0] 46)).heap.size) 2),(78,nI x90),(77,.slice (some ⟨(w48.alloc (.cells #[nI 0,nI 0,nI 0,nI 0,nI 0,nI 0,nI 0,nI 0,nI 0] 46)).heap.size,0,none⟩) 9 9),(13,nI x90),(12,.slice (some ⟨(w48.alloc (.cells #[nI 0,nI 0,nI 0,nI 0,nI 0,nI 0,nI 0,nI 0,nI 0] 46)).heap.size,0,none⟩) 9 9),(11,nB w48),(0,nI x64),(1,nI x57),(9,nI x43),(8,nI x42),(7,nI x41),(5,nP z11 0)]) (by kernel_rfl) ?_
       intro a157 hF156; clear hF122
       refine ev_one (nP (w48.heap.size) 2) w93 hF156 (by kernel_rfl) rfl (by kernel_rfl) (run_loadV rfl rfl (run_loadS rfl rfl (hS95.cell 0 rfl 2 rfl))) (l':=[(80,nP (w48.heap.size) 2),(79,nP ((w48.alloc (.cells #[nI 0,nI 0,nI 0,nI 0,nI 0,nI 0,nI 0,nI 0,nI 0] 46)).heap.size) 2),(78,nI x90),(77,.slice (some ⟨(w48.alloc (.cells #[nI 0,nI 0,nI 0,nI 0,nI 0,nI 0,nI 0,nI 0,nI 0] 46)).heap.size,0,none⟩) 9 9),(13,nI x90),(12,.slice (some ⟨(w48.alloc (.cells #[nI 0,nI 0,nI 0,nI 0,nI 0,nI 0,nI 0,nI 0,nI 0] 46)).heap.size,0,none⟩) 9 9),(11,nB w48),(0,nI x64),(1,nI x57),(9,nI x43),(8,nI x42),(7,nI x41),(5,nP z11 0)]) (by kernel_rfl) ?_
       intro a159 hF158; clear hF156
       refine ev_runs 1 hF158 (l':=[(81,nP (w48.heap.size) 2),(80,nP (w48.heap.size) 2),(79,nP ((w48.alloc (.cells #[nI 0,nI 0,nI 0,nI 0,nI 0,nI 0,nI 0,nI 0,nI 0] 46)).heap.size) 2),(78,nI x90),(77,.slice (some ⟨(w48.alloc (.cells #[nI 0,nI 0,nI 0,nI 0,nI 0,nI 0,nI 0,nI 0,nI 0] 46)).heap.size,0,none⟩) 9 9),(13,nI x90),(12,.slice (some ⟨(w48.alloc (.cells #[nI 0,nI 0,nI 0,nI 0,nI 0,nI 0,nI 0,nI 0,nI 0] 46)).heap.size,0,none⟩) 9 9),(11,nB w48),(0,nI x64),(1,nI x57),(9,nI x43),(8,nI x42),(7,nI x41),(5,nP z11 0)]) (w':=w93) (by kernel_rfl) ?_
       intro a161 hF160; clear hF158
       have hS162:=hS95.pick1
       clear hS95
       refine ev_store (nI (-1)) #[nI x81,nI x82,nI (-1),nI x84,nI x85,nI x86,nI x87,nI x88,nI x89] hF160 (by kernel_rfl) rfl rfl rfl rfl (by kernel_rfl) hS162 (by kernel_rfl) (by kernel_rfl) (by kernel_rfl) (l':=[(81,nP (w48.heap.size) 2),(80,nP (w48.heap.size) 2),(79,nP ((w48.alloc (.cells #[nI 0,nI 0,nI 0,nI 0,nI 0,nI 0,nI 0,nI 0,nI 0] 46)).heap.size) 2),(78,nI x90),(77,.slice (some ⟨(w48.alloc (.cells #[nI 0,nI 0,nI 0,nI 0,nI 0,nI 0,nI 0,nI 0,nI 0] 46)).heap.size,0,none⟩) 9 9),(13,nI x90),(12,.slice (some ⟨(w48.alloc (.cells #[nI 0,nI 0,nI 0,nI 0,nI 0,nI 0,nI 0,nI 0,nI 0] 46)).heap.size,0,none⟩) 9 9),(11,nB w48),(0,nI x64),(1,nI x57),(9,nI x43),(8,nI x42),(7,nI x41),(5,nP z11 0)]) (by kernel_rfl) ?_
       intro w163 a164 hS165 hF166; clear hF160 hS162
       refine wpList_nil ?_
       have hF167:=hF166.keep [0,1,5,7,8,9,11,12,13]
       clear hF166
       exact thenN ⟨x81,x82,-1,x84,x85,x86,x87,x88,x89,hF167,hS165,hm155⟩
      have hm168:=ifNot hc154 hm153; clear hm153
      cases hc169:(x90 == 3)
      case true =>
       have hm170:=ifYes hc169 hm168; clear hm168
       refine ev_one (nP ((w48.alloc (.cells #[nI 0,nI 0,nI 0,nI 0,nI 0,nI 0,nI 0,nI 0,nI 0] 46)).heap.size) 3) w93 hF122 (by kernel_rfl) rfl (by kernel_rfl) (run_idx (z:=3) rfl rfl rfl rfl (congrArg (Value.int .i64) (eq_of_beq hc169)) (by decide) (by decide) _) (l':=[(79,nP ((w48.alloc (.cells #[nI 0,nI 0,nI 0,nI 0,nI 0,nI 0,nI 0,nI 0,nI 0] 46)).heap.size) 3),(78,nI x90),(77,.slice (some ⟨(w48.alloc (.cells #[nI 0,nI 0,nI 0,nI 0,nI 0,nI 0,nI 0,nI 0,nI 0] 46)).heap.size,0,none⟩) 9 9),(13,nI x90),(12,.slice (some ⟨(w48.alloc (.cells #[nI 0,nI 0,nI 0,nI 0,nI 0,nI 0,nI 0,nI 0,nI 0] 46)).heap.size,0,none⟩) 9 9),(11,nB w48),(0,nI x64),(1,nI x57),(9,nI x43),(8,nI x42),(7,nI x41),(5,nP z11 0)]) (by kernel_rfl) ?_
       intro a172 hF171; clear hF122
       refine ev_one (nP (w48.heap.size) 3) w93 hF171 (by kernel_rfl) rfl (by kernel_rfl) (run_loadV rfl rfl (run_loadS rfl rfl (hS95.cell 0 rfl 3 rfl))) (l':=[(80,nP (w48.heap.size) 3),(79,nP ((w48.alloc (.cells #[nI 0,nI 0,nI 0,nI 0,nI 0,nI 0,nI 0,nI 0,nI 0] 46)).heap.size) 3),(78,nI x90),(77,.slice (some ⟨(w48.alloc (.cells #[nI 0,nI 0,nI 0,nI 0,nI 0,nI 0,nI 0,nI 0,nI 0] 46)).heap.size,0,none⟩) 9 9),(13,nI x90),(12,.slice (some ⟨(w48.alloc (.cells #[nI 0,nI 0,nI 0,nI 0,nI 0,nI 0,nI 0,nI 0,nI 0] 46)).heap.size,0,none⟩) 9 9),(11,nB w48),(0,nI x64),(1,nI x57),(9,nI x43),(8,nI x42),(7,nI x41),(5,nP z11 0)]) (by kernel_rfl) ?_
       intro a174 hF173; clear hF171
       refine ev_runs 1 hF173 (l':=[(81,nP (w48.heap.size) 3),(80,nP (w48.heap.size) 3),(79,nP ((w48.alloc (.cells #[nI 0,nI 0,nI 0,nI 0,nI 0,nI 0,nI 0,nI 0,nI 0] 46)).heap.size) 3),(78,nI x90),(77,.slice (some ⟨(w48.alloc (.cells #[nI 0,nI 0,nI 0,nI 0,nI 0,nI 0,nI 0,nI 0,nI 0] 46)).heap.size,0,none⟩) 9 9),(13,nI x90),(12,.slice (some ⟨(w48.alloc (.cells #[nI 0,nI 0,nI 0,nI 0,nI 0,nI 0,nI 0,nI 0,nI 0] 46)).heap.size,0,none⟩) 9 9),(11,nB w48),(0,nI x64),(1,nI x57),(9,nI x43),(8,nI x42),(7,nI x41),(5,nP z11 0)]) (w':=w93) (by kernel_rfl) ?_
       intro a176 hF175; clear hF173
       have hS177:=hS95.pick1
       clear hS95
       refine ev_store (nI (-1)) #[nI x81,nI x82,nI x83,nI (-1),nI x85,nI x86,nI x87,nI x88,nI x89] hF175 (by kernel_rfl) rfl rfl rfl rfl (by kernel_rfl) hS177 (by kernel_rfl) (by kernel_rfl) (by kernel_rfl) (l':=[(81,nP (w48.heap.size) 3),(80,nP (w48.heap.size) 3),(79,nP ((w48.alloc (.cells #[nI 0,nI 0,nI 0,nI 0,nI 0,nI 0,nI 0,nI 0,nI 0] 46)).heap.size) 3),(78,nI x90),(77,.slice (some ⟨(w48.alloc (.cells #[nI 0,nI 0,nI 0,nI 0,nI 0,nI 0,nI 0,nI 0,nI 0] 46)).heap.size,0,none⟩) 9 9),(13,nI x90),(12,.slice (some ⟨(w48.alloc (.cells #[nI 0,nI 0,nI 0,nI 0,nI 0,nI 0,nI 0,nI 0,nI 0] 46)).heap.size,0,none⟩) 9 9),(11,nB w48),(0,nI x64),(1,nI x57),(9,nI x43),(8,nI x42),(7,nI x41),(5,nP z11 0)]) (by kernel_rfl) ?_
       intro w178 a179 hS180 hF181; clear hF175 hS177
       refine wpList_nil ?_
       have hF182:=hF181.keep [0,1,5,7,8,9,11,12,13]
       clear hF181
       exact thenN ⟨x81,x82,x83,-1,x85,x86,x87,x88,x89,hF182,hS180,hm170⟩
      have hm183:=ifNot hc169 hm168; clear hm168
      cases hc184:(x90 == 4)
      case true =>
       have hm185:=ifYes hc184 hm183; clear hm183
       refine ev_one (nP ((w48.alloc (.cells #[nI 0,nI 0,nI 0,nI 0,nI 0,nI 0,nI 0,nI 0,nI 0] 46)).heap.size) 4) w93 hF122 (by kernel_rfl) rfl (by kernel_rfl) (run_idx (z:=4) rfl rfl rfl rfl (congrArg (Value.int .i64) (eq_of_beq hc184)) (by decide) (by decide) _) (l':=[(79,nP ((w48.alloc (.cells #[nI 0,nI 0,nI 0,nI 0,nI 0,nI 0,nI 0,nI 0,nI 0] 46)).heap.size) 4),(78,nI x90),(77,.slice (some ⟨(w48.alloc (.cells #[nI 0,nI 0,nI 0,nI 0,nI 0,nI 0,nI 0,nI 0,nI 0] 46)).heap.size,0,none⟩) 9 9),(13,nI x90),(12,.slice (some ⟨(w48.alloc (.cells #[nI 0,nI 0,nI 0,nI 0,nI 0,nI 0,nI 0,nI 0,nI 0] 46)).heap.size,0,none⟩) 9 9),(11,nB w48),(0,nI x64),(1,nI x57),(9,nI x43),(8,nI x42),(7,nI x41),(5,nP z11 0)]) (by kernel_rfl) ?_
       intro a187 hF186; clear hF122
       refine ev_one (nP (w48.heap.size) 4) w93 hF186 (by kernel_rfl) rfl (by kernel_rfl) (run_loadV rfl rfl (run_loadS rfl rfl (hS95.cell 0 rfl 4 rfl))) (l':=[(80,nP (w48.heap.size) 4),(79,nP ((w48.alloc (.cells #[nI 0,nI 0,nI 0,nI 0,nI 0,nI 0,nI 0,nI 0,nI 0] 46)).heap.size) 4),(78,nI x90),(77,.slice (some ⟨(w48.alloc (.cells #[nI 0,nI 0,nI 0,nI 0,nI 0,nI 0,nI 0,nI 0,nI 0] 46)).heap.size,0,none⟩) 9 9),(13,nI x90),(12,.slice (some ⟨(w48.alloc (.cells #[nI 0,nI 0,nI 0,nI 0,nI 0,nI 0,nI 0,nI 0,nI 0] 46)).heap.size,0,none⟩) 9 9),(11,nB w48),(0,nI x64),(1,nI x57),(9,nI x43),(8,nI x42),(7,nI x41),(5,nP z11 0)]) (by kernel_rfl) ?_
       intro a189 hF188; clear hF186
       refine ev_runs 1 hF188 (l':=[(81,nP (w48.heap.size) 4),(80,nP (w48.heap.size) 4),(79,nP ((w48.alloc (.cells #[nI 0,nI 0,nI 0,nI 0,nI 0,nI 0,nI 0,nI 0,nI 0] 46)).heap.size) 4),(78,nI x90),(77,.slice (some ⟨(w48.alloc (.cells #[nI 0,nI 0,nI 0,nI 0,nI 0,nI 0,nI 0,nI 0,nI 0] 46)).heap.size,0,none⟩) 9 9),(13,nI x90),(12,.slice (some ⟨(w48.alloc (.cells #[nI 0,nI 0,nI 0,nI 0,nI 0,nI 0,nI 0,nI 0,nI 0] 46)).heap.size,0,none⟩) 9 9),(11,nB w48),(0,nI x64),(1,nI x57),(9,nI x43),(8,nI x42),(7,nI x41),(5,nP z11 0)]) (w':=w93) (by kernel_rfl) ?_
       intro a191 hF190; clear hF188
       have hS192:=hS95.pick1
       clear hS95
       refine ev_store (nI (-1)) #[nI x81,nI x82,nI x83,nI x84,nI (-1),nI x86,nI x87,nI x88,nI x89] hF190 (by kernel_rfl) rfl rfl rfl rfl (by kernel_rfl) hS192 (by kernel_rfl) (by kernel_rfl) (by kernel_rfl) (l':=[(81,nP (w48.heap.size) 4),(80,nP (w48.heap.size) 4),(79,nP ((w48.alloc (.cells #[nI 0,nI 0,nI 0,nI 0,nI 0,nI 0,nI 0,nI 0,nI 0] 46)).heap.size) 4),(78,nI x90),(77,.slice (some ⟨(w48.alloc (.cells #[nI 0,nI 0,nI 0,nI 0,nI 0,nI 0,nI 0,nI 0,nI 0] 46)).heap.size,0,none⟩) 9 9),(13,nI x90),(12,.slice (some ⟨(w48.alloc (.cells #[nI 0,nI 0,nI 0,nI 0,nI 0,nI 0,nI 0,nI 0,nI 0] 46)).heap.size,0,none⟩) 9 9),(11,nB w48),(0,nI x64),(1,nI x57),(9,nI x43),(8,nI x42),(7,nI x41),(5,nP z11 0)]) (by kernel_rfl) ?_
       intro w193 a194 hS195 hF196; clear hF190 hS192
       refine wpList_nil ?_
       have hF197:=hF196.keep [0,1,5,7,8,9,11,12,13]
       clear hF196
       exact thenN ⟨x81,x82,x83,x84,-1,x86,x87,x88,x89,hF197,hS195,hm185⟩
      have hm198:=ifNot hc184 hm183; clear hm183
      cases hc199:(x90 == 5)
      case true =>
       have hm200:=ifYes hc199 hm198; clear hm198
       refine ev_one (nP ((w48.alloc (.cells #[nI 0,nI 0,nI 0,nI 0,nI 0,nI 0,nI 0,nI 0,nI 0] 46)).heap.size) 5) w93 hF122 (by kernel_rfl) rfl (by kernel_rfl) (run_idx (z:=5) rfl rfl rfl rfl (congrArg (Value.int .i64) (eq_of_beq hc199)) (by decide) (by decide) _) (l':=[(79,nP ((w48.alloc (.cells #[nI 0,nI 0,nI 0,nI 0,nI 0,nI 0,nI 0,nI 0,nI 0] 46)).heap.size) 5),(78,nI x90),(77,.slice (some ⟨(w48.alloc (.cells #[nI 0,nI 0,nI 0,nI 0,nI 0,nI 0,nI 0,nI 0,nI 0] 46)).heap.size,0,none⟩) 9 9),(13,nI x90),(12,.slice (some ⟨(w48.alloc (.cells #[nI 0,nI 0,nI 0,nI 0,nI 0,nI 0,nI 0,nI 0,nI 0] 46)).heap.size,0,none⟩) 9 9),(11,nB w48),(0,nI x64),(1,nI x57),(9,nI x43),(8,nI x42),(7,nI x41),(5,nP z11 0)]) (by kernel_rfl) ?_
       intro a202 hF201; clear hF122
       refine ev_one (nP (w48.heap.size) 5) w93 hF201 (by kernel_rfl) rfl (by kernel_rfl) (run_loadV rfl rfl (run_loadS rfl rfl (hS95.cell 0 rfl 5 rfl))) (l':=[(80,nP (w48.heap.size) 5),(79,nP ((w48.alloc (.cells #[nI 0,nI 0,nI 0,nI 0,nI 0,nI 0,nI 0,nI 0,nI 0] 46)).heap.size) 5),(78,nI x90),(77,.slice (some ⟨(w48.alloc (.cells #[nI 0,nI 0,nI 0,nI 0,nI 0,nI 0,nI 0,nI 0,nI 0] 46)).heap.size,0,none⟩) 9 9),(13,nI x90),(12,.slice (some ⟨(w48.alloc (.cells #[nI 0,nI 0,nI 0,nI 0,nI 0,nI 0,nI 0,nI 0,nI 0] 46)).heap.size,0,none⟩) 9 9),(11,nB w48),(0,nI x64),(1,nI x57),(9,nI x43),(8,nI x42),(7,nI x41),(5,nP z11 0)]) (by kernel_rfl) ?_
       intro a204 hF203; clear hF201
       refine ev_runs 1 hF203 (l':=[(81,nP (w48.heap.size) 5),(80,nP (w48.heap.size) 5),(79,nP ((w48.alloc (.cells #[nI 0,nI 0,nI 0,nI 0,nI 0,nI 0,nI 0,nI 0,nI 0] 46)).heap.size) 5),(78,nI x90),(77,.slice (some ⟨(w48.alloc (.cells #[nI 0,nI 0,nI 0,nI 0,nI 0,nI 0,nI 0,nI 0,nI 0] 46)).heap.size,0,none⟩) 9 9),(13,nI x90),(12,.slice (some ⟨(w48.alloc (.cells #[nI 0,nI 0,nI 0,nI 0,nI 0,nI 0,nI 0,nI 0,nI 0] 46)).heap.size,0,none⟩) 9 9),(11,nB w48),(0,nI x64),(1,nI x57),(9,nI x43),(8,nI x42),(7,nI x41),(5,nP z11 0)]) (w':=w93) (by kernel_rfl) ?_
       intro a206 hF205; clear hF203
       have hS207:=hS95.pick1
       clear hS95
       refine ev_store (nI (-1)) #[nI x81,nI x82,nI x83,nI x84,nI x85,nI (-1),nI x87,nI x88,nI x89] hF205 (by kernel_rfl) rfl rfl rfl rfl (by kernel_rfl) hS207 (by kernel_rfl) (by kernel_rfl) (by kernel_rfl) (l':=[(81,nP (w48.heap.size) 5),(80,nP (w48.heap.size) 5),(79,nP ((w48.alloc (.cells #[nI 0,nI 0,nI 0,nI 0,nI 0,nI 0,nI 0,nI 0,nI 0] 46)).heap.size) 5),(78,nI x90),(77,.slice (some ⟨(w48.alloc (.cells #[nI 0,nI 0,nI 0,nI 0,nI 0,nI 0,nI 0,nI 0,nI 0] 46)).heap.size,0,none⟩) 9 9),(13,nI x90),(12,.slice (some ⟨(w48.alloc (.cells #[nI 0,nI 0,nI 0,nI 0,nI 0,nI 0,nI 0,nI 0,nI 0] 46)).heap.size,0,none⟩) 9 9),(11,nB w48),(0,nI x64),(1,nI x57),(9,nI x43),(8,nI x42),(7,nI x41),(5,nP z11 0)]) (by kernel_rfl) ?_
       intro w208 a209 hS210 hF211; clear hF205 hS207
       refine wpList_nil ?_
       have hF212:=hF211.keep [0,1,5,7,8,9,11,12,13]
       clear hF211
       exact thenN ⟨x81,x82,x83,x84,x85,-1,x87,x88,x89,hF212,hS210,hm200⟩
      have hm213:=ifNot hc199 hm198; clear hm198
      cases hc214:(x90 == 6)
      case true =>
       have hm215:=ifYes hc214 hm213; clear hm213
       refine ev_one (nP ((w48.alloc (.cells #[nI 0,nI 0,nI 0,nI 0,nI 0,nI 0,nI 0,nI 0,nI 0] 46)).heap.size) 6) w93 hF122 (by kernel_rfl) rfl (by kernel_rfl) (run_idx (z:=6) rfl rfl rfl rfl (congrArg (Value.int .i64) (eq_of_beq hc214)) (by decide) (by decide) _) (l':=[(79,nP ((w48.alloc (.cells #[nI 0,nI 0,nI 0,nI 0,nI 0,nI 0,nI 0,nI 0,nI 0] 46)).heap.size) 6),(78,nI x90),(77,.slice (some ⟨(w48.alloc (.cells #[nI 0,nI 0,nI 0,nI 0,nI 0,nI 0,nI 0,nI 0,nI 0] 46)).heap.size,0,none⟩) 9 9),(13,nI x90),(12,.slice (some ⟨(w48.alloc (.cells #[nI 0,nI 0,nI 0,nI 0,nI 0,nI 0,nI 0,nI 0,nI 0] 46)).heap.size,0,none⟩) 9 9),(11,nB w48),(0,nI x64),(1,nI x57),(9,nI x43),(8,nI x42),(7,nI x41),(5,nP z11 0)]) (by kernel_rfl) ?_
       intro a217 hF216; clear hF122
       refine ev_one (nP (w48.heap.size) 6) w93 hF216 (by kernel_rfl) rfl (by kernel_rfl) (run_loadV rfl rfl (run_loadS rfl rfl (hS95.cell 0 rfl 6 rfl))) (l':=[(80,nP (w48.heap.size) 6),(79,nP ((w48.alloc (.cells #[nI 0,nI 0,nI 0,nI 0,nI 0,nI 0,nI 0,nI 0,nI 0] 46)).heap.size) 6),(78,nI x90),(77,.slice (some ⟨(w48.alloc (.cells #[nI 0,nI 0,nI 0,nI 0,nI 0,nI 0,nI 0,nI 0,nI 0] 46)).heap.size,0,none⟩) 9 9),(13,nI x90),(12,.slice (some ⟨(w48.alloc (.cells #[nI 0,nI 0,nI 0,nI 0,nI 0,nI 0,nI 0,nI 0,nI 0] 46)).heap.size,0,none⟩) 9 9),(11,nB w48),(0,nI x64),(1,nI x57),(9,nI x43),(8,nI x42),(7,nI x41),(5,nP z11 0)]) (by kernel_rfl) ?_
       intro a219 hF218; clear hF216
       refine ev_runs 1 hF218 (l':=[(81,nP (w48.heap.size) 6),(80,nP (w48.heap.size) 6),(79,nP ((w48.alloc (.cells #[nI 0,nI 0,nI 0,nI 0,nI 0,nI 0,nI 0,nI 0,nI 0] 46)).heap.size) 6),(78,nI x90),(77,.slice (some ⟨(w48.alloc (.cells #[nI 0,nI 0,nI 0,nI 0,nI 0,nI 0,nI 0,nI 0,nI 0] 46)).heap.size,0,none⟩) 9 9),(13,nI x90),(12,.slice (some ⟨(w48.alloc (.cells #[nI 0,nI 0,nI 0,nI 0,nI 0,nI 0,nI 0,nI 0,nI 0] 46)).heap.size,0,none⟩) 9 9),(11,nB w48),(0,nI x64),(1,nI x57),(9,nI x43),(8,nI x42),(7,nI x41),(5,nP z11 0)]) (w':=w93) (by kernel_rfl) ?_
       intro a221 hF220; clear hF218
       have hS222:=hS95.pick1
       clear hS95
       refine ev_store (nI (-1)) #[nI x81,nI x82,nI x83,nI x84,nI x85,nI x86,nI (-1),nI x88,nI x89] hF220 (by kernel_rfl) rfl rfl rfl rfl (by kernel_rfl) hS222 (by kernel_rfl) (by kernel_rfl) (by kernel_rfl) (l':=[(81,nP (w48.heap.size) 6),(80,nP (w48.heap.size) 6),(79,nP ((w48.alloc (.cells #[nI 0,nI 0,nI 0,nI 0,nI 0,nI 0,nI 0,nI 0,nI 0] 46)).heap.size) 6),(78,nI x90),(77,.slice (some ⟨(w48.alloc (.cells #[nI 0,nI 0,nI 0,nI 0,nI 0,nI 0,nI 0,nI 0,nI 0] 46)).heap.size,0,none⟩) 9 9),(13,nI x90),(12,.slice (some ⟨(w48.alloc (.cells #[nI 0,nI 0,nI 0,nI 0,nI 0,nI 0,nI 0,nI 0,nI 0] 46)).heap.size,0,none⟩) 9 9),(11,nB w48),(0,nI x64),(1,nI x57),(9,nI x43),(8,nI x42),(7,nI x41),(5,nP z11 0)]) (by kernel_rfl) ?_
       intro w223 a224 hS225 hF226; clear hF220 hS222
       refine wpList_nil ?_
       have hF227:=hF226.keep [0,1,5,7,8,9,11,12,13]
       clear hF226
       exact thenN ⟨x81,x82,x83,x84,x85,x86,-1,x88,x89,hF227,hS225,hm215⟩
      have hm228:=ifNot hc214 hm213; clear hm213
      cases hc229:(x90 == 7)
      case true =>
       have hm230:=ifYes hc229 hm228; clear hm228
       refine ev_one (nP ((w48.alloc (.cells #[nI 0,nI 0,nI 0,nI 0,nI 0,nI 0,nI 0,nI 0,nI 0] 46)).heap.size) 7) w93 hF122 (by kernel_rfl) rfl (by kernel_rfl) (run_idx (z:=7) rfl rfl rfl rfl (congrArg (Value.int .i64) (eq_of_beq hc229)) (by decide) (by decide) _) (l':=[(79,nP ((w48.alloc (.cells #[nI 0,nI 0,nI 0,nI 0,nI 0,nI 0,nI 0,nI 0,nI 0] 46)).heap.size) 7),(78,nI x90),(77,.slice (some ⟨(w48.alloc (.cells #[nI 0,nI 0,nI 0,nI 0,nI 0,nI 0,nI 0,nI 0,nI 0] 46)).heap.size,0,none⟩) 9 9),(13,nI x90),(12,.slice (some ⟨(w48.alloc (.cells #[nI 0,nI 0,nI 0,nI 0,nI 0,nI 0,nI 0,nI 0,nI 0] 46)).heap.size,0,none⟩) 9 9),(11,nB w48),(0,nI x64),(1,nI x57),(9,nI x43),(8,nI x42),(7,nI x41),(5,nP z11 0)]) (by kernel_rfl) ?_
       intro a232 hF231; clear hF122
       refine ev_one (nP (w48.heap.size) 7) w93 hF231 (by kernel_rfl) rfl (by kernel_rfl) (run_loadV rfl rfl (run_loadS rfl rfl (hS95.cell 0 rfl 7 rfl))) (l':=[(80,nP (w48.heap.size) 7),(79,nP ((w48.alloc (.cells #[nI 0,nI 0,nI 0,nI 0,nI 0,nI 0,nI 0,nI 0,nI 0] 46)).heap.size) 7),(78,nI x90),(77,.slice (some ⟨(w48.alloc (.cells #[nI 0,nI 0,nI 0,nI 0,nI 0,nI 0,nI 0,nI 0,nI 0] 46)).heap.size,0,none⟩) 9 9),(13,nI x90),(12,.slice (some ⟨(w48.alloc (.cells #[nI 0,nI 0,nI 0,nI 0,nI 0,nI 0,nI 0,nI 0,nI 0] 46)).heap.size,0,none⟩) 9 9),(11,nB w48),(0,nI x64),(1,nI x57),(9,nI x43),(8,nI x42),(7,nI x41),(5,nP z11 0)]) (by kernel_rfl) ?_
       intro a234 hF233; clear hF231
       refine ev_runs 1 hF233 (l':=[(81,nP (w48.heap.size) 7),(80,nP (w48.heap.size) 7),(79,nP ((w48.alloc (.cells #[nI 0,nI 0,nI 0,nI 0,nI 0,nI 0,nI 0,nI 0,nI 0] 46)).heap.size) 7),(78,nI x90),(77,.slice (some ⟨(w48.alloc (.cells #[nI 0,nI 0,nI 0,nI 0,nI 0,nI 0,nI 0,nI 0,nI 0] 46)).heap.size,0,none⟩) 9 9),(13,nI x90),(12,.slice (some ⟨(w48.alloc (.cells #[nI 0,nI 0,nI 0,nI 0,nI 0,nI 0,nI 0,nI 0,nI 0] 46)).heap.size,0,none⟩) 9 9),(11,nB w48),(0,nI x64),(1,nI x57),(9,nI x43),(8,nI x42),(7,nI x41),(5,nP z11 0)]) (w':=w93) (by kernel_rfl) ?_
       intro a236 hF235; clear hF233
       have hS237:=hS95.pick1
       clear hS95
       refine ev_store (nI (-1)) #[nI x81,nI x82,nI x83,nI x84,nI x85,nI x86,nI x87,nI (-1),nI x89] hF235 (by kernel_rfl) rfl rfl rfl rfl (by kernel_rfl) hS237 (by kernel_rfl) (by kernel_rfl) (by kernel_rfl) (l':=[(81,nP (w48.heap.size) 7),(80,nP (w48.heap.size) 7),(79,nP ((w48.alloc (.cells #[nI 0,nI 0,nI 0,nI 0,nI 0,nI 0,nI 0,nI 0,nI 0] 46)).heap.size) 7),(78,nI x90),(77,.slice (some ⟨(w48.alloc (.cells #[nI 0,nI 0,nI 0,nI 0,nI 0,nI 0,nI 0,nI 0,nI 0] 46)).heap.size,0,none⟩) 9 9),(13,nI x90),(12,.slice (some ⟨(w48.alloc (.cells #[nI 0,nI 0,nI 0,nI 0,nI 0,nI 0,nI 0,nI 0,nI 0] 46)).heap.size,0,none⟩) 9 9),(11,nB w48),(0,nI x64),(1,nI x57),(9,nI x43),(8,nI x42),(7,nI x41),(5,nP z11 0)]) (by kernel_rfl) ?_
       intro w238 a239 hS240 hF241; clear hF235 hS237
       refine wpList_nil ?_
       have hF242:=hF241.keep [0,1,5,7,8,9,11,12,13]
       clear hF241
       exact thenN ⟨x81,x82,x83,x84,x85,x86,x87,-1,x89,hF242,hS240,hm230⟩
      have hm243:=ifNot hc229 hm228; clear hm228
      cases hc244:(x90 == 8)
      case true =>
       have hm245:=ifYes hc244 hm243; clear hm243
       refine ev_one (nP ((w48.alloc (.cells #[nI 0,nI 0,nI 0,nI 0,nI 0,nI 0,nI 0,nI 0,nI 0] 46)).heap.size) 8) w93 hF122 (by kernel_rfl) rfl (by kernel_rfl) (run_idx (z:=8) rfl rfl rfl rfl (congrArg (Value.int .i64) (eq_of_beq hc244)) (by decide) (by decide) _) (l':=[(79,nP ((w48.alloc (.cells #[nI 0,nI 0,nI 0,nI 0,nI 0,nI 0,nI 0,nI 0,nI 0] 46)).heap.size) 8),(78,nI x90),(77,.slice (some ⟨(w48.alloc (.cells #[nI 0,nI 0,nI 0,nI 0,nI 0,nI 0,nI 0,nI 0,nI 0] 46)).heap.size,0,none⟩) 9 9),(13,nI x90),(12,.slice (some ⟨(w48.alloc (.cells #[nI 0,nI 0,nI 0,nI 0,nI 0,nI 0,nI 0,nI 0,nI 0] 46)).heap.size,0,none⟩) 9 9),(11,nB w48),(0,nI x64),(1,nI x57),(9,nI x43),(8,nI x42),(7,nI x41),(5,nP z11 0)]) (by kernel_rfl) ?_
       intro a247 hF246; clear hF122
       refine ev_one (nP (w48.heap.size) 8) w93 hF246 (by kernel_rfl) rfl (by kernel_rfl) (run_loadV rfl rfl (run_loadS rfl rfl (hS95.cell 0 rfl 8 rfl))) (l':=[(80,nP (w48.heap.size) 8),(79,nP ((w48.alloc (.cells #[nI 0,nI 0,nI 0,nI 0,nI 0,nI 0,nI 0,nI 0,nI 0] 46)).heap.size) 8),(78,nI x90),(77,.slice (some ⟨(w48.alloc (.cells #[nI 0,nI 0,nI 0,nI 0,nI 0,nI 0,nI 0,nI 0,nI 0] 46)).heap.size,0,none⟩) 9 9),(13,nI x90),(12,.slice (some ⟨(w48.alloc (.cells #[nI 0,nI 0,nI 0,nI 0,nI 0,nI 0,nI 0,nI 0,nI 0] 46)).heap.size,0,none⟩) 9 9),(11,nB w48),(0,nI x64),(1,nI x57),(9,nI x43),(8,nI x42),(7,nI x41),(5,nP z11 0)]) (by kernel_rfl) ?_
       intro a249 hF248; clear hF246
       refine ev_runs 1 hF248 (l':=[(81,nP (w48.heap.size) 8),(80,nP (w48.heap.size) 8),(79,nP ((w48.alloc (.cells #[nI 0,nI 0,nI 0,nI 0,nI 0,nI 0,nI 0,nI 0,nI 0] 46)).heap.size) 8),(78,nI x90),(77,.slice (some ⟨(w48.alloc (.cells #[nI 0,nI 0,nI 0,nI 0,nI 0,nI 0,nI 0,nI 0,nI 0] 46)).heap.size,0,none⟩) 9 9),(13,nI x90),(12,.slice (some ⟨(w48.alloc (.cells #[nI 0,nI 0,nI 0,nI 0,nI 0,nI 0,nI 0,nI 0,nI 0] 46)).heap.size,0,none⟩) 9 9),(11,nB w48),(0,nI x64),(1,nI x57),(9,nI x43),(8,nI x42),(7,nI x41),(5,nP z11 0)]) (w':=w93) (by kernel_rfl) ?_
       intro a251 hF250; clear hF248
       have hS252:=hS95.pick1
       clear hS95
       refine ev_store (nI (-1)) #[nI x81,nI x82,nI x83,nI x84,nI x85,nI x86,nI x87,nI x88,nI (-1)] hF250 (by kernel_rfl) rfl rfl rfl rfl (by kernel_rfl) hS252 (by kernel_rfl) (by kernel_rfl) (by kernel_rfl) (l':=[(81,nP (w48.heap.size) 8),(80,nP (w48.heap.size) 8),(79,nP ((w48.alloc (.cells #[nI 0,nI 0,nI 0,nI 0,nI 0,nI 0,nI 0,nI 0,nI 0] 46)).heap.size) 8),(78,nI x90),(77,.slice (some ⟨(w48.alloc (.cells #[nI 0,nI 0,nI 0,nI 0,nI 0,nI 0,nI 0,nI 0,nI 0] 46)).heap.size,0,none⟩) 9 9),(13,nI x90),(12,.slice (some ⟨(w48.alloc (.cells #[nI 0,nI 0,nI 0,nI 0,nI 0,nI 0,nI 0,nI 0,nI 0] 46)).heap.size,0,none⟩) 9 9),(11,nB w48),(0,nI x64),(1,nI x57),(9,nI x43),(8,nI x42),(7,nI x41),(5,nP z11 0)]) (by kernel_rfl) ?_
       intro w253 a254 hS255 hF256; clear hF250 hS252
       refine wpList_nil ?_
       have hF257:=hF256.keep [0,1,5,7,8,9,11,12,13]
       clear hF256
       exact thenN ⟨x81,x82,x83,x84,x85,x86,x87,x88,-1,hF257,hS255,hm245⟩
      have hm258:=ifNot hc244 hm243; clear hm243
      exact absurd hm258 (by simp)
   rw [hc100] at hF98
   have hm259:=ifNot hc100 hm97; clear hm97
   refine ev_condF hF98 rfl rfl ?_
   refine wp_exit ?_
   refine thenE ?_
   refine thenE ?_
   refine blockE ?_
   refine thenN (wp_seq ?_)
   refine joinQ (fun aI wI=>∃ (x260:Int) (x261:Int) (x262:Int) (x263:Int) (x264:Int) (x265:Int) (x266:Int) (x267:Int) (x268:Int),Fr 213 aI [(11,nB w48),(0,nI x64),(1,nI x57),(9,nI x43),(8,nI x42),(7,nI x41),(5,nP z11 0)]∧St w0 F0 (BlkP (w48.heap.size) 46 #[nI x260,nI x261,nI x262,nI x263,nI x264,nI x265,nI x266,nI x267,nI x268]::HeapP z11 z12 s3::ps) wI∧ViewWords.j6 k s3 x41 x42 x43 x57 x64 x260 x261 x262 x263 x264 x265 x266 x267 x268=some r0) ?_ ?_
   rotate_left
   · rintro a270 w271 ⟨x260,x261,x262,x263,x264,x265,x266,x267,x268,hF272,hS273,hm274⟩
     clear hF98 hS95 hm259
     unfold ViewWords.j6 at hm274
     refine thenN (wp_seq (wp_region_lit ?_))
     refine ev_runs 2 hF272 (l':=[(89,nI x41),(88,nP z11 0),(11,nB w48),(0,nI x64),(1,nI x57),(9,nI x43),(8,nI x42),(7,nI x41),(5,nP z11 0)]) (w':=w271) (by kernel_rfl) ?_
     intro a277 hF276; clear hF272
     refine ev_one (.agg #[nI x260,nI x261,nI x262,nI x263,nI x264,nI x265,nI x266,nI x267,nI x268]) w271 hF276 (by kernel_rfl) rfl (by kernel_rfl) (run_loadV rfl rfl (run_loadA (cs:=[nI x260,nI x261,nI x262,nI x263,nI x264,nI x265,nI x266,nI x267,nI x268]) rfl rfl (by kernel_rfl) (blk_cells hS273 0 rfl rfl))) (l':=[(90,.agg #[nI x260,nI x261,nI x262,nI x263,nI x264,nI x265,nI x266,nI x267,nI x268]),(89,nI x41),(88,nP z11 0),(11,nB w48),(0,nI x64),(1,nI x57),(9,nI x43),(8,nI x42),(7,nI x41),(5,nP z11 0)]) (by kernel_rfl) ?_
     intro a279 hF278; clear hF276
     have hS280:=hS273.pick1
     clear hS273
     refine ev_call 22 #[nP z11 0,nI x41,.agg #[nI x260,nI x261,nI x262,nI x263,nI x264,nI x265,nI x266,nI x267,nI x268]] hF278 rfl rfl (by kernel_rfl) rfl (by kernel_rfl) (fun w=>by kernel_rfl) ?_
     obtain ⟨x281,s282,hx283,hm284⟩:=bind2E hm274; clear hm274
     refine (p_PutChan hS280 hx283).mono ?_
     rintro _ w285 ⟨rfl,hS287⟩ a286 hF288; clear hF278 hS280
     refine ev_runK 1 hF288 [0,1,5,7,8,9,14] (l':=[(14,nI x281),(0,nI x64),(1,nI x57),(9,nI x43),(8,nI x42),(7,nI x41),(5,nP z11 0)]) (w':=w285) (by kernel_rfl) ?_
     intro a290 hF289; clear hF288
     refine wpList_nil ?_
     have hS291:=hS287.pick1.drop
     clear hS287
     refine thenN (wp_seq (wp_seq (wp_region_lit ?_)))
     refine ev_runs 1 hF289 (l':=[(15,nI 0),(14,nI x281),(0,nI x64),(1,nI x57),(9,nI x43),(8,nI x42),(7,nI x41),(5,nP z11 0)]) (w':=w285) (by kernel_rfl) ?_
     intro a293 hF292; clear hF289
     refine wpList_nil (thenN ?_)
     refine wp_block ?_
     refine wp_loop_ghost (fun kI aI wI=>∃ (x294:Int),Fr 213 aI [(15,nI x294),(14,nI x281),(0,nI x64),(1,nI x57),(9,nI x43),(8,nI x42),(7,nI x41),(5,nP z11 0)]∧St w0 F0 (HeapP z11 z12 s282::ps) wI∧ViewWords.l11 x41 x42 x43 x57 x64 x281 s282 kI x294=some r0) k ⟨0,hF292,hS291,hm284⟩ ?_
     rintro k295 a296 w297 ⟨x294,hF298,hS299,hm300⟩
     clear hF292 hS291 hm284
     rcases k295 with _ | k295
     · cases hm300
     have hm301:ViewWords.l11b x41 x42 x43 x57 x64 x281 s282 (ViewWords.l11 x41 x42 x43 x57 x64 x281 s282 k295) x294=some r0:=hm300
     clear hm300
     unfold ViewWords.l11b at hm301
     refine wp_seq (wp_seq (wp_region_lit ?_))
     refine ev_runK 2 hF298 [0,1,5,7,8,9,14,15,93] (l':=[(93,.bool (decide (x294<9))),(15,nI x294),(14,nI x281),(0,nI x64),(1,nI x57),(9,nI x43),(8,nI x42),(7,nI x41),(5,nP z11 0)]) (w':=w297) (by kernel_rfl) ?_
     intro a303 hF302; clear hF298
     refine wpList_nil (thenN ?_)
     cases hc304:(decide (x294<9))
     case true =>
      rw [hc304] at hF302
      have hm305:=ifYes hc304 hm301; clear hm301
      refine ev_condT hF302 rfl rfl ?_
      refine wp_skip ?_
      have hF306:=hF302.keep [0,1,5,7,8,9,14,15]
      clear hF302
      refine thenN (wp_seq ?_)
      refine wp_block ?_
      refine wp_seq (wp_region_lit ?_)
      refine ev_runs 3 hF306 (l':=[(99,nI x294),(98,nI x41),(97,nP z11 0),(15,nI x294),(14,nI x281),(0,nI x64),(1,nI x57),(9,nI x43),(8,nI x42),(7,nI x41),(5,nP z11 0)]) (w':=w297) (by kernel_rfl) ?_
      intro a308 hF307; clear hF306
      refine ev_call 23 #[nP z11 0,nI x41,nI x294] hF307 rfl rfl (by kernel_rfl) rfl (by kernel_rfl) (fun w=>by kernel_rfl) ?_
      obtain ⟨x309,x310,hx311,hm312⟩:=bind2E hm305; clear hm305
      refine (p_Load hS299 hx311).mono ?_
      rintro _ w313 ⟨rfl,hS315⟩ a314 hF316; clear hF307 hS299
      refine ev_runK 5 hF316 [0,1,5,7,8,9,14,15,16] (l':=[(16,nI x309),(15,nI x294),(14,nI x281),(0,nI x64),(1,nI x57),(9,nI x43),(8,nI x42),(7,nI x41),(5,nP z11 0)]) (w':=w313) (by kernel_rfl) ?_
      intro a318 hF317; clear hF316
      refine wpList_nil (thenN (wp_seq (wp_region_lit ?_)))
      refine ev_runs 1 hF317 (l':=[(18,nI 0),(16,nI x309),(15,nI x294),(14,nI x281),(0,nI x64),(1,nI x57),(9,nI x43),(8,nI x42),(7,nI x41),(5,nP z11 0)]) (w':=w313) (by kernel_rfl) ?_
      intro a320 hF319; clear hF317
      refine wpList_nil (thenN (wp_seq (wp_seq (wp_region_lit ?_))))
      refine ev_runK 3 hF319 [0,1,5,7,8,9,14,15,16,18,105] (l':=[(105,.bool (x294 == x64)),(18,nI 0),(16,nI x309),(15,nI x294),(14,nI x281),(0,nI x64),(1,nI x57),(9,nI x43),(8,nI x42),(7,nI x41),(5,nP z11 0)]) (w':=w313) (by kernel_rfl) ?_
      intro a322 hF321; clear hF319
      refine wpList_nil (thenN ?_)
      refine joinQ (fun aI wI=>∃ (x323:Int),Fr 213 aI [(18,nI x323),(16,nI x309),(15,nI x294),(14,nI x281),(0,nI x64),(1,nI x57),(9,nI x43),(8,nI x42),(7,nI x41),(5,nP z11 0)]∧St w0 F0 (HeapP z11 z12 s282::ps) wI∧ViewWords.j12 x294 (ViewWords.l11 x41 x42 x43 x57 x64 x281 s282 k295) x309 x323=some r0) ?_ ?_
      rotate_left
      · rintro a325 w326 ⟨x323,hF327,hS328,hm329⟩
        clear hF321 hS315 hm312
        unfold ViewWords.j12 at hm329
        refine thenN (wp_seq (wp_region_lit ?_))
        refine ev_runK 3 hF327 [0,1,5,7,8,9,14,15,115] (l':=[(115,.bool (x309 != x323)),(15,nI x294),(14,nI x281),(0,nI x64),(1,nI x57),(9,nI x43),(8,nI x42),(7,nI x41),(5,nP z11 0)]) (w':=w326) (by kernel_rfl) ?_
        intro a332 hF331; clear hF327
        refine wpList_nil (thenN ?_)
        cases hc333:(x309 != x323)
        case true =>
         rw [hc333] at hF331
         have hm334:=ifYes hc333 hm329; clear hm329
         refine ev_condT hF331 rfl rfl ?_
         refine wp_seq (wp_region_lit ?_)
         refine ev_runK 1 hF331 [4] (l':=[(4,.bool false)]) (w':=w326) (by kernel_rfl) ?_
         intro a336 hF335; clear hF331
         refine wpList_nil ?_
         have hS337:=hS328.drop
         clear hS328
         refine thenN ?_
         refine wp_ret ?_
         refine blockR ?_
         refine thenR (thenR ?_)
         refine blockR ?_
         refine thenR ?_
         obtain rfl:=Option.some.inj hm334
         refine ev_ret hF335 [4] (.bool false) rfl rfl rfl ?_
         exact ⟨rfl,hS337⟩
        rw [hc333] at hF331
        have hm339:=ifNot hc333 hm329; clear hm329
        refine ev_condF hF331 rfl rfl ?_
        refine wp_skip ?_
        have hF340:=hF331.keep [0,1,5,7,8,9,14,15]
        clear hF331
        refine blockN ?_
        refine thenN (wp_region_lit ?_)
        refine ev_runK 3 hF340 [0,1,5,7,8,9,14,15] (l':=[(15,nI (IntKind.i64.wrap (x294+1))),(14,nI x281),(0,nI x64),(1,nI x57),(9,nI x43),(8,nI x42),(7,nI x41),(5,nP z11 0)]) (w':=w326) (by kernel_rfl) ?_
        intro a342 hF341; clear hF340
        refine wpList_nil ?_
        exact thenN ⟨k295,Nat.lt_succ_self _,IntKind.i64.wrap (x294+1),hF341,hS328,hm339⟩
      · skip
        cases hc343:(x294 == x64)
        case true =>
         rw [hc343] at hF321
         have hm344:=ifYes hc343 hm312; clear hm312
         refine ev_condT hF321 rfl rfl ?_
         refine wp_seq (wp_region_lit ?_)
         refine ev_runK 3 hF321 [0,1,5,7,8,9,14,15,16,18] (l':=[(18,nI (IntKind.i64.wrap (2 * x57))),(16,nI x309),(15,nI x294),(14,nI x281),(0,nI x64),(1,nI x57),(9,nI x43),(8,nI x42),(7,nI x41),(5,nP z11 0)]) (w':=w313) (by kernel_rfl) ?_
         intro a346 hF345; clear hF321
         refine wpList_nil (thenN (wp_seq (wp_region_lit ?_)))
         refine ev_runK 2 hF345 [0,1,5,7,8,9,14,15,16,18,109] (l':=[(109,.bool (decide (x64 > 3))),(18,nI (IntKind.i64.wrap (2 * x57))),(16,nI x309),(15,nI x294),(14,nI x281),(0,nI x64),(1,nI x57),(9,nI x43),(8,nI x42),(7,nI x41),(5,nP z11 0)]) (w':=w313) (by kernel_rfl) ?_
         intro a348 hF347; clear hF345
         refine wpList_nil (thenN ?_)
         refine joinQ (fun aI wI=>∃ (x349:Int),Fr 213 aI [(18,nI x349),(16,nI x309),(15,nI x294),(14,nI x281),(0,nI x64),(1,nI x57),(9,nI x43),(8,nI x42),(7,nI x41),(5,nP z11 0)]∧St w0 F0 (HeapP z11 z12 s282::ps) wI∧ViewWords.j13 x294 (ViewWords.l11 x41 x42 x43 x57 x64 x281 s282 k295) x309 x349=some r0) ?_ ?_
         rotate_left
         · rintro a351 w352 ⟨x349,hF353,hS354,hm355⟩
           clear hF347 hS315 hm344
           unfold ViewWords.j13 at hm355
           exact thenN ⟨x349,hF353,hS354,hm355⟩
         · skip
           cases hc357:(decide (x64 > 3))
           case true =>
            rw [hc357] at hF347
            have hm358:=ifYes hc357 hm344; clear hm344
            refine ev_condT hF347 rfl rfl ?_
            refine wp_region_lit ?_
            refine ev_runK 4 hF347 [0,1,5,7,8,9,14,15,16,18] (l':=[(18,nI (IntKind.i64.wrap ((IntKind.i64.wrap (2 * x57))+1))),(16,nI x309),(15,nI x294),(14,nI x281),(0,nI x64),(1,nI x57),(9,nI x43),(8,nI x42),(7,nI x41),(5,nP z11 0)]) (w':=w313) (by kernel_rfl) ?_
            intro a360 hF359; clear hF347
            refine wpList_nil ?_
            exact thenN ⟨IntKind.i64.wrap ((IntKind.i64.wrap (2 * x57))+1),hF359,hS315,hm358⟩
           rw [hc357] at hF347
           have hm361:=ifNot hc357 hm344; clear hm344
           refine ev_condF hF347 rfl rfl ?_
           refine wp_skip ?_
           have hF362:=hF347.keep [0,1,5,7,8,9,14,15,16,18]
           clear hF347
           exact thenN ⟨IntKind.i64.wrap (2 * x57),hF362,hS315,hm361⟩
        rw [hc343] at hF321
        have hm363:=ifNot hc343 hm312; clear hm312
        refine ev_condF hF321 rfl rfl ?_
        refine wp_skip ?_
        have hF364:=hF321.keep [0,1,5,7,8,9,14,15,16,18]
        clear hF321
        exact thenN ⟨0,hF364,hS315,hm363⟩
     rw [hc304] at hF302
     have hm365:=ifNot hc304 hm301; clear hm301
     refine ev_condF hF302 rfl rfl ?_
     refine wp_exit ?_
     refine thenE ?_
     refine thenE ?_
     refine blockE ?_
     refine thenN (wp_seq (wp_region_lit ?_))
     refine ev_runs 6 hF302 (l':=[(121,.agg #[nI x57,nI (-1),nI x57,nI (-1),nI x57,nI (-1),nI (-1)]),(120,nI x57),(119,nI x57),(118,nI x57),(117,nI x42),(116,nP z11 0),(93,.bool false),(15,nI x294),(14,nI x281),(0,nI x64),(1,nI x57),(9,nI x43),(8,nI x42),(7,nI x41),(5,nP z11 0)]) (w':=w297) (by kernel_rfl) ?_
     intro a367 hF366; clear hF302
     refine ev_call 24 #[nP z11 0,nI x42,.agg #[nI x57,nI (-1),nI x57,nI (-1),nI x57,nI (-1),nI (-1)]] hF366 rfl rfl (by kernel_rfl) rfl (by kernel_rfl) (fun w=>by kernel_rfl) ?_
     obtain ⟨x368,s369,hx370,hm371⟩:=bind2E hm365; clear hm365
     refine (p_PutSudog hS299 hx370).mono ?_
     rintro _ w372 ⟨rfl,hS374⟩ a373 hF375; clear hF366 hS299
     refine wpList_nil ?_
     have hF376:=hF375.keep [1,5,8,9,14]
     clear hF375
     refine thenN (wp_seq (wp_region_lit ?_))
     refine ev_runs 2 hF376 (l':=[(125,nI x42),(124,nP z11 0),(14,nI x281),(1,nI x57),(9,nI x43),(8,nI x42),(5,nP z11 0)]) (w':=w372) (by kernel_rfl) ?_
     intro a378 hF377; clear hF376
     refine ev_call 23 #[nP z11 0,nI x42,nI 0] hF377 rfl rfl (by kernel_rfl) rfl (by kernel_rfl) (fun w=>by kernel_rfl) ?_
     obtain ⟨x379,x380,hx381,hm382⟩:=bind2E hm371; clear hm371
     refine (p_Load hS374 hx381).mono ?_
     rintro _ w383 ⟨rfl,hS385⟩ a384 hF386; clear hF377 hS374
     refine ev_runK 5 hF386 [1,5,8,9,14,19] (l':=[(19,nI x379),(14,nI x281),(1,nI x57),(9,nI x43),(8,nI x42),(5,nP z11 0)]) (w':=w383) (by kernel_rfl) ?_
     intro a388 hF387; clear hF386
     refine wpList_nil (thenN (wp_seq (wp_region_lit ?_)))
     refine ev_runs 2 hF387 (l':=[(131,nI x42),(130,nP z11 0),(19,nI x379),(14,nI x281),(1,nI x57),(9,nI x43),(8,nI x42),(5,nP z11 0)]) (w':=w383) (by kernel_rfl) ?_
     intro a390 hF389; clear hF387
     refine ev_call 23 #[nP z11 0,nI x42,nI 2] hF389 rfl rfl (by kernel_rfl) rfl (by kernel_rfl) (fun w=>by kernel_rfl) ?_
     obtain ⟨x391,x392,hx393,hm394⟩:=bind2E hm382; clear hm382
     refine (p_Load hS385 hx393).mono ?_
     rintro _ w395 ⟨rfl,hS397⟩ a396 hF398; clear hF389 hS385
     refine ev_runK 5 hF398 [1,5,8,9,14,19,21] (l':=[(21,nI x391),(19,nI x379),(14,nI x281),(1,nI x57),(9,nI x43),(8,nI x42),(5,nP z11 0)]) (w':=w395) (by kernel_rfl) ?_
     intro a400 hF399; clear hF398
     refine wpList_nil (thenN (wp_seq (wp_region_lit ?_)))
     refine ev_runs 2 hF399 (l':=[(137,nI x42),(136,nP z11 0),(21,nI x391),(19,nI x379),(14,nI x281),(1,nI x57),(9,nI x43),(8,nI x42),(5,nP z11 0)]) (w':=w395) (by kernel_rfl) ?_
     intro a402 hF401; clear hF399
     refine ev_call 23 #[nP z11 0,nI x42,nI 4] hF401 rfl rfl (by kernel_rfl) rfl (by kernel_rfl) (fun w=>by kernel_rfl) ?_
     obtain ⟨x403,x404,hx405,hm406⟩:=bind2E hm394; clear hm394
     refine (p_Load hS397 hx405).mono ?_
     rintro _ w407 ⟨rfl,hS409⟩ a408 hF410; clear hF401 hS397
     refine ev_runK 5 hF410 [1,5,8,9,14,19,21,23] (l':=[(23,nI x403),(21,nI x391),(19,nI x379),(14,nI x281),(1,nI x57),(9,nI x43),(8,nI x42),(5,nP z11 0)]) (w':=w407) (by kernel_rfl) ?_
     intro a412 hF411; clear hF410
     refine wpList_nil (thenN (wp_seq (wp_region_lit ?_)))
     refine ev_runs 2 hF411 (l':=[(143,nI x42),(142,nP z11 0),(23,nI x403),(21,nI x391),(19,nI x379),(14,nI x281),(1,nI x57),(9,nI x43),(8,nI x42),(5,nP z11 0)]) (w':=w407) (by kernel_rfl) ?_
     intro a414 hF413; clear hF411
     refine ev_call 23 #[nP z11 0,nI x42,nI 5] hF413 rfl rfl (by kernel_rfl) rfl (by kernel_rfl) (fun w=>by kernel_rfl) ?_
     obtain ⟨x415,x416,hx417,hm418⟩:=bind2E hm406; clear hm406
     refine (p_Load hS409 hx417).mono ?_
     rintro _ w419 ⟨rfl,hS421⟩ a420 hF422; clear hF413 hS409
     refine ev_runK 5 hF422 [1,5,9,14,19,21,23,25] (l':=[(25,nI x415),(23,nI x403),(21,nI x391),(19,nI x379),(14,nI x281),(1,nI x57),(9,nI x43),(5,nP z11 0)]) (w':=w419) (by kernel_rfl) ?_
     intro a424 hF423; clear hF422
     refine wpList_nil (thenN (wp_seq (wp_region_lit ?_)))
     refine ev_runs 3 hF423 (l':=[(27,nB w419),(148,.agg #[nI x57,nI 0,nI 0,nI 0,nI 0,nI 0,nI 0,nI 0,nI 0,nI (-1)]),(147,nI x57),(25,nI x415),(23,nI x403),(21,nI x391),(19,nI x379),(14,nI x281),(1,nI x57),(9,nI x43),(5,nP z11 0)]) (w':=w419.alloc (.cells #[nI 0,nI 0,nI 0,nI 0,nI 0,nI 0,nI 0,nI 0,nI 0,nI 0] 55)) (by kernel_rfl) ?_
     intro a426 hF425; clear hF423
     have hS428:St w0 F0 (BlkP (w419.heap.size) 55 #[nI 0,nI 0,nI 0,nI 0,nI 0,nI 0,nI 0,nI 0,nI 0,nI 0]::HeapP z11 z12 s369::ps) (w419.alloc (.cells #[nI 0,nI 0,nI 0,nI 0,nI 0,nI 0,nI 0,nI 0,nI 0,nI 0] 55)):=St.new hS421 #[nI 0,nI 0,nI 0,nI 0,nI 0,nI 0,nI 0,nI 0,nI 0,nI 0] 55
     clear hS421
     refine ev_store (.agg #[nI x57,nI 0,nI 0,nI 0,nI 0,nI 0,nI 0,nI 0,nI 0,nI (-1)]) #[nI x57,nI 0,nI 0,nI 0,nI 0,nI 0,nI 0,nI 0,nI 0,nI (-1)] hF425 (by kernel_rfl) rfl rfl rfl rfl (by kernel_rfl) hS428 (by kernel_rfl) (by kernel_rfl) (by kernel_rfl) (l':=[(27,nB w419),(148,.agg #[nI x57,nI 0,nI 0,nI 0,nI 0,nI 0,nI 0,nI 0,nI 0,nI (-1)]),(147,nI x57),(25,nI x415),(23,nI x403),(21,nI x391),(19,nI x379),(14,nI x281),(1,nI x57),(9,nI x43),(5,nP z11 0)]) (by kernel_rfl) ?_
     intro w429 a430 hS431 hF432; clear hF425 hS428
     refine wpList_nil ?_
     have hF433:=hF432.keep [1,5,9,14,19,21,23,25,27]
     clear hF432
     refine thenN (wp_seq (wp_region_lit ?_))
     refine ev_runs 2 hF433 (l':=[(150,nP (w419.heap.size) 3),(149,nI x57),(27,nB w419),(25,nI x415),(23,nI x403),(21,nI x391),(19,nI x379),(14,nI x281),(1,nI x57),(9,nI x43),(5,nP z11 0)]) (w':=w429) (by kernel_rfl) ?_
     intro a435 hF434; clear hF433
     refine ev_one (nP (w419.heap.size) 8) w429 hF434 (by kernel_rfl) rfl (by kernel_rfl) (run_idxA (q:=5) rfl rfl rfl rfl rfl (by decide) (by decide) (by kernel_rfl) _) (l':=[(151,nP (w419.heap.size) 8),(150,nP (w419.heap.size) 3),(149,nI x57),(27,nB w419),(25,nI x415),(23,nI x403),(21,nI x391),(19,nI x379),(14,nI x281),(1,nI x57),(9,nI x43),(5,nP z11 0)]) (by kernel_rfl) ?_
     intro a437 hF436; clear hF434
     refine ev_store (nI x57) #[nI x57,nI 0,nI 0,nI 0,nI 0,nI 0,nI 0,nI 0,nI x57,nI (-1)] hF436 (by kernel_rfl) rfl rfl rfl rfl (by kernel_rfl) hS431 (by kernel_rfl) (by kernel_rfl) (by kernel_rfl) (l':=[(151,nP (w419.heap.size) 8),(150,nP (w419.heap.size) 3),(149,nI x57),(27,nB w419),(25,nI x415),(23,nI x403),(21,nI x391),(19,nI x379),(14,nI x281),(1,nI x57),(9,nI x43),(5,nP z11 0)]) (by kernel_rfl) ?_
     intro w438 a439 hS440 hF441; clear hF436 hS431
     refine wpList_nil ?_
     have hF442:=hF441.keep [1,5,9,14,19,21,23,25,27]
     clear hF441
     refine thenN (wp_seq (wp_region_lit ?_))
     refine ev_runs 2 hF442 (l':=[(153,nI x43),(152,nP z11 0),(27,nB w419),(25,nI x415),(23,nI x403),(21,nI x391),(19,nI x379),(14,nI x281),(1,nI x57),(9,nI x43),(5,nP z11 0)]) (w':=w438) (by kernel_rfl) ?_
     intro a444 hF443; clear hF442
     refine ev_one (.agg #[nI x57,nI 0,nI 0,nI 0,nI 0,nI 0,nI 0,nI 0,nI x57,nI (-1)]) w438 hF443 (by kernel_rfl) rfl (by kernel_rfl) (run_loadV rfl rfl (run_loadA (cs:=[nI x57,nI 0,nI 0,nI 0,nI 0,nI 0,nI 0,nI 0,nI x57,nI (-1)]) rfl rfl (by kernel_rfl) (blk_cells hS440 0 rfl rfl))) (l':=[(154,.agg #[nI x57,nI 0,nI 0,nI 0,nI 0,nI 0,nI 0,nI 0,nI x57,nI (-1)]),(153,nI x43),(152,nP z11 0),(27,nB w419),(25,nI x415),(23,nI x403),(21,nI x391),(19,nI x379),(14,nI x281),(1,nI x57),(9,nI x43),(5,nP z11 0)]) (by kernel_rfl) ?_
     intro a446 hF445; clear hF443
     have hS447:=hS440.pick1
     clear hS440
     refine ev_call 25 #[nP z11 0,nI x43,.agg #[nI x57,nI 0,nI 0,nI 0,nI 0,nI 0,nI 0,nI 0,nI x57,nI (-1)]] hF445 rfl rfl (by kernel_rfl) rfl (by kernel_rfl) (fun w=>by kernel_rfl) ?_
     obtain ⟨x448,s449,hx450,hm451⟩:=bind2E hm418; clear hm418
     refine (p_PutGor hS447 hx450).mono ?_
     rintro _ w452 ⟨rfl,hS454⟩ a453 hF455; clear hF445 hS447
     refine wpList_nil ?_
     have hF456:=hF455.keep [1,5,9,14,19,21,23,25]
     clear hF455
     have hS457:=hS454.pick1.drop
     clear hS454
     refine thenN (wp_seq (wp_region_lit ?_))
     refine ev_runs 2 hF456 (l':=[(158,nI x43),(157,nP z11 0),(25,nI x415),(23,nI x403),(21,nI x391),(19,nI x379),(14,nI x281),(1,nI x57),(9,nI x43),(5,nP z11 0)]) (w':=w452) (by kernel_rfl) ?_
     intro a459 hF458; clear hF456
     refine ev_call 23 #[nP z11 0,nI x43,nI 0] hF458 rfl rfl (by kernel_rfl) rfl (by kernel_rfl) (fun w=>by kernel_rfl) ?_
     obtain ⟨x460,x461,hx462,hm463⟩:=bind2E hm451; clear hm451
     refine (p_Load hS457 hx462).mono ?_
     rintro _ w464 ⟨rfl,hS466⟩ a465 hF467; clear hF458 hS457
     refine ev_runK 5 hF467 [1,5,9,14,19,21,23,25,28] (l':=[(28,nI x460),(25,nI x415),(23,nI x403),(21,nI x391),(19,nI x379),(14,nI x281),(1,nI x57),(9,nI x43),(5,nP z11 0)]) (w':=w464) (by kernel_rfl) ?_
     intro a469 hF468; clear hF467
     refine wpList_nil (thenN (wp_seq (wp_region_lit ?_)))
     refine ev_runs 2 hF468 (l':=[(164,nI x43),(163,nP z11 0),(28,nI x460),(25,nI x415),(23,nI x403),(21,nI x391),(19,nI x379),(14,nI x281),(1,nI x57),(9,nI x43),(5,nP z11 0)]) (w':=w464) (by kernel_rfl) ?_
     intro a471 hF470; clear hF468
     refine ev_call 23 #[nP z11 0,nI x43,nI 8] hF470 rfl rfl (by kernel_rfl) rfl (by kernel_rfl) (fun w=>by kernel_rfl) ?_
     obtain ⟨x472,x473,hx474,hm475⟩:=bind2E hm463; clear hm463
     refine (p_Load hS466 hx474).mono ?_
     rintro _ w476 ⟨rfl,hS478⟩ a477 hF479; clear hF470 hS466
     refine ev_runK 5 hF479 [1,5,9,14,19,21,23,25,28,30] (l':=[(30,nI x472),(28,nI x460),(25,nI x415),(23,nI x403),(21,nI x391),(19,nI x379),(14,nI x281),(1,nI x57),(9,nI x43),(5,nP z11 0)]) (w':=w476) (by kernel_rfl) ?_
     intro a481 hF480; clear hF479
     refine wpList_nil (thenN (wp_seq (wp_region_lit ?_)))
     refine ev_runs 2 hF480 (l':=[(170,nI x43),(169,nP z11 0),(30,nI x472),(28,nI x460),(25,nI x415),(23,nI x403),(21,nI x391),(19,nI x379),(14,nI x281),(1,nI x57),(9,nI x43),(5,nP z11 0)]) (w':=w476) (by kernel_rfl) ?_
     intro a483 hF482; clear hF480
     refine ev_call 23 #[nP z11 0,nI x43,nI 9] hF482 rfl rfl (by kernel_rfl) rfl (by kernel_rfl) (fun w=>by kernel_rfl) ?_
     obtain ⟨x484,x485,hx486,hm487⟩:=bind2E hm475; clear hm475
     refine (p_Load hS478 hx486).mono ?_
     rintro _ w488 ⟨rfl,hS490⟩ a489 hF491; clear hF482 hS478
     refine ev_runK 5 hF491 [1,14,19,21,23,25,28,30,32] (l':=[(32,nI x484),(30,nI x472),(28,nI x460),(25,nI x415),(23,nI x403),(21,nI x391),(19,nI x379),(14,nI x281),(1,nI x57)]) (w':=w488) (by kernel_rfl) ?_
     intro a493 hF492; clear hF491
     refine wpList_nil ?_
     have hS494:=hS490.drop
     clear hS490
     refine thenN (wp_seq ?_)
     refine joinQ (fun aI wI=>∃ (y495:Bool),Fr 213 aI [(4,.bool (y495))]∧St w0 F0 (ps) wI∧ViewWords.j14 y495=some r0) ?_ ?_
     rotate_left
     · rintro a497 w498 ⟨y495,hF499,hS500,hm501⟩
       clear hF492 hS494 hm487
       unfold ViewWords.j14 at hm501
       refine thenN ?_
       refine wp_ret ?_
       obtain rfl:=Option.some.inj hm501
       refine ev_ret hF499 [4] (.bool (y495)) rfl rfl rfl ?_
       exact ⟨rfl,hS500⟩
     · skip
       refine wp_region_lit ?_
       refine ev_runs 3 hF492 (l':=[(176,.bool (x281 == 0)),(175,.bool (x281 == 0)),(174,nI x281),(32,nI x484),(30,nI x472),(28,nI x460),(25,nI x415),(23,nI x403),(21,nI x391),(19,nI x379),(14,nI x281),(1,nI x57)]) (w':=w488) (by kernel_rfl) ?_
       intro a505 hF504; clear hF492
       cases hc506:(x281 == 0)
       case true =>
        rw [hc506] at hF504
        have hm507:=ifYes hc506 hm487; clear hm487
        refine ev_runs 7 hF504 (l':=[(183,.bool (x379 == (IntKind.i64.wrap ((IntKind.i64.wrap (2 * x57))+1)))),(182,.bool (x379 == (IntKind.i64.wrap ((IntKind.i64.wrap (2 * x57))+1)))),(181,.bool (x379 == (IntKind.i64.wrap ((IntKind.i64.wrap (2 * x57))+1)))),(180,nI (IntKind.i64.wrap ((IntKind.i64.wrap (2 * x57))+1))),(179,nI (IntKind.i64.wrap (2 * x57))),(178,nI x57),(177,nI x379),(176,.bool true),(175,.bool true),(174,nI x281),(32,nI x484),(30,nI x472),(28,nI x460),(25,nI x415),(23,nI x403),(21,nI x391),(19,nI x379),(14,nI x281),(1,nI x57)]) (w':=w488) (by kernel_rfl) ?_
        intro a509 hF508; clear hF504
        cases hc510:(x379 == (IntKind.i64.wrap ((IntKind.i64.wrap (2 * x57))+1)))
        case true =>
         rw [hc510] at hF508
         have hm511:=ifYes hc510 hm507; clear hm507
         refine ev_runs 5 hF508 (l':=[(188,.bool (x391 == x57)),(187,.bool (x391 == x57)),(186,.bool (x391 == x57)),(185,nI x57),(184,nI x391),(183,.bool true),(182,.bool true),(181,.bool true),(180,nI (IntKind.i64.wrap ((IntKind.i64.wrap (2 * x57))+1))),(179,nI (IntKind.i64.wrap (2 * x57))),(178,nI x57),(177,nI x379),(176,.bool true),(175,.bool true),(174,nI x281),(32,nI x484),(30,nI x472),(28,nI x460),(25,nI x415),(23,nI x403),(21,nI x391),(19,nI x379),(14,nI x281),(1,nI x57)]) (w':=w488) (by kernel_rfl) ?_
         intro a513 hF512; clear hF508
         cases hc514:(x391 == x57)
         case true =>
          rw [hc514] at hF512
          have hm515:=ifYes hc514 hm511; clear hm511
          refine ev_runs 6 hF512 (l':=[(194,.bool (x403 == (IntKind.i64.wrap (2 * x57)))),(193,.bool (x403 == (IntKind.i64.wrap (2 * x57)))),(192,.bool (x403 == (IntKind.i64.wrap (2 * x57)))),(191,nI (IntKind.i64.wrap (2 * x57))),(190,nI x57),(189,nI x403),(188,.bool true),(187,.bool true),(186,.bool true),(185,nI x57),(184,nI x391),(183,.bool true),(182,.bool true),(181,.bool true),(180,nI (IntKind.i64.wrap ((IntKind.i64.wrap (2 * x57))+1))),(179,nI (IntKind.i64.wrap (2 * x57))),(178,nI x57),(177,nI x379),(176,.bool true),(175,.bool true),(174,nI x281),(32,nI x484),(30,nI x472),(28,nI x460),(25,nI x415),(23,nI x403),(21,nI x391),(19,nI x379),(14,nI x281),(1,nI x57)]) (w':=w488) (by kernel_rfl) ?_
          intro a517 hF516; clear hF512
          cases hc518:(x403 == (IntKind.i64.wrap (2 * x57)))
          case true =>
           rw [hc518] at hF516
           have hm519:=ifYes hc518 hm515; clear hm515
           refine ev_runs 4 hF516 (l':=[(198,.bool (x415 == (-2))),(197,.bool (x415 == (-2))),(196,.bool (x415 == (-2))),(195,nI x415),(194,.bool true),(193,.bool true),(192,.bool true),(191,nI (IntKind.i64.wrap (2 * x57))),(190,nI x57),(189,nI x403),(188,.bool true),(187,.bool true),(186,.bool true),(185,nI x57),(184,nI x391),(183,.bool true),(182,.bool true),(181,.bool true),(180,nI (IntKind.i64.wrap ((IntKind.i64.wrap (2 * x57))+1))),(179,nI (IntKind.i64.wrap (2 * x57))),(178,nI x57),(177,nI x379),(176,.bool true),(175,.bool true),(174,nI x281),(32,nI x484),(30,nI x472),(28,nI x460),(25,nI x415),(23,nI x403),(21,nI x391),(19,nI x379),(14,nI x281),(1,nI x57)]) (w':=w488) (by kernel_rfl) ?_
           intro a521 hF520; clear hF516
           cases hc522:(x415 == (-2))
           case true =>
            rw [hc522] at hF520
            have hm523:=ifYes hc522 hm519; clear hm519
            refine ev_runs 6 hF520 (l':=[(204,.bool (x460 == (IntKind.i64.wrap (2 * x57)))),(203,.bool (x460 == (IntKind.i64.wrap (2 * x57)))),(202,.bool (x460 == (IntKind.i64.wrap (2 * x57)))),(201,nI (IntKind.i64.wrap (2 * x57))),(200,nI x57),(199,nI x460),(198,.bool true),(197,.bool true),(196,.bool true),(195,nI x415),(194,.bool true),(193,.bool true),(192,.bool true),(191,nI (IntKind.i64.wrap (2 * x57))),(190,nI x57),(189,nI x403),(188,.bool true),(187,.bool true),(186,.bool true),(185,nI x57),(184,nI x391),(183,.bool true),(182,.bool true),(181,.bool true),(180,nI (IntKind.i64.wrap ((IntKind.i64.wrap (2 * x57))+1))),(179,nI (IntKind.i64.wrap (2 * x57))),(178,nI x57),(177,nI x379),(176,.bool true),(175,.bool true),(174,nI x281),(32,nI x484),(30,nI x472),(28,nI x460),(25,nI x415),(23,nI x403),(21,nI x391),(19,nI x379),(14,nI x281),(1,nI x57)]) (w':=w488) (by kernel_rfl) ?_
            intro a525 hF524; clear hF520
            cases hc526:(x460 == (IntKind.i64.wrap (2 * x57)))
            case true =>
             rw [hc526] at hF524
             have hm527:=ifYes hc526 hm523; clear hm523
             refine ev_runs 5 hF524 (l':=[(209,.bool (x472 == x57)),(208,.bool (x472 == x57)),(207,.bool (x472 == x57)),(206,nI x57),(205,nI x472),(204,.bool true),(203,.bool true),(202,.bool true),(201,nI (IntKind.i64.wrap (2 * x57))),(200,nI x57),(199,nI x460),(198,.bool true),(197,.bool true),(196,.bool true),(195,nI x415),(194,.bool true),(193,.bool true),(192,.bool true),(191,nI (IntKind.i64.wrap (2 * x57))),(190,nI x57),(189,nI x403),(188,.bool true),(187,.bool true),(186,.bool true),(185,nI x57),(184,nI x391),(183,.bool true),(182,.bool true),(181,.bool true),(180,nI (IntKind.i64.wrap ((IntKind.i64.wrap (2 * x57))+1))),(179,nI (IntKind.i64.wrap (2 * x57))),(178,nI x57),(177,nI x379),(176,.bool true),(175,.bool true),(174,nI x281),(32,nI x484),(30,nI x472),(28,nI x460),(25,nI x415),(23,nI x403),(21,nI x391),(19,nI x379),(14,nI x281),(1,nI x57)]) (w':=w488) (by kernel_rfl) ?_
             intro a529 hF528; clear hF524
             cases hc530:(x472 == x57)
             case true =>
              rw [hc530] at hF528
              have hm531:=ifYes hc530 hm527; clear hm527
              refine ev_runK 4 hF528 [4] (l':=[(4,.bool (x484 == 0))]) (w':=w488) (by kernel_rfl) ?_
              intro a533 hF532; clear hF528
              refine wpList_nil ?_
              exact thenN ⟨x484 == 0,hF532,hS494,hm531⟩
             rw [hc530] at hF528
             have hm534:=ifNot hc530 hm527; clear hm527
             refine ev_runK 4 hF528 [4] (l':=[(4,.bool false)]) (w':=w488) (by kernel_rfl) ?_
             intro a536 hF535; clear hF528
             refine wpList_nil ?_
             exact thenN ⟨false,hF535,hS494,hm534⟩
            rw [hc526] at hF524
            have hm537:=ifNot hc526 hm523; clear hm523
            refine ev_runK 9 hF524 [4] (l':=[(4,.bool false)]) (w':=w488) (by kernel_rfl) ?_
            intro a539 hF538; clear hF524
            refine wpList_nil ?_
            exact thenN ⟨false,hF538,hS494,hm537⟩
           rw [hc522] at hF520
           have hm540:=ifNot hc522 hm519; clear hm519
           refine ev_runK 15 hF520 [4] (l':=[(4,.bool false)]) (w':=w488) (by kernel_rfl) ?_
           intro a542 hF541; clear hF520
           refine wpList_nil ?_
           exact thenN ⟨false,hF541,hS494,hm540⟩
          rw [hc518] at hF516
          have hm543:=ifNot hc518 hm515; clear hm515
          refine ev_runK 19 hF516 [4] (l':=[(4,.bool false)]) (w':=w488) (by kernel_rfl) ?_
          intro a545 hF544; clear hF516
          refine wpList_nil ?_
          exact thenN ⟨false,hF544,hS494,hm543⟩
         rw [hc514] at hF512
         have hm546:=ifNot hc514 hm511; clear hm511
         refine ev_runK 25 hF512 [4] (l':=[(4,.bool false)]) (w':=w488) (by kernel_rfl) ?_
         intro a548 hF547; clear hF512
         refine wpList_nil ?_
         exact thenN ⟨false,hF547,hS494,hm546⟩
        rw [hc510] at hF508
        have hm549:=ifNot hc510 hm507; clear hm507
        refine ev_runK 30 hF508 [4] (l':=[(4,.bool false)]) (w':=w488) (by kernel_rfl) ?_
        intro a551 hF550; clear hF508
        refine wpList_nil ?_
        exact thenN ⟨false,hF550,hS494,hm549⟩
       rw [hc506] at hF504
       have hm552:=ifNot hc506 hm487; clear hm487
       refine ev_runK 37 hF504 [4] (l':=[(4,.bool false)]) (w':=w488) (by kernel_rfl) ?_
       intro a554 hF553; clear hF504
       refine wpList_nil ?_
       exact thenN ⟨false,hF553,hS494,hm552⟩
   · skip
     refine wp_region_lit ?_
     refine ev_runs 2 hF98 (l':=[(83,nI x64),(82,.slice (some ⟨(w48.alloc (.cells #[nI 0,nI 0,nI 0,nI 0,nI 0,nI 0,nI 0,nI 0,nI 0] 46)).heap.size,0,none⟩) 9 9),(74,.bool false),(13,nI x90),(12,.slice (some ⟨(w48.alloc (.cells #[nI 0,nI 0,nI 0,nI 0,nI 0,nI 0,nI 0,nI 0,nI 0] 46)).heap.size,0,none⟩) 9 9),(11,nB w48),(0,nI x64),(1,nI x57),(9,nI x43),(8,nI x42),(7,nI x41),(5,nP z11 0)]) (w':=w93) (by kernel_rfl) ?_
     intro a556 hF555; clear hF98
     cases hc557:(x64 == 0)
     case true =>
      have hm558:=ifYes hc557 hm259; clear hm259
      refine ev_one (nP ((w48.alloc (.cells #[nI 0,nI 0,nI 0,nI 0,nI 0,nI 0,nI 0,nI 0,nI 0] 46)).heap.size) 0) w93 hF555 (by kernel_rfl) rfl (by kernel_rfl) (run_idx (z:=0) rfl rfl rfl rfl (congrArg (Value.int .i64) (eq_of_beq hc557)) (by decide) (by decide) _) (l':=[(84,nP ((w48.alloc (.cells #[nI 0,nI 0,nI 0,nI 0,nI 0,nI 0,nI 0,nI 0,nI 0] 46)).heap.size) 0),(83,nI x64),(82,.slice (some ⟨(w48.alloc (.cells #[nI 0,nI 0,nI 0,nI 0,nI 0,nI 0,nI 0,nI 0,nI 0] 46)).heap.size,0,none⟩) 9 9),(74,.bool false),(13,nI x90),(12,.slice (some ⟨(w48.alloc (.cells #[nI 0,nI 0,nI 0,nI 0,nI 0,nI 0,nI 0,nI 0,nI 0] 46)).heap.size,0,none⟩) 9 9),(11,nB w48),(0,nI x64),(1,nI x57),(9,nI x43),(8,nI x42),(7,nI x41),(5,nP z11 0)]) (by kernel_rfl) ?_
      intro a560 hF559; clear hF555
      refine ev_one (nB w48) w93 hF559 (by kernel_rfl) rfl (by kernel_rfl) (run_loadV rfl rfl (run_loadS rfl rfl (hS95.cell 0 rfl 0 rfl))) (l':=[(85,nB w48),(84,nP ((w48.alloc (.cells #[nI 0,nI 0,nI 0,nI 0,nI 0,nI 0,nI 0,nI 0,nI 0] 46)).heap.size) 0),(83,nI x64),(82,.slice (some ⟨(w48.alloc (.cells #[nI 0,nI 0,nI 0,nI 0,nI 0,nI 0,nI 0,nI 0,nI 0] 46)).heap.size,0,none⟩) 9 9),(74,.bool false),(13,nI x90),(12,.slice (some ⟨(w48.alloc (.cells #[nI 0,nI 0,nI 0,nI 0,nI 0,nI 0,nI 0,nI 0,nI 0] 46)).heap.size,0,none⟩) 9 9),(11,nB w48),(0,nI x64),(1,nI x57),(9,nI x43),(8,nI x42),(7,nI x41),(5,nP z11 0)]) (by kernel_rfl) ?_
      intro a562 hF561; clear hF559
      refine ev_runs 2 hF561 (l':=[(87,nB w48),(86,nI x57),(85,nB w48),(84,nP ((w48.alloc (.cells #[nI 0,nI 0,nI 0,nI 0,nI 0,nI 0,nI 0,nI 0,nI 0] 46)).heap.size) 0),(83,nI x64),(82,.slice (some ⟨(w48.alloc (.cells #[nI 0,nI 0,nI 0,nI 0,nI 0,nI 0,nI 0,nI 0,nI 0] 46)).heap.size,0,none⟩) 9 9),(74,.bool false),(13,nI x90),(12,.slice (some ⟨(w48.alloc (.cells #[nI 0,nI 0,nI 0,nI 0,nI 0,nI 0,nI 0,nI 0,nI 0] 46)).heap.size,0,none⟩) 9 9),(11,nB w48),(0,nI x64),(1,nI x57),(9,nI x43),(8,nI x42),(7,nI x41),(5,nP z11 0)]) (w':=w93) (by kernel_rfl) ?_
      intro a564 hF563; clear hF561
      have hS565:=hS95.pick1
      clear hS95
      refine ev_store (nI x57) #[nI x57,nI x82,nI x83,nI x84,nI x85,nI x86,nI x87,nI x88,nI x89] hF563 (by kernel_rfl) rfl rfl rfl rfl (by kernel_rfl) hS565 (by kernel_rfl) (by kernel_rfl) (by kernel_rfl) (l':=[(87,nB w48),(86,nI x57),(85,nB w48),(84,nP ((w48.alloc (.cells #[nI 0,nI 0,nI 0,nI 0,nI 0,nI 0,nI 0,nI 0,nI 0] 46)).heap.size) 0),(83,nI x64),(82,.slice (some ⟨(w48.alloc (.cells #[nI 0,nI 0,nI 0,nI 0,nI 0,nI 0,nI 0,nI 0,nI 0] 46)).heap.size,0,none⟩) 9 9),(74,.bool false),(13,nI x90),(12,.slice (some ⟨(w48.alloc (.cells #[nI 0,nI 0,nI 0,nI 0,nI 0,nI 0,nI 0,nI 0,nI 0] 46)).heap.size,0,none⟩) 9 9),(11,nB w48),(0,nI x64),(1,nI x57),(9,nI x43),(8,nI x42),(7,nI x41),(5,nP z11 0)]) (by kernel_rfl) ?_
      intro w566 a567 hS568 hF569; clear hF563 hS565
      refine wpList_nil ?_
      have hF570:=hF569.keep [0,1,5,7,8,9,11]
      clear hF569
      have hS571:=hS568.pick1.drop
      clear hS568
      exact thenN ⟨x57,x82,x83,x84,x85,x86,x87,x88,x89,hF570,hS571,hm558⟩
     have hm572:=ifNot hc557 hm259; clear hm259
     cases hc573:(x64 == 1)
     case true =>
      have hm574:=ifYes hc573 hm572; clear hm572
      refine ev_one (nP ((w48.alloc (.cells #[nI 0,nI 0,nI 0,nI 0,nI 0,nI 0,nI 0,nI 0,nI 0] 46)).heap.size) 1) w93 hF555 (by kernel_rfl) rfl (by kernel_rfl) (run_idx (z:=1) rfl rfl rfl rfl (congrArg (Value.int .i64) (eq_of_beq hc573)) (by decide) (by decide) _) (l':=[(84,nP ((w48.alloc (.cells #[nI 0,nI 0,nI 0,nI 0,nI 0,nI 0,nI 0,nI 0,nI 0] 46)).heap.size) 1),(83,nI x64),(82,.slice (some ⟨(w48.alloc (.cells #[nI 0,nI 0,nI 0,nI 0,nI 0,nI 0,nI 0,nI 0,nI 0] 46)).heap.size,0,none⟩) 9 9),(74,.bool false),(13,nI x90),(12,.slice (some ⟨(w48.alloc (.cells #[nI 0,nI 0,nI 0,nI 0,nI 0,nI 0,nI 0,nI 0,nI 0] 46)).heap.size,0,none⟩) 9 9),(11,nB w48),(0,nI x64),(1,nI x57),(9,nI x43),(8,nI x42),(7,nI x41),(5,nP z11 0)]) (by kernel_rfl) ?_
      intro a576 hF575; clear hF555
      refine ev_one (nP (w48.heap.size) 1) w93 hF575 (by kernel_rfl) rfl (by kernel_rfl) (run_loadV rfl rfl (run_loadS rfl rfl (hS95.cell 0 rfl 1 rfl))) (l':=[(85,nP (w48.heap.size) 1),(84,nP ((w48.alloc (.cells #[nI 0,nI 0,nI 0,nI 0,nI 0,nI 0,nI 0,nI 0,nI 0] 46)).heap.size) 1),(83,nI x64),(82,.slice (some ⟨(w48.alloc (.cells #[nI 0,nI 0,nI 0,nI 0,nI 0,nI 0,nI 0,nI 0,nI 0] 46)).heap.size,0,none⟩) 9 9),(74,.bool false),(13,nI x90),(12,.slice (some ⟨(w48.alloc (.cells #[nI 0,nI 0,nI 0,nI 0,nI 0,nI 0,nI 0,nI 0,nI 0] 46)).heap.size,0,none⟩) 9 9),(11,nB w48),(0,nI x64),(1,nI x57),(9,nI x43),(8,nI x42),(7,nI x41),(5,nP z11 0)]) (by kernel_rfl) ?_
      intro a578 hF577; clear hF575
      refine ev_runs 2 hF577 (l':=[(87,nP (w48.heap.size) 1),(86,nI x57),(85,nP (w48.heap.size) 1),(84,nP ((w48.alloc (.cells #[nI 0,nI 0,nI 0,nI 0,nI 0,nI 0,nI 0,nI 0,nI 0] 46)).heap.size) 1),(83,nI x64),(82,.slice (some ⟨(w48.alloc (.cells #[nI 0,nI 0,nI 0,nI 0,nI 0,nI 0,nI 0,nI 0,nI 0] 46)).heap.size,0,none⟩) 9 9),(74,.bool false),(13,nI x90),(12,.slice (some ⟨(w48.alloc (.cells #[nI 0,nI 0,nI 0,nI 0,nI 0,nI 0,nI 0,nI 0,nI 0] 46)).heap.size,0,none⟩) 9 9),(11,nB w48),(0,nI x64),(1,nI x57),(9,nI x43),(8,nI x42),(7,nI x41),(5,nP z11 0)]) (w':=w93) (by kernel_rfl) ?_
      intro a580 hF579; clear hF577
      have hS581:=hS95.pick1
      clear hS95
      refine ev_store (nI x57) #[nI x81,nI x57,nI x83,nI x84,nI x85,nI x86,nI x87,nI x88,nI x89] hF579 (by kernel_rfl) rfl rfl rfl rfl (by kernel_rfl) hS581 (by kernel_rfl) (by kernel_rfl) (by kernel_rfl) (l':=[(87,nP (w48.heap.size) 1),(86,nI x57),(85,nP (w48.heap.size) 1),(84,nP ((w48.alloc (.cells #[nI 0,nI 0,nI 0,nI 0,nI 0,nI 0,nI 0,nI 0,nI 0] 46)).heap.size) 1),(83,nI x64),(82,.slice (some ⟨(w48.alloc (.cells #[nI 0,nI 0,nI 0,nI 0,nI 0,nI 0,nI 0,nI 0,nI 0] 46)).heap.size,0,none⟩) 9 9),(74,.bool false),(13,nI x90),(12,.slice (some ⟨(w48.alloc (.cells #[nI 0,nI 0,nI 0,nI 0,nI 0,nI 0,nI 0,nI 0,nI 0] 46)).heap.size,0,none⟩) 9 9),(11,nB w48),(0,nI x64),(1,nI x57),(9,nI x43),(8,nI x42),(7,nI x41),(5,nP z11 0)]) (by kernel_rfl) ?_
      intro w582 a583 hS584 hF585; clear hF579 hS581
      refine wpList_nil ?_
      have hF586:=hF585.keep [0,1,5,7,8,9,11]
      clear hF585
      have hS587:=hS584.pick1.drop
      clear hS584
      exact thenN ⟨x81,x57,x83,x84,x85,x86,x87,x88,x89,hF586,hS587,hm574⟩
     have hm588:=ifNot hc573 hm572; clear hm572
     cases hc589:(x64 == 2)
     case true =>
      have hm590:=ifYes hc589 hm588; clear hm588
      refine ev_one (nP ((w48.alloc (.cells #[nI 0,nI 0,nI 0,nI 0,nI 0,nI 0,nI 0,nI 0,nI 0] 46)).heap.size) 2) w93 hF555 (by kernel_rfl) rfl (by kernel_rfl) (run_idx (z:=2) rfl rfl rfl rfl (congrArg (Value.int .i64) (eq_of_beq hc589)) (by decide) (by decide) _) (l':=[(84,nP ((w48.alloc (.cells #[nI 0,nI 0,nI 0,nI 0,nI 0,nI 0,nI 0,nI 0,nI 0] 46)).heap.size) 2),(83,nI x64),(82,.slice (some ⟨(w48.alloc (.cells #[nI 0,nI 0,nI 0,nI 0,nI 0,nI 0,nI 0,nI 0,nI 0] 46)).heap.size,0,none⟩) 9 9),(74,.bool false),(13,nI x90),(12,.slice (some ⟨(w48.alloc (.cells #[nI 0,nI 0,nI 0,nI 0,nI 0,nI 0,nI 0,nI 0,nI 0] 46)).heap.size,0,none⟩) 9 9),(11,nB w48),(0,nI x64),(1,nI x57),(9,nI x43),(8,nI x42),(7,nI x41),(5,nP z11 0)]) (by kernel_rfl) ?_
      intro a592 hF591; clear hF555
      refine ev_one (nP (w48.heap.size) 2) w93 hF591 (by kernel_rfl) rfl (by kernel_rfl) (run_loadV rfl rfl (run_loadS rfl rfl (hS95.cell 0 rfl 2 rfl))) (l':=[(85,nP (w48.heap.size) 2),(84,nP ((w48.alloc (.cells #[nI 0,nI 0,nI 0,nI 0,nI 0,nI 0,nI 0,nI 0,nI 0] 46)).heap.size) 2),(83,nI x64),(82,.slice (some ⟨(w48.alloc (.cells #[nI 0,nI 0,nI 0,nI 0,nI 0,nI 0,nI 0,nI 0,nI 0] 46)).heap.size,0,none⟩) 9 9),(74,.bool false),(13,nI x90),(12,.slice (some ⟨(w48.alloc (.cells #[nI 0,nI 0,nI 0,nI 0,nI 0,nI 0,nI 0,nI 0,nI 0] 46)).heap.size,0,none⟩) 9 9),(11,nB w48),(0,nI x64),(1,nI x57),(9,nI x43),(8,nI x42),(7,nI x41),(5,nP z11 0)]) (by kernel_rfl) ?_
      intro a594 hF593; clear hF591
      refine ev_runs 2 hF593 (l':=[(87,nP (w48.heap.size) 2),(86,nI x57),(85,nP (w48.heap.size) 2),(84,nP ((w48.alloc (.cells #[nI 0,nI 0,nI 0,nI 0,nI 0,nI 0,nI 0,nI 0,nI 0] 46)).heap.size) 2),(83,nI x64),(82,.slice (some ⟨(w48.alloc (.cells #[nI 0,nI 0,nI 0,nI 0,nI 0,nI 0,nI 0,nI 0,nI 0] 46)).heap.size,0,none⟩) 9 9),(74,.bool false),(13,nI x90),(12,.slice (some ⟨(w48.alloc (.cells #[nI 0,nI 0,nI 0,nI 0,nI 0,nI 0,nI 0,nI 0,nI 0] 46)).heap.size,0,none⟩) 9 9),(11,nB w48),(0,nI x64),(1,nI x57),(9,nI x43),(8,nI x42),(7,nI x41),(5,nP z11 0)]) (w':=w93) (by kernel_rfl) ?_
      intro a596 hF595; clear hF593
      have hS597:=hS95.pick1
      clear hS95
      refine ev_store (nI x57) #[nI x81,nI x82,nI x57,nI x84,nI x85,nI x86,nI x87,nI x88,nI x89] hF595 (by kernel_rfl) rfl rfl rfl rfl (by kernel_rfl) hS597 (by kernel_rfl) (by kernel_rfl) (by kernel_rfl) (l':=[(87,nP (w48.heap.size) 2),(86,nI x57),(85,nP (w48.heap.size) 2),(84,nP ((w48.alloc (.cells #[nI 0,nI 0,nI 0,nI 0,nI 0,nI 0,nI 0,nI 0,nI 0] 46)).heap.size) 2),(83,nI x64),(82,.slice (some ⟨(w48.alloc (.cells #[nI 0,nI 0,nI 0,nI 0,nI 0,nI 0,nI 0,nI 0,nI 0] 46)).heap.size,0,none⟩) 9 9),(74,.bool false),(13,nI x90),(12,.slice (some ⟨(w48.alloc (.cells #[nI 0,nI 0,nI 0,nI 0,nI 0,nI 0,nI 0,nI 0,nI 0] 46)).heap.size,0,none⟩) 9 9),(11,nB w48),(0,nI x64),(1,nI x57),(9,nI x43),(8,nI x42),(7,nI x41),(5,nP z11 0)]) (by kernel_rfl) ?_
      intro w598 a599 hS600 hF601; clear hF595 hS597
      refine wpList_nil ?_
      have hF602:=hF601.keep [0,1,5,7,8,9,11]
      clear hF601
      have hS603:=hS600.pick1.drop
      clear hS600
      exact thenN ⟨x81,x82,x57,x84,x85,x86,x87,x88,x89,hF602,hS603,hm590⟩
     have hm604:=ifNot hc589 hm588; clear hm588
     cases hc605:(x64 == 3)
     case true =>
      have hm606:=ifYes hc605 hm604; clear hm604
      refine ev_one (nP ((w48.alloc (.cells #[nI 0,nI 0,nI 0,nI 0,nI 0,nI 0,nI 0,nI 0,nI 0] 46)).heap.size) 3) w93 hF555 (by kernel_rfl) rfl (by kernel_rfl) (run_idx (z:=3) rfl rfl rfl rfl (congrArg (Value.int .i64) (eq_of_beq hc605)) (by decide) (by decide) _) (l':=[(84,nP ((w48.alloc (.cells #[nI 0,nI 0,nI 0,nI 0,nI 0,nI 0,nI 0,nI 0,nI 0] 46)).heap.size) 3),(83,nI x64),(82,.slice (some ⟨(w48.alloc (.cells #[nI 0,nI 0,nI 0,nI 0,nI 0,nI 0,nI 0,nI 0,nI 0] 46)).heap.size,0,none⟩) 9 9),(74,.bool false),(13,nI x90),(12,.slice (some ⟨(w48.alloc (.cells #[nI 0,nI 0,nI 0,nI 0,nI 0,nI 0,nI 0,nI 0,nI 0] 46)).heap.size,0,none⟩) 9 9),(11,nB w48),(0,nI x64),(1,nI x57),(9,nI x43),(8,nI x42),(7,nI x41),(5,nP z11 0)]) (by kernel_rfl) ?_
      intro a608 hF607; clear hF555
      refine ev_one (nP (w48.heap.size) 3) w93 hF607 (by kernel_rfl) rfl (by kernel_rfl) (run_loadV rfl rfl (run_loadS rfl rfl (hS95.cell 0 rfl 3 rfl))) (l':=[(85,nP (w48.heap.size) 3),(84,nP ((w48.alloc (.cells #[nI 0,nI 0,nI 0,nI 0,nI 0,nI 0,nI 0,nI 0,nI 0] 46)).heap.size) 3),(83,nI x64),(82,.slice (some ⟨(w48.alloc (.cells #[nI 0,nI 0,nI 0,nI 0,nI 0,nI 0,nI 0,nI 0,nI 0] 46)).heap.size,0,none⟩) 9 9),(74,.bool false),(13,nI x90),(12,.slice (some ⟨(w48.alloc (.cells #[nI 0,nI 0,nI 0,nI 0,nI 0,nI 0,nI 0,nI 0,nI 0] 46)).heap.size,0,none⟩) 9 9),(11,nB w48),(0,nI x64),(1,nI x57),(9,nI x43),(8,nI x42),(7,nI x41),(5,nP z11 0)]) (by kernel_rfl) ?_
      intro a610 hF609; clear hF607
      refine ev_runs 2 hF609 (l':=[(87,nP (w48.heap.size) 3),(86,nI x57),(85,nP (w48.heap.size) 3),(84,nP ((w48.alloc (.cells #[nI 0,nI 0,nI 0,nI 0,nI 0,nI 0,nI 0,nI 0,nI 0] 46)).heap.size) 3),(83,nI x64),(82,.slice (some ⟨(w48.alloc (.cells #[nI 0,nI 0,nI 0,nI 0,nI 0,nI 0,nI 0,nI 0,nI 0] 46)).heap.size,0,none⟩) 9 9),(74,.bool false),(13,nI x90),(12,.slice (some ⟨(w48.alloc (.cells #[nI 0,nI 0,nI 0,nI 0,nI 0,nI 0,nI 0,nI 0,nI 0] 46)).heap.size,0,none⟩) 9 9),(11,nB w48),(0,nI x64),(1,nI x57),(9,nI x43),(8,nI x42),(7,nI x41),(5,nP z11 0)]) (w':=w93) (by kernel_rfl) ?_
      intro a612 hF611; clear hF609
      have hS613:=hS95.pick1
      clear hS95
      refine ev_store (nI x57) #[nI x81,nI x82,nI x83,nI x57,nI x85,nI x86,nI x87,nI x88,nI x89] hF611 (by kernel_rfl) rfl rfl rfl rfl (by kernel_rfl) hS613 (by kernel_rfl) (by kernel_rfl) (by kernel_rfl) (l':=[(87,nP (w48.heap.size) 3),(86,nI x57),(85,nP (w48.heap.size) 3),(84,nP ((w48.alloc (.cells #[nI 0,nI 0,nI 0,nI 0,nI 0,nI 0,nI 0,nI 0,nI 0] 46)).heap.size) 3),(83,nI x64),(82,.slice (some ⟨(w48.alloc (.cells #[nI 0,nI 0,nI 0,nI 0,nI 0,nI 0,nI 0,nI 0,nI 0] 46)).heap.size,0,none⟩) 9 9),(74,.bool false),(13,nI x90),(12,.slice (some ⟨(w48.alloc (.cells #[nI 0,nI 0,nI 0,nI 0,nI 0,nI 0,nI 0,nI 0,nI 0] 46)).heap.size,0,none⟩) 9 9),(11,nB w48),(0,nI x64),(1,nI x57),(9,nI x43),(8,nI x42),(7,nI x41),(5,nP z11 0)]) (by kernel_rfl) ?_
      intro w614 a615 hS616 hF617; clear hF611 hS613
      refine wpList_nil ?_
      have hF618:=hF617.keep [0,1,5,7,8,9,11]
      clear hF617
      have hS619:=hS616.pick1.drop
      clear hS616
      exact thenN ⟨x81,x82,x83,x57,x85,x86,x87,x88,x89,hF618,hS619,hm606⟩
     have hm620:=ifNot hc605 hm604; clear hm604
     cases hc621:(x64 == 4)
     case true =>
      have hm622:=ifYes hc621 hm620; clear hm620
      refine ev_one (nP ((w48.alloc (.cells #[nI 0,nI 0,nI 0,nI 0,nI 0,nI 0,nI 0,nI 0,nI 0] 46)).heap.size) 4) w93 hF555 (by kernel_rfl) rfl (by kernel_rfl) (run_idx (z:=4) rfl rfl rfl rfl (congrArg (Value.int .i64) (eq_of_beq hc621)) (by decide) (by decide) _) (l':=[(84,nP ((w48.alloc (.cells #[nI 0,nI 0,nI 0,nI 0,nI 0,nI 0,nI 0,nI 0,nI 0] 46)).heap.size) 4),(83,nI x64),(82,.slice (some ⟨(w48.alloc (.cells #[nI 0,nI 0,nI 0,nI 0,nI 0,nI 0,nI 0,nI 0,nI 0] 46)).heap.size,0,none⟩) 9 9),(74,.bool false),(13,nI x90),(12,.slice (some ⟨(w48.alloc (.cells #[nI 0,nI 0,nI 0,nI 0,nI 0,nI 0,nI 0,nI 0,nI 0] 46)).heap.size,0,none⟩) 9 9),(11,nB w48),(0,nI x64),(1,nI x57),(9,nI x43),(8,nI x42),(7,nI x41),(5,nP z11 0)]) (by kernel_rfl) ?_
      intro a624 hF623; clear hF555
      refine ev_one (nP (w48.heap.size) 4) w93 hF623 (by kernel_rfl) rfl (by kernel_rfl) (run_loadV rfl rfl (run_loadS rfl rfl (hS95.cell 0 rfl 4 rfl))) (l':=[(85,nP (w48.heap.size) 4),(84,nP ((w48.alloc (.cells #[nI 0,nI 0,nI 0,nI 0,nI 0,nI 0,nI 0,nI 0,nI 0] 46)).heap.size) 4),(83,nI x64),(82,.slice (some ⟨(w48.alloc (.cells #[nI 0,nI 0,nI 0,nI 0,nI 0,nI 0,nI 0,nI 0,nI 0] 46)).heap.size,0,none⟩) 9 9),(74,.bool false),(13,nI x90),(12,.slice (some ⟨(w48.alloc (.cells #[nI 0,nI 0,nI 0,nI 0,nI 0,nI 0,nI 0,nI 0,nI 0] 46)).heap.size,0,none⟩) 9 9),(11,nB w48),(0,nI x64),(1,nI x57),(9,nI x43),(8,nI x42),(7,nI x41),(5,nP z11 0)]) (by kernel_rfl) ?_
      intro a626 hF625; clear hF623
      refine ev_runs 2 hF625 (l':=[(87,nP (w48.heap.size) 4),(86,nI x57),(85,nP (w48.heap.size) 4),(84,nP ((w48.alloc (.cells #[nI 0,nI 0,nI 0,nI 0,nI 0,nI 0,nI 0,nI 0,nI 0] 46)).heap.size) 4),(83,nI x64),(82,.slice (some ⟨(w48.alloc (.cells #[nI 0,nI 0,nI 0,nI 0,nI 0,nI 0,nI 0,nI 0,nI 0] 46)).heap.size,0,none⟩) 9 9),(74,.bool false),(13,nI x90),(12,.slice (some ⟨(w48.alloc (.cells #[nI 0,nI 0,nI 0,nI 0,nI 0,nI 0,nI 0,nI 0,nI 0] 46)).heap.size,0,none⟩) 9 9),(11,nB w48),(0,nI x64),(1,nI x57),(9,nI x43),(8,nI x42),(7,nI x41),(5,nP z11 0)]) (w':=w93) (by kernel_rfl) ?_
      intro a628 hF627; clear hF625
      have hS629:=hS95.pick1
      clear hS95
      refine ev_store (nI x57) #[nI x81,nI x82,nI x83,nI x84,nI x57,nI x86,nI x87,nI x88,nI x89] hF627 (by kernel_rfl) rfl rfl rfl rfl (by kernel_rfl) hS629 (by kernel_rfl) (by kernel_rfl) (by kernel_rfl) (l':=[(87,nP (w48.heap.size) 4),(86,nI x57),(85,nP (w48.heap.size) 4),(84,nP ((w48.alloc (.cells #[nI 0,nI 0,nI 0,nI 0,nI 0,nI 0,nI 0,nI 0,nI 0] 46)).heap.size) 4),(83,nI x64),(82,.slice (some ⟨(w48.alloc (.cells #[nI 0,nI 0,nI 0,nI 0,nI 0,nI 0,nI 0,nI 0,nI 0] 46)).heap.size,0,none⟩) 9 9),(74,.bool false),(13,nI x90),(12,.slice (some ⟨(w48.alloc (.cells #[nI 0,nI 0,nI 0,nI 0,nI 0,nI 0,nI 0,nI 0,nI 0] 46)).heap.size,0,none⟩) 9 9),(11,nB w48),(0,nI x64),(1,nI x57),(9,nI x43),(8,nI x42),(7,nI x41),(5,nP z11 0)]) (by kernel_rfl) ?_
      intro w630 a631 hS632 hF633; clear hF627 hS629
      refine wpList_nil ?_
      have hF634:=hF633.keep [0,1,5,7,8,9,11]
      clear hF633
      have hS635:=hS632.pick1.drop
      clear hS632
      exact thenN ⟨x81,x82,x83,x84,x57,x86,x87,x88,x89,hF634,hS635,hm622⟩
     have hm636:=ifNot hc621 hm620; clear hm620
     cases hc637:(x64 == 5)
     case true =>
      have hm638:=ifYes hc637 hm636; clear hm636
      refine ev_one (nP ((w48.alloc (.cells #[nI 0,nI 0,nI 0,nI 0,nI 0,nI 0,nI 0,nI 0,nI 0] 46)).heap.size) 5) w93 hF555 (by kernel_rfl) rfl (by kernel_rfl) (run_idx (z:=5) rfl rfl rfl rfl (congrArg (Value.int .i64) (eq_of_beq hc637)) (by decide) (by decide) _) (l':=[(84,nP ((w48.alloc (.cells #[nI 0,nI 0,nI 0,nI 0,nI 0,nI 0,nI 0,nI 0,nI 0] 46)).heap.size) 5),(83,nI x64),(82,.slice (some ⟨(w48.alloc (.cells #[nI 0,nI 0,nI 0,nI 0,nI 0,nI 0,nI 0,nI 0,nI 0] 46)).heap.size,0,none⟩) 9 9),(74,.bool false),(13,nI x90),(12,.slice (some ⟨(w48.alloc (.cells #[nI 0,nI 0,nI 0,nI 0,nI 0,nI 0,nI 0,nI 0,nI 0] 46)).heap.size,0,none⟩) 9 9),(11,nB w48),(0,nI x64),(1,nI x57),(9,nI x43),(8,nI x42),(7,nI x41),(5,nP z11 0)]) (by kernel_rfl) ?_
      intro a640 hF639; clear hF555
      refine ev_one (nP (w48.heap.size) 5) w93 hF639 (by kernel_rfl) rfl (by kernel_rfl) (run_loadV rfl rfl (run_loadS rfl rfl (hS95.cell 0 rfl 5 rfl))) (l':=[(85,nP (w48.heap.size) 5),(84,nP ((w48.alloc (.cells #[nI 0,nI 0,nI 0,nI 0,nI 0,nI 0,nI 0,nI 0,nI 0] 46)).heap.size) 5),(83,nI x64),(82,.slice (some ⟨(w48.alloc (.cells #[nI 0,nI 0,nI 0,nI 0,nI 0,nI 0,nI 0,nI 0,nI 0] 46)).heap.size,0,none⟩) 9 9),(74,.bool false),(13,nI x90),(12,.slice (some ⟨(w48.alloc (.cells #[nI 0,nI 0,nI 0,nI 0,nI 0,nI 0,nI 0,nI 0,nI 0] 46)).heap.size,0,none⟩) 9 9),(11,nB w48),(0,nI x64),(1,nI x57),(9,nI x43),(8,nI x42),(7,nI x41),(5,nP z11 0)]) (by kernel_rfl) ?_
      intro a642 hF641; clear hF639
      refine ev_runs 2 hF641 (l':=[(87,nP (w48.heap.size) 5),(86,nI x57),(85,nP (w48.heap.size) 5),(84,nP ((w48.alloc (.cells #[nI 0,nI 0,nI 0,nI 0,nI 0,nI 0,nI 0,nI 0,nI 0] 46)).heap.size) 5),(83,nI x64),(82,.slice (some ⟨(w48.alloc (.cells #[nI 0,nI 0,nI 0,nI 0,nI 0,nI 0,nI 0,nI 0,nI 0] 46)).heap.size,0,none⟩) 9 9),(74,.bool false),(13,nI x90),(12,.slice (some ⟨(w48.alloc (.cells #[nI 0,nI 0,nI 0,nI 0,nI 0,nI 0,nI 0,nI 0,nI 0] 46)).heap.size,0,none⟩) 9 9),(11,nB w48),(0,nI x64),(1,nI x57),(9,nI x43),(8,nI x42),(7,nI x41),(5,nP z11 0)]) (w':=w93) (by kernel_rfl) ?_
      intro a644 hF643; clear hF641
      have hS645:=hS95.pick1
      clear hS95
      refine ev_store (nI x57) #[nI x81,nI x82,nI x83,nI x84,nI x85,nI x57,nI x87,nI x88,nI x89] hF643 (by kernel_rfl) rfl rfl rfl rfl (by kernel_rfl) hS645 (by kernel_rfl) (by kernel_rfl) (by kernel_rfl) (l':=[(87,nP (w48.heap.size) 5),(86,nI x57),(85,nP (w48.heap.size) 5),(84,nP ((w48.alloc (.cells #[nI 0,nI 0,nI 0,nI 0,nI 0,nI 0,nI 0,nI 0,nI 0] 46)).heap.size) 5),(83,nI x64),(82,.slice (some ⟨(w48.alloc (.cells #[nI 0,nI 0,nI 0,nI 0,nI 0,nI 0,nI 0,nI 0,nI 0] 46)).heap.size,0,none⟩) 9 9),(74,.bool false),(13,nI x90),(12,.slice (some ⟨(w48.alloc (.cells #[nI 0,nI 0,nI 0,nI 0,nI 0,nI 0,nI 0,nI 0,nI 0] 46)).heap.size,0,none⟩) 9 9),(11,nB w48),(0,nI x64),(1,nI x57),(9,nI x43),(8,nI x42),(7,nI x41),(5,nP z11 0)]) (by kernel_rfl) ?_
      intro w646 a647 hS648 hF649; clear hF643 hS645
      refine wpList_nil ?_
      have hF650:=hF649.keep [0,1,5,7,8,9,11]
      clear hF649
      have hS651:=hS648.pick1.drop
      clear hS648
      exact thenN ⟨x81,x82,x83,x84,x85,x57,x87,x88,x89,hF650,hS651,hm638⟩
     have hm652:=ifNot hc637 hm636; clear hm636
     cases hc653:(x64 == 6)
     case true =>
      have hm654:=ifYes hc653 hm652; clear hm652
      refine ev_one (nP ((w48.alloc (.cells #[nI 0,nI 0,nI 0,nI 0,nI 0,nI 0,nI 0,nI 0,nI 0] 46)).heap.size) 6) w93 hF555 (by kernel_rfl) rfl (by kernel_rfl) (run_idx (z:=6) rfl rfl rfl rfl (congrArg (Value.int .i64) (eq_of_beq hc653)) (by decide) (by decide) _) (l':=[(84,nP ((w48.alloc (.cells #[nI 0,nI 0,nI 0,nI 0,nI 0,nI 0,nI 0,nI 0,nI 0] 46)).heap.size) 6),(83,nI x64),(82,.slice (some ⟨(w48.alloc (.cells #[nI 0,nI 0,nI 0,nI 0,nI 0,nI 0,nI 0,nI 0,nI 0] 46)).heap.size,0,none⟩) 9 9),(74,.bool false),(13,nI x90),(12,.slice (some ⟨(w48.alloc (.cells #[nI 0,nI 0,nI 0,nI 0,nI 0,nI 0,nI 0,nI 0,nI 0] 46)).heap.size,0,none⟩) 9 9),(11,nB w48),(0,nI x64),(1,nI x57),(9,nI x43),(8,nI x42),(7,nI x41),(5,nP z11 0)]) (by kernel_rfl) ?_
      intro a656 hF655; clear hF555
      refine ev_one (nP (w48.heap.size) 6) w93 hF655 (by kernel_rfl) rfl (by kernel_rfl) (run_loadV rfl rfl (run_loadS rfl rfl (hS95.cell 0 rfl 6 rfl))) (l':=[(85,nP (w48.heap.size) 6),(84,nP ((w48.alloc (.cells #[nI 0,nI 0,nI 0,nI 0,nI 0,nI 0,nI 0,nI 0,nI 0] 46)).heap.size) 6),(83,nI x64),(82,.slice (some ⟨(w48.alloc (.cells #[nI 0,nI 0,nI 0,nI 0,nI 0,nI 0,nI 0,nI 0,nI 0] 46)).heap.size,0,none⟩) 9 9),(74,.bool false),(13,nI x90),(12,.slice (some ⟨(w48.alloc (.cells #[nI 0,nI 0,nI 0,nI 0,nI 0,nI 0,nI 0,nI 0,nI 0] 46)).heap.size,0,none⟩) 9 9),(11,nB w48),(0,nI x64),(1,nI x57),(9,nI x43),(8,nI x42),(7,nI x41),(5,nP z11 0)]) (by kernel_rfl) ?_
      intro a658 hF657; clear hF655
      refine ev_runs 2 hF657 (l':=[(87,nP (w48.heap.size) 6),(86,nI x57),(85,nP (w48.heap.size) 6),(84,nP ((w48.alloc (.cells #[nI 0,nI 0,nI 0,nI 0,nI 0,nI 0,nI 0,nI 0,nI 0] 46)).heap.size) 6),(83,nI x64),(82,.slice (some ⟨(w48.alloc (.cells #[nI 0,nI 0,nI 0,nI 0,nI 0,nI 0,nI 0,nI 0,nI 0] 46)).heap.size,0,none⟩) 9 9),(74,.bool false),(13,nI x90),(12,.slice (some ⟨(w48.alloc (.cells #[nI 0,nI 0,nI 0,nI 0,nI 0,nI 0,nI 0,nI 0,nI 0] 46)).heap.size,0,none⟩) 9 9),(11,nB w48),(0,nI x64),(1,nI x57),(9,nI x43),(8,nI x42),(7,nI x41),(5,nP z11 0)]) (w':=w93) (by kernel_rfl) ?_
      intro a660 hF659; clear hF657
      have hS661:=hS95.pick1
      clear hS95
      refine ev_store (nI x57) #[nI x81,nI x82,nI x83,nI x84,nI x85,nI x86,nI x57,nI x88,nI x89] hF659 (by kernel_rfl) rfl rfl rfl rfl (by kernel_rfl) hS661 (by kernel_rfl) (by kernel_rfl) (by kernel_rfl) (l':=[(87,nP (w48.heap.size) 6),(86,nI x57),(85,nP (w48.heap.size) 6),(84,nP ((w48.alloc (.cells #[nI 0,nI 0,nI 0,nI 0,nI 0,nI 0,nI 0,nI 0,nI 0] 46)).heap.size) 6),(83,nI x64),(82,.slice (some ⟨(w48.alloc (.cells #[nI 0,nI 0,nI 0,nI 0,nI 0,nI 0,nI 0,nI 0,nI 0] 46)).heap.size,0,none⟩) 9 9),(74,.bool false),(13,nI x90),(12,.slice (some ⟨(w48.alloc (.cells #[nI 0,nI 0,nI 0,nI 0,nI 0,nI 0,nI 0,nI 0,nI 0] 46)).heap.size,0,none⟩) 9 9),(11,nB w48),(0,nI x64),(1,nI x57),(9,nI x43),(8,nI x42),(7,nI x41),(5,nP z11 0)]) (by kernel_rfl) ?_
      intro w662 a663 hS664 hF665; clear hF659 hS661
      refine wpList_nil ?_
      have hF666:=hF665.keep [0,1,5,7,8,9,11]
      clear hF665
      have hS667:=hS664.pick1.drop
      clear hS664
      exact thenN ⟨x81,x82,x83,x84,x85,x86,x57,x88,x89,hF666,hS667,hm654⟩
     have hm668:=ifNot hc653 hm652; clear hm652
     cases hc669:(x64 == 7)
     case true =>
      have hm670:=ifYes hc669 hm668; clear hm668
      refine ev_one (nP ((w48.alloc (.cells #[nI 0,nI 0,nI 0,nI 0,nI 0,nI 0,nI 0,nI 0,nI 0] 46)).heap.size) 7) w93 hF555 (by kernel_rfl) rfl (by kernel_rfl) (run_idx (z:=7) rfl rfl rfl rfl (congrArg (Value.int .i64) (eq_of_beq hc669)) (by decide) (by decide) _) (l':=[(84,nP ((w48.alloc (.cells #[nI 0,nI 0,nI 0,nI 0,nI 0,nI 0,nI 0,nI 0,nI 0] 46)).heap.size) 7),(83,nI x64),(82,.slice (some ⟨(w48.alloc (.cells #[nI 0,nI 0,nI 0,nI 0,nI 0,nI 0,nI 0,nI 0,nI 0] 46)).heap.size,0,none⟩) 9 9),(74,.bool false),(13,nI x90),(12,.slice (some ⟨(w48.alloc (.cells #[nI 0,nI 0,nI 0,nI 0,nI 0,nI 0,nI 0,nI 0,nI 0] 46)).heap.size,0,none⟩) 9 9),(11,nB w48),(0,nI x64),(1,nI x57),(9,nI x43),(8,nI x42),(7,nI x41),(5,nP z11 0)]) (by kernel_rfl) ?_
      intro a672 hF671; clear hF555
      refine ev_one (nP (w48.heap.size) 7) w93 hF671 (by kernel_rfl) rfl (by kernel_rfl) (run_loadV rfl rfl (run_loadS rfl rfl (hS95.cell 0 rfl 7 rfl))) (l':=[(85,nP (w48.heap.size) 7),(84,nP ((w48.alloc (.cells #[nI 0,nI 0,nI 0,nI 0,nI 0,nI 0,nI 0,nI 0,nI 0] 46)).heap.size) 7),(83,nI x64),(82,.slice (some ⟨(w48.alloc (.cells #[nI 0,nI 0,nI 0,nI 0,nI 0,nI 0,nI 0,nI 0,nI 0] 46)).heap.size,0,none⟩) 9 9),(74,.bool false),(13,nI x90),(12,.slice (some ⟨(w48.alloc (.cells #[nI 0,nI 0,nI 0,nI 0,nI 0,nI 0,nI 0,nI 0,nI 0] 46)).heap.size,0,none⟩) 9 9),(11,nB w48),(0,nI x64),(1,nI x57),(9,nI x43),(8,nI x42),(7,nI x41),(5,nP z11 0)]) (by kernel_rfl) ?_
      intro a674 hF673; clear hF671
      refine ev_runs 2 hF673 (l':=[(87,nP (w48.heap.size) 7),(86,nI x57),(85,nP (w48.heap.size) 7),(84,nP ((w48.alloc (.cells #[nI 0,nI 0,nI 0,nI 0,nI 0,nI 0,nI 0,nI 0,nI 0] 46)).heap.size) 7),(83,nI x64),(82,.slice (some ⟨(w48.alloc (.cells #[nI 0,nI 0,nI 0,nI 0,nI 0,nI 0,nI 0,nI 0,nI 0] 46)).heap.size,0,none⟩) 9 9),(74,.bool false),(13,nI x90),(12,.slice (some ⟨(w48.alloc (.cells #[nI 0,nI 0,nI 0,nI 0,nI 0,nI 0,nI 0,nI 0,nI 0] 46)).heap.size,0,none⟩) 9 9),(11,nB w48),(0,nI x64),(1,nI x57),(9,nI x43),(8,nI x42),(7,nI x41),(5,nP z11 0)]) (w':=w93) (by kernel_rfl) ?_
      intro a676 hF675; clear hF673
      have hS677:=hS95.pick1
      clear hS95
      refine ev_store (nI x57) #[nI x81,nI x82,nI x83,nI x84,nI x85,nI x86,nI x87,nI x57,nI x89] hF675 (by kernel_rfl) rfl rfl rfl rfl (by kernel_rfl) hS677 (by kernel_rfl) (by kernel_rfl) (by kernel_rfl) (l':=[(87,nP (w48.heap.size) 7),(86,nI x57),(85,nP (w48.heap.size) 7),(84,nP ((w48.alloc (.cells #[nI 0,nI 0,nI 0,nI 0,nI 0,nI 0,nI 0,nI 0,nI 0] 46)).heap.size) 7),(83,nI x64),(82,.slice (some ⟨(w48.alloc (.cells #[nI 0,nI 0,nI 0,nI 0,nI 0,nI 0,nI 0,nI 0,nI 0] 46)).heap.size,0,none⟩) 9 9),(74,.bool false),(13,nI x90),(12,.slice (some ⟨(w48.alloc (.cells #[nI 0,nI 0,nI 0,nI 0,nI 0,nI 0,nI 0,nI 0,nI 0] 46)).heap.size,0,none⟩) 9 9),(11,nB w48),(0,nI x64),(1,nI x57),(9,nI x43),(8,nI x42),(7,nI x41),(5,nP z11 0)]) (by kernel_rfl) ?_
      intro w678 a679 hS680 hF681; clear hF675 hS677
      refine wpList_nil ?_
      have hF682:=hF681.keep [0,1,5,7,8,9,11]
      clear hF681
      have hS683:=hS680.pick1.drop
      clear hS680
      exact thenN ⟨x81,x82,x83,x84,x85,x86,x87,x57,x89,hF682,hS683,hm670⟩
     have hm684:=ifNot hc669 hm668; clear hm668
     cases hc685:(x64 == 8)
     case true =>
      have hm686:=ifYes hc685 hm684; clear hm684
      refine ev_one (nP ((w48.alloc (.cells #[nI 0,nI 0,nI 0,nI 0,nI 0,nI 0,nI 0,nI 0,nI 0] 46)).heap.size) 8) w93 hF555 (by kernel_rfl) rfl (by kernel_rfl) (run_idx (z:=8) rfl rfl rfl rfl (congrArg (Value.int .i64) (eq_of_beq hc685)) (by decide) (by decide) _) (l':=[(84,nP ((w48.alloc (.cells #[nI 0,nI 0,nI 0,nI 0,nI 0,nI 0,nI 0,nI 0,nI 0] 46)).heap.size) 8),(83,nI x64),(82,.slice (some ⟨(w48.alloc (.cells #[nI 0,nI 0,nI 0,nI 0,nI 0,nI 0,nI 0,nI 0,nI 0] 46)).heap.size,0,none⟩) 9 9),(74,.bool false),(13,nI x90),(12,.slice (some ⟨(w48.alloc (.cells #[nI 0,nI 0,nI 0,nI 0,nI 0,nI 0,nI 0,nI 0,nI 0] 46)).heap.size,0,none⟩) 9 9),(11,nB w48),(0,nI x64),(1,nI x57),(9,nI x43),(8,nI x42),(7,nI x41),(5,nP z11 0)]) (by kernel_rfl) ?_
      intro a688 hF687; clear hF555
      refine ev_one (nP (w48.heap.size) 8) w93 hF687 (by kernel_rfl) rfl (by kernel_rfl) (run_loadV rfl rfl (run_loadS rfl rfl (hS95.cell 0 rfl 8 rfl))) (l':=[(85,nP (w48.heap.size) 8),(84,nP ((w48.alloc (.cells #[nI 0,nI 0,nI 0,nI 0,nI 0,nI 0,nI 0,nI 0,nI 0] 46)).heap.size) 8),(83,nI x64),(82,.slice (some ⟨(w48.alloc (.cells #[nI 0,nI 0,nI 0,nI 0,nI 0,nI 0,nI 0,nI 0,nI 0] 46)).heap.size,0,none⟩) 9 9),(74,.bool false),(13,nI x90),(12,.slice (some ⟨(w48.alloc (.cells #[nI 0,nI 0,nI 0,nI 0,nI 0,nI 0,nI 0,nI 0,nI 0] 46)).heap.size,0,none⟩) 9 9),(11,nB w48),(0,nI x64),(1,nI x57),(9,nI x43),(8,nI x42),(7,nI x41),(5,nP z11 0)]) (by kernel_rfl) ?_
      intro a690 hF689; clear hF687
      refine ev_runs 2 hF689 (l':=[(87,nP (w48.heap.size) 8),(86,nI x57),(85,nP (w48.heap.size) 8),(84,nP ((w48.alloc (.cells #[nI 0,nI 0,nI 0,nI 0,nI 0,nI 0,nI 0,nI 0,nI 0] 46)).heap.size) 8),(83,nI x64),(82,.slice (some ⟨(w48.alloc (.cells #[nI 0,nI 0,nI 0,nI 0,nI 0,nI 0,nI 0,nI 0,nI 0] 46)).heap.size,0,none⟩) 9 9),(74,.bool false),(13,nI x90),(12,.slice (some ⟨(w48.alloc (.cells #[nI 0,nI 0,nI 0,nI 0,nI 0,nI 0,nI 0,nI 0,nI 0] 46)).heap.size,0,none⟩) 9 9),(11,nB w48),(0,nI x64),(1,nI x57),(9,nI x43),(8,nI x42),(7,nI x41),(5,nP z11 0)]) (w':=w93) (by kernel_rfl) ?_
      intro a692 hF691; clear hF689
      have hS693:=hS95.pick1
      clear hS95
      refine ev_store (nI x57) #[nI x81,nI x82,nI x83,nI x84,nI x85,nI x86,nI x87,nI x88,nI x57] hF691 (by kernel_rfl) rfl rfl rfl rfl (by kernel_rfl) hS693 (by kernel_rfl) (by kernel_rfl) (by kernel_rfl) (l':=[(87,nP (w48.heap.size) 8),(86,nI x57),(85,nP (w48.heap.size) 8),(84,nP ((w48.alloc (.cells #[nI 0,nI 0,nI 0,nI 0,nI 0,nI 0,nI 0,nI 0,nI 0] 46)).heap.size) 8),(83,nI x64),(82,.slice (some ⟨(w48.alloc (.cells #[nI 0,nI 0,nI 0,nI 0,nI 0,nI 0,nI 0,nI 0,nI 0] 46)).heap.size,0,none⟩) 9 9),(74,.bool false),(13,nI x90),(12,.slice (some ⟨(w48.alloc (.cells #[nI 0,nI 0,nI 0,nI 0,nI 0,nI 0,nI 0,nI 0,nI 0] 46)).heap.size,0,none⟩) 9 9),(11,nB w48),(0,nI x64),(1,nI x57),(9,nI x43),(8,nI x42),(7,nI x41),(5,nP z11 0)]) (by kernel_rfl) ?_
      intro w694 a695 hS696 hF697; clear hF691 hS693
      refine wpList_nil ?_
      have hF698:=hF697.keep [0,1,5,7,8,9,11]
      clear hF697
      have hS699:=hS696.pick1.drop
      clear hS696
      exact thenN ⟨x81,x82,x83,x84,x85,x86,x87,x88,x57,hF698,hS699,hm686⟩
     have hm700:=ifNot hc685 hm684; clear hm684
     exact absurd hm700 (by simp)
 · skip
   refine wp_region_lit ?_
   refine ev_call 20 #[] hF20 rfl rfl (by kernel_rfl) rfl (by kernel_rfl) (fun w=>by kernel_rfl) ?_
   obtain ⟨y701,hx702,hm703⟩:=bind1E hm6; clear hm6
   refine (law11_awake.ok hS9 hx702).mono ?_
   rintro _ w704 ⟨rfl,hS706⟩ a705 hF707; clear hF20 hS9
   refine ev_runs 2 hF707 (l':=[(40,.bool (!(y701))),(39,.bool (!(y701))),(38,.bool (y701)),(6,nP z13 0),(5,nP z11 0),(0,nI i0),(1,nI i1)]) (w':=w704) (by kernel_rfl) ?_
   intro a709 hF708; clear hF707
   cases hc710:(!(y701))
   case true =>
    rw [hc710] at hF708
    have hm711:=ifYes hc710 hm703; clear hm703
    refine ev_runK 7 hF708 [0,1,5,6,47] (l':=[(47,.bool true),(6,nP z13 0),(5,nP z11 0),(0,nI i0),(1,nI i1)]) (w':=w704) (by kernel_rfl) ?_
    intro a713 hF712; clear hF708
    refine wpList_nil ?_
    exact thenN ⟨true,hF712,hS706,hm711⟩
   rw [hc710] at hF708
   have hm714:=ifNot hc710 hm703; clear hm703
   refine ev_runK 7 hF708 [0,1,5,6,47] (l':=[(47,.bool false),(6,nP z13 0),(5,nP z11 0),(0,nI i0),(1,nI i1)]) (w':=w704) (by kernel_rfl) ?_
   intro a716 hF715; clear hF708
   refine wpList_nil ?_
   exact thenN ⟨false,hF715,hS706,hm714⟩
end Go.Proofs.Ytjdlnmbfomojdaa
namespace Go.Proofs.Ytjdlnmbfomojdaa
open Go.RowKit
def VwOk (a b:Nat):Bool:=decide (ViewWords.m 100 ((a:Nat):Int) ((b:Nat):Int)=some true)
end Go.Proofs.Ytjdlnmbfomojdaa
namespace Go.Proofs.Ytjdlnmbfomojdaa
open Go.RowKit
set_option maxHeartbeats 0 in
theorem Vw_0:∀ b<25,∀ a<9,VwOk a (b+0)=true:=by decide +kernel
set_option maxHeartbeats 0 in
theorem Vw_25:∀ b<25,∀ a<9,VwOk a (b+25)=true:=by decide +kernel
set_option maxHeartbeats 0 in
theorem Vw_50:∀ b<25,∀ a<9,VwOk a (b+50)=true:=by decide +kernel
set_option maxHeartbeats 0 in
theorem Vw_75:∀ b<25,∀ a<9,VwOk a (b+75)=true:=by decide +kernel
set_option maxHeartbeats 0 in
theorem Vw_100:∀ b<25,∀ a<9,VwOk a (b+100)=true:=by decide +kernel
end Go.Proofs.Ytjdlnmbfomojdaa
