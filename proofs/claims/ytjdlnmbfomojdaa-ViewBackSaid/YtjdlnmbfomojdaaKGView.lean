/- GView G11 -/
import Derived.Test.YtjdlnmbfomojdaaKPrimV
import Derived.Test.YtjdlnmbfomojdaaKGHelp
import Derived.Deep.LoopGhost
import Derived.KernelRfl
namespace Go.Proofs.Ytjdlnmbfomojdaa
open Go.RowKit
set_option linter.unusedVariables false
def view_Gor.l2b (s0:HSt) (L10:List Int) (x48:Int) (x49:Int) (x50:Int) (rec69:Int→Int→Int→Int→Int→Int→Int→Option (Gr×Int×HSt)) (x60:Int) (x61:Int) (x62:Int) (x63:Int) (x64:Int) (x65:Int) (x66:Int):Option (Gr×Int×HSt):=(if (decide (x66<6)) then (if (inR (IntKind.i64.wrap (3+x66)) L10.length) then (if (x66 == 0) then rec69 (atI L10 (IntKind.i64.wrap (3+x66))) x61 x62 x63 x64 x65 (IntKind.i64.wrap (x66+1)) else (if (x66 == 1) then rec69 x60 (atI L10 (IntKind.i64.wrap (3+x66))) x62 x63 x64 x65 (IntKind.i64.wrap (x66+1)) else (if (x66 == 2) then rec69 x60 x61 (atI L10 (IntKind.i64.wrap (3+x66))) x63 x64 x65 (IntKind.i64.wrap (x66+1)) else (if (x66 == 3) then rec69 x60 x61 x62 (atI L10 (IntKind.i64.wrap (3+x66))) x64 x65 (IntKind.i64.wrap (x66+1)) else (if (x66 == 4) then rec69 x60 x61 x62 x63 (atI L10 (IntKind.i64.wrap (3+x66))) x65 (IntKind.i64.wrap (x66+1)) else (if (x66 == 5) then rec69 x60 x61 x62 x63 x64 (atI L10 (IntKind.i64.wrap (3+x66))) (IntKind.i64.wrap (x66+1)) else none)))))) else none) else (if (inR (9:Int) L10.length) then bind1 (pAt (atI L10 (9:Int))) fun x174=>some ((⟨x48,x49,x50,x60,x61,x62,x63,x64,x65,x174⟩:Gr),0,s0) else none))
def view_Gor.l2 (s0:HSt) (L10:List Int) (x48:Int) (x49:Int) (x50:Int):Nat→Int→Int→Int→Int→Int→Int→Int→Option (Gr×Int×HSt)
  | 0=>fun _ _ _ _ _ _ _=>none
  | kI+1=>view_Gor.l2b s0 L10 x48 x49 x50 (view_Gor.l2 s0 L10 x48 x49 x50 kI)
def view_Gor.j1 (s0:HSt) (k:Nat) (L10:List Int) (x48:Int) (x49:Int) (x50:Int):Option (Gr×Int×HSt):=view_Gor.l2 s0 L10 x48 x49 x50 k 0 0 0 0 0 0 0
def view_Gor.m (k:Nat) (s0:HSt) (i1:Int):Option (Gr×Int×HSt):=bind2 (pSeen4 i1 s0) fun L10 x11=>(if (x11 != 0) then some ((⟨0,0,0,0,0,0,0,0,0,0⟩:Gr),x11,s0) else (if (inR (0:Int) L10.length) then (if (inR (1:Int) L10.length) then (if (inR (2:Int) L10.length) then bind1 (pNum (atI L10 (0:Int))) fun x215=>bind1 (pNum (atI L10 (1:Int))) fun x222=>bind1 (pNum (atI L10 (2:Int))) fun x229=>view_Gor.j1 s0 k L10 x215 x222 x229 else none) else none) else none))
set_option maxRecDepth 100000 in
set_option maxHeartbeats 1500000 in
theorem view_Gor.ok {w0 w:World} {F0:List Nat} {ps:List Piece} {k:Nat} {b0 ab0:Nat} {s0:HSt} {i1:Int} {r0:Gr} {r1:Int} {t0:HSt} (hS:St w0 F0 (HeapP b0 ab0 s0::ps) w) (hm:view_Gor.m k s0 i1=some (r0,r1,t0)) :
    Calls Try.prog 30 #[nP b0 0,nI i1] w fun e w'=>e=.returned (.tuple #[.agg #[nI (r0.id),nI (r0.status),nI (r0.pc),nI (r0.a),nI (r0.b),nI (r0.c),nI (r0.d),nI (r0.e),nI (r0.f),nI (r0.sudogs)],.int .i64 r1])∧St w0 F0 (HeapP b0 ab0 t0::ps) w':=by
 refine ev_enterL 51 [nP b0 0,nI i1] Try.func30 rfl rfl (by simp) ?_
 intro a hF
 have hF0:Fr 51 a [(0,nP b0 0),(1,nI i1)]:=hF; clear hF
 unfold view_Gor.m at hm
 refine wp_seq (wp_region_lit ?_)
 refine ev_runs 1 hF0 (l':=[(4,nB w),(0,nP b0 0),(1,nI i1)]) (w':=w.alloc (.cells #[nI 0,nI 0,nI 0,nI 0,nI 0,nI 0,nI 0,nI 0,nI 0,nI 0] 55)) (by kernel_rfl) ?_
 intro a2 hF1; clear hF0
 have hS4:St w0 F0 (BlkP (w.heap.size) 55 #[nI 0,nI 0,nI 0,nI 0,nI 0,nI 0,nI 0,nI 0,nI 0,nI 0]::HeapP b0 ab0 s0::ps) (w.alloc (.cells #[nI 0,nI 0,nI 0,nI 0,nI 0,nI 0,nI 0,nI 0,nI 0,nI 0] 55)):=St.new hS #[nI 0,nI 0,nI 0,nI 0,nI 0,nI 0,nI 0,nI 0,nI 0,nI 0] 55
 refine ev_runK 1 hF1 [0,1,4] (l':=[(4,nB w),(0,nP b0 0),(1,nI i1)]) (w':=w.alloc (.cells #[nI 0,nI 0,nI 0,nI 0,nI 0,nI 0,nI 0,nI 0,nI 0,nI 0] 55)) (by kernel_rfl) ?_
 intro a6 hF5; clear hF1
 refine wpList_nil (thenN (wp_seq (wp_region_lit ?_)))
 refine ev_runs 2 hF5 (l':=[(12,nI i1),(11,nP b0 0),(4,nB w),(0,nP b0 0),(1,nI i1)]) (w':=w.alloc (.cells #[nI 0,nI 0,nI 0,nI 0,nI 0,nI 0,nI 0,nI 0,nI 0,nI 0] 55)) (by kernel_rfl) ?_
 intro a8 hF7; clear hF5
 have hS9:=hS4.pick1
 clear hS4
 refine ev_call 68 #[nP b0 0,nI i1,nI 4] hF7 rfl rfl (by kernel_rfl) rfl (by kernel_rfl) (fun w=>by kernel_rfl) ?_
 obtain ⟨L10,x11,hx12,hm13⟩:=bind2E hm; clear hm
 refine (p_seen4 hS9 hx12).mono ?_
 rintro _ w14 ⟨z18,rfl,hS16⟩ a15 hF17; clear hF7 hS9
 obtain ⟨hl23,p20,c21,rfl,hp22⟩:=St.shape hS16 1 rfl
 refine ev_runK 5 hF17 [4,6,7] (l':=[(7,nI x11),(6,.slice p20 L10.length c21),(4,nB w)]) (w':=w14) (by kernel_rfl) ?_
 intro a25 hF24; clear hF17
 refine wpList_nil (thenN (wp_seq (wp_seq (wp_region_lit ?_))))
 refine ev_runK 2 hF24 [4,6,7,17] (l':=[(17,.bool (x11 != 0)),(7,nI x11),(6,.slice p20 L10.length c21),(4,nB w)]) (w':=w14) (by kernel_rfl) ?_
 intro a27 hF26; clear hF24
 refine wpList_nil (thenN ?_)
 cases hc28:(x11 != 0)
 case true =>
  rw [hc28] at hF26
  have hm29:=ifYes hc28 hm13; clear hm13
  refine ev_condT hF26 rfl rfl ?_
  refine wp_seq (wp_region_lit ?_)
  refine ev_runs 2 hF26 (l':=[(19,nI x11),(18,.agg #[nI 0,nI 0,nI 0,nI 0,nI 0,nI 0,nI 0,nI 0,nI 0,nI 0]),(17,.bool true),(7,nI x11),(6,.slice p20 L10.length c21),(4,nB w)]) (w':=w14) (by kernel_rfl) ?_
  intro a31 hF30; clear hF26
  have hS32:=hS16.pick2
  clear hS16
  refine ev_store (.agg #[nI 0,nI 0,nI 0,nI 0,nI 0,nI 0,nI 0,nI 0,nI 0,nI 0]) #[nI 0,nI 0,nI 0,nI 0,nI 0,nI 0,nI 0,nI 0,nI 0,nI 0] hF30 (by kernel_rfl) rfl rfl rfl rfl (by kernel_rfl) hS32 (by kernel_rfl) (by kernel_rfl) (by kernel_rfl) (l':=[(19,nI x11),(18,.agg #[nI 0,nI 0,nI 0,nI 0,nI 0,nI 0,nI 0,nI 0,nI 0,nI 0]),(17,.bool true),(7,nI x11),(6,.slice p20 L10.length c21),(4,nB w)]) (by kernel_rfl) ?_
  intro w33 a34 hS35 hF36; clear hF30 hS32
  refine ev_runK 1 hF36 [4,5] (l':=[(5,nI x11),(4,nB w)]) (w':=w33) (by kernel_rfl) ?_
  intro a38 hF37; clear hF36
  refine wpList_nil ?_
  have hS39:=hS35.pick2.drop
  clear hS35
  refine thenN ?_
  refine wp_ret ?_
  refine thenR ?_
  have hS40:=hS39.pick1
  clear hS39
  simp only [Option.some.injEq,Prod.mk.injEq] at hm29
  obtain ⟨rfl,rfl,rfl⟩:=hm29
  refine ev_retC hF37 _ [.agg #[nI 0,nI 0,nI 0,nI 0,nI 0,nI 0,nI 0,nI 0,nI 0,nI 0],nI x11] (.tuple #[.agg #[nI 0,nI 0,nI 0,nI 0,nI 0,nI 0,nI 0,nI 0,nI 0,nI 0],nI x11]) rfl ⟨⟨rfl,_,rfl,(run_loadA (cs:=[nI 0,nI 0,nI 0,nI 0,nI 0,nI 0,nI 0,nI 0,nI 0,nI 0]) rfl rfl (by kernel_rfl) (blk_cells hS40 1 rfl rfl))⟩,⟨rfl,rfl⟩,trivial⟩ rfl ?_
  have hS44:=hS40.pick1.drop
  clear hS40
  exact ⟨rfl,hS44⟩
 rw [hc28] at hF26
 have hm45:=ifNot hc28 hm13; clear hm13
 refine ev_condF hF26 rfl rfl ?_
 refine wp_skip ?_
 have hF46:=hF26.keep [4,6]
 clear hF26
 refine thenN (wp_seq ?_)
 refine joinQ (fun aI wI=>∃ (g47:Nat) (x48:Int) (x49:Int) (x50:Int),Fr 51 aI [(8,nP g47 0),(6,.slice p20 L10.length c21),(4,nB w)]∧St w0 F0 (BlkP g47 55 #[nI x48,nI x49,nI x50,nI 0,nI 0,nI 0,nI 0,nI 0,nI 0,nI (-1)]::RowP (.slice p20 L10.length c21) L10::HeapP b0 ab0 s0::BlkP (w.heap.size) 55 #[nI 0,nI 0,nI 0,nI 0,nI 0,nI 0,nI 0,nI 0,nI 0,nI 0]::ps) wI∧view_Gor.j1 s0 k L10 x48 x49 x50=some (r0,r1,t0)) ?_ ?_
 rotate_left
 · rintro a52 w53 ⟨g47,x48,x49,x50,hF54,hS55,hm56⟩
   clear hF46 hS16 hm45
   unfold view_Gor.j1 at hm56
   refine thenN (wp_seq (wp_seq (wp_region_lit ?_)))
   refine ev_runs 1 hF54 (l':=[(33,nI 0),(8,nP g47 0),(6,.slice p20 L10.length c21),(4,nB w)]) (w':=w53) (by kernel_rfl) ?_
   intro a59 hF58; clear hF54
   refine wpList_nil (thenN ?_)
   refine wp_block ?_
   refine wp_loop_ghost (fun kI aI wI=>∃ (x60:Int) (x61:Int) (x62:Int) (x63:Int) (x64:Int) (x65:Int) (x66:Int),Fr 51 aI [(33,nI x66),(8,nP g47 0),(6,.slice p20 L10.length c21),(4,nB w)]∧St w0 F0 (BlkP g47 55 #[nI x48,nI x49,nI x50,nI x60,nI x61,nI x62,nI x63,nI x64,nI x65,nI (-1)]::RowP (.slice p20 L10.length c21) L10::HeapP b0 ab0 s0::BlkP (w.heap.size) 55 #[nI 0,nI 0,nI 0,nI 0,nI 0,nI 0,nI 0,nI 0,nI 0,nI 0]::ps) wI∧view_Gor.l2 s0 L10 x48 x49 x50 kI x60 x61 x62 x63 x64 x65 x66=some (r0,r1,t0)) k ⟨0,0,0,0,0,0,0,hF58,hS55,hm56⟩ ?_
   rintro k67 a68 w69 ⟨x60,x61,x62,x63,x64,x65,x66,hF70,hS71,hm72⟩
   clear hF58 hS55 hm56
   rcases k67 with _ | k67
   · cases hm72
   have hm73:view_Gor.l2b s0 L10 x48 x49 x50 (view_Gor.l2 s0 L10 x48 x49 x50 k67) x60 x61 x62 x63 x64 x65 x66=some (r0,r1,t0):=hm72
   clear hm72
   unfold view_Gor.l2b at hm73
   refine wp_seq (wp_region_lit ?_)
   refine ev_runs 1 hF70 (l':=[(34,.bool (decide (x66<6))),(33,nI x66),(8,nP g47 0),(6,.slice p20 L10.length c21),(4,nB w)]) (w':=w69) (by kernel_rfl) ?_
   intro a75 hF74; clear hF70
   refine wpList_nil (thenN (wp_seq ?_))
   cases hc76:(decide (x66<6))
   case true =>
    rw [hc76] at hF74
    have hm77:=ifYes hc76 hm73; clear hm73
    refine ev_condT hF74 rfl rfl ?_
    refine wp_skip ?_
    have hF78:=hF74.keep [4,6,8,33]
    clear hF74
    refine thenN (wp_seq ?_)
    refine wp_block ?_
    refine wp_seq (wp_region_lit ?_)
    refine ev_runK 2 hF78 [4,6,8,9,33] (l':=[(9,nI x66),(33,nI x66),(8,nP g47 0),(6,.slice p20 L10.length c21),(4,nB w)]) (w':=w69) (by kernel_rfl) ?_
    intro a80 hF79; clear hF78
    refine wpList_nil (thenN (wp_region_lit ?_))
    refine ev_runs 4 hF79 (l':=[(39,nI (IntKind.i64.wrap (3+x66))),(38,nI x66),(37,.slice p20 L10.length c21),(36,nI x66),(9,nI x66),(33,nI x66),(8,nP g47 0),(6,.slice p20 L10.length c21),(4,nB w)]) (w':=w69) (by kernel_rfl) ?_
    intro a82 hF81; clear hF79
    obtain ⟨hc83,hm84⟩:=ifTE hm77; clear hm77
    obtain ⟨g85,rfl⟩:=hp22.resolve_left (by have:=inR_spec hc83; omega)
    refine ev_one (nP g85 ((IntKind.i64.wrap (3+x66)).toNat)) w69 hF81 (by kernel_rfl) rfl (by kernel_rfl) (run_idx rfl rfl rfl rfl rfl (inR_spec hc83).1 (inR_spec hc83).2 _) (l':=[(40,nP g85 ((IntKind.i64.wrap (3+x66)).toNat)),(39,nI (IntKind.i64.wrap (3+x66))),(38,nI x66),(37,nS g85 L10 c21),(36,nI x66),(9,nI x66),(33,nI x66),(8,nP g47 0),(6,nS g85 L10 c21),(4,nB w)]) (by kernel_rfl) ?_
    intro a87 hF86; clear hF81
    refine ev_one (nI (atI L10 (IntKind.i64.wrap (3+x66)))) w69 hF86 (by kernel_rfl) rfl (by kernel_rfl) (run_load1 rfl rfl rfl (hS71.atI 1 rfl hc83)) (l':=[(41,nI (atI L10 (IntKind.i64.wrap (3+x66)))),(40,nP g85 ((IntKind.i64.wrap (3+x66)).toNat)),(39,nI (IntKind.i64.wrap (3+x66))),(38,nI x66),(37,nS g85 L10 c21),(36,nI x66),(9,nI x66),(33,nI x66),(8,nP g47 0),(6,nS g85 L10 c21),(4,nB w)]) (by kernel_rfl) ?_
    intro a89 hF88; clear hF86
    refine ev_runs 1 hF88 (l':=[(42,nP g47 3),(41,nI (atI L10 (IntKind.i64.wrap (3+x66)))),(40,nP g85 ((IntKind.i64.wrap (3+x66)).toNat)),(39,nI (IntKind.i64.wrap (3+x66))),(38,nI x66),(37,nS g85 L10 c21),(36,nI x66),(9,nI x66),(33,nI x66),(8,nP g47 0),(6,nS g85 L10 c21),(4,nB w)]) (w':=w69) (by kernel_rfl) ?_
    intro a91 hF90; clear hF88
    cases hc92:(x66 == 0)
    case true =>
     have hm93:=ifYes hc92 hm84; clear hm84
     refine ev_one (nP g47 3) w69 hF90 (by kernel_rfl) rfl (by kernel_rfl) (run_idxA (q:=0) rfl rfl rfl rfl (congrArg (Value.int .i64) (eq_of_beq hc92)) (by decide) (by decide) (by kernel_rfl) _) (l':=[(43,nP g47 3),(42,nP g47 3),(41,nI (atI L10 (IntKind.i64.wrap (3+x66)))),(40,nP g85 ((IntKind.i64.wrap (3+x66)).toNat)),(39,nI (IntKind.i64.wrap (3+x66))),(38,nI x66),(37,nS g85 L10 c21),(36,nI x66),(9,nI x66),(33,nI x66),(8,nP g47 0),(6,nS g85 L10 c21),(4,nB w)]) (by kernel_rfl) ?_
     intro a95 hF94; clear hF90
     refine ev_store (nI (atI L10 (IntKind.i64.wrap (3+x66)))) #[nI x48,nI x49,nI x50,nI (atI L10 (IntKind.i64.wrap (3+x66))),nI x61,nI x62,nI x63,nI x64,nI x65,nI (-1)] hF94 (by kernel_rfl) rfl rfl rfl rfl (by kernel_rfl) hS71 (by kernel_rfl) (by kernel_rfl) (by kernel_rfl) (l':=[(43,nP g47 3),(42,nP g47 3),(41,nI (atI L10 (IntKind.i64.wrap (3+x66)))),(40,nP g85 ((IntKind.i64.wrap (3+x66)).toNat)),(39,nI (IntKind.i64.wrap (3+x66))),(38,nI x66),(37,nS g85 L10 c21),(36,nI x66),(9,nI x66),(33,nI x66),(8,nP g47 0),(6,nS g85 L10 c21),(4,nB w)]) (by kernel_rfl) ?_
     intro w96 a97 hS98 hF99; clear hF94 hS71
     refine wpList_nil ?_
     have hF100:=hF99.keep [4,6,8,33]
     clear hF99
     refine blockN ?_
     refine thenN (wp_region_lit ?_)
     refine ev_runK 2 hF100 [4,6,8,33] (l':=[(33,nI (IntKind.i64.wrap (x66+1))),(8,nP g47 0),(6,nS g85 L10 c21),(4,nB w)]) (w':=w96) (by kernel_rfl) ?_
     intro a102 hF101; clear hF100
     refine wpList_nil ?_
     exact thenN ⟨k67,Nat.lt_succ_self _,atI L10 (IntKind.i64.wrap (3+x66)),x61,x62,x63,x64,x65,IntKind.i64.wrap (x66+1),hF101,hS98,hm93⟩
    have hm103:=ifNot hc92 hm84; clear hm84
    cases hc104:(x66 == 1)
    case true =>
     have hm105:=ifYes hc104 hm103; clear hm103
     refine ev_one (nP g47 4) w69 hF90 (by kernel_rfl) rfl (by kernel_rfl) (run_idxA (q:=1) rfl rfl rfl rfl (congrArg (Value.int .i64) (eq_of_beq hc104)) (by decide) (by decide) (by kernel_rfl) _) (l':=[(43,nP g47 4),(42,nP g47 3),(41,nI (atI L10 (IntKind.i64.wrap (3+x66)))),(40,nP g85 ((IntKind.i64.wrap (3+x66)).toNat)),(39,nI (IntKind.i64.wrap (3+x66))),(38,nI x66),(37,nS g85 L10 c21),(36,nI x66),(9,nI x66),(33,nI x66),(8,nP g47 0),(6,nS g85 L10 c21),(4,nB w)]) (by kernel_rfl) ?_
     intro a107 hF106; clear hF90
     refine ev_store (nI (atI L10 (IntKind.i64.wrap (3+x66)))) #[nI x48,nI x49,nI x50,nI x60,nI (atI L10 (IntKind.i64.wrap (3+x66))),nI x62,nI x63,nI x64,nI x65,nI (-1)] hF106 (by kernel_rfl) rfl rfl rfl rfl (by kernel_rfl) hS71 (by kernel_rfl) (by kernel_rfl) (by kernel_rfl) (l':=[(43,nP g47 4),(42,nP g47 3),(41,nI (atI L10 (IntKind.i64.wrap (3+x66)))),(40,nP g85 ((IntKind.i64.wrap (3+x66)).toNat)),(39,nI (IntKind.i64.wrap (3+x66))),(38,nI x66),(37,nS g85 L10 c21),(36,nI x66),(9,nI x66),(33,nI x66),(8,nP g47 0),(6,nS g85 L10 c21),(4,nB w)]) (by kernel_rfl) ?_
     intro w108 a109 hS110 hF111; clear hF106 hS71
     refine wpList_nil ?_
     have hF112:=hF111.keep [4,6,8,33]
     clear hF111
     refine blockN ?_
     refine thenN (wp_region_lit ?_)
     refine ev_runK 2 hF112 [4,6,8,33] (l':=[(33,nI (IntKind.i64.wrap (x66+1))),(8,nP g47 0),(6,nS g85 L10 c21),(4,nB w)]) (w':=w108) (by kernel_rfl) ?_
     intro a114 hF113; clear hF112
     refine wpList_nil ?_
     exact thenN ⟨k67,Nat.lt_succ_self _,x60,atI L10 (IntKind.i64.wrap (3+x66)),x62,x63,x64,x65,IntKind.i64.wrap (x66+1),hF113,hS110,hm105⟩
    have hm115:=ifNot hc104 hm103; clear hm103
    cases hc116:(x66 == 2)
    case true =>
     have hm117:=ifYes hc116 hm115; clear hm115
     refine ev_one (nP g47 5) w69 hF90 (by kernel_rfl) rfl (by kernel_rfl) (run_idxA (q:=2) rfl rfl rfl rfl (congrArg (Value.int .i64) (eq_of_beq hc116)) (by decide) (by decide) (by kernel_rfl) _) (l':=[(43,nP g47 5),(42,nP g47 3),(41,nI (atI L10 (IntKind.i64.wrap (3+x66)))),(40,nP g85 ((IntKind.i64.wrap (3+x66)).toNat)),(39,nI (IntKind.i64.wrap (3+x66))),(38,nI x66),(37,nS g85 L10 c21),(36,nI x66),(9,nI x66),(33,nI x66),(8,nP g47 0),(6,nS g85 L10 c21),(4,nB w)]) (by kernel_rfl) ?_
     intro a119 hF118; clear hF90
     refine ev_store (nI (atI L10 (IntKind.i64.wrap (3+x66)))) #[nI x48,nI x49,nI x50,nI x60,nI x61,nI (atI L10 (IntKind.i64.wrap (3+x66))),nI x63,nI x64,nI x65,nI (-1)] hF118 (by kernel_rfl) rfl rfl rfl rfl (by kernel_rfl) hS71 (by kernel_rfl) (by kernel_rfl) (by kernel_rfl) (l':=[(43,nP g47 5),(42,nP g47 3),(41,nI (atI L10 (IntKind.i64.wrap (3+x66)))),(40,nP g85 ((IntKind.i64.wrap (3+x66)).toNat)),(39,nI (IntKind.i64.wrap (3+x66))),(38,nI x66),(37,nS g85 L10 c21),(36,nI x66),(9,nI x66),(33,nI x66),(8,nP g47 0),(6,nS g85 L10 c21),(4,nB w)]) (by kernel_rfl) ?_
     intro w120 a121 hS122 hF123; clear hF118 hS71
     refine wpList_nil ?_
     have hF124:=hF123.keep [4,6,8,33]
     clear hF123
     refine blockN ?_
     refine thenN (wp_region_lit ?_)
     refine ev_runK 2 hF124 [4,6,8,33] (l':=[(33,nI (IntKind.i64.wrap (x66+1))),(8,nP g47 0),(6,nS g85 L10 c21),(4,nB w)]) (w':=w120) (by kernel_rfl) ?_
     intro a126 hF125; clear hF124
     refine wpList_nil ?_
     exact thenN ⟨k67,Nat.lt_succ_self _,x60,x61,atI L10 (IntKind.i64.wrap (3+x66)),x63,x64,x65,IntKind.i64.wrap (x66+1),hF125,hS122,hm117⟩
    have hm127:=ifNot hc116 hm115; clear hm115
    cases hc128:(x66 == 3)
    case true =>
     have hm129:=ifYes hc128 hm127; clear hm127
     refine ev_one (nP g47 6) w69 hF90 (by kernel_rfl) rfl (by kernel_rfl) (run_idxA (q:=3) rfl rfl rfl rfl (congrArg (Value.int .i64) (eq_of_beq hc128)) (by decide) (by decide) (by kernel_rfl) _) (l':=[(43,nP g47 6),(42,nP g47 3),(41,nI (atI L10 (IntKind.i64.wrap (3+x66)))),(40,nP g85 ((IntKind.i64.wrap (3+x66)).toNat)),(39,nI (IntKind.i64.wrap (3+x66))),(38,nI x66),(37,nS g85 L10 c21),(36,nI x66),(9,nI x66),(33,nI x66),(8,nP g47 0),(6,nS g85 L10 c21),(4,nB w)]) (by kernel_rfl) ?_
     intro a131 hF130; clear hF90
     refine ev_store (nI (atI L10 (IntKind.i64.wrap (3+x66)))) #[nI x48,nI x49,nI x50,nI x60,nI x61,nI x62,nI (atI L10 (IntKind.i64.wrap (3+x66))),nI x64,nI x65,nI (-1)] hF130 (by kernel_rfl) rfl rfl rfl rfl (by kernel_rfl) hS71 (by kernel_rfl) (by kernel_rfl) (by kernel_rfl) (l':=[(43,nP g47 6),(42,nP g47 3),(41,nI (atI L10 (IntKind.i64.wrap (3+x66)))),(40,nP g85 ((IntKind.i64.wrap (3+x66)).toNat)),(39,nI (IntKind.i64.wrap (3+x66))),(38,nI x66),(37,nS g85 L10 c21),(36,nI x66),(9,nI x66),(33,nI x66),(8,nP g47 0),(6,nS g85 L10 c21),(4,nB w)]) (by kernel_rfl) ?_
     intro w132 a133 hS134 hF135; clear hF130 hS71
     refine wpList_nil ?_
     have hF136:=hF135.keep [4,6,8,33]
     clear hF135
     refine blockN ?_
     refine thenN (wp_region_lit ?_)
     refine ev_runK 2 hF136 [4,6,8,33] (l':=[(33,nI (IntKind.i64.wrap (x66+1))),(8,nP g47 0),(6,nS g85 L10 c21),(4,nB w)]) (w':=w132) (by kernel_rfl) ?_
     intro a138 hF137; clear hF136
     refine wpList_nil ?_
     exact thenN ⟨k67,Nat.lt_succ_self _,x60,x61,x62,atI L10 (IntKind.i64.wrap (3+x66)),x64,x65,IntKind.i64.wrap (x66+1),hF137,hS134,hm129⟩
    have hm139:=ifNot hc128 hm127; clear hm127
    cases hc140:(x66 == 4)
    case true =>
     have hm141:=ifYes hc140 hm139; clear hm139
     refine ev_one (nP g47 7) w69 hF90 (by kernel_rfl) rfl (by kernel_rfl) (run_idxA (q:=4) rfl rfl rfl rfl (congrArg (Value.int .i64) (eq_of_beq hc140)) (by decide) (by decide) (by kernel_rfl) _) (l':=[(43,nP g47 7),(42,nP g47 3),(41,nI (atI L10 (IntKind.i64.wrap (3+x66)))),(40,nP g85 ((IntKind.i64.wrap (3+x66)).toNat)),(39,nI (IntKind.i64.wrap (3+x66))),(38,nI x66),(37,nS g85 L10 c21),(36,nI x66),(9,nI x66),(33,nI x66),(8,nP g47 0),(6,nS g85 L10 c21),(4,nB w)]) (by kernel_rfl) ?_
     intro a143 hF142; clear hF90
     refine ev_store (nI (atI L10 (IntKind.i64.wrap (3+x66)))) #[nI x48,nI x49,nI x50,nI x60,nI x61,nI x62,nI x63,nI (atI L10 (IntKind.i64.wrap (3+x66))),nI x65,nI (-1)] hF142 (by kernel_rfl) rfl rfl rfl rfl (by kernel_rfl) hS71 (by kernel_rfl) (by kernel_rfl) (by kernel_rfl) (l':=[(43,nP g47 7),(42,nP g47 3),(41,nI (atI L10 (IntKind.i64.wrap (3+x66)))),(40,nP g85 ((IntKind.i64.wrap (3+x66)).toNat)),(39,nI (IntKind.i64.wrap (3+x66))),(38,nI x66),(37,nS g85 L10 c21),(36,nI x66),(9,nI x66),(33,nI x66),(8,nP g47 0),(6,nS g85 L10 c21),(4,nB w)]) (by kernel_rfl) ?_
     intro w144 a145 hS146 hF147; clear hF142 hS71
     refine wpList_nil ?_
     have hF148:=hF147.keep [4,6,8,33]
     clear hF147
     refine blockN ?_
     refine thenN (wp_region_lit ?_)
     refine ev_runK 2 hF148 [4,6,8,33] (l':=[(33,nI (IntKind.i64.wrap (x66+1))),(8,nP g47 0),(6,nS g85 L10 c21),(4,nB w)]) (w':=w144) (by kernel_rfl) ?_
     intro a150 hF149; clear hF148
     refine wpList_nil ?_
     exact thenN ⟨k67,Nat.lt_succ_self _,x60,x61,x62,x63,atI L10 (IntKind.i64.wrap (3+x66)),x65,IntKind.i64.wrap (x66+1),hF149,hS146,hm141⟩
    have hm151:=ifNot hc140 hm139; clear hm139
    cases hc152:(x66 == 5)
    case true =>
     have hm153:=ifYes hc152 hm151; clear hm151
     refine ev_one (nP g47 8) w69 hF90 (by kernel_rfl) rfl (by kernel_rfl) (run_idxA (q:=5) rfl rfl rfl rfl (congrArg (Value.int .i64) (eq_of_beq hc152)) (by decide) (by decide) (by kernel_rfl) _) (l':=[(43,nP g47 8),(42,nP g47 3),(41,nI (atI L10 (IntKind.i64.wrap (3+x66)))),(40,nP g85 ((IntKind.i64.wrap (3+x66)).toNat)),(39,nI (IntKind.i64.wrap (3+x66))),(38,nI x66),(37,nS g85 L10 c21),(36,nI x66),(9,nI x66),(33,nI x66),(8,nP g47 0),(6,nS g85 L10 c21),(4,nB w)]) (by kernel_rfl) ?_
     intro a155 hF154; clear hF90
     refine ev_store (nI (atI L10 (IntKind.i64.wrap (3+x66)))) #[nI x48,nI x49,nI x50,nI x60,nI x61,nI x62,nI x63,nI x64,nI (atI L10 (IntKind.i64.wrap (3+x66))),nI (-1)] hF154 (by kernel_rfl) rfl rfl rfl rfl (by kernel_rfl) hS71 (by kernel_rfl) (by kernel_rfl) (by kernel_rfl) (l':=[(43,nP g47 8),(42,nP g47 3),(41,nI (atI L10 (IntKind.i64.wrap (3+x66)))),(40,nP g85 ((IntKind.i64.wrap (3+x66)).toNat)),(39,nI (IntKind.i64.wrap (3+x66))),(38,nI x66),(37,nS g85 L10 c21),(36,nI x66),(9,nI x66),(33,nI x66),(8,nP g47 0),(6,nS g85 L10 c21),(4,nB w)]) (by kernel_rfl) ?_
     intro w156 a157 hS158 hF159; clear hF154 hS71
     refine wpList_nil ?_
     have hF160:=hF159.keep [4,6,8,33]
     clear hF159
     refine blockN ?_
     refine thenN (wp_region_lit ?_)
     refine ev_runK 2 hF160 [4,6,8,33] (l':=[(33,nI (IntKind.i64.wrap (x66+1))),(8,nP g47 0),(6,nS g85 L10 c21),(4,nB w)]) (w':=w156) (by kernel_rfl) ?_
     intro a162 hF161; clear hF160
     refine wpList_nil ?_
     exact thenN ⟨k67,Nat.lt_succ_self _,x60,x61,x62,x63,x64,atI L10 (IntKind.i64.wrap (3+x66)),IntKind.i64.wrap (x66+1),hF161,hS158,hm153⟩
    have hm163:=ifNot hc152 hm151; clear hm151
    exact absurd hm163 (by simp)
   rw [hc76] at hF74
   have hm164:=ifNot hc76 hm73; clear hm73
   refine ev_condF hF74 rfl rfl ?_
   refine wp_exit ?_
   refine thenE ?_
   refine thenE ?_
   refine blockE ?_
   refine thenN (wp_seq (wp_region_lit ?_))
   refine ev_runs 1 hF74 (l':=[(45,.slice p20 L10.length c21),(34,.bool false),(33,nI x66),(8,nP g47 0),(6,.slice p20 L10.length c21),(4,nB w)]) (w':=w69) (by kernel_rfl) ?_
   intro a166 hF165; clear hF74
   obtain ⟨hc167,hm168⟩:=ifTE hm164; clear hm164
   obtain ⟨g169,rfl⟩:=hp22.resolve_left (by have:=inR_spec hc167; omega)
   refine ev_one (nP g169 ((9:Int).toNat)) w69 hF165 (by kernel_rfl) rfl (by kernel_rfl) (run_idx rfl rfl rfl rfl rfl (inR_spec hc167).1 (inR_spec hc167).2 _) (l':=[(46,nP g169 ((9:Int).toNat)),(45,nS g169 L10 c21),(34,.bool false),(33,nI x66),(8,nP g47 0),(6,nS g169 L10 c21),(4,nB w)]) (by kernel_rfl) ?_
   intro a171 hF170; clear hF165
   refine ev_one (nI (atI L10 (9:Int))) w69 hF170 (by kernel_rfl) rfl (by kernel_rfl) (run_load1 rfl rfl rfl (hS71.atI 1 rfl hc167)) (l':=[(47,nI (atI L10 (9:Int))),(46,nP g169 ((9:Int).toNat)),(45,nS g169 L10 c21),(34,.bool false),(33,nI x66),(8,nP g47 0),(6,nS g169 L10 c21),(4,nB w)]) (by kernel_rfl) ?_
   intro a173 hF172; clear hF170
   refine ev_call 48 #[nI (atI L10 (9:Int))] hF172 rfl rfl (by kernel_rfl) rfl (by kernel_rfl) (fun w=>by kernel_rfl) ?_
   obtain ⟨x174,hx175,hm176⟩:=bind1E hm168; clear hm168
   refine (p_vAt hS71 hx175).mono ?_
   rintro _ w177 ⟨rfl,hS179⟩ a178 hF180; clear hF172 hS71
   refine ev_runs 1 hF180 (l':=[(49,nP g47 9),(48,nI x174),(47,nI (atI L10 (9:Int))),(46,nP g169 ((9:Int).toNat)),(45,nS g169 L10 c21),(34,.bool false),(33,nI x66),(8,nP g47 0),(6,nS g169 L10 c21),(4,nB w)]) (w':=w177) (by kernel_rfl) ?_
   intro a182 hF181; clear hF180
   refine ev_store (nI x174) #[nI x48,nI x49,nI x50,nI x60,nI x61,nI x62,nI x63,nI x64,nI x65,nI x174] hF181 (by kernel_rfl) rfl rfl rfl rfl (by kernel_rfl) hS179 (by kernel_rfl) (by kernel_rfl) (by kernel_rfl) (l':=[(49,nP g47 9),(48,nI x174),(47,nI (atI L10 (9:Int))),(46,nP g169 ((9:Int).toNat)),(45,nS g169 L10 c21),(34,.bool false),(33,nI x66),(8,nP g47 0),(6,nS g169 L10 c21),(4,nB w)]) (by kernel_rfl) ?_
   intro w183 a184 hS185 hF186; clear hF181 hS179
   refine wpList_nil ?_
   have hF187:=hF186.keep [4,8]
   clear hF186
   have hS188:=hS185.pick1.drop
   clear hS185
   refine thenN (wp_seq (wp_region_lit ?_))
   refine ev_one (.agg #[nI x48,nI x49,nI x50,nI x60,nI x61,nI x62,nI x63,nI x64,nI x65,nI x174]) w183 hF187 (by kernel_rfl) rfl (by kernel_rfl) (run_loadV rfl rfl (run_loadA (cs:=[nI x48,nI x49,nI x50,nI x60,nI x61,nI x62,nI x63,nI x64,nI x65,nI x174]) rfl rfl (by kernel_rfl) (blk_cells hS188 0 rfl rfl))) (l':=[(50,.agg #[nI x48,nI x49,nI x50,nI x60,nI x61,nI x62,nI x63,nI x64,nI x65,nI x174]),(8,nP g47 0),(4,nB w)]) (by kernel_rfl) ?_
   intro a190 hF189; clear hF187
   have hS191:=hS188.pick2
   clear hS188
   refine ev_store (.agg #[nI x48,nI x49,nI x50,nI x60,nI x61,nI x62,nI x63,nI x64,nI x65,nI x174]) #[nI x48,nI x49,nI x50,nI x60,nI x61,nI x62,nI x63,nI x64,nI x65,nI x174] hF189 (by kernel_rfl) rfl rfl rfl rfl (by kernel_rfl) hS191 (by kernel_rfl) (by kernel_rfl) (by kernel_rfl) (l':=[(50,.agg #[nI x48,nI x49,nI x50,nI x60,nI x61,nI x62,nI x63,nI x64,nI x65,nI x174]),(8,nP g47 0),(4,nB w)]) (by kernel_rfl) ?_
   intro w192 a193 hS194 hF195; clear hF189 hS191
   refine ev_runK 1 hF195 [4,5] (l':=[(5,nI 0),(4,nB w)]) (w':=w192) (by kernel_rfl) ?_
   intro a197 hF196; clear hF195
   refine wpList_nil ?_
   have hS198:=hS194.pick1.drop
   clear hS194
   refine thenN ?_
   refine wp_ret ?_
   have hS199:=hS198.pick1
   clear hS198
   simp only [Option.some.injEq,Prod.mk.injEq] at hm176
   obtain ⟨rfl,rfl,rfl⟩:=hm176
   refine ev_retC hF196 _ [.agg #[nI x48,nI x49,nI x50,nI x60,nI x61,nI x62,nI x63,nI x64,nI x65,nI x174],nI 0] (.tuple #[.agg #[nI x48,nI x49,nI x50,nI x60,nI x61,nI x62,nI x63,nI x64,nI x65,nI x174],nI 0]) rfl ⟨⟨rfl,_,rfl,(run_loadA (cs:=[nI x48,nI x49,nI x50,nI x60,nI x61,nI x62,nI x63,nI x64,nI x65,nI x174]) rfl rfl (by kernel_rfl) (blk_cells hS199 1 rfl rfl))⟩,⟨rfl,rfl⟩,trivial⟩ rfl ?_
   have hS203:=hS199.pick1.drop
   clear hS199
   exact ⟨rfl,hS203⟩
 · skip
   obtain ⟨hc204,hm205⟩:=ifTE hm45; clear hm45
   obtain ⟨g206,rfl⟩:=hp22.resolve_left (by have:=inR_spec hc204; omega)
   obtain ⟨hc207,hm208⟩:=ifTE hm205; clear hm205
   obtain ⟨hc209,hm210⟩:=ifTE hm208; clear hm208
   have hS211:=hS16.pick1
   clear hS16
   have hS212:=hS211.drew; clear hS211
   refine any_start (fun wS=>∃ qs,St w0 F0 (RowP (nS g206 L10 c21) L10::qs) wS) 15 #[false,false,false,false,false,false,false,false,false,false,false,false,false,false,false] (by kernel_rfl) (by kernel_rfl) (by kernel_rfl) ?_
   refine any_many 9 [(0,some (nS g206 L10 c21)),(1,some (nP g206 ((0:Int).toNat))),(2,some (nI (atI L10 (0:Int)))),(4,some (nS g206 L10 c21)),(5,some (nP g206 ((1:Int).toNat))),(6,some (nI (atI L10 (1:Int)))),(8,some (nS g206 L10 c21)),(9,some (nP g206 ((2:Int).toNat))),(10,some (nI (atI L10 (2:Int))))] [4,6,8,22,23,26,27,30,31,32] #[true,true,true,false,true,true,true,false,true,true,true,false,false,false,false] (by rfl) hF46 (by kernel_rfl) (by kernel_rfl) (by exact ⟨fun wS hw=>by kernel_rfl,fun wS hw=>run_idx rfl rfl rfl rfl rfl (inR_spec hc204).1 (inR_spec hc204).2 _,fun wS hw=>run_load1 rfl rfl rfl (hw.elim fun qs hw=>hw.atI 0 rfl hc204),fun wS hw=>by kernel_rfl,fun wS hw=>run_idx rfl rfl rfl rfl rfl (inR_spec hc207).1 (inR_spec hc207).2 _,fun wS hw=>run_load1 rfl rfl rfl (hw.elim fun qs hw=>hw.atI 0 rfl hc207),fun wS hw=>by kernel_rfl,fun wS hw=>run_idx rfl rfl rfl rfl rfl (inR_spec hc209).1 (inR_spec hc209).2 _,fun wS hw=>run_load1 rfl rfl rfl (hw.elim fun qs hw=>hw.atI 0 rfl hc209),trivial⟩) (fun _ _ _ _ _ h=>h) ⟨_,hS212⟩ (l':=[(30,nI (atI L10 (2:Int))),(26,nI (atI L10 (1:Int))),(22,nI (atI L10 (0:Int))),(6,nS g206 L10 c21),(4,nB w)]) (by kernel_rfl) ?_
   intro a214 hF213; clear hF46
   refine any_two 3 13 (by kernel_rfl) ?_ ?_
   · skip
     refine op_call 3 #[true,true,true,true,true,true,true,false,true,true,true,false,false,false,false] 69 #[nI (atI L10 (0:Int))] hF213 rfl rfl rfl (by kernel_rfl) rfl (by kernel_rfl) (fun w=>by kernel_rfl) (by kernel_rfl) ?_
     obtain ⟨x215,hx216,hm217⟩:=bind1E hm210; clear hm210
     refine (p_vNum hS212 hx216).mono ?_
     rintro _ w218 ⟨rfl,hS220⟩; clear hS212
     refine ⟨⟨_,hS220⟩,?_⟩
     intro a219 hF221; clear hF213
     refine any_two 7 13 (by kernel_rfl) ?_ ?_
     · skip
       refine op_call 7 #[true,true,true,true,true,true,true,true,true,true,true,false,false,false,false] 69 #[nI (atI L10 (1:Int))] hF221 rfl rfl rfl (by kernel_rfl) rfl (by kernel_rfl) (fun w=>by kernel_rfl) (by kernel_rfl) ?_
       obtain ⟨x222,hx223,hm224⟩:=bind1E hm217; clear hm217
       refine (p_vNum hS220 hx223).mono ?_
       rintro _ w225 ⟨rfl,hS227⟩; clear hS220
       refine ⟨⟨_,hS227⟩,?_⟩
       intro a226 hF228; clear hF221
       refine any_two 11 13 (by kernel_rfl) ?_ ?_
       · skip
         refine op_call 11 #[true,true,true,true,true,true,true,true,true,true,true,true,false,false,false] 69 #[nI (atI L10 (2:Int))] hF228 rfl rfl rfl (by kernel_rfl) rfl (by kernel_rfl) (fun w=>by kernel_rfl) (by kernel_rfl) ?_
         obtain ⟨x229,hx230,hm231⟩:=bind1E hm224; clear hm224
         refine (p_vNum hS227 hx230).mono ?_
         rintro _ w232 ⟨rfl,hS234⟩; clear hS227
         refine ⟨⟨_,hS234⟩,?_⟩
         intro a233 hF235; clear hF228
         refine any_many 1 [(12,some (.agg #[nI x215,nI x222,nI x229,nI 0,nI 0,nI 0,nI 0,nI 0,nI 0,nI (-1)]))] [4,6,8,32] #[true,true,true,true,true,true,true,true,true,true,true,true,true,false,false] (by rfl) hF235 (by kernel_rfl) (by kernel_rfl) (by exact ⟨fun wS hw=>by kernel_rfl,trivial⟩) (fun _ _ _ _ _ h=>h) ⟨_,hS234⟩ (l':=[(32,.agg #[nI x215,nI x222,nI x229,nI 0,nI 0,nI 0,nI 0,nI 0,nI 0,nI (-1)]),(6,nS g206 L10 c21),(4,nB w)]) (by kernel_rfl) ?_
         intro a237 hF236; clear hF235
         refine any_one 13 (by kernel_rfl) ?_
         have hS238:St w0 F0 (BlkP (w232.heap.size) 55 #[nI 0,nI 0,nI 0,nI 0,nI 0,nI 0,nI 0,nI 0,nI 0,nI 0]::RowP (nS g206 L10 c21) L10::HeapP b0 ab0 s0::BlkP (w.heap.size) 55 #[nI 0,nI 0,nI 0,nI 0,nI 0,nI 0,nI 0,nI 0,nI 0,nI 0]::ps) (w232.alloc (.cells #[nI 0,nI 0,nI 0,nI 0,nI 0,nI 0,nI 0,nI 0,nI 0,nI 0] 55)):=St.new hS234 #[nI 0,nI 0,nI 0,nI 0,nI 0,nI 0,nI 0,nI 0,nI 0,nI 0] 55
         clear hS234
         refine op_step 13 #[true,true,true,true,true,true,true,true,true,true,true,true,true,true,false] (nB w232) (w232.alloc (.cells #[nI 0,nI 0,nI 0,nI 0,nI 0,nI 0,nI 0,nI 0,nI 0,nI 0] 55)) hF236 rfl (by kernel_rfl) rfl (by kernel_rfl) (by kernel_rfl) (l':=[(8,nB w232),(32,.agg #[nI x215,nI x222,nI x229,nI 0,nI 0,nI 0,nI 0,nI 0,nI 0,nI (-1)]),(6,nS g206 L10 c21),(4,nB w)]) (by kernel_rfl) ⟨_,hS238.pick1⟩ (by kernel_rfl) ?_
         intro a240 hF239; clear hF236
         refine any_one 14 (by kernel_rfl) ?_
         refine op_store 14 #[true,true,true,true,true,true,true,true,true,true,true,true,true,true,true] (.agg #[nI x215,nI x222,nI x229,nI 0,nI 0,nI 0,nI 0,nI 0,nI 0,nI (-1)]) #[nI x215,nI x222,nI x229,nI 0,nI 0,nI 0,nI 0,nI 0,nI 0,nI (-1)] hF239 rfl (by kernel_rfl) rfl rfl rfl rfl (by kernel_rfl) hS238 (by kernel_rfl) (by kernel_rfl) (by kernel_rfl) (l':=[(8,nB w232),(32,.agg #[nI x215,nI x222,nI x229,nI 0,nI 0,nI 0,nI 0,nI 0,nI 0,nI (-1)]),(6,nS g206 L10 c21),(4,nB w)]) (by kernel_rfl) (by kernel_rfl) ?_
         intro w241 a242 hS243 hF244; clear hF239 hS238
         refine ⟨⟨_,hS243.pick1⟩,?_⟩
         refine any_done (by kernel_rfl) ?_
         have hF245:=hF244.keep [4,6,8]
         clear hF244
         exact thenN ⟨(w232.heap.size),x215,x222,x229,hF245,hS243,hm231⟩
       · skip
         have hS246:St w0 F0 (BlkP (w225.heap.size) 55 #[nI 0,nI 0,nI 0,nI 0,nI 0,nI 0,nI 0,nI 0,nI 0,nI 0]::RowP (nS g206 L10 c21) L10::HeapP b0 ab0 s0::BlkP (w.heap.size) 55 #[nI 0,nI 0,nI 0,nI 0,nI 0,nI 0,nI 0,nI 0,nI 0,nI 0]::ps) (w225.alloc (.cells #[nI 0,nI 0,nI 0,nI 0,nI 0,nI 0,nI 0,nI 0,nI 0,nI 0] 55)):=St.new hS227 #[nI 0,nI 0,nI 0,nI 0,nI 0,nI 0,nI 0,nI 0,nI 0,nI 0] 55
         clear hS227
         refine op_step 13 #[true,true,true,true,true,true,true,true,true,true,true,false,false,true,false] (nB w225) (w225.alloc (.cells #[nI 0,nI 0,nI 0,nI 0,nI 0,nI 0,nI 0,nI 0,nI 0,nI 0] 55)) hF228 rfl (by kernel_rfl) rfl (by kernel_rfl) (by kernel_rfl) (l':=[(8,nB w225),(27,nI x222),(23,nI x215),(30,nI (atI L10 (2:Int))),(26,nI (atI L10 (1:Int))),(22,nI (atI L10 (0:Int))),(6,nS g206 L10 c21),(4,nB w)]) (by kernel_rfl) ⟨_,hS246.pick1⟩ (by kernel_rfl) ?_
         intro a248 hF247; clear hF228
         refine any_call 11 #[true,true,true,true,true,true,true,true,true,true,true,true,false,true,false] 69 #[nI (atI L10 (2:Int))] hF247 rfl (by kernel_rfl) rfl rfl (by kernel_rfl) rfl (by kernel_rfl) (fun w=>by kernel_rfl) (by kernel_rfl) ?_
         obtain ⟨x249,hx250,hm251⟩:=bind1E hm224; clear hm224
         refine (p_vNum hS246 hx250).mono ?_
         rintro _ w252 ⟨rfl,hS254⟩; clear hS246
         refine ⟨⟨_,hS254.pick1⟩,?_⟩
         intro a253 hF255; clear hF247
         refine any_many 1 [(12,some (.agg #[nI x215,nI x222,nI x249,nI 0,nI 0,nI 0,nI 0,nI 0,nI 0,nI (-1)]))] [4,6,8,32] #[true,true,true,true,true,true,true,true,true,true,true,true,true,true,false] (by rfl) hF255 (by kernel_rfl) (by kernel_rfl) (by exact ⟨fun wS hw=>by kernel_rfl,trivial⟩) (fun _ _ _ _ _ h=>h) ⟨_,hS254.pick1⟩ (l':=[(32,.agg #[nI x215,nI x222,nI x249,nI 0,nI 0,nI 0,nI 0,nI 0,nI 0,nI (-1)]),(8,nB w225),(6,nS g206 L10 c21),(4,nB w)]) (by kernel_rfl) ?_
         intro a257 hF256; clear hF255
         refine any_one 14 (by kernel_rfl) ?_
         refine op_store 14 #[true,true,true,true,true,true,true,true,true,true,true,true,true,true,true] (.agg #[nI x215,nI x222,nI x249,nI 0,nI 0,nI 0,nI 0,nI 0,nI 0,nI (-1)]) #[nI x215,nI x222,nI x249,nI 0,nI 0,nI 0,nI 0,nI 0,nI 0,nI (-1)] hF256 rfl (by kernel_rfl) rfl rfl rfl rfl (by kernel_rfl) hS254 (by kernel_rfl) (by kernel_rfl) (by kernel_rfl) (l':=[(32,.agg #[nI x215,nI x222,nI x249,nI 0,nI 0,nI 0,nI 0,nI 0,nI 0,nI (-1)]),(8,nB w225),(6,nS g206 L10 c21),(4,nB w)]) (by kernel_rfl) (by kernel_rfl) ?_
         intro w258 a259 hS260 hF261; clear hF256 hS254
         refine ⟨⟨_,hS260.pick1⟩,?_⟩
         refine any_done (by kernel_rfl) ?_
         have hF262:=hF261.keep [4,6,8]
         clear hF261
         exact thenN ⟨(w225.heap.size),x215,x222,x249,hF262,hS260,hm251⟩
     · skip
       have hS263:St w0 F0 (BlkP (w218.heap.size) 55 #[nI 0,nI 0,nI 0,nI 0,nI 0,nI 0,nI 0,nI 0,nI 0,nI 0]::RowP (nS g206 L10 c21) L10::HeapP b0 ab0 s0::BlkP (w.heap.size) 55 #[nI 0,nI 0,nI 0,nI 0,nI 0,nI 0,nI 0,nI 0,nI 0,nI 0]::ps) (w218.alloc (.cells #[nI 0,nI 0,nI 0,nI 0,nI 0,nI 0,nI 0,nI 0,nI 0,nI 0] 55)):=St.new hS220 #[nI 0,nI 0,nI 0,nI 0,nI 0,nI 0,nI 0,nI 0,nI 0,nI 0] 55
       clear hS220
       refine op_step 13 #[true,true,true,true,true,true,true,false,true,true,true,false,false,true,false] (nB w218) (w218.alloc (.cells #[nI 0,nI 0,nI 0,nI 0,nI 0,nI 0,nI 0,nI 0,nI 0,nI 0] 55)) hF221 rfl (by kernel_rfl) rfl (by kernel_rfl) (by kernel_rfl) (l':=[(8,nB w218),(23,nI x215),(30,nI (atI L10 (2:Int))),(26,nI (atI L10 (1:Int))),(22,nI (atI L10 (0:Int))),(6,nS g206 L10 c21),(4,nB w)]) (by kernel_rfl) ⟨_,hS263.pick1⟩ (by kernel_rfl) ?_
       intro a265 hF264; clear hF221
       refine any_call 7 #[true,true,true,true,true,true,true,true,true,true,true,false,false,true,false] 69 #[nI (atI L10 (1:Int))] hF264 rfl (by kernel_rfl) rfl rfl (by kernel_rfl) rfl (by kernel_rfl) (fun w=>by kernel_rfl) (by kernel_rfl) ?_
       obtain ⟨x266,hx267,hm268⟩:=bind1E hm217; clear hm217
       refine (p_vNum hS263 hx267).mono ?_
       rintro _ w269 ⟨rfl,hS271⟩; clear hS263
       refine ⟨⟨_,hS271.pick1⟩,?_⟩
       intro a270 hF272; clear hF264
       refine any_call 11 #[true,true,true,true,true,true,true,true,true,true,true,true,false,true,false] 69 #[nI (atI L10 (2:Int))] hF272 rfl (by kernel_rfl) rfl rfl (by kernel_rfl) rfl (by kernel_rfl) (fun w=>by kernel_rfl) (by kernel_rfl) ?_
       obtain ⟨x273,hx274,hm275⟩:=bind1E hm268; clear hm268
       refine (p_vNum hS271 hx274).mono ?_
       rintro _ w276 ⟨rfl,hS278⟩; clear hS271
       refine ⟨⟨_,hS278.pick1⟩,?_⟩
       intro a277 hF279; clear hF272
       refine any_many 1 [(12,some (.agg #[nI x215,nI x266,nI x273,nI 0,nI 0,nI 0,nI 0,nI 0,nI 0,nI (-1)]))] [4,6,8,32] #[true,true,true,true,true,true,true,true,true,true,true,true,true,true,false] (by rfl) hF279 (by kernel_rfl) (by kernel_rfl) (by exact ⟨fun wS hw=>by kernel_rfl,trivial⟩) (fun _ _ _ _ _ h=>h) ⟨_,hS278.pick1⟩ (l':=[(32,.agg #[nI x215,nI x266,nI x273,nI 0,nI 0,nI 0,nI 0,nI 0,nI 0,nI (-1)]),(8,nB w218),(6,nS g206 L10 c21),(4,nB w)]) (by kernel_rfl) ?_
       intro a281 hF280; clear hF279
       refine any_one 14 (by kernel_rfl) ?_
       refine op_store 14 #[true,true,true,true,true,true,true,true,true,true,true,true,true,true,true] (.agg #[nI x215,nI x266,nI x273,nI 0,nI 0,nI 0,nI 0,nI 0,nI 0,nI (-1)]) #[nI x215,nI x266,nI x273,nI 0,nI 0,nI 0,nI 0,nI 0,nI 0,nI (-1)] hF280 rfl (by kernel_rfl) rfl rfl rfl rfl (by kernel_rfl) hS278 (by kernel_rfl) (by kernel_rfl) (by kernel_rfl) (l':=[(32,.agg #[nI x215,nI x266,nI x273,nI 0,nI 0,nI 0,nI 0,nI 0,nI 0,nI (-1)]),(8,nB w218),(6,nS g206 L10 c21),(4,nB w)]) (by kernel_rfl) (by kernel_rfl) ?_
       intro w282 a283 hS284 hF285; clear hF280 hS278
       refine ⟨⟨_,hS284.pick1⟩,?_⟩
       refine any_done (by kernel_rfl) ?_
       have hF286:=hF285.keep [4,6,8]
       clear hF285
       exact thenN ⟨(w218.heap.size),x215,x266,x273,hF286,hS284,hm275⟩
   · skip
     have hS287:St w0 F0 (BlkP ((w14.drew).heap.size) 55 #[nI 0,nI 0,nI 0,nI 0,nI 0,nI 0,nI 0,nI 0,nI 0,nI 0]::RowP (nS g206 L10 c21) L10::HeapP b0 ab0 s0::BlkP (w.heap.size) 55 #[nI 0,nI 0,nI 0,nI 0,nI 0,nI 0,nI 0,nI 0,nI 0,nI 0]::ps) ((w14.drew).alloc (.cells #[nI 0,nI 0,nI 0,nI 0,nI 0,nI 0,nI 0,nI 0,nI 0,nI 0] 55)):=St.new hS212 #[nI 0,nI 0,nI 0,nI 0,nI 0,nI 0,nI 0,nI 0,nI 0,nI 0] 55
     clear hS212
     refine op_step 13 #[true,true,true,false,true,true,true,false,true,true,true,false,false,true,false] (nB (w14.drew)) ((w14.drew).alloc (.cells #[nI 0,nI 0,nI 0,nI 0,nI 0,nI 0,nI 0,nI 0,nI 0,nI 0] 55)) hF213 rfl (by kernel_rfl) rfl (by kernel_rfl) (by kernel_rfl) (l':=[(8,nB (w14.drew)),(30,nI (atI L10 (2:Int))),(26,nI (atI L10 (1:Int))),(22,nI (atI L10 (0:Int))),(6,nS g206 L10 c21),(4,nB w)]) (by kernel_rfl) ⟨_,hS287.pick1⟩ (by kernel_rfl) ?_
     intro a289 hF288; clear hF213
     refine any_call 3 #[true,true,true,true,true,true,true,false,true,true,true,false,false,true,false] 69 #[nI (atI L10 (0:Int))] hF288 rfl (by kernel_rfl) rfl rfl (by kernel_rfl) rfl (by kernel_rfl) (fun w=>by kernel_rfl) (by kernel_rfl) ?_
     obtain ⟨x290,hx291,hm292⟩:=bind1E hm210; clear hm210
     refine (p_vNum hS287 hx291).mono ?_
     rintro _ w293 ⟨rfl,hS295⟩; clear hS287
     refine ⟨⟨_,hS295.pick1⟩,?_⟩
     intro a294 hF296; clear hF288
     refine any_call 7 #[true,true,true,true,true,true,true,true,true,true,true,false,false,true,false] 69 #[nI (atI L10 (1:Int))] hF296 rfl (by kernel_rfl) rfl rfl (by kernel_rfl) rfl (by kernel_rfl) (fun w=>by kernel_rfl) (by kernel_rfl) ?_
     obtain ⟨x297,hx298,hm299⟩:=bind1E hm292; clear hm292
     refine (p_vNum hS295 hx298).mono ?_
     rintro _ w300 ⟨rfl,hS302⟩; clear hS295
     refine ⟨⟨_,hS302.pick1⟩,?_⟩
     intro a301 hF303; clear hF296
     refine any_call 11 #[true,true,true,true,true,true,true,true,true,true,true,true,false,true,false] 69 #[nI (atI L10 (2:Int))] hF303 rfl (by kernel_rfl) rfl rfl (by kernel_rfl) rfl (by kernel_rfl) (fun w=>by kernel_rfl) (by kernel_rfl) ?_
     obtain ⟨x304,hx305,hm306⟩:=bind1E hm299; clear hm299
     refine (p_vNum hS302 hx305).mono ?_
     rintro _ w307 ⟨rfl,hS309⟩; clear hS302
     refine ⟨⟨_,hS309.pick1⟩,?_⟩
     intro a308 hF310; clear hF303
     refine any_many 1 [(12,some (.agg #[nI x290,nI x297,nI x304,nI 0,nI 0,nI 0,nI 0,nI 0,nI 0,nI (-1)]))] [4,6,8,32] #[true,true,true,true,true,true,true,true,true,true,true,true,true,true,false] (by rfl) hF310 (by kernel_rfl) (by kernel_rfl) (by exact ⟨fun wS hw=>by kernel_rfl,trivial⟩) (fun _ _ _ _ _ h=>h) ⟨_,hS309.pick1⟩ (l':=[(32,.agg #[nI x290,nI x297,nI x304,nI 0,nI 0,nI 0,nI 0,nI 0,nI 0,nI (-1)]),(8,nB (w14.drew)),(6,nS g206 L10 c21),(4,nB w)]) (by kernel_rfl) ?_
     intro a312 hF311; clear hF310
     refine any_one 14 (by kernel_rfl) ?_
     refine op_store 14 #[true,true,true,true,true,true,true,true,true,true,true,true,true,true,true] (.agg #[nI x290,nI x297,nI x304,nI 0,nI 0,nI 0,nI 0,nI 0,nI 0,nI (-1)]) #[nI x290,nI x297,nI x304,nI 0,nI 0,nI 0,nI 0,nI 0,nI 0,nI (-1)] hF311 rfl (by kernel_rfl) rfl rfl rfl rfl (by kernel_rfl) hS309 (by kernel_rfl) (by kernel_rfl) (by kernel_rfl) (l':=[(32,.agg #[nI x290,nI x297,nI x304,nI 0,nI 0,nI 0,nI 0,nI 0,nI 0,nI (-1)]),(8,nB (w14.drew)),(6,nS g206 L10 c21),(4,nB w)]) (by kernel_rfl) (by kernel_rfl) ?_
     intro w313 a314 hS315 hF316; clear hF311 hS309
     refine ⟨⟨_,hS315.pick1⟩,?_⟩
     refine any_done (by kernel_rfl) ?_
     have hF317:=hF316.keep [4,6,8]
     clear hF316
     exact thenN ⟨((w14.drew).heap.size),x290,x297,x304,hF317,hS315,hm306⟩
end Go.Proofs.Ytjdlnmbfomojdaa
namespace Go.Proofs.Ytjdlnmbfomojdaa
open Go.RowKit
set_option linter.unusedVariables false
def law11_both.j4 (x54:Int) (rec57:HSt→HSt→Int→Option (HSt×HSt)) (s78:HSt) (s94:HSt) (y103:Bool):Option (HSt×HSt):=(if (y103) then none else rec57 s78 s94 (IntKind.i64.wrap (x54+1)))
def law11_both.l3b (rec57:HSt→HSt→Int→Option (HSt×HSt)) (s52:HSt) (s53:HSt) (x54:Int):Option (HSt×HSt):=(if (decide (x54<4)) then (if (inR x54 ([1,3,4,5]).length) then (if (inR x54 ([9,7,10,2]).length) then bind3 (pAlloc (atI [1,3,4,5] x54) (atI [9,7,10,2] x54) s52) fun x76 x77 s78=>bind3 (pAlloc (atI [1,3,4,5] x54) (atI [9,7,10,2] x54) s53) fun x92 x93 s94=>(if (x76 != x92) then law11_both.j4 x54 rec57 s78 s94 true else law11_both.j4 x54 rec57 s78 s94 (x77 != x93)) else none) else none) else some (s52,s53))
def law11_both.l3:Nat→HSt→HSt→Int→Option (HSt×HSt)
  | 0=>fun _ _ _=>none
  | kI+1=>law11_both.l3b (law11_both.l3 kI)
def law11_both.m (k:Nat):Option (HSt×HSt):=bind1 (pNew 4) fun s3=>bind1 (prNew 4) fun s15=>law11_both.l3 k s3 s15 0
set_option maxRecDepth 100000 in
set_option maxHeartbeats 1500000 in
theorem law11_both.ok {w0 w:World} {F0:List Nat} {ps:List Piece} {k:Nat}  {r0:HSt} {r1:HSt} (hS:St w0 F0 (ps) w) (hm:law11_both.m k=some (r0,r1)) :
    Calls Try.prog 19 #[.bool false] w fun e w'=>∃ br0 abr0 br1 abr1 sbr1 gr1 cbr1,e=.returned (.tuple #[.pointer (some ⟨br0,0,none⟩),.pointer (some ⟨br1,0,none⟩)])∧St w0 F0 (HeapP br0 abr0 r0::RHeapP br1 abr1 sbr1 gr1 cbr1 r1::ps) w':=by
 refine ev_enterL 77 [.bool false] Try.func19 rfl rfl (by simp) ?_
 intro a hF
 have hF0:Fr 77 a [(0,.bool false)]:=hF; clear hF
 unfold law11_both.m at hm
 refine wp_seq (wp_region_lit ?_)
 refine ev_runK 2 hF0 [0] (l':=[(0,.bool false)]) (w':=w) (by kernel_rfl) ?_
 intro a2 hF1; clear hF0
 refine wpList_nil (thenN (wp_seq (wp_region_lit ?_)))
 refine ev_call 8 #[nI 4] hF1 rfl rfl (by kernel_rfl) rfl (by kernel_rfl) (fun w=>by kernel_rfl) ?_
 obtain ⟨s3,hx4,hm5⟩:=bind1E hm; clear hm
 refine (p_New hS hx4).mono ?_
 rintro _ w6 ⟨z10,z11,rfl,hS8⟩ a7 hF9; clear hF1 hS
 refine ev_runK 5 hF9 [0,4] (l':=[(4,nP z10 0),(0,.bool false)]) (w':=w6) (by kernel_rfl) ?_
 intro a14 hF13; clear hF9
 refine wpList_nil (thenN (wp_seq (wp_region_lit ?_)))
 refine ev_call 59 #[nI 4] hF13 rfl rfl (by kernel_rfl) rfl (by kernel_rfl) (fun w=>by kernel_rfl) ?_
 obtain ⟨s15,hx16,hm17⟩:=bind1E hm5; clear hm5
 refine (q_New hS8 hx16).mono ?_
 rintro _ w18 ⟨z22,z23,z24,z25,z26,rfl,hS20⟩ a19 hF21; clear hF13 hS8
 refine ev_runK 5 hF21 [0,4,6] (l':=[(6,nP z22 0),(4,nP z10 0),(0,.bool false)]) (w':=w18) (by kernel_rfl) ?_
 intro a29 hF28; clear hF21
 refine wpList_nil (thenN (wp_seq (wp_seq (wp_region_lit ?_))))
 refine ev_runs 4 hF28 (l':=[(26,nP z10 0),(25,.bool false),(24,.bool false),(23,nP z10 0),(6,nP z22 0),(4,nP z10 0),(0,.bool false)]) (w':=w18) (by kernel_rfl) ?_
 intro a31 hF30; clear hF28
 have hS32:=hS20.pick1
 clear hS20
 refine ev_call 10 #[nP z10 0] hF30 rfl rfl (by kernel_rfl) rfl (by kernel_rfl) (fun w=>by kernel_rfl) ?_
 refine (p_Arena hS32).mono ?_
 rintro _ w33 ⟨rfl,hS35⟩ a34 hF36; clear hF30 hS32
 refine ev_runK 2 hF36 [0,4,6,29] (l':=[(29,.bool false),(6,nP z22 0),(4,nP z10 0),(0,.bool false)]) (w':=w33) (by kernel_rfl) ?_
 intro a38 hF37; clear hF36
 refine wpList_nil (thenN ?_)
 refine ev_condF hF37 rfl rfl ?_
 refine wp_skip ?_
 have hF39:=hF37.keep [0,4,6]
 clear hF37
 refine thenN (wp_seq (wp_region_lit ?_))
 refine ev_runs 1 hF39 (l':=[(30,.slice (some ⟨w33.heap.size,0,none⟩) 4 4),(6,nP z22 0),(4,nP z10 0),(0,.bool false)]) (w':=w33.alloc (.cells #[nI 1,nI 3,nI 4,nI 5] 3)) (by kernel_rfl) ?_
 intro a41 hF40; clear hF39
 have hS43:St w0 F0 (RowP (.slice (some ⟨w33.heap.size,0,none⟩) 4 4) [1,3,4,5]::HeapP z10 z11 s3::RHeapP z22 z23 z24 z25 z26 s15::ps) (w33.alloc (.cells #[nI 1,nI 3,nI 4,nI 5] 3)):=St.lit hS35 [1,3,4,5] (by unfold maxLen; simp)
 clear hS35
 refine ev_runs 1 hF40 (l':=[(31,.slice (some ⟨(w33.alloc (.cells #[nI 1,nI 3,nI 4,nI 5] 3)).heap.size,0,none⟩) 4 4),(30,.slice (some ⟨w33.heap.size,0,none⟩) 4 4),(6,nP z22 0),(4,nP z10 0),(0,.bool false)]) (w':=(w33.alloc (.cells #[nI 1,nI 3,nI 4,nI 5] 3)).alloc (.cells #[nI 9,nI 7,nI 10,nI 2] 3)) (by kernel_rfl) ?_
 intro a45 hF44; clear hF40
 have hS47:St w0 F0 (RowP (.slice (some ⟨(w33.alloc (.cells #[nI 1,nI 3,nI 4,nI 5] 3)).heap.size,0,none⟩) 4 4) [9,7,10,2]::RowP (.slice (some ⟨w33.heap.size,0,none⟩) 4 4) [1,3,4,5]::HeapP z10 z11 s3::RHeapP z22 z23 z24 z25 z26 s15::ps) ((w33.alloc (.cells #[nI 1,nI 3,nI 4,nI 5] 3)).alloc (.cells #[nI 9,nI 7,nI 10,nI 2] 3)):=St.lit hS43 [9,7,10,2] (by unfold maxLen; simp)
 clear hS43
 refine ev_runK 2 hF44 [0,4,6,8,9] (l':=[(9,.slice (some ⟨(w33.alloc (.cells #[nI 1,nI 3,nI 4,nI 5] 3)).heap.size,0,none⟩) 4 4),(8,.slice (some ⟨w33.heap.size,0,none⟩) 4 4),(6,nP z22 0),(4,nP z10 0),(0,.bool false)]) (w':=(w33.alloc (.cells #[nI 1,nI 3,nI 4,nI 5] 3)).alloc (.cells #[nI 9,nI 7,nI 10,nI 2] 3)) (by kernel_rfl) ?_
 intro a49 hF48; clear hF44
 refine wpList_nil (thenN (wp_seq (wp_seq (wp_region_lit ?_))))
 refine ev_runs 1 hF48 (l':=[(10,nI 0),(9,.slice (some ⟨(w33.alloc (.cells #[nI 1,nI 3,nI 4,nI 5] 3)).heap.size,0,none⟩) 4 4),(8,.slice (some ⟨w33.heap.size,0,none⟩) 4 4),(6,nP z22 0),(4,nP z10 0),(0,.bool false)]) (w':=(w33.alloc (.cells #[nI 1,nI 3,nI 4,nI 5] 3)).alloc (.cells #[nI 9,nI 7,nI 10,nI 2] 3)) (by kernel_rfl) ?_
 intro a51 hF50; clear hF48
 refine wpList_nil (thenN ?_)
 refine wp_block ?_
 refine wp_loop_ghost (fun kI aI wI=>∃ (s52:HSt) (s53:HSt) (x54:Int),Fr 77 aI [(10,nI x54),(9,.slice (some ⟨(w33.alloc (.cells #[nI 1,nI 3,nI 4,nI 5] 3)).heap.size,0,none⟩) 4 4),(8,.slice (some ⟨w33.heap.size,0,none⟩) 4 4),(6,nP z22 0),(4,nP z10 0),(0,.bool false)]∧St w0 F0 (RowP (.slice (some ⟨(w33.alloc (.cells #[nI 1,nI 3,nI 4,nI 5] 3)).heap.size,0,none⟩) 4 4) [9,7,10,2]::RowP (.slice (some ⟨w33.heap.size,0,none⟩) 4 4) [1,3,4,5]::HeapP z10 z11 s52::RHeapP z22 z23 z24 z25 z26 s53::ps) wI∧law11_both.l3 kI s52 s53 x54=some (r0,r1)) k ⟨s3,s15,0,hF50,hS47,hm17⟩ ?_
 rintro k55 a56 w57 ⟨s52,s53,x54,hF58,hS59,hm60⟩
 clear hF50 hS47 hm17
 rcases k55 with _ | k55
 · cases hm60
 have hm61:law11_both.l3b (law11_both.l3 k55) s52 s53 x54=some (r0,r1):=hm60
 clear hm60
 unfold law11_both.l3b at hm61
 refine wp_seq (wp_seq (wp_region_lit ?_))
 refine ev_runK 2 hF58 [0,4,6,8,9,10,33] (l':=[(33,.bool (decide (x54<4))),(10,nI x54),(9,.slice (some ⟨(w33.alloc (.cells #[nI 1,nI 3,nI 4,nI 5] 3)).heap.size,0,none⟩) 4 4),(8,.slice (some ⟨w33.heap.size,0,none⟩) 4 4),(6,nP z22 0),(4,nP z10 0),(0,.bool false)]) (w':=w57) (by kernel_rfl) ?_
 intro a63 hF62; clear hF58
 refine wpList_nil (thenN ?_)
 cases hc64:(decide (x54<4))
 case true =>
  rw [hc64] at hF62
  have hm65:=ifYes hc64 hm61; clear hm61
  refine ev_condT hF62 rfl rfl ?_
  refine wp_skip ?_
  have hF66:=hF62.keep [0,4,6,8,9,10]
  clear hF62
  refine thenN (wp_seq ?_)
  refine wp_block ?_
  refine wp_seq ?_
  obtain ⟨hc67,hm68⟩:=ifTE hm65; clear hm65
  obtain ⟨hc69,hm70⟩:=ifTE hm68; clear hm68
  have hS71:=hS59.pick1
  clear hS59
  have hS72:=hS71.drew; clear hS71
  refine any_start (fun wS=>∃ qs,St w0 F0 (RowP (.slice (some ⟨w33.heap.size,0,none⟩) 4 4) [1,3,4,5]::RowP (.slice (some ⟨(w33.alloc (.cells #[nI 1,nI 3,nI 4,nI 5] 3)).heap.size,0,none⟩) 4 4) [9,7,10,2]::qs) wS) 15 #[false,false,false,false,false,false,false,false,false,false,false,false,false,false,false] (by kernel_rfl) (by kernel_rfl) (by kernel_rfl) ?_
  refine any_many 9 [(0,some (nP z10 0)),(1,some (.slice (some ⟨w33.heap.size,0,none⟩) 4 4)),(2,some (nI x54)),(3,some (nP (w33.heap.size) (x54.toNat))),(4,some (nI (atI [1,3,4,5] x54))),(5,some (.slice (some ⟨(w33.alloc (.cells #[nI 1,nI 3,nI 4,nI 5] 3)).heap.size,0,none⟩) 4 4)),(6,some (nI x54)),(7,some (nP ((w33.alloc (.cells #[nI 1,nI 3,nI 4,nI 5] 3)).heap.size) (x54.toNat))),(8,some (nI (atI [9,7,10,2] x54)))] [0,4,6,8,9,10,11,12,36,37,41,45,46,47,48] #[true,true,true,true,true,true,true,true,true,false,false,false,false,false,false] (by rfl) hF66 (by kernel_rfl) (by kernel_rfl) (by exact ⟨fun wS hw=>by kernel_rfl,fun wS hw=>by kernel_rfl,fun wS hw=>by kernel_rfl,fun wS hw=>run_idx rfl rfl rfl rfl rfl (inR_spec hc67).1 (inR_spec hc67).2 _,fun wS hw=>run_load1 rfl rfl rfl (hw.elim fun qs hw=>hw.atI 0 rfl hc67),fun wS hw=>by kernel_rfl,fun wS hw=>by kernel_rfl,fun wS hw=>run_idx rfl rfl rfl rfl rfl (inR_spec hc69).1 (inR_spec hc69).2 _,fun wS hw=>run_load1 rfl rfl rfl (hw.elim fun qs hw=>hw.atI 1 rfl hc69),trivial⟩) (fun _ _ _ _ _ h=>h) ⟨_,hS72⟩ (l':=[(45,nI (atI [9,7,10,2] x54)),(41,nI (atI [1,3,4,5] x54)),(37,nP z10 0),(10,nI x54),(9,.slice (some ⟨(w33.alloc (.cells #[nI 1,nI 3,nI 4,nI 5] 3)).heap.size,0,none⟩) 4 4),(8,.slice (some ⟨w33.heap.size,0,none⟩) 4 4),(6,nP z22 0),(4,nP z10 0),(0,.bool false)]) (by kernel_rfl) ?_
  intro a74 hF73; clear hF66
  have hS75:=hS72.pick2
  clear hS72
  refine any_call 9 #[true,true,true,true,true,true,true,true,true,true,false,false,false,false,false] 11 #[nP z10 0,nI (atI [1,3,4,5] x54),nI (atI [9,7,10,2] x54)] hF73 rfl (by kernel_rfl) rfl rfl (by kernel_rfl) rfl (by kernel_rfl) (fun w=>by kernel_rfl) (by kernel_rfl) ?_
  obtain ⟨x76,x77,s78,hx79,hm80⟩:=bind3E hm70; clear hm70
  refine (p_Alloc hS75 hx79).mono ?_
  rintro _ w81 ⟨rfl,hS83⟩; clear hS75
  refine ⟨⟨_,hS83.pick2.pick2⟩,?_⟩
  intro a82 hF84; clear hF73
  refine any_many 5 [(10,some (.tuple #[nI x76,nI x77])),(11,some (nI x76)),(12,some (nI x77)),(13,some (nI x76)),(14,some (nI x77))] [0,4,6,8,9,10,11,12] #[true,true,true,true,true,true,true,true,true,true,true,true,true,true,true] (by rfl) hF84 (by kernel_rfl) (by kernel_rfl) (by exact ⟨fun wS hw=>by kernel_rfl,fun wS hw=>by kernel_rfl,fun wS hw=>by kernel_rfl,fun wS hw=>by kernel_rfl,fun wS hw=>by kernel_rfl,trivial⟩) (fun _ _ _ _ _ h=>h) ⟨_,hS83.pick2.pick2⟩ (l':=[(12,nI x77),(11,nI x76),(10,nI x54),(9,.slice (some ⟨(w33.alloc (.cells #[nI 1,nI 3,nI 4,nI 5] 3)).heap.size,0,none⟩) 4 4),(8,.slice (some ⟨w33.heap.size,0,none⟩) 4 4),(6,nP z22 0),(4,nP z10 0),(0,.bool false)]) (by kernel_rfl) ?_
  intro a86 hF85; clear hF84
  refine any_done (by kernel_rfl) ?_
  refine thenN (wp_seq ?_)
  have hS87:=hS83.pick2.pick2
  clear hS83
  have hS88:=hS87.drew; clear hS87
  refine any_start (fun wS=>∃ qs,St w0 F0 (RowP (.slice (some ⟨w33.heap.size,0,none⟩) 4 4) [1,3,4,5]::RowP (.slice (some ⟨(w33.alloc (.cells #[nI 1,nI 3,nI 4,nI 5] 3)).heap.size,0,none⟩) 4 4) [9,7,10,2]::qs) wS) 15 #[false,false,false,false,false,false,false,false,false,false,false,false,false,false,false] (by kernel_rfl) (by kernel_rfl) (by kernel_rfl) ?_
  refine any_many 9 [(0,some (nP z22 0)),(1,some (.slice (some ⟨w33.heap.size,0,none⟩) 4 4)),(2,some (nI x54)),(3,some (nP (w33.heap.size) (x54.toNat))),(4,some (nI (atI [1,3,4,5] x54))),(5,some (.slice (some ⟨(w33.alloc (.cells #[nI 1,nI 3,nI 4,nI 5] 3)).heap.size,0,none⟩) 4 4)),(6,some (nI x54)),(7,some (nP ((w33.alloc (.cells #[nI 1,nI 3,nI 4,nI 5] 3)).heap.size) (x54.toNat))),(8,some (nI (atI [9,7,10,2] x54)))] [0,4,6,8,9,10,11,12,13,14,49,50,54,58,59,60,61] #[true,true,true,true,true,true,true,true,true,false,false,false,false,false,false] (by rfl) hF85 (by kernel_rfl) (by kernel_rfl) (by exact ⟨fun wS hw=>by kernel_rfl,fun wS hw=>by kernel_rfl,fun wS hw=>by kernel_rfl,fun wS hw=>run_idx rfl rfl rfl rfl rfl (inR_spec hc67).1 (inR_spec hc67).2 _,fun wS hw=>run_load1 rfl rfl rfl (hw.elim fun qs hw=>hw.atI 0 rfl hc67),fun wS hw=>by kernel_rfl,fun wS hw=>by kernel_rfl,fun wS hw=>run_idx rfl rfl rfl rfl rfl (inR_spec hc69).1 (inR_spec hc69).2 _,fun wS hw=>run_load1 rfl rfl rfl (hw.elim fun qs hw=>hw.atI 1 rfl hc69),trivial⟩) (fun _ _ _ _ _ h=>h) ⟨_,hS88⟩ (l':=[(58,nI (atI [9,7,10,2] x54)),(54,nI (atI [1,3,4,5] x54)),(50,nP z22 0),(12,nI x77),(11,nI x76),(10,nI x54),(9,.slice (some ⟨(w33.alloc (.cells #[nI 1,nI 3,nI 4,nI 5] 3)).heap.size,0,none⟩) 4 4),(8,.slice (some ⟨w33.heap.size,0,none⟩) 4 4),(6,nP z22 0),(4,nP z10 0),(0,.bool false)]) (by kernel_rfl) ?_
  intro a90 hF89; clear hF85
  have hS91:=hS88.pick3
  clear hS88
  refine any_call 9 #[true,true,true,true,true,true,true,true,true,true,false,false,false,false,false] 60 #[nP z22 0,nI (atI [1,3,4,5] x54),nI (atI [9,7,10,2] x54)] hF89 rfl (by kernel_rfl) rfl rfl (by kernel_rfl) rfl (by kernel_rfl) (fun w=>by kernel_rfl) (by kernel_rfl) ?_
  obtain ⟨x92,x93,s94,hx95,hm96⟩:=bind3E hm80; clear hm80
  refine (q_Alloc hS91 hx95).mono ?_
  rintro _ w97 ⟨rfl,hS99⟩; clear hS91
  refine ⟨⟨_,hS99.pick2.pick2⟩,?_⟩
  intro a98 hF100; clear hF89
  refine any_many 5 [(10,some (.tuple #[nI x92,nI x93])),(11,some (nI x92)),(12,some (nI x93)),(13,some (nI x92)),(14,some (nI x93))] [0,4,6,8,9,10,11,12,13,14] #[true,true,true,true,true,true,true,true,true,true,true,true,true,true,true] (by rfl) hF100 (by kernel_rfl) (by kernel_rfl) (by exact ⟨fun wS hw=>by kernel_rfl,fun wS hw=>by kernel_rfl,fun wS hw=>by kernel_rfl,fun wS hw=>by kernel_rfl,fun wS hw=>by kernel_rfl,trivial⟩) (fun _ _ _ _ _ h=>h) ⟨_,hS99.pick2.pick2⟩ (l':=[(14,nI x93),(13,nI x92),(12,nI x77),(11,nI x76),(10,nI x54),(9,.slice (some ⟨(w33.alloc (.cells #[nI 1,nI 3,nI 4,nI 5] 3)).heap.size,0,none⟩) 4 4),(8,.slice (some ⟨w33.heap.size,0,none⟩) 4 4),(6,nP z22 0),(4,nP z10 0),(0,.bool false)]) (by kernel_rfl) ?_
  intro a102 hF101; clear hF100
  refine any_done (by kernel_rfl) ?_
  refine thenN (wp_seq ?_)
  refine joinQ (fun aI wI=>∃ (y103:Bool),Fr 77 aI [(69,.bool (y103)),(10,nI x54),(9,.slice (some ⟨(w33.alloc (.cells #[nI 1,nI 3,nI 4,nI 5] 3)).heap.size,0,none⟩) 4 4),(8,.slice (some ⟨w33.heap.size,0,none⟩) 4 4),(6,nP z22 0),(4,nP z10 0),(0,.bool false)]∧St w0 F0 (RHeapP z22 z23 z24 z25 z26 s94::RowP (.slice (some ⟨w33.heap.size,0,none⟩) 4 4) [1,3,4,5]::RowP (.slice (some ⟨(w33.alloc (.cells #[nI 1,nI 3,nI 4,nI 5] 3)).heap.size,0,none⟩) 4 4) [9,7,10,2]::HeapP z10 z11 s78::ps) wI∧law11_both.j4 x54 (law11_both.l3 k55) s78 s94 y103=some (r0,r1)) ?_ ?_
  rotate_left
  · rintro a105 w106 ⟨y103,hF107,hS108,hm109⟩
    clear hF101 hS99 hm96
    unfold law11_both.j4 at hm109
    refine thenN ?_
    cases hc111:(y103)
    case true =>
     rw [hc111] at hF107
     have hm112:=ifYes hc111 hm109; clear hm109
     refine ev_condT hF107 rfl rfl ?_
     refine wp_seq (wp_region_lit ?_)
     refine ev_runK 2 hF107 [2,3] (l':=[(3,.pointer none),(2,.pointer none)]) (w':=w106) (by kernel_rfl) ?_
     intro a114 hF113; clear hF107
     refine wpList_nil ?_
     have hS115:=hS108.drop.drop.drop.drop
     clear hS108
     refine thenN ?_
     refine wp_ret ?_
     refine blockR ?_
     refine thenR (thenR ?_)
     refine blockR ?_
     refine thenR ?_
     cases hm112
    rw [hc111] at hF107
    have hm116:=ifNot hc111 hm109; clear hm109
    refine ev_condF hF107 rfl rfl ?_
    refine wp_skip ?_
    have hF117:=hF107.keep [0,4,6,8,9,10]
    clear hF107
    refine blockN ?_
    refine thenN (wp_region_lit ?_)
    refine ev_runK 3 hF117 [0,4,6,8,9,10] (l':=[(10,nI (IntKind.i64.wrap (x54+1))),(9,.slice (some ⟨(w33.alloc (.cells #[nI 1,nI 3,nI 4,nI 5] 3)).heap.size,0,none⟩) 4 4),(8,.slice (some ⟨w33.heap.size,0,none⟩) 4 4),(6,nP z22 0),(4,nP z10 0),(0,.bool false)]) (w':=w106) (by kernel_rfl) ?_
    intro a119 hF118; clear hF117
    refine wpList_nil ?_
    have hS120:=hS108.pick3.pick2.pick3
    clear hS108
    exact thenN ⟨k55,Nat.lt_succ_self _,s78,s94,IntKind.i64.wrap (x54+1),hF118,hS120,hm116⟩
  · skip
    refine wp_region_lit ?_
    refine ev_runs 4 hF101 (l':=[(65,.bool (x76 != x92)),(64,.bool (x76 != x92)),(63,nI x92),(62,nI x76),(14,nI x93),(13,nI x92),(12,nI x77),(11,nI x76),(10,nI x54),(9,.slice (some ⟨(w33.alloc (.cells #[nI 1,nI 3,nI 4,nI 5] 3)).heap.size,0,none⟩) 4 4),(8,.slice (some ⟨w33.heap.size,0,none⟩) 4 4),(6,nP z22 0),(4,nP z10 0),(0,.bool false)]) (w':=w97) (by kernel_rfl) ?_
    intro a122 hF121; clear hF101
    cases hc123:(x76 != x92)
    case true =>
     rw [hc123] at hF121
     have hm124:=ifYes hc123 hm96; clear hm96
     refine ev_runK 4 hF121 [0,4,6,8,9,10,69] (l':=[(69,.bool true),(10,nI x54),(9,.slice (some ⟨(w33.alloc (.cells #[nI 1,nI 3,nI 4,nI 5] 3)).heap.size,0,none⟩) 4 4),(8,.slice (some ⟨w33.heap.size,0,none⟩) 4 4),(6,nP z22 0),(4,nP z10 0),(0,.bool false)]) (w':=w97) (by kernel_rfl) ?_
     intro a126 hF125; clear hF121
     refine wpList_nil ?_
     exact thenN ⟨true,hF125,hS99,hm124⟩
    rw [hc123] at hF121
    have hm127:=ifNot hc123 hm96; clear hm96
    refine ev_runK 4 hF121 [0,4,6,8,9,10,69] (l':=[(69,.bool (x77 != x93)),(10,nI x54),(9,.slice (some ⟨(w33.alloc (.cells #[nI 1,nI 3,nI 4,nI 5] 3)).heap.size,0,none⟩) 4 4),(8,.slice (some ⟨w33.heap.size,0,none⟩) 4 4),(6,nP z22 0),(4,nP z10 0),(0,.bool false)]) (w':=w97) (by kernel_rfl) ?_
    intro a129 hF128; clear hF121
    refine wpList_nil ?_
    exact thenN ⟨x77 != x93,hF128,hS99,hm127⟩
 rw [hc64] at hF62
 have hm130:=ifNot hc64 hm61; clear hm61
 refine ev_condF hF62 rfl rfl ?_
 refine wp_exit ?_
 refine thenE ?_
 refine thenE ?_
 refine blockE ?_
 refine thenN (wp_seq (wp_seq (wp_region_lit ?_)))
 refine ev_runK 1 hF62 [4,6,70] (l':=[(70,.bool false),(6,nP z22 0),(4,nP z10 0)]) (w':=w57) (by kernel_rfl) ?_
 intro a132 hF131; clear hF62
 refine wpList_nil ?_
 have hS133:=hS59.drop.drop
 clear hS59
 refine thenN ?_
 refine ev_condF hF131 rfl rfl ?_
 refine wp_skip ?_
 have hF134:=hF131.keep [4,6]
 clear hF131
 refine thenN (wp_seq (wp_region_lit ?_))
 refine ev_runK 4 hF134 [2,3] (l':=[(3,nP z22 0),(2,nP z10 0)]) (w':=w57) (by kernel_rfl) ?_
 intro a136 hF135; clear hF134
 refine wpList_nil (thenN ?_)
 refine wp_ret ?_
 simp only [Option.some.injEq,Prod.mk.injEq] at hm130
 obtain ⟨rfl,rfl⟩:=hm130
 refine ev_ret hF135 [2,3] (.tuple #[nP z10 0,nP z22 0]) rfl rfl rfl ?_
 exact ⟨_,_,_,_,_,_,_,rfl,hS133⟩
def law11_places.j8 (x23:Int) (rec30:Int→Int→Int→Int→Int→Option (Int×Int×Int×Int×HSt)) (x53:Int) (x54:Int) (x55:Int) (x56:Int):Option (Int×Int×Int×Int×HSt):=rec30 (IntKind.i64.wrap (x23+1)) x54 x55 x56 x53
def law11_places.j9 (x23:Int) (x27:Int) (rec30:Int→Int→Int→Int→Int→Option (Int×Int×Int×Int×HSt)) (x80:Int) (x81:Int) (x82:Int):Option (Int×Int×Int×Int×HSt):=law11_places.j8 x23 rec30 x27 x81 x82 x80
def law11_places.j10 (x23:Int) (x26:Int) (x27:Int) (rec30:Int→Int→Int→Int→Int→Option (Int×Int×Int×Int×HSt)) (x104:Int) (x105:Int):Option (Int×Int×Int×Int×HSt):=law11_places.j9 x23 x27 rec30 x26 x105 x104
def law11_places.l7b (s0:HSt) (rec30:Int→Int→Int→Int→Int→Option (Int×Int×Int×Int×HSt)) (x23:Int) (x24:Int) (x25:Int) (x26:Int) (x27:Int):Option (Int×Int×Int×Int×HSt):=(if (decide (x23<((hObjsF s0.a).length:Int))) then (if (inR x23 (hObjsF s0.a).length) then (if ((aKind s0.a.c (atI (hObjsF s0.a) x23)) == 1) then law11_places.j8 x23 rec30 (atI (hObjsF s0.a) x23) x24 x25 x26 else (if ((aKind s0.a.c (atI (hObjsF s0.a) x23)) == 3) then law11_places.j9 x23 x27 rec30 (atI (hObjsF s0.a) x23) x24 x25 else (if ((aKind s0.a.c (atI (hObjsF s0.a) x23)) == 4) then law11_places.j10 x23 x26 x27 rec30 (atI (hObjsF s0.a) x23) x24 else law11_places.j10 x23 x26 x27 rec30 x25 (atI (hObjsF s0.a) x23)))) else none) else some (x27,x26,x25,x24,s0))
def law11_places.l7 (s0:HSt):Nat→Int→Int→Int→Int→Int→Option (Int×Int×Int×Int×HSt)
  | 0=>fun _ _ _ _ _=>none
  | kI+1=>law11_places.l7b s0 (law11_places.l7 s0 kI)
def law11_places.m (k:Nat) (s0:HSt):Option (Int×Int×Int×Int×HSt):=law11_places.l7 s0 k 0 (-1) (-1) (-1) (-1)
set_option maxRecDepth 100000 in
set_option maxHeartbeats 1500000 in
theorem law11_places.ok {w0 w:World} {F0:List Nat} {ps:List Piece} {k:Nat} {b0 ab0 sb0 g0 cb0:Nat} {s0:HSt} {r0:Int} {r1:Int} {r2:Int} {r3:Int} {t0:HSt} (hS:St w0 F0 (RHeapP b0 ab0 sb0 g0 cb0 s0::ps) w) (hm:law11_places.m k s0=some (r0,r1,r2,r3,t0)) :
    Calls Try.prog 21 #[nP b0 0] w fun e w'=>e=.returned (.tuple #[.int .i64 r0,.int .i64 r1,.int .i64 r2,.int .i64 r3])∧St w0 F0 (RHeapP b0 ab0 sb0 g0 cb0 t0::ps) w':=by
 refine ev_enterL 58 [nP b0 0] Try.func21 rfl rfl (by simp) ?_
 intro a hF
 have hF0:Fr 58 a [(0,nP b0 0)]:=hF; clear hF
 unfold law11_places.m at hm
 refine wp_seq (wp_region_lit ?_)
 refine ev_runK 4 hF0 [0] (l':=[(0,nP b0 0)]) (w':=w) (by kernel_rfl) ?_
 intro a2 hF1; clear hF0
 refine wpList_nil (thenN (wp_seq (wp_region_lit ?_)))
 refine ev_runs 4 hF1 (l':=[(9,nI (-1)),(8,nI (-1)),(7,nI (-1)),(6,nI (-1)),(0,nP b0 0)]) (w':=w) (by kernel_rfl) ?_
 intro a4 hF3; clear hF1
 refine wpList_nil (thenN (wp_seq (wp_region_lit ?_)))
 refine ev_runs 3 hF3 (l':=[(14,nP b0 0),(13,nP b0 0),(12,nP b0 0),(9,nI (-1)),(8,nI (-1)),(7,nI (-1)),(6,nI (-1)),(0,nP b0 0)]) (w':=w) (by kernel_rfl) ?_
 intro a6 hF5; clear hF3
 refine ev_one (nP ab0 0) w hF5 (by kernel_rfl) rfl (by kernel_rfl) (run_loadV rfl rfl (run_loadS rfl rfl (St.rhsee (k:=0) hS rfl).1)) (l':=[(15,nP ab0 0),(14,nP b0 0),(13,nP b0 0),(12,nP b0 0),(9,nI (-1)),(8,nI (-1)),(7,nI (-1)),(6,nI (-1)),(0,nP b0 0)]) (by kernel_rfl) ?_
 intro a8 hF7; clear hF5
 refine ev_call 62 #[nP ab0 0] hF7 rfl rfl (by kernel_rfl) rfl (by kernel_rfl) (fun w=>by kernel_rfl) ?_
 refine (q_Objects hS).mono ?_
 rintro _ w9 ⟨z13,rfl,hS11⟩ a10 hF12; clear hF7 hS
 obtain ⟨hl18,p15,c16,rfl,hp17⟩:=St.shape hS11 1 rfl
 refine ev_runK 1 hF12 [0,6,7,8,9,10] (l':=[(10,.slice p15 (hObjsF s0.a).length c16),(9,nI (-1)),(8,nI (-1)),(7,nI (-1)),(6,nI (-1)),(0,nP b0 0)]) (w':=w9) (by kernel_rfl) ?_
 intro a20 hF19; clear hF12
 refine wpList_nil (thenN (wp_seq (wp_seq (wp_region_lit ?_))))
 refine ev_runs 1 hF19 (l':=[(11,nI 0),(10,.slice p15 (hObjsF s0.a).length c16),(9,nI (-1)),(8,nI (-1)),(7,nI (-1)),(6,nI (-1)),(0,nP b0 0)]) (w':=w9) (by kernel_rfl) ?_
 intro a22 hF21; clear hF19
 refine wpList_nil (thenN ?_)
 refine wp_block ?_
 refine wp_loop_ghost (fun kI aI wI=>∃ (x23:Int) (x24:Int) (x25:Int) (x26:Int) (x27:Int),Fr 58 aI [(11,nI x23),(10,.slice p15 (hObjsF s0.a).length c16),(9,nI x24),(8,nI x25),(7,nI x26),(6,nI x27),(0,nP b0 0)]∧St w0 F0 (RHeapP b0 ab0 sb0 g0 cb0 s0::RowP (.slice p15 (hObjsF s0.a).length c16) (hObjsF s0.a)::ps) wI∧law11_places.l7 s0 kI x23 x24 x25 x26 x27=some (r0,r1,r2,r3,t0)) k ⟨0,-1,-1,-1,-1,hF21,hS11,hm⟩ ?_
 rintro k28 a29 w30 ⟨x23,x24,x25,x26,x27,hF31,hS32,hm33⟩
 clear hF21 hS11 hm
 rcases k28 with _ | k28
 · cases hm33
 have hm34:law11_places.l7b s0 (law11_places.l7 s0 k28) x23 x24 x25 x26 x27=some (r0,r1,r2,r3,t0):=hm33
 clear hm33
 unfold law11_places.l7b at hm34
 refine wp_seq (wp_seq (wp_region_lit ?_))
 refine ev_runK 4 hF31 [0,6,7,8,9,10,11,20] (l':=[(20,.bool (decide (x23<((hObjsF s0.a).length:Int)))),(11,nI x23),(10,.slice p15 (hObjsF s0.a).length c16),(9,nI x24),(8,nI x25),(7,nI x26),(6,nI x27),(0,nP b0 0)]) (w':=w30) (by kernel_rfl) ?_
 intro a36 hF35; clear hF31
 refine wpList_nil (thenN ?_)
 cases hc37:(decide (x23<((hObjsF s0.a).length:Int)))
 case true =>
  rw [hc37] at hF35
  have hm38:=ifYes hc37 hm34; clear hm34
  refine ev_condT hF35 rfl rfl ?_
  refine wp_skip ?_
  have hF39:=hF35.keep [0,6,7,8,9,10,11]
  clear hF35
  refine thenN (wp_seq ?_)
  refine wp_block ?_
  refine wp_seq ?_
  obtain ⟨hc40,hm41⟩:=ifTE hm38; clear hm38
  obtain ⟨g42,rfl⟩:=hp17.resolve_left (by have:=inR_spec hc40; omega)
  have hS43:=hS32.drew; clear hS32
  refine any_start (fun wS=>∃ qs,St w0 F0 (RHeapP b0 ab0 sb0 g0 cb0 s0::RowP (.slice (some ⟨g42,0,none⟩) (hObjsF s0.a).length c16) (hObjsF s0.a)::qs) wS) 9 #[false,false,false,false,false,false,false,false,false] (by kernel_rfl) (by kernel_rfl) (by kernel_rfl) ?_
  refine any_many 8 [(0,some (nP b0 0)),(1,some (nP b0 0)),(2,some (nP b0 0)),(3,some (nP ab0 0)),(4,some (.slice (some ⟨g42,0,none⟩) (hObjsF s0.a).length c16)),(5,some (nI x23)),(6,some (nP g42 (x23.toNat))),(7,some (nI (atI (hObjsF s0.a) x23)))] [0,6,7,8,9,10,11,26,30,31] #[true,true,true,true,true,true,true,true,false] (by rfl) hF39 (by kernel_rfl) (by kernel_rfl) (by exact ⟨fun wS hw=>by kernel_rfl,fun wS hw=>by kernel_rfl,fun wS hw=>by kernel_rfl,fun wS hw=>hw.elim fun qs hw=>run_loadV rfl rfl (run_loadS rfl rfl (St.rhsee (k:=0) hw rfl).1),fun wS hw=>by kernel_rfl,fun wS hw=>by kernel_rfl,fun wS hw=>run_idx rfl rfl rfl rfl rfl (inR_spec hc40).1 (inR_spec hc40).2 _,fun wS hw=>run_load1 rfl rfl rfl (hw.elim fun qs hw=>hw.atI 1 rfl hc40),trivial⟩) (fun _ _ _ _ _ h=>h) ⟨_,hS43⟩ (l':=[(30,nI (atI (hObjsF s0.a) x23)),(26,nP ab0 0),(11,nI x23),(10,.slice (some ⟨g42,0,none⟩) (hObjsF s0.a).length c16),(9,nI x24),(8,nI x25),(7,nI x26),(6,nI x27),(0,nP b0 0)]) (by kernel_rfl) ?_
  intro a45 hF44; clear hF39
  refine any_call 8 #[true,true,true,true,true,true,true,true,true] 63 #[nP ab0 0,nI (atI (hObjsF s0.a) x23)] hF44 rfl (by kernel_rfl) rfl rfl (by kernel_rfl) rfl (by kernel_rfl) (fun w=>by kernel_rfl) (by kernel_rfl) ?_
  refine (q_Kind hS43).mono ?_
  rintro _ w46 ⟨rfl,hS48⟩; clear hS43
  refine ⟨⟨_,hS48⟩,?_⟩
  intro a47 hF49; clear hF44
  refine any_done (by kernel_rfl) ?_
  have hF50:=hF49.keep [0,6,7,8,9,10,11,31]
  clear hF49
  refine thenN ?_
  refine wp_block ?_
  refine wp_seq (wp_region_lit ?_)
  refine ev_runK 2 hF50 [0,6,7,8,9,10,11,31,36] (l':=[(36,.bool ((aKind s0.a.c (atI (hObjsF s0.a) x23)) == 1)),(31,nI (aKind s0.a.c (atI (hObjsF s0.a) x23))),(11,nI x23),(10,.slice (some ⟨g42,0,none⟩) (hObjsF s0.a).length c16),(9,nI x24),(8,nI x25),(7,nI x26),(6,nI x27),(0,nP b0 0)]) (w':=w46) (by kernel_rfl) ?_
  intro a52 hF51; clear hF50
  refine wpList_nil (thenN ?_)
  refine joinQ (fun aI wI=>∃ (x53:Int) (x54:Int) (x55:Int) (x56:Int),Fr 58 aI [(6,nI x53),(11,nI x23),(10,.slice (some ⟨g42,0,none⟩) (hObjsF s0.a).length c16),(9,nI x54),(8,nI x55),(7,nI x56),(0,nP b0 0)]∧St w0 F0 (RHeapP b0 ab0 sb0 g0 cb0 s0::RowP (.slice (some ⟨g42,0,none⟩) (hObjsF s0.a).length c16) (hObjsF s0.a)::ps) wI∧law11_places.j8 x23 (law11_places.l7 s0 k28) x53 x54 x55 x56=some (r0,r1,r2,r3,t0)) ?_ ?_
  rotate_left
  · rintro a58 w59 ⟨x53,x54,x55,x56,hF60,hS61,hm62⟩
    clear hF51 hS48 hm41
    unfold law11_places.j8 at hm62
    refine blockN ?_
    refine blockN ?_
    refine thenN (wp_region_lit ?_)
    refine ev_runK 3 hF60 [0,6,7,8,9,10,11] (l':=[(11,nI (IntKind.i64.wrap (x23+1))),(6,nI x53),(10,.slice (some ⟨g42,0,none⟩) (hObjsF s0.a).length c16),(9,nI x54),(8,nI x55),(7,nI x56),(0,nP b0 0)]) (w':=w59) (by kernel_rfl) ?_
    intro a65 hF64; clear hF60
    refine wpList_nil ?_
    have hF66:Fr 58 a65 [(11,nI (IntKind.i64.wrap (x23+1))),(10,.slice (some ⟨g42,0,none⟩) (hObjsF s0.a).length c16),(9,nI x54),(8,nI x55),(7,nI x56),(6,nI x53),(0,nP b0 0)]:=Fr.re hF64 (by kernel_rfl)
    clear hF64
    exact thenN ⟨k28,Nat.lt_succ_self _,IntKind.i64.wrap (x23+1),x54,x55,x56,x53,hF66,hS61,hm62⟩
  · skip
    cases hc67:((aKind s0.a.c (atI (hObjsF s0.a) x23)) == 1)
    case true =>
     rw [hc67] at hF51
     have hm68:=ifYes hc67 hm41; clear hm41
     refine ev_condT hF51 rfl rfl ?_
     refine wp_region_lit ?_
     refine ev_runs 2 hF51 (l':=[(39,nI x23),(38,.slice (some ⟨g42,0,none⟩) (hObjsF s0.a).length c16),(36,.bool true),(31,nI (aKind s0.a.c (atI (hObjsF s0.a) x23))),(11,nI x23),(10,.slice (some ⟨g42,0,none⟩) (hObjsF s0.a).length c16),(9,nI x24),(8,nI x25),(7,nI x26),(6,nI x27),(0,nP b0 0)]) (w':=w46) (by kernel_rfl) ?_
     intro a70 hF69; clear hF51
     refine ev_one (nP g42 (x23.toNat)) w46 hF69 (by kernel_rfl) rfl (by kernel_rfl) (run_idx rfl rfl rfl rfl rfl (inR_spec hc40).1 (inR_spec hc40).2 _) (l':=[(40,nP g42 (x23.toNat)),(39,nI x23),(38,.slice (some ⟨g42,0,none⟩) (hObjsF s0.a).length c16),(36,.bool true),(31,nI (aKind s0.a.c (atI (hObjsF s0.a) x23))),(11,nI x23),(10,.slice (some ⟨g42,0,none⟩) (hObjsF s0.a).length c16),(9,nI x24),(8,nI x25),(7,nI x26),(6,nI x27),(0,nP b0 0)]) (by kernel_rfl) ?_
     intro a72 hF71; clear hF69
     refine ev_one (nI (atI (hObjsF s0.a) x23)) w46 hF71 (by kernel_rfl) rfl (by kernel_rfl) (run_load1 rfl rfl rfl (hS48.atI 1 rfl hc40)) (l':=[(41,nI (atI (hObjsF s0.a) x23)),(40,nP g42 (x23.toNat)),(39,nI x23),(38,.slice (some ⟨g42,0,none⟩) (hObjsF s0.a).length c16),(36,.bool true),(31,nI (aKind s0.a.c (atI (hObjsF s0.a) x23))),(11,nI x23),(10,.slice (some ⟨g42,0,none⟩) (hObjsF s0.a).length c16),(9,nI x24),(8,nI x25),(7,nI x26),(6,nI x27),(0,nP b0 0)]) (by kernel_rfl) ?_
     intro a74 hF73; clear hF71
     refine ev_runK 1 hF73 [0,6,7,8,9,10,11] (l':=[(6,nI (atI (hObjsF s0.a) x23)),(11,nI x23),(10,.slice (some ⟨g42,0,none⟩) (hObjsF s0.a).length c16),(9,nI x24),(8,nI x25),(7,nI x26),(0,nP b0 0)]) (w':=w46) (by kernel_rfl) ?_
     intro a76 hF75; clear hF73
     refine wpList_nil ?_
     exact thenN ⟨atI (hObjsF s0.a) x23,x24,x25,x26,hF75,hS48,hm68⟩
    rw [hc67] at hF51
    have hm77:=ifNot hc67 hm41; clear hm41
    refine ev_condF hF51 rfl rfl ?_
    refine wp_seq (wp_region_lit ?_)
    refine ev_runK 2 hF51 [0,6,7,8,9,10,11,31,42] (l':=[(42,.bool ((aKind s0.a.c (atI (hObjsF s0.a) x23)) == 3)),(31,nI (aKind s0.a.c (atI (hObjsF s0.a) x23))),(11,nI x23),(10,.slice (some ⟨g42,0,none⟩) (hObjsF s0.a).length c16),(9,nI x24),(8,nI x25),(7,nI x26),(6,nI x27),(0,nP b0 0)]) (w':=w46) (by kernel_rfl) ?_
    intro a79 hF78; clear hF51
    refine wpList_nil (thenN ?_)
    refine joinQ (fun aI wI=>∃ (x80:Int) (x81:Int) (x82:Int),Fr 58 aI [(7,nI x80),(11,nI x23),(10,.slice (some ⟨g42,0,none⟩) (hObjsF s0.a).length c16),(9,nI x81),(8,nI x82),(6,nI x27),(0,nP b0 0)]∧St w0 F0 (RHeapP b0 ab0 sb0 g0 cb0 s0::RowP (.slice (some ⟨g42,0,none⟩) (hObjsF s0.a).length c16) (hObjsF s0.a)::ps) wI∧law11_places.j9 x23 x27 (law11_places.l7 s0 k28) x80 x81 x82=some (r0,r1,r2,r3,t0)) ?_ ?_
    rotate_left
    · rintro a84 w85 ⟨x80,x81,x82,hF86,hS87,hm88⟩
      clear hF78 hS48 hm77
      unfold law11_places.j9 at hm88
      have hF90:Fr 58 a84 [(6,nI x27),(11,nI x23),(10,.slice (some ⟨g42,0,none⟩) (hObjsF s0.a).length c16),(9,nI x81),(8,nI x82),(7,nI x80),(0,nP b0 0)]:=Fr.re hF86 (by kernel_rfl)
      clear hF86
      exact thenN ⟨x27,x81,x82,x80,hF90,hS87,hm88⟩
    · skip
      cases hc91:((aKind s0.a.c (atI (hObjsF s0.a) x23)) == 3)
      case true =>
       rw [hc91] at hF78
       have hm92:=ifYes hc91 hm77; clear hm77
       refine ev_condT hF78 rfl rfl ?_
       refine wp_region_lit ?_
       refine ev_runs 2 hF78 (l':=[(45,nI x23),(44,.slice (some ⟨g42,0,none⟩) (hObjsF s0.a).length c16),(42,.bool true),(31,nI (aKind s0.a.c (atI (hObjsF s0.a) x23))),(11,nI x23),(10,.slice (some ⟨g42,0,none⟩) (hObjsF s0.a).length c16),(9,nI x24),(8,nI x25),(7,nI x26),(6,nI x27),(0,nP b0 0)]) (w':=w46) (by kernel_rfl) ?_
       intro a94 hF93; clear hF78
       refine ev_one (nP g42 (x23.toNat)) w46 hF93 (by kernel_rfl) rfl (by kernel_rfl) (run_idx rfl rfl rfl rfl rfl (inR_spec hc40).1 (inR_spec hc40).2 _) (l':=[(46,nP g42 (x23.toNat)),(45,nI x23),(44,.slice (some ⟨g42,0,none⟩) (hObjsF s0.a).length c16),(42,.bool true),(31,nI (aKind s0.a.c (atI (hObjsF s0.a) x23))),(11,nI x23),(10,.slice (some ⟨g42,0,none⟩) (hObjsF s0.a).length c16),(9,nI x24),(8,nI x25),(7,nI x26),(6,nI x27),(0,nP b0 0)]) (by kernel_rfl) ?_
       intro a96 hF95; clear hF93
       refine ev_one (nI (atI (hObjsF s0.a) x23)) w46 hF95 (by kernel_rfl) rfl (by kernel_rfl) (run_load1 rfl rfl rfl (hS48.atI 1 rfl hc40)) (l':=[(47,nI (atI (hObjsF s0.a) x23)),(46,nP g42 (x23.toNat)),(45,nI x23),(44,.slice (some ⟨g42,0,none⟩) (hObjsF s0.a).length c16),(42,.bool true),(31,nI (aKind s0.a.c (atI (hObjsF s0.a) x23))),(11,nI x23),(10,.slice (some ⟨g42,0,none⟩) (hObjsF s0.a).length c16),(9,nI x24),(8,nI x25),(7,nI x26),(6,nI x27),(0,nP b0 0)]) (by kernel_rfl) ?_
       intro a98 hF97; clear hF95
       refine ev_runK 1 hF97 [0,6,7,8,9,10,11] (l':=[(7,nI (atI (hObjsF s0.a) x23)),(11,nI x23),(10,.slice (some ⟨g42,0,none⟩) (hObjsF s0.a).length c16),(9,nI x24),(8,nI x25),(6,nI x27),(0,nP b0 0)]) (w':=w46) (by kernel_rfl) ?_
       intro a100 hF99; clear hF97
       refine wpList_nil ?_
       exact thenN ⟨atI (hObjsF s0.a) x23,x24,x25,hF99,hS48,hm92⟩
      rw [hc91] at hF78
      have hm101:=ifNot hc91 hm77; clear hm77
      refine ev_condF hF78 rfl rfl ?_
      refine wp_seq (wp_region_lit ?_)
      refine ev_runK 2 hF78 [0,6,7,8,9,10,11,48] (l':=[(48,.bool ((aKind s0.a.c (atI (hObjsF s0.a) x23)) == 4)),(11,nI x23),(10,.slice (some ⟨g42,0,none⟩) (hObjsF s0.a).length c16),(9,nI x24),(8,nI x25),(7,nI x26),(6,nI x27),(0,nP b0 0)]) (w':=w46) (by kernel_rfl) ?_
      intro a103 hF102; clear hF78
      refine wpList_nil (thenN ?_)
      refine joinQ (fun aI wI=>∃ (x104:Int) (x105:Int),Fr 58 aI [(8,nI x104),(11,nI x23),(10,.slice (some ⟨g42,0,none⟩) (hObjsF s0.a).length c16),(9,nI x105),(7,nI x26),(6,nI x27),(0,nP b0 0)]∧St w0 F0 (RHeapP b0 ab0 sb0 g0 cb0 s0::RowP (.slice (some ⟨g42,0,none⟩) (hObjsF s0.a).length c16) (hObjsF s0.a)::ps) wI∧law11_places.j10 x23 x26 x27 (law11_places.l7 s0 k28) x104 x105=some (r0,r1,r2,r3,t0)) ?_ ?_
      rotate_left
      · rintro a107 w108 ⟨x104,x105,hF109,hS110,hm111⟩
        clear hF102 hS48 hm101
        unfold law11_places.j10 at hm111
        have hF113:Fr 58 a107 [(7,nI x26),(11,nI x23),(10,.slice (some ⟨g42,0,none⟩) (hObjsF s0.a).length c16),(9,nI x105),(8,nI x104),(6,nI x27),(0,nP b0 0)]:=Fr.re hF109 (by kernel_rfl)
        clear hF109
        exact thenN ⟨x26,x105,x104,hF113,hS110,hm111⟩
      · skip
        cases hc114:((aKind s0.a.c (atI (hObjsF s0.a) x23)) == 4)
        case true =>
         rw [hc114] at hF102
         have hm115:=ifYes hc114 hm101; clear hm101
         refine ev_condT hF102 rfl rfl ?_
         refine wp_region_lit ?_
         refine ev_runs 2 hF102 (l':=[(51,nI x23),(50,.slice (some ⟨g42,0,none⟩) (hObjsF s0.a).length c16),(48,.bool true),(11,nI x23),(10,.slice (some ⟨g42,0,none⟩) (hObjsF s0.a).length c16),(9,nI x24),(8,nI x25),(7,nI x26),(6,nI x27),(0,nP b0 0)]) (w':=w46) (by kernel_rfl) ?_
         intro a117 hF116; clear hF102
         refine ev_one (nP g42 (x23.toNat)) w46 hF116 (by kernel_rfl) rfl (by kernel_rfl) (run_idx rfl rfl rfl rfl rfl (inR_spec hc40).1 (inR_spec hc40).2 _) (l':=[(52,nP g42 (x23.toNat)),(51,nI x23),(50,.slice (some ⟨g42,0,none⟩) (hObjsF s0.a).length c16),(48,.bool true),(11,nI x23),(10,.slice (some ⟨g42,0,none⟩) (hObjsF s0.a).length c16),(9,nI x24),(8,nI x25),(7,nI x26),(6,nI x27),(0,nP b0 0)]) (by kernel_rfl) ?_
         intro a119 hF118; clear hF116
         refine ev_one (nI (atI (hObjsF s0.a) x23)) w46 hF118 (by kernel_rfl) rfl (by kernel_rfl) (run_load1 rfl rfl rfl (hS48.atI 1 rfl hc40)) (l':=[(53,nI (atI (hObjsF s0.a) x23)),(52,nP g42 (x23.toNat)),(51,nI x23),(50,.slice (some ⟨g42,0,none⟩) (hObjsF s0.a).length c16),(48,.bool true),(11,nI x23),(10,.slice (some ⟨g42,0,none⟩) (hObjsF s0.a).length c16),(9,nI x24),(8,nI x25),(7,nI x26),(6,nI x27),(0,nP b0 0)]) (by kernel_rfl) ?_
         intro a121 hF120; clear hF118
         refine ev_runK 1 hF120 [0,6,7,8,9,10,11] (l':=[(8,nI (atI (hObjsF s0.a) x23)),(11,nI x23),(10,.slice (some ⟨g42,0,none⟩) (hObjsF s0.a).length c16),(9,nI x24),(7,nI x26),(6,nI x27),(0,nP b0 0)]) (w':=w46) (by kernel_rfl) ?_
         intro a123 hF122; clear hF120
         refine wpList_nil ?_
         exact thenN ⟨atI (hObjsF s0.a) x23,x24,hF122,hS48,hm115⟩
        rw [hc114] at hF102
        have hm124:=ifNot hc114 hm101; clear hm101
        refine ev_condF hF102 rfl rfl ?_
        refine wp_region_lit ?_
        refine ev_runs 2 hF102 (l':=[(33,nI x23),(32,.slice (some ⟨g42,0,none⟩) (hObjsF s0.a).length c16),(48,.bool false),(11,nI x23),(10,.slice (some ⟨g42,0,none⟩) (hObjsF s0.a).length c16),(9,nI x24),(8,nI x25),(7,nI x26),(6,nI x27),(0,nP b0 0)]) (w':=w46) (by kernel_rfl) ?_
        intro a126 hF125; clear hF102
        refine ev_one (nP g42 (x23.toNat)) w46 hF125 (by kernel_rfl) rfl (by kernel_rfl) (run_idx rfl rfl rfl rfl rfl (inR_spec hc40).1 (inR_spec hc40).2 _) (l':=[(34,nP g42 (x23.toNat)),(33,nI x23),(32,.slice (some ⟨g42,0,none⟩) (hObjsF s0.a).length c16),(48,.bool false),(11,nI x23),(10,.slice (some ⟨g42,0,none⟩) (hObjsF s0.a).length c16),(9,nI x24),(8,nI x25),(7,nI x26),(6,nI x27),(0,nP b0 0)]) (by kernel_rfl) ?_
        intro a128 hF127; clear hF125
        refine ev_one (nI (atI (hObjsF s0.a) x23)) w46 hF127 (by kernel_rfl) rfl (by kernel_rfl) (run_load1 rfl rfl rfl (hS48.atI 1 rfl hc40)) (l':=[(35,nI (atI (hObjsF s0.a) x23)),(34,nP g42 (x23.toNat)),(33,nI x23),(32,.slice (some ⟨g42,0,none⟩) (hObjsF s0.a).length c16),(48,.bool false),(11,nI x23),(10,.slice (some ⟨g42,0,none⟩) (hObjsF s0.a).length c16),(9,nI x24),(8,nI x25),(7,nI x26),(6,nI x27),(0,nP b0 0)]) (by kernel_rfl) ?_
        intro a130 hF129; clear hF127
        refine ev_runK 1 hF129 [0,6,7,8,9,10,11] (l':=[(9,nI (atI (hObjsF s0.a) x23)),(11,nI x23),(10,.slice (some ⟨g42,0,none⟩) (hObjsF s0.a).length c16),(8,nI x25),(7,nI x26),(6,nI x27),(0,nP b0 0)]) (w':=w46) (by kernel_rfl) ?_
        intro a132 hF131; clear hF129
        refine wpList_nil ?_
        have hF133:Fr 58 a132 [(8,nI x25),(11,nI x23),(10,.slice (some ⟨g42,0,none⟩) (hObjsF s0.a).length c16),(9,nI (atI (hObjsF s0.a) x23)),(7,nI x26),(6,nI x27),(0,nP b0 0)]:=Fr.re hF131 (by kernel_rfl)
        clear hF131
        exact thenN ⟨x25,atI (hObjsF s0.a) x23,hF133,hS48,hm124⟩
 rw [hc37] at hF35
 have hm134:=ifNot hc37 hm34; clear hm34
 refine ev_condF hF35 rfl rfl ?_
 refine wp_exit ?_
 refine thenE ?_
 refine thenE ?_
 refine blockE ?_
 refine thenN (wp_seq (wp_region_lit ?_))
 refine ev_runK 8 hF35 [2,3,4,5] (l':=[(5,nI x24),(4,nI x25),(3,nI x26),(2,nI x27)]) (w':=w30) (by kernel_rfl) ?_
 intro a136 hF135; clear hF35
 refine wpList_nil ?_
 have hS137:=hS32.pick1.drop
 clear hS32
 refine thenN ?_
 refine wp_ret ?_
 simp only [Option.some.injEq,Prod.mk.injEq] at hm134
 obtain ⟨rfl,rfl,rfl,rfl,rfl⟩:=hm134
 refine ev_ret hF135 [2,3,4,5] (.tuple #[nI x27,nI x26,nI x25,nI x24]) rfl rfl rfl ?_
 exact ⟨rfl,hS137⟩
def law11_awake.j1 (y87:Bool):Option (Bool):=some (y87)
def law11_awake.m (k:Nat):Option (Bool):=bind2 (law11_both.m k ) fun s3 s4=>bind5 (law11_places.m k s4) fun x28 x29 x30 x31 s32=>bind2 (pPutChan x28 (⟨2,0,0,0,-1,-1,-1,-1,5⟩:Ch) s3) fun x56 s57=>bind2 (pChan x28 s57) fun q68 x69=>(if (x56 == 0) then (if (x69 == 0) then law11_awake.j1 ((q68.cap == (2:Int)) && ((q68.closed == (0:Int)) && ((q68.count == (0:Int)) && ((q68.start == (0:Int)) && ((q68.buf == (-1:Int)) && ((q68.th == (-1:Int)) && ((q68.tt == (-1:Int)) && ((q68.sh == (-1:Int)) && ((q68.st == (5:Int)) && (true)))))))))) else law11_awake.j1 false) else law11_awake.j1 false)
set_option maxRecDepth 100000 in
set_option maxHeartbeats 1500000 in
theorem law11_awake.ok {w0 w:World} {F0:List Nat} {ps:List Piece} {k:Nat}  {r0:Bool} (hS:St w0 F0 (ps) w) (hm:law11_awake.m k=some r0) :
    Calls Try.prog 20 #[] w fun e w'=>e=.returned (.bool r0)∧St w0 F0 (ps) w':=by
 refine ev_enterL 50 [] Try.func20 rfl rfl (by simp) ?_
 intro a hF
 have hF0:Fr 50 a []:=hF; clear hF
 unfold law11_awake.m at hm
 refine wp_seq (wp_region_lit ?_)
 refine ev_runK 1 hF0 [] (l':=[]) (w':=w) (by kernel_rfl) ?_
 intro a2 hF1; clear hF0
 refine wpList_nil (thenN (wp_seq (wp_region_lit ?_)))
 refine ev_call 19 #[.bool false] hF1 rfl rfl (by kernel_rfl) rfl (by kernel_rfl) (fun w=>by kernel_rfl) ?_
 obtain ⟨s3,s4,hx5,hm6⟩:=bind2E hm; clear hm
 refine (law11_both.ok hS hx5).mono ?_
 rintro _ w7 ⟨z11,z12,z13,z14,z15,z16,z17,rfl,hS9⟩ a8 hF10; clear hF1 hS
 refine ev_runK 5 hF10 [1,2] (l':=[(2,nP z13 0),(1,nP z11 0)]) (w':=w7) (by kernel_rfl) ?_
 intro a21 hF20; clear hF10
 refine wpList_nil (thenN (wp_seq (wp_seq (wp_region_lit ?_))))
 refine ev_runK 6 hF20 [1,2,20] (l':=[(20,.bool false),(2,nP z13 0),(1,nP z11 0)]) (w':=w7) (by kernel_rfl) ?_
 intro a23 hF22; clear hF20
 refine wpList_nil (thenN ?_)
 refine ev_condF hF22 rfl rfl ?_
 refine wp_skip ?_
 have hF24:=hF22.keep [1,2]
 clear hF22
 refine thenN (wp_seq (wp_region_lit ?_))
 refine ev_runs 1 hF24 (l':=[(22,nP z13 0),(2,nP z13 0),(1,nP z11 0)]) (w':=w7) (by kernel_rfl) ?_
 intro a26 hF25; clear hF24
 have hS27:=hS9.pick1
 clear hS9
 refine ev_call 21 #[nP z13 0] hF25 rfl rfl (by kernel_rfl) rfl (by kernel_rfl) (fun w=>by kernel_rfl) ?_
 obtain ⟨x28,x29,x30,x31,s32,hx33,hm34⟩:=bind5E hm6; clear hm6
 refine (law11_places.ok hS27 hx33).mono ?_
 rintro _ w35 ⟨rfl,hS37⟩ a36 hF38; clear hF25 hS27
 refine ev_runK 9 hF38 [1,3] (l':=[(3,nI x28),(1,nP z11 0)]) (w':=w35) (by kernel_rfl) ?_
 intro a40 hF39; clear hF38
 refine wpList_nil ?_
 have hS41:=hS37.drop
 clear hS37
 refine thenN (wp_seq (wp_region_lit ?_))
 refine ev_runs 2 hF39 (l':=[(7,nB w35),(28,.agg #[nI 2,nI 0,nI 0,nI 0,nI (-1),nI (-1),nI (-1),nI (-1),nI 5]),(3,nI x28),(1,nP z11 0)]) (w':=w35.alloc (.cells #[nI 0,nI 0,nI 0,nI 0,nI 0,nI 0,nI 0,nI 0,nI 0] 46)) (by kernel_rfl) ?_
 intro a43 hF42; clear hF39
 have hS45:St w0 F0 (BlkP (w35.heap.size) 46 #[nI 0,nI 0,nI 0,nI 0,nI 0,nI 0,nI 0,nI 0,nI 0]::HeapP z11 z12 s3::ps) (w35.alloc (.cells #[nI 0,nI 0,nI 0,nI 0,nI 0,nI 0,nI 0,nI 0,nI 0] 46)):=St.new hS41 #[nI 0,nI 0,nI 0,nI 0,nI 0,nI 0,nI 0,nI 0,nI 0] 46
 clear hS41
 refine ev_store (.agg #[nI 2,nI 0,nI 0,nI 0,nI (-1),nI (-1),nI (-1),nI (-1),nI 5]) #[nI 2,nI 0,nI 0,nI 0,nI (-1),nI (-1),nI (-1),nI (-1),nI 5] hF42 (by kernel_rfl) rfl rfl rfl rfl (by kernel_rfl) hS45 (by kernel_rfl) (by kernel_rfl) (by kernel_rfl) (l':=[(7,nB w35),(28,.agg #[nI 2,nI 0,nI 0,nI 0,nI (-1),nI (-1),nI (-1),nI (-1),nI 5]),(3,nI x28),(1,nP z11 0)]) (by kernel_rfl) ?_
 intro w46 a47 hS48 hF49; clear hF42 hS45
 refine wpList_nil ?_
 have hF50:=hF49.keep [1,3,7]
 clear hF49
 refine thenN (wp_seq (wp_region_lit ?_))
 refine ev_runs 2 hF50 (l':=[(30,nI x28),(29,nP z11 0),(7,nB w35),(3,nI x28),(1,nP z11 0)]) (w':=w46) (by kernel_rfl) ?_
 intro a52 hF51; clear hF50
 refine ev_one (.agg #[nI 2,nI 0,nI 0,nI 0,nI (-1),nI (-1),nI (-1),nI (-1),nI 5]) w46 hF51 (by kernel_rfl) rfl (by kernel_rfl) (run_loadV rfl rfl (run_loadA (cs:=[nI 2,nI 0,nI 0,nI 0,nI (-1),nI (-1),nI (-1),nI (-1),nI 5]) rfl rfl (by kernel_rfl) (blk_cells hS48 0 rfl rfl))) (l':=[(31,.agg #[nI 2,nI 0,nI 0,nI 0,nI (-1),nI (-1),nI (-1),nI (-1),nI 5]),(30,nI x28),(29,nP z11 0),(7,nB w35),(3,nI x28),(1,nP z11 0)]) (by kernel_rfl) ?_
 intro a54 hF53; clear hF51
 have hS55:=hS48.pick1
 clear hS48
 refine ev_call 22 #[nP z11 0,nI x28,.agg #[nI 2,nI 0,nI 0,nI 0,nI (-1),nI (-1),nI (-1),nI (-1),nI 5]] hF53 rfl rfl (by kernel_rfl) rfl (by kernel_rfl) (fun w=>by kernel_rfl) ?_
 obtain ⟨x56,s57,hx58,hm59⟩:=bind2E hm34; clear hm34
 refine (p_PutChan hS55 hx58).mono ?_
 rintro _ w60 ⟨rfl,hS62⟩ a61 hF63; clear hF53 hS55
 refine ev_runK 1 hF63 [1,3,7,8] (l':=[(8,nI x56),(7,nB w35),(3,nI x28),(1,nP z11 0)]) (w':=w60) (by kernel_rfl) ?_
 intro a65 hF64; clear hF63
 refine wpList_nil (thenN (wp_seq (wp_region_lit ?_)))
 refine ev_runs 2 hF64 (l':=[(35,nI x28),(34,nP z11 0),(8,nI x56),(7,nB w35),(3,nI x28),(1,nP z11 0)]) (w':=w60) (by kernel_rfl) ?_
 intro a67 hF66; clear hF64
 refine ev_call 28 #[nP z11 0,nI x28] hF66 rfl rfl (by kernel_rfl) rfl (by kernel_rfl) (fun w=>by kernel_rfl) ?_
 obtain ⟨q68,x69,hx70,hm71⟩:=bind2E hm59; clear hm59
 refine (p_Chan hS62 hx70).mono ?_
 rintro _ w72 ⟨rfl,hS74⟩ a73 hF75; clear hF66 hS62
 refine ev_runs 4 hF75 (l':=[(9,nB w72),(38,nI x69),(37,.agg #[nI (q68.cap),nI (q68.closed),nI (q68.count),nI (q68.start),nI (q68.buf),nI (q68.th),nI (q68.tt),nI (q68.sh),nI (q68.st)]),(33,.tuple #[.agg #[nI (q68.cap),nI (q68.closed),nI (q68.count),nI (q68.start),nI (q68.buf),nI (q68.th),nI (q68.tt),nI (q68.sh),nI (q68.st)],nI x69]),(36,.tuple #[.agg #[nI (q68.cap),nI (q68.closed),nI (q68.count),nI (q68.start),nI (q68.buf),nI (q68.th),nI (q68.tt),nI (q68.sh),nI (q68.st)],nI x69]),(35,nI x28),(34,nP z11 0),(8,nI x56),(7,nB w35),(3,nI x28),(1,nP z11 0)]) (w':=w72.alloc (.cells #[nI 0,nI 0,nI 0,nI 0,nI 0,nI 0,nI 0,nI 0,nI 0] 46)) (by kernel_rfl) ?_
 intro a77 hF76; clear hF75
 have hS79:St w0 F0 (BlkP (w72.heap.size) 46 #[nI 0,nI 0,nI 0,nI 0,nI 0,nI 0,nI 0,nI 0,nI 0]::HeapP z11 z12 s57::BlkP (w35.heap.size) 46 #[nI 2,nI 0,nI 0,nI 0,nI (-1),nI (-1),nI (-1),nI (-1),nI 5]::ps) (w72.alloc (.cells #[nI 0,nI 0,nI 0,nI 0,nI 0,nI 0,nI 0,nI 0,nI 0] 46)):=St.new hS74 #[nI 0,nI 0,nI 0,nI 0,nI 0,nI 0,nI 0,nI 0,nI 0] 46
 clear hS74
 refine ev_store (.agg #[nI (q68.cap),nI (q68.closed),nI (q68.count),nI (q68.start),nI (q68.buf),nI (q68.th),nI (q68.tt),nI (q68.sh),nI (q68.st)]) #[nI (q68.cap),nI (q68.closed),nI (q68.count),nI (q68.start),nI (q68.buf),nI (q68.th),nI (q68.tt),nI (q68.sh),nI (q68.st)] hF76 (by kernel_rfl) rfl rfl rfl rfl (by kernel_rfl) hS79 (by kernel_rfl) (by kernel_rfl) (by kernel_rfl) (l':=[(9,nB w72),(38,nI x69),(37,.agg #[nI (q68.cap),nI (q68.closed),nI (q68.count),nI (q68.start),nI (q68.buf),nI (q68.th),nI (q68.tt),nI (q68.sh),nI (q68.st)]),(33,.tuple #[.agg #[nI (q68.cap),nI (q68.closed),nI (q68.count),nI (q68.start),nI (q68.buf),nI (q68.th),nI (q68.tt),nI (q68.sh),nI (q68.st)],nI x69]),(36,.tuple #[.agg #[nI (q68.cap),nI (q68.closed),nI (q68.count),nI (q68.start),nI (q68.buf),nI (q68.th),nI (q68.tt),nI (q68.sh),nI (q68.st)],nI x69]),(35,nI x28),(34,nP z11 0),(8,nI x56),(7,nB w35),(3,nI x28),(1,nP z11 0)]) (by kernel_rfl) ?_
 intro w80 a81 hS82 hF83; clear hF76 hS79
 refine ev_runK 1 hF83 [7,8,9,10] (l':=[(10,nI x69),(9,nB w72),(8,nI x56),(7,nB w35)]) (w':=w80) (by kernel_rfl) ?_
 intro a85 hF84; clear hF83
 refine wpList_nil ?_
 have hS86:=hS82.pick1.drop
 clear hS82
 refine thenN (wp_seq ?_)
 refine joinQ (fun aI wI=>∃ (y87:Bool),Fr 50 aI [(0,.bool (y87))]∧St w0 F0 (ps) wI∧law11_awake.j1 y87=some r0) ?_ ?_
 rotate_left
 · rintro a89 w90 ⟨y87,hF91,hS92,hm93⟩
   clear hF84 hS86 hm71
   unfold law11_awake.j1 at hm93
   refine thenN ?_
   refine wp_ret ?_
   obtain rfl:=Option.some.inj hm93
   refine ev_ret hF91 [0] (.bool (y87)) rfl rfl rfl ?_
   exact ⟨rfl,hS92⟩
 · skip
   refine wp_region_lit ?_
   refine ev_runs 3 hF84 (l':=[(41,.bool (x56 == 0)),(40,.bool (x56 == 0)),(39,nI x56),(10,nI x69),(9,nB w72),(8,nI x56),(7,nB w35)]) (w':=w80) (by kernel_rfl) ?_
   intro a97 hF96; clear hF84
   cases hc98:(x56 == 0)
   case true =>
    rw [hc98] at hF96
    have hm99:=ifYes hc98 hm71; clear hm71
    refine ev_runs 4 hF96 (l':=[(45,.bool (x69 == 0)),(44,.bool (x69 == 0)),(43,.bool (x69 == 0)),(42,nI x69),(41,.bool true),(40,.bool true),(39,nI x56),(10,nI x69),(9,nB w72),(8,nI x56),(7,nB w35)]) (w':=w80) (by kernel_rfl) ?_
    intro a101 hF100; clear hF96
    cases hc102:(x69 == 0)
    case true =>
     rw [hc102] at hF100
     have hm103:=ifYes hc102 hm99; clear hm99
     refine ev_one (.agg #[nI (q68.cap),nI (q68.closed),nI (q68.count),nI (q68.start),nI (q68.buf),nI (q68.th),nI (q68.tt),nI (q68.sh),nI (q68.st)]) w80 hF100 (by kernel_rfl) rfl (by kernel_rfl) (run_loadV rfl rfl (run_loadA (cs:=[nI (q68.cap),nI (q68.closed),nI (q68.count),nI (q68.start),nI (q68.buf),nI (q68.th),nI (q68.tt),nI (q68.sh),nI (q68.st)]) rfl rfl (by kernel_rfl) (blk_cells hS86 0 rfl rfl))) (l':=[(46,.agg #[nI (q68.cap),nI (q68.closed),nI (q68.count),nI (q68.start),nI (q68.buf),nI (q68.th),nI (q68.tt),nI (q68.sh),nI (q68.st)]),(45,.bool true),(44,.bool true),(43,.bool true),(42,nI x69),(41,.bool true),(40,.bool true),(39,nI x56),(10,nI x69),(9,nB w72),(8,nI x56),(7,nB w35)]) (by kernel_rfl) ?_
     intro a105 hF104; clear hF100
     refine ev_one (.agg #[nI 2,nI 0,nI 0,nI 0,nI (-1),nI (-1),nI (-1),nI (-1),nI 5]) w80 hF104 (by kernel_rfl) rfl (by kernel_rfl) (run_loadV rfl rfl (run_loadA (cs:=[nI 2,nI 0,nI 0,nI 0,nI (-1),nI (-1),nI (-1),nI (-1),nI 5]) rfl rfl (by kernel_rfl) (blk_cells hS86 1 rfl rfl))) (l':=[(47,.agg #[nI 2,nI 0,nI 0,nI 0,nI (-1),nI (-1),nI (-1),nI (-1),nI 5]),(46,.agg #[nI (q68.cap),nI (q68.closed),nI (q68.count),nI (q68.start),nI (q68.buf),nI (q68.th),nI (q68.tt),nI (q68.sh),nI (q68.st)]),(45,.bool true),(44,.bool true),(43,.bool true),(42,nI x69),(41,.bool true),(40,.bool true),(39,nI x56),(10,nI x69),(9,nB w72),(8,nI x56),(7,nB w35)]) (by kernel_rfl) ?_
     intro a107 hF106; clear hF104
     refine ev_one (.bool ((q68.cap == (2:Int)) && ((q68.closed == (0:Int)) && ((q68.count == (0:Int)) && ((q68.start == (0:Int)) && ((q68.buf == (-1:Int)) && ((q68.th == (-1:Int)) && ((q68.tt == (-1:Int)) && ((q68.sh == (-1:Int)) && ((q68.st == (5:Int)) && (true))))))))))) w80 hF106 (by kernel_rfl) rfl (by kernel_rfl) (run_eqS rfl rfl rfl (by kernel_rfl) rfl (by kernel_rfl) (eqf_int (by kernel_rfl) rfl rfl rfl (eqf_int (by kernel_rfl) rfl rfl rfl (eqf_int (by kernel_rfl) rfl rfl rfl (eqf_int (by kernel_rfl) rfl rfl rfl (eqf_int (by kernel_rfl) rfl rfl rfl (eqf_int (by kernel_rfl) rfl rfl rfl (eqf_int (by kernel_rfl) rfl rfl rfl (eqf_int (by kernel_rfl) rfl rfl rfl (eqf_int (by kernel_rfl) rfl rfl rfl eqf_nil)))))))))) (l':=[(48,.bool ((q68.cap == (2:Int)) && ((q68.closed == (0:Int)) && ((q68.count == (0:Int)) && ((q68.start == (0:Int)) && ((q68.buf == (-1:Int)) && ((q68.th == (-1:Int)) && ((q68.tt == (-1:Int)) && ((q68.sh == (-1:Int)) && ((q68.st == (5:Int)) && (true))))))))))),(47,.agg #[nI 2,nI 0,nI 0,nI 0,nI (-1),nI (-1),nI (-1),nI (-1),nI 5]),(46,.agg #[nI (q68.cap),nI (q68.closed),nI (q68.count),nI (q68.start),nI (q68.buf),nI (q68.th),nI (q68.tt),nI (q68.sh),nI (q68.st)]),(45,.bool true),(44,.bool true),(43,.bool true),(42,nI x69),(41,.bool true),(40,.bool true),(39,nI x56),(10,nI x69),(9,nB w72),(8,nI x56),(7,nB w35)]) (by kernel_rfl) ?_
     intro a109 hF108; clear hF106
     refine ev_runK 2 hF108 [0] (l':=[(0,.bool ((q68.cap == (2:Int)) && ((q68.closed == (0:Int)) && ((q68.count == (0:Int)) && ((q68.start == (0:Int)) && ((q68.buf == (-1:Int)) && ((q68.th == (-1:Int)) && ((q68.tt == (-1:Int)) && ((q68.sh == (-1:Int)) && ((q68.st == (5:Int)) && (true)))))))))))]) (w':=w80) (by kernel_rfl) ?_
     intro a111 hF110; clear hF108
     refine wpList_nil ?_
     have hS112:=hS86.drop.drop
     clear hS86
     exact thenN ⟨(q68.cap == (2:Int)) && ((q68.closed == (0:Int)) && ((q68.count == (0:Int)) && ((q68.start == (0:Int)) && ((q68.buf == (-1:Int)) && ((q68.th == (-1:Int)) && ((q68.tt == (-1:Int)) && ((q68.sh == (-1:Int)) && ((q68.st == (5:Int)) && (true))))))))),hF110,hS112,hm103⟩
    rw [hc102] at hF100
    have hm113:=ifNot hc102 hm99; clear hm99
    refine ev_runK 5 hF100 [0] (l':=[(0,.bool false)]) (w':=w80) (by kernel_rfl) ?_
    intro a115 hF114; clear hF100
    refine wpList_nil ?_
    have hS116:=hS86.drop.drop
    clear hS86
    exact thenN ⟨false,hF114,hS116,hm113⟩
   rw [hc98] at hF96
   have hm117:=ifNot hc98 hm71; clear hm71
   refine ev_runK 9 hF96 [0] (l':=[(0,.bool false)]) (w':=w80) (by kernel_rfl) ?_
   intro a119 hF118; clear hF96
   refine wpList_nil ?_
   have hS120:=hS86.drop.drop
   clear hS86
   exact thenN ⟨false,hF118,hS120,hm117⟩
def law11_small.m (k:Nat) (i0:Int):Option (Int):=bind1 (some (Int.tmod i0 1099511627776)) fun x5=>some (x5)
set_option maxRecDepth 100000 in
set_option maxHeartbeats 1500000 in
theorem law11_small.ok {w0 w:World} {F0:List Nat} {ps:List Piece} {k:Nat} {i0:Int} {r0:Int} (hS:St w0 F0 (ps) w) (hm:law11_small.m k i0=some r0) :
    Calls Try.prog 27 #[nI i0] w fun e w'=>e=.returned (.int .i64 r0)∧St w0 F0 (ps) w':=by
 refine ev_enterL 5 [nI i0] Try.func27 rfl rfl (by simp) ?_
 intro a hF
 have hF0:Fr 5 a [(0,nI i0)]:=hF; clear hF
 unfold law11_small.m at hm
 refine wp_seq (wp_region_lit ?_)
 refine ev_runK 1 hF0 [0] (l':=[(0,nI i0)]) (w':=w) (by kernel_rfl) ?_
 intro a2 hF1; clear hF0
 refine wpList_nil (thenN (wp_seq (wp_region_lit ?_)))
 refine ev_runs 3 hF1 (l':=[(2,nI (Int.tmod i0 1099511627776)),(4,nI (Int.tmod i0 1099511627776)),(3,nI i0),(0,nI i0)]) (w':=w) (by kernel_rfl) ?_
 intro a4 hF3; clear hF1
 obtain ⟨x5,hx6,hm7⟩:=bind1E hm; clear hm
 have hF8:=hF3; rw [Option.some.inj hx6] at hF8; clear hF3
 refine wpList_nil ?_
 have hF9:=hF8.keep [2]
 clear hF8
 refine thenN ?_
 refine wp_ret ?_
 obtain rfl:=Option.some.inj hm7
 refine ev_ret hF9 [2] (nI x5) rfl rfl rfl ?_
 exact ⟨rfl,hS⟩
end Go.Proofs.Ytjdlnmbfomojdaa
