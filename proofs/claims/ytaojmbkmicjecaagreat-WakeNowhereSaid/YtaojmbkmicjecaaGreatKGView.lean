/- GView GList GWake -/
import Derived.Test.YtaojmbkmicjecaaGreatKPrimV
import Derived.Test.YtaojmbkmicjecaaGreatKRefArena3
import Derived.Deep.LoopGhost
import Derived.KernelRfl
namespace Go.Proofs.YtaojmbkmicjecaaGreat
open Go.RowKit
set_option linter.unusedVariables false
def view_Gor.l2b (s0:HSt) (L10:List Int) (x48:Int) (x49:Int) (x50:Int) (rec69:Int→Int→Int→Int→Int→Int→Int→Option (Gr×Int×HSt)) (x60:Int) (x61:Int) (x62:Int) (x63:Int) (x64:Int) (x65:Int) (x66:Int):Option (Gr×Int×HSt):=(if (decide (x66<6)) then (if (inR (IntKind.i64.wrap (3+x66)) L10.length) then (if (x66 == 0) then rec69 (atI L10 (IntKind.i64.wrap (3+x66))) x61 x62 x63 x64 x65 (IntKind.i64.wrap (x66+1)) else (if (x66 == 1) then rec69 x60 (atI L10 (IntKind.i64.wrap (3+x66))) x62 x63 x64 x65 (IntKind.i64.wrap (x66+1)) else (if (x66 == 2) then rec69 x60 x61 (atI L10 (IntKind.i64.wrap (3+x66))) x63 x64 x65 (IntKind.i64.wrap (x66+1)) else (if (x66 == 3) then rec69 x60 x61 x62 (atI L10 (IntKind.i64.wrap (3+x66))) x64 x65 (IntKind.i64.wrap (x66+1)) else (if (x66 == 4) then rec69 x60 x61 x62 x63 (atI L10 (IntKind.i64.wrap (3+x66))) x65 (IntKind.i64.wrap (x66+1)) else (if (x66 == 5) then rec69 x60 x61 x62 x63 x64 (atI L10 (IntKind.i64.wrap (3+x66))) (IntKind.i64.wrap (x66+1)) else none)))))) else none) else (if (inR (9:Int) L10.length) then bind1 (pAt (atI L10 (9:Int))) fun x174=>some ((⟨x48,x49,x50,x60,x61,x62,x63,x64,x65,x174⟩:Gr),0,s0) else none))
def view_Gor.l2 (s0:HSt) (L10:List Int) (x48:Int) (x49:Int) (x50:Int):Nat→Int→Int→Int→Int→Int→Int→Int→Option (Gr×Int×HSt)
  | 0=>fun _ _ _ _ _ _ _=>none
  | kI+1=>view_Gor.l2b s0 L10 x48 x49 x50 (view_Gor.l2 s0 L10 x48 x49 x50 kI)
def view_Gor.j1 (s0:HSt) (k:Nat) (L10:List Int) (x48:Int) (x49:Int) (x50:Int):Option (Gr×Int×HSt):=view_Gor.l2 s0 L10 x48 x49 x50 k 0 0 0 0 0 0 0
def view_Gor.m (k:Nat) (s0:HSt) (i1:Int):Option (Gr×Int×HSt):=bind2 (pSeen4 i1 s0) fun L10 x11=>(if (x11 != 0) then some ((⟨0,0,0,0,0,0,0,0,0,0⟩:Gr),x11,s0) else (if (inR (0:Int) L10.length) then (if (inR (1:Int) L10.length) then (if (inR (2:Int) L10.length) then bind1 (pNum (atI L10 (0:Int))) fun x215=>bind1 (pNum (atI L10 (1:Int))) fun x222=>bind1 (pNum (atI L10 (2:Int))) fun x229=>view_Gor.j1 s0 k L10 x215 x222 x229 else none) else none) else none))
set_option maxRecDepth 100000 in
set_option maxHeartbeats 1500000 in
theorem view_Gor.ok {w0 w:World} {F0:List Nat} {ps:List Piece} {k:Nat} {b0 ab0:Nat} {s0:HSt} {i1:Int} {r0:Gr} {r1:Int} {t0:HSt} (hS:St w0 F0 (HeapP b0 ab0 s0::ps) w) (hm:view_Gor.m k s0 i1=some (r0,r1,t0)) :
    Calls Tryz.prog 38 #[nP b0 0,nI i1] w fun e w'=>e=.returned (.tuple #[.agg #[nI (r0.id),nI (r0.status),nI (r0.pc),nI (r0.a),nI (r0.b),nI (r0.c),nI (r0.d),nI (r0.e),nI (r0.f),nI (r0.sudogs)],.int .i64 r1])∧St w0 F0 (HeapP b0 ab0 t0::ps) w':=by
 refine ev_enterL 51 [nP b0 0,nI i1] Tryz.func38 rfl rfl (by simp) ?_
 intro a hF
 have hF0:Fr 51 a [(0,nP b0 0),(1,nI i1)]:=hF; clear hF
 unfold view_Gor.m at hm
 refine wp_seq (wp_region_lit ?_)
 refine ev_runs 1 hF0 (l':=[(4,nB w),(0,nP b0 0),(1,nI i1)]) (w':=w.alloc (.cells #[nI 0,nI 0,nI 0,nI 0,nI 0,nI 0,nI 0,nI 0,nI 0,nI 0] 70)) (by kernel_rfl) ?_
 intro a2 hF1; clear hF0
 have hS4:St w0 F0 (BlkP (w.heap.size) 70 #[nI 0,nI 0,nI 0,nI 0,nI 0,nI 0,nI 0,nI 0,nI 0,nI 0]::HeapP b0 ab0 s0::ps) (w.alloc (.cells #[nI 0,nI 0,nI 0,nI 0,nI 0,nI 0,nI 0,nI 0,nI 0,nI 0] 70)):=St.new hS #[nI 0,nI 0,nI 0,nI 0,nI 0,nI 0,nI 0,nI 0,nI 0,nI 0] 70
 refine ev_runK 1 hF1 [0,1,4] (l':=[(4,nB w),(0,nP b0 0),(1,nI i1)]) (w':=w.alloc (.cells #[nI 0,nI 0,nI 0,nI 0,nI 0,nI 0,nI 0,nI 0,nI 0,nI 0] 70)) (by kernel_rfl) ?_
 intro a6 hF5; clear hF1
 refine wpList_nil (thenN (wp_seq (wp_region_lit ?_)))
 refine ev_runs 2 hF5 (l':=[(12,nI i1),(11,nP b0 0),(4,nB w),(0,nP b0 0),(1,nI i1)]) (w':=w.alloc (.cells #[nI 0,nI 0,nI 0,nI 0,nI 0,nI 0,nI 0,nI 0,nI 0,nI 0] 70)) (by kernel_rfl) ?_
 intro a8 hF7; clear hF5
 have hS9:=hS4.pick1
 clear hS4
 refine ev_call 67 #[nP b0 0,nI i1,nI 4] hF7 rfl rfl (by kernel_rfl) rfl (by kernel_rfl) (fun w=>by kernel_rfl) ?_
 obtain ⟨L10,x11,hx12,hm13⟩:=bind2E hm; clear hm
 refine (p_seen4 hS9 hx12).mono ?_
 rintro _ w14 ⟨z18,rfl,hS16⟩ a15 hF17; clear hF7 hS9
 obtain ⟨hl23,p20,c21,rfl,hp22⟩:=St.shape hS16 1 rfl
 refine ev_runK 5 hF17 [4,6,7] (l':=[(7,nI x11),(6,.slice p20 L10.length c21),(4,nB w)]) (w':=w14) (by kernel_rfl) ?_
 intro a25 hF24; clear hF17
 refine wpList_nil (thenN (wp_seq (wp_seq (wp_region_lit ?_))))
 refine ev_runK 2 hF24 [4,6,7,17] (l':=[(17,.bool (x11 != 0)),(7,nI x11),(6,.slice p20 L10.length c21),(4,nB w)]) (w':=w14) (by kernel_rfl) ?_
 intro a27 hF26; clear hF24
 refine wpList_nil (thenN ?_)
 cases hc28:(x11 != 0)
 case true =>
  rw [hc28] at hF26
  have hm29:=ifYes hc28 hm13; clear hm13
  refine ev_condT hF26 rfl rfl ?_
  refine wp_seq (wp_region_lit ?_)
  refine ev_runs 2 hF26 (l':=[(19,nI x11),(18,.agg #[nI 0,nI 0,nI 0,nI 0,nI 0,nI 0,nI 0,nI 0,nI 0,nI 0]),(17,.bool true),(7,nI x11),(6,.slice p20 L10.length c21),(4,nB w)]) (w':=w14) (by kernel_rfl) ?_
  intro a31 hF30; clear hF26
  have hS32:=hS16.pick2
  clear hS16
  refine ev_store (.agg #[nI 0,nI 0,nI 0,nI 0,nI 0,nI 0,nI 0,nI 0,nI 0,nI 0]) #[nI 0,nI 0,nI 0,nI 0,nI 0,nI 0,nI 0,nI 0,nI 0,nI 0] hF30 (by kernel_rfl) rfl rfl rfl rfl (by kernel_rfl) hS32 (by kernel_rfl) (by kernel_rfl) (by kernel_rfl) (l':=[(19,nI x11),(18,.agg #[nI 0,nI 0,nI 0,nI 0,nI 0,nI 0,nI 0,nI 0,nI 0,nI 0]),(17,.bool true),(7,nI x11),(6,.slice p20 L10.length c21),(4,nB w)]) (by kernel_rfl) ?_
  intro w33 a34 hS35 hF36; clear hF30 hS32
  refine ev_runK 1 hF36 [4,5] (l':=[(5,nI x11),(4,nB w)]) (w':=w33) (by kernel_rfl) ?_
  intro a38 hF37; clear hF36
  refine wpList_nil ?_
  have hS39:=hS35.pick2.drop
  clear hS35
  refine thenN ?_
  refine wp_ret ?_
  refine thenR ?_
  have hS40:=hS39.pick1
  clear hS39
  simp only [Option.some.injEq,Prod.mk.injEq] at hm29
  obtain ⟨rfl,rfl,rfl⟩:=hm29
  refine ev_retC hF37 _ [.agg #[nI 0,nI 0,nI 0,nI 0,nI 0,nI 0,nI 0,nI 0,nI 0,nI 0],nI x11] (.tuple #[.agg #[nI 0,nI 0,nI 0,nI 0,nI 0,nI 0,nI 0,nI 0,nI 0,nI 0],nI x11]) rfl ⟨⟨rfl,_,rfl,(run_loadA (cs:=[nI 0,nI 0,nI 0,nI 0,nI 0,nI 0,nI 0,nI 0,nI 0,nI 0]) rfl rfl (by kernel_rfl) (blk_cells hS40 1 rfl rfl))⟩,⟨rfl,rfl⟩,trivial⟩ rfl ?_
  have hS44:=hS40.pick1.drop
  clear hS40
  exact ⟨rfl,hS44⟩
 rw [hc28] at hF26
 have hm45:=ifNot hc28 hm13; clear hm13
 refine ev_condF hF26 rfl rfl ?_
 refine wp_skip ?_
 have hF46:=hF26.keep [4,6]
 clear hF26
 refine thenN (wp_seq ?_)
 refine joinQ (fun aI wI=>∃ (g47:Nat) (x48:Int) (x49:Int) (x50:Int),Fr 51 aI [(8,nP g47 0),(6,.slice p20 L10.length c21),(4,nB w)]∧St w0 F0 (BlkP g47 70 #[nI x48,nI x49,nI x50,nI 0,nI 0,nI 0,nI 0,nI 0,nI 0,nI (-1)]::RowP (.slice p20 L10.length c21) L10::HeapP b0 ab0 s0::BlkP (w.heap.size) 70 #[nI 0,nI 0,nI 0,nI 0,nI 0,nI 0,nI 0,nI 0,nI 0,nI 0]::ps) wI∧view_Gor.j1 s0 k L10 x48 x49 x50=some (r0,r1,t0)) ?_ ?_
 rotate_left
 · rintro a52 w53 ⟨g47,x48,x49,x50,hF54,hS55,hm56⟩
   clear hF46 hS16 hm45
   unfold view_Gor.j1 at hm56
   refine thenN (wp_seq (wp_seq (wp_region_lit ?_)))
   refine ev_runs 1 hF54 (l':=[(33,nI 0),(8,nP g47 0),(6,.slice p20 L10.length c21),(4,nB w)]) (w':=w53) (by kernel_rfl) ?_
   intro a59 hF58; clear hF54
   refine wpList_nil (thenN ?_)
   refine wp_block ?_
   refine wp_loop_ghost (fun kI aI wI=>∃ (x60:Int) (x61:Int) (x62:Int) (x63:Int) (x64:Int) (x65:Int) (x66:Int),Fr 51 aI [(33,nI x66),(8,nP g47 0),(6,.slice p20 L10.length c21),(4,nB w)]∧St w0 F0 (BlkP g47 70 #[nI x48,nI x49,nI x50,nI x60,nI x61,nI x62,nI x63,nI x64,nI x65,nI (-1)]::RowP (.slice p20 L10.length c21) L10::HeapP b0 ab0 s0::BlkP (w.heap.size) 70 #[nI 0,nI 0,nI 0,nI 0,nI 0,nI 0,nI 0,nI 0,nI 0,nI 0]::ps) wI∧view_Gor.l2 s0 L10 x48 x49 x50 kI x60 x61 x62 x63 x64 x65 x66=some (r0,r1,t0)) k ⟨0,0,0,0,0,0,0,hF58,hS55,hm56⟩ ?_
   rintro k67 a68 w69 ⟨x60,x61,x62,x63,x64,x65,x66,hF70,hS71,hm72⟩
   clear hF58 hS55 hm56
   rcases k67 with _ | k67
   · cases hm72
   have hm73:view_Gor.l2b s0 L10 x48 x49 x50 (view_Gor.l2 s0 L10 x48 x49 x50 k67) x60 x61 x62 x63 x64 x65 x66=some (r0,r1,t0):=hm72
   clear hm72
   unfold view_Gor.l2b at hm73
   refine wp_seq (wp_region_lit ?_)
   refine ev_runs 1 hF70 (l':=[(34,.bool (decide (x66<6))),(33,nI x66),(8,nP g47 0),(6,.slice p20 L10.length c21),(4,nB w)]) (w':=w69) (by kernel_rfl) ?_
   intro a75 hF74; clear hF70
   refine wpList_nil (thenN (wp_seq ?_))
   cases hc76:(decide (x66<6))
   case true =>
    rw [hc76] at hF74
    have hm77:=ifYes hc76 hm73; clear hm73
    refine ev_condT hF74 rfl rfl ?_
    refine wp_skip ?_
    have hF78:=hF74.keep [4,6,8,33]
    clear hF74
    refine thenN (wp_seq ?_)
    refine wp_block ?_
    refine wp_seq (wp_region_lit ?_)
    refine ev_runK 2 hF78 [4,6,8,9,33] (l':=[(9,nI x66),(33,nI x66),(8,nP g47 0),(6,.slice p20 L10.length c21),(4,nB w)]) (w':=w69) (by kernel_rfl) ?_
    intro a80 hF79; clear hF78
    refine wpList_nil (thenN (wp_region_lit ?_))
    refine ev_runs 4 hF79 (l':=[(39,nI (IntKind.i64.wrap (3+x66))),(38,nI x66),(37,.slice p20 L10.length c21),(36,nI x66),(9,nI x66),(33,nI x66),(8,nP g47 0),(6,.slice p20 L10.length c21),(4,nB w)]) (w':=w69) (by kernel_rfl) ?_
    intro a82 hF81; clear hF79
    obtain ⟨hc83,hm84⟩:=ifTE hm77; clear hm77
    obtain ⟨g85,rfl⟩:=hp22.resolve_left (by have:=inR_spec hc83; omega)
    refine ev_one (nP g85 ((IntKind.i64.wrap (3+x66)).toNat)) w69 hF81 (by kernel_rfl) rfl (by kernel_rfl) (run_idx rfl rfl rfl rfl rfl (inR_spec hc83).1 (inR_spec hc83).2 _) (l':=[(40,nP g85 ((IntKind.i64.wrap (3+x66)).toNat)),(39,nI (IntKind.i64.wrap (3+x66))),(38,nI x66),(37,nS g85 L10 c21),(36,nI x66),(9,nI x66),(33,nI x66),(8,nP g47 0),(6,nS g85 L10 c21),(4,nB w)]) (by kernel_rfl) ?_
    intro a87 hF86; clear hF81
    refine ev_one (nI (atI L10 (IntKind.i64.wrap (3+x66)))) w69 hF86 (by kernel_rfl) rfl (by kernel_rfl) (run_load1 rfl rfl rfl (hS71.atI 1 rfl hc83)) (l':=[(41,nI (atI L10 (IntKind.i64.wrap (3+x66)))),(40,nP g85 ((IntKind.i64.wrap (3+x66)).toNat)),(39,nI (IntKind.i64.wrap (3+x66))),(38,nI x66),(37,nS g85 L10 c21),(36,nI x66),(9,nI x66),(33,nI x66),(8,nP g47 0),(6,nS g85 L10 c21),(4,nB w)]) (by kernel_rfl) ?_
    intro a89 hF88; clear hF86
    refine ev_runs 1 hF88 (l':=[(42,nP g47 3),(41,nI (atI L10 (IntKind.i64.wrap (3+x66)))),(40,nP g85 ((IntKind.i64.wrap (3+x66)).toNat)),(39,nI (IntKind.i64.wrap (3+x66))),(38,nI x66),(37,nS g85 L10 c21),(36,nI x66),(9,nI x66),(33,nI x66),(8,nP g47 0),(6,nS g85 L10 c21),(4,nB w)]) (w':=w69) (by kernel_rfl) ?_
    intro a91 hF90; clear hF88
    cases hc92:(x66 == 0)
    case true =>
     have hm93:=ifYes hc92 hm84; clear hm84
     refine ev_one (nP g47 3) w69 hF90 (by kernel_rfl) rfl (by kernel_rfl) (run_idxA (q:=0) rfl rfl rfl rfl (congrArg (Value.int .i64) (eq_of_beq hc92)) (by decide) (by decide) (by kernel_rfl) _) (l':=[(43,nP g47 3),(42,nP g47 3),(41,nI (atI L10 (IntKind.i64.wrap (3+x66)))),(40,nP g85 ((IntKind.i64.wrap (3+x66)).toNat)),(39,nI (IntKind.i64.wrap (3+x66))),(38,nI x66),(37,nS g85 L10 c21),(36,nI x66),(9,nI x66),(33,nI x66),(8,nP g47 0),(6,nS g85 L10 c21),(4,nB w)]) (by kernel_rfl) ?_
     intro a95 hF94; clear hF90
     refine ev_store (nI (atI L10 (IntKind.i64.wrap (3+x66)))) #[nI x48,nI x49,nI x50,nI (atI L10 (IntKind.i64.wrap (3+x66))),nI x61,nI x62,nI x63,nI x64,nI x65,nI (-1)] hF94 (by kernel_rfl) rfl rfl rfl rfl (by kernel_rfl) hS71 (by kernel_rfl) (by kernel_rfl) (by kernel_rfl) (l':=[(43,nP g47 3),(42,nP g47 3),(41,nI (atI L10 (IntKind.i64.wrap (3+x66)))),(40,nP g85 ((IntKind.i64.wrap (3+x66)).toNat)),(39,nI (IntKind.i64.wrap (3+x66))),(38,nI x66),(37,nS g85 L10 c21),(36,nI x66),(9,nI x66),(33,nI x66),(8,nP g47 0),(6,nS g85 L10 c21),(4,nB w)]) (by kernel_rfl) ?_
     intro w96 a97 hS98 hF99; clear hF94 hS71
     refine wpList_nil ?_
     have hF100:=hF99.keep [4,6,8,33]
     clear hF99
     refine blockN ?_
     refine thenN (wp_region_lit ?_)
     refine ev_runK 2 hF100 [4,6,8,33] (l':=[(33,nI (IntKind.i64.wrap (x66+1))),(8,nP g47 0),(6,nS g85 L10 c21),(4,nB w)]) (w':=w96) (by kernel_rfl) ?_
     intro a102 hF101; clear hF100
     refine wpList_nil ?_
     exact thenN ⟨k67,Nat.lt_succ_self _,atI L10 (IntKind.i64.wrap (3+x66)),x61,x62,x63,x64,x65,IntKind.i64.wrap (x66+1),hF101,hS98,hm93⟩
    have hm103:=ifNot hc92 hm84; clear hm84
    cases hc104:(x66 == 1)
    case true =>
     have hm105:=ifYes hc104 hm103; clear hm103
     refine ev_one (nP g47 4) w69 hF90 (by kernel_rfl) rfl (by kernel_rfl) (run_idxA (q:=1) rfl rfl rfl rfl (congrArg (Value.int .i64) (eq_of_beq hc104)) (by decide) (by decide) (by kernel_rfl) _) (l':=[(43,nP g47 4),(42,nP g47 3),(41,nI (atI L10 (IntKind.i64.wrap (3+x66)))),(40,nP g85 ((IntKind.i64.wrap (3+x66)).toNat)),(39,nI (IntKind.i64.wrap (3+x66))),(38,nI x66),(37,nS g85 L10 c21),(36,nI x66),(9,nI x66),(33,nI x66),(8,nP g47 0),(6,nS g85 L10 c21),(4,nB w)]) (by kernel_rfl) ?_
     intro a107 hF106; clear hF90
     refine ev_store (nI (atI L10 (IntKind.i64.wrap (3+x66)))) #[nI x48,nI x49,nI x50,nI x60,nI (atI L10 (IntKind.i64.wrap (3+x66))),nI x62,nI x63,nI x64,nI x65,nI (-1)] hF106 (by kernel_rfl) rfl rfl rfl rfl (by kernel_rfl) hS71 (by kernel_rfl) (by kernel_rfl) (by kernel_rfl) (l':=[(43,nP g47 4),(42,nP g47 3),(41,nI (atI L10 (IntKind.i64.wrap (3+x66)))),(40,nP g85 ((IntKind.i64.wrap (3+x66)).toNat)),(39,nI (IntKind.i64.wrap (3+x66))),(38,nI x66),(37,nS g85 L10 c21),(36,nI x66),(9,nI x66),(33,nI x66),(8,nP g47 0),(6,nS g85 L10 c21),(4,nB w)]) (by kernel_rfl) ?_
     intro w108 a109 hS110 hF111; clear hF106 hS71
     refine wpList_nil ?_
     have hF112:=hF111.keep [4,6,8,33]
     clear hF111
     refine blockN ?_
     refine thenN (wp_region_lit ?_)
     refine ev_runK 2 hF112 [4,6,8,33] (l':=[(33,nI (IntKind.i64.wrap (x66+1))),(8,nP g47 0),(6,nS g85 L10 c21),(4,nB w)]) (w':=w108) (by kernel_rfl) ?_
     intro a114 hF113; clear hF112
     refine wpList_nil ?_
     exact thenN ⟨k67,Nat.lt_succ_self _,x60,atI L10 (IntKind.i64.wrap (3+x66)),x62,x63,x64,x65,IntKind.i64.wrap (x66+1),hF113,hS110,hm105⟩
    have hm115:=ifNot hc104 hm103; clear hm103
    cases hc116:(x66 == 2)
    case true =>
     have hm117:=ifYes hc116 hm115; clear hm115
     refine ev_one (nP g47 5) w69 hF90 (by kernel_rfl) rfl (by kernel_rfl) (run_idxA (q:=2) rfl rfl rfl rfl (congrArg (Value.int .i64) (eq_of_beq hc116)) (by decide) (by decide) (by kernel_rfl) _) (l':=[(43,nP g47 5),(42,nP g47 3),(41,nI (atI L10 (IntKind.i64.wrap (3+x66)))),(40,nP g85 ((IntKind.i64.wrap (3+x66)).toNat)),(39,nI (IntKind.i64.wrap (3+x66))),(38,nI x66),(37,nS g85 L10 c21),(36,nI x66),(9,nI x66),(33,nI x66),(8,nP g47 0),(6,nS g85 L10 c21),(4,nB w)]) (by kernel_rfl) ?_
     intro a119 hF118; clear hF90
     refine ev_store (nI (atI L10 (IntKind.i64.wrap (3+x66)))) #[nI x48,nI x49,nI x50,nI x60,nI x61,nI (atI L10 (IntKind.i64.wrap (3+x66))),nI x63,nI x64,nI x65,nI (-1)] hF118 (by kernel_rfl) rfl rfl rfl rfl (by kernel_rfl) hS71 (by kernel_rfl) (by kernel_rfl) (by kernel_rfl) (l':=[(43,nP g47 5),(42,nP g47 3),(41,nI (atI L10 (IntKind.i64.wrap (3+x66)))),(40,nP g85 ((IntKind.i64.wrap (3+x66)).toNat)),(39,nI (IntKind.i64.wrap (3+x66))),(38,nI x66),(37,nS g85 L10 c21),(36,nI x66),(9,nI x66),(33,nI x66),(8,nP g47 0),(6,nS g85 L10 c21),(4,nB w)]) (by kernel_rfl) ?_
     intro w120 a121 hS122 hF123; clear hF118 hS71
     refine wpList_nil ?_
     have hF124:=hF123.keep [4,6,8,33]
     clear hF123
     refine blockN ?_
     refine thenN (wp_region_lit ?_)
     refine ev_runK 2 hF124 [4,6,8,33] (l':=[(33,nI (IntKind.i64.wrap (x66+1))),(8,nP g47 0),(6,nS g85 L10 c21),(4,nB w)]) (w':=w120) (by kernel_rfl) ?_
     intro a126 hF125; clear hF124
     refine wpList_nil ?_
     exact thenN ⟨k67,Nat.lt_succ_self _,x60,x61,atI L10 (IntKind.i64.wrap (3+x66)),x63,x64,x65,IntKind.i64.wrap (x66+1),hF125,hS122,hm117⟩
    have hm127:=ifNot hc116 hm115; clear hm115
    cases hc128:(x66 == 3)
    case true =>
     have hm129:=ifYes hc128 hm127; clear hm127
     refine ev_one (nP g47 6) w69 hF90 (by kernel_rfl) rfl (by kernel_rfl) (run_idxA (q:=3) rfl rfl rfl rfl (congrArg (Value.int .i64) (eq_of_beq hc128)) (by decide) (by decide) (by kernel_rfl) _) (l':=[(43,nP g47 6),(42,nP g47 3),(41,nI (atI L10 (IntKind.i64.wrap (3+x66)))),(40,nP g85 ((IntKind.i64.wrap (3+x66)).toNat)),(39,nI (IntKind.i64.wrap (3+x66))),(38,nI x66),(37,nS g85 L10 c21),(36,nI x66),(9,nI x66),(33,nI x66),(8,nP g47 0),(6,nS g85 L10 c21),(4,nB w)]) (by kernel_rfl) ?_
     intro a131 hF130; clear hF90
     refine ev_store (nI (atI L10 (IntKind.i64.wrap (3+x66)))) #[nI x48,nI x49,nI x50,nI x60,nI x61,nI x62,nI (atI L10 (IntKind.i64.wrap (3+x66))),nI x64,nI x65,nI (-1)] hF130 (by kernel_rfl) rfl rfl rfl rfl (by kernel_rfl) hS71 (by kernel_rfl) (by kernel_rfl) (by kernel_rfl) (l':=[(43,nP g47 6),(42,nP g47 3),(41,nI (atI L10 (IntKind.i64.wrap (3+x66)))),(40,nP g85 ((IntKind.i64.wrap (3+x66)).toNat)),(39,nI (IntKind.i64.wrap (3+x66))),(38,nI x66),(37,nS g85 L10 c21),(36,nI x66),(9,nI x66),(33,nI x66),(8,nP g47 0),(6,nS g85 L10 c21),(4,nB w)]) (by kernel_rfl) ?_
     intro w132 a133 hS134 hF135; clear hF130 hS71
     refine wpList_nil ?_
     have hF136:=hF135.keep [4,6,8,33]
     clear hF135
     refine blockN ?_
     refine thenN (wp_region_lit ?_)
     refine ev_runK 2 hF136 [4,6,8,33] (l':=[(33,nI (IntKind.i64.wrap (x66+1))),(8,nP g47 0),(6,nS g85 L10 c21),(4,nB w)]) (w':=w132) (by kernel_rfl) ?_
     intro a138 hF137; clear hF136
     refine wpList_nil ?_
     exact thenN ⟨k67,Nat.lt_succ_self _,x60,x61,x62,atI L10 (IntKind.i64.wrap (3+x66)),x64,x65,IntKind.i64.wrap (x66+1),hF137,hS134,hm129⟩
    have hm139:=ifNot hc128 hm127; clear hm127
    cases hc140:(x66 == 4)
    case true =>
     have hm141:=ifYes hc140 hm139; clear hm139
     refine ev_one (nP g47 7) w69 hF90 (by kernel_rfl) rfl (by kernel_rfl) (run_idxA (q:=4) rfl rfl rfl rfl (congrArg (Value.int .i64) (eq_of_beq hc140)) (by decide) (by decide) (by kernel_rfl) _) (l':=[(43,nP g47 7),(42,nP g47 3),(41,nI (atI L10 (IntKind.i64.wrap (3+x66)))),(40,nP g85 ((IntKind.i64.wrap (3+x66)).toNat)),(39,nI (IntKind.i64.wrap (3+x66))),(38,nI x66),(37,nS g85 L10 c21),(36,nI x66),(9,nI x66),(33,nI x66),(8,nP g47 0),(6,nS g85 L10 c21),(4,nB w)]) (by kernel_rfl) ?_
     intro a143 hF142; clear hF90
     refine ev_store (nI (atI L10 (IntKind.i64.wrap (3+x66)))) #[nI x48,nI x49,nI x50,nI x60,nI x61,nI x62,nI x63,nI (atI L10 (IntKind.i64.wrap (3+x66))),nI x65,nI (-1)] hF142 (by kernel_rfl) rfl rfl rfl rfl (by kernel_rfl) hS71 (by kernel_rfl) (by kernel_rfl) (by kernel_rfl) (l':=[(43,nP g47 7),(42,nP g47 3),(41,nI (atI L10 (IntKind.i64.wrap (3+x66)))),(40,nP g85 ((IntKind.i64.wrap (3+x66)).toNat)),(39,nI (IntKind.i64.wrap (3+x66))),(38,nI x66),(37,nS g85 L10 c21),(36,nI x66),(9,nI x66),(33,nI x66),(8,nP g47 0),(6,nS g85 L10 c21),(4,nB w)]) (by kernel_rfl) ?_
     intro w144 a145 hS146 hF147; clear hF142 hS71
     refine wpList_nil ?_
     have hF148:=hF147.keep [4,6,8,33]
     clear hF147
     refine blockN ?_
     refine thenN (wp_region_lit ?_)
     refine ev_runK 2 hF148 [4,6,8,33] (l':=[(33,nI (IntKind.i64.wrap (x66+1))),(8,nP g47 0),(6,nS g85 L10 c21),(4,nB w)]) (w':=w144) (by kernel_rfl) ?_
     intro a150 hF149; clear hF148
     refine wpList_nil ?_
     exact thenN ⟨k67,Nat.lt_succ_self _,x60,x61,x62,x63,atI L10 (IntKind.i64.wrap (3+x66)),x65,IntKind.i64.wrap (x66+1),hF149,hS146,hm141⟩
    have hm151:=ifNot hc140 hm139; clear hm139
    cases hc152:(x66 == 5)
    case true =>
     have hm153:=ifYes hc152 hm151; clear hm151
     refine ev_one (nP g47 8) w69 hF90 (by kernel_rfl) rfl (by kernel_rfl) (run_idxA (q:=5) rfl rfl rfl rfl (congrArg (Value.int .i64) (eq_of_beq hc152)) (by decide) (by decide) (by kernel_rfl) _) (l':=[(43,nP g47 8),(42,nP g47 3),(41,nI (atI L10 (IntKind.i64.wrap (3+x66)))),(40,nP g85 ((IntKind.i64.wrap (3+x66)).toNat)),(39,nI (IntKind.i64.wrap (3+x66))),(38,nI x66),(37,nS g85 L10 c21),(36,nI x66),(9,nI x66),(33,nI x66),(8,nP g47 0),(6,nS g85 L10 c21),(4,nB w)]) (by kernel_rfl) ?_
     intro a155 hF154; clear hF90
     refine ev_store (nI (atI L10 (IntKind.i64.wrap (3+x66)))) #[nI x48,nI x49,nI x50,nI x60,nI x61,nI x62,nI x63,nI x64,nI (atI L10 (IntKind.i64.wrap (3+x66))),nI (-1)] hF154 (by kernel_rfl) rfl rfl rfl rfl (by kernel_rfl) hS71 (by kernel_rfl) (by kernel_rfl) (by kernel_rfl) (l':=[(43,nP g47 8),(42,nP g47 3),(41,nI (atI L10 (IntKind.i64.wrap (3+x66)))),(40,nP g85 ((IntKind.i64.wrap (3+x66)).toNat)),(39,nI (IntKind.i64.wrap (3+x66))),(38,nI x66),(37,nS g85 L10 c21),(36,nI x66),(9,nI x66),(33,nI x66),(8,nP g47 0),(6,nS g85 L10 c21),(4,nB w)]) (by kernel_rfl) ?_
     intro w156 a157 hS158 hF159; clear hF154 hS71
     refine wpList_nil ?_
     have hF160:=hF159.keep [4,6,8,33]
     clear hF159
     refine blockN ?_
     refine thenN (wp_region_lit ?_)
     refine ev_runK 2 hF160 [4,6,8,33] (l':=[(33,nI (IntKind.i64.wrap (x66+1))),(8,nP g47 0),(6,nS g85 L10 c21),(4,nB w)]) (w':=w156) (by kernel_rfl) ?_
     intro a162 hF161; clear hF160
     refine wpList_nil ?_
     exact thenN ⟨k67,Nat.lt_succ_self _,x60,x61,x62,x63,x64,atI L10 (IntKind.i64.wrap (3+x66)),IntKind.i64.wrap (x66+1),hF161,hS158,hm153⟩
    have hm163:=ifNot hc152 hm151; clear hm151
    exact absurd hm163 (by simp)
   rw [hc76] at hF74
   have hm164:=ifNot hc76 hm73; clear hm73
   refine ev_condF hF74 rfl rfl ?_
   refine wp_exit ?_
   refine thenE ?_
   refine thenE ?_
   refine blockE ?_
   refine thenN (wp_seq (wp_region_lit ?_))
   refine ev_runs 1 hF74 (l':=[(45,.slice p20 L10.length c21),(34,.bool false),(33,nI x66),(8,nP g47 0),(6,.slice p20 L10.length c21),(4,nB w)]) (w':=w69) (by kernel_rfl) ?_
   intro a166 hF165; clear hF74
   obtain ⟨hc167,hm168⟩:=ifTE hm164; clear hm164
   obtain ⟨g169,rfl⟩:=hp22.resolve_left (by have:=inR_spec hc167; omega)
   refine ev_one (nP g169 ((9:Int).toNat)) w69 hF165 (by kernel_rfl) rfl (by kernel_rfl) (run_idx rfl rfl rfl rfl rfl (inR_spec hc167).1 (inR_spec hc167).2 _) (l':=[(46,nP g169 ((9:Int).toNat)),(45,nS g169 L10 c21),(34,.bool false),(33,nI x66),(8,nP g47 0),(6,nS g169 L10 c21),(4,nB w)]) (by kernel_rfl) ?_
   intro a171 hF170; clear hF165
   refine ev_one (nI (atI L10 (9:Int))) w69 hF170 (by kernel_rfl) rfl (by kernel_rfl) (run_load1 rfl rfl rfl (hS71.atI 1 rfl hc167)) (l':=[(47,nI (atI L10 (9:Int))),(46,nP g169 ((9:Int).toNat)),(45,nS g169 L10 c21),(34,.bool false),(33,nI x66),(8,nP g47 0),(6,nS g169 L10 c21),(4,nB w)]) (by kernel_rfl) ?_
   intro a173 hF172; clear hF170
   refine ev_call 69 #[nI (atI L10 (9:Int))] hF172 rfl rfl (by kernel_rfl) rfl (by kernel_rfl) (fun w=>by kernel_rfl) ?_
   obtain ⟨x174,hx175,hm176⟩:=bind1E hm168; clear hm168
   refine (p_vAt hS71 hx175).mono ?_
   rintro _ w177 ⟨rfl,hS179⟩ a178 hF180; clear hF172 hS71
   refine ev_runs 1 hF180 (l':=[(49,nP g47 9),(48,nI x174),(47,nI (atI L10 (9:Int))),(46,nP g169 ((9:Int).toNat)),(45,nS g169 L10 c21),(34,.bool false),(33,nI x66),(8,nP g47 0),(6,nS g169 L10 c21),(4,nB w)]) (w':=w177) (by kernel_rfl) ?_
   intro a182 hF181; clear hF180
   refine ev_store (nI x174) #[nI x48,nI x49,nI x50,nI x60,nI x61,nI x62,nI x63,nI x64,nI x65,nI x174] hF181 (by kernel_rfl) rfl rfl rfl rfl (by kernel_rfl) hS179 (by kernel_rfl) (by kernel_rfl) (by kernel_rfl) (l':=[(49,nP g47 9),(48,nI x174),(47,nI (atI L10 (9:Int))),(46,nP g169 ((9:Int).toNat)),(45,nS g169 L10 c21),(34,.bool false),(33,nI x66),(8,nP g47 0),(6,nS g169 L10 c21),(4,nB w)]) (by kernel_rfl) ?_
   intro w183 a184 hS185 hF186; clear hF181 hS179
   refine wpList_nil ?_
   have hF187:=hF186.keep [4,8]
   clear hF186
   have hS188:=hS185.pick1.drop
   clear hS185
   refine thenN (wp_seq (wp_region_lit ?_))
   refine ev_one (.agg #[nI x48,nI x49,nI x50,nI x60,nI x61,nI x62,nI x63,nI x64,nI x65,nI x174]) w183 hF187 (by kernel_rfl) rfl (by kernel_rfl) (run_loadV rfl rfl (run_loadA (cs:=[nI x48,nI x49,nI x50,nI x60,nI x61,nI x62,nI x63,nI x64,nI x65,nI x174]) rfl rfl (by kernel_rfl) (blk_cells hS188 0 rfl rfl))) (l':=[(50,.agg #[nI x48,nI x49,nI x50,nI x60,nI x61,nI x62,nI x63,nI x64,nI x65,nI x174]),(8,nP g47 0),(4,nB w)]) (by kernel_rfl) ?_
   intro a190 hF189; clear hF187
   have hS191:=hS188.pick2
   clear hS188
   refine ev_store (.agg #[nI x48,nI x49,nI x50,nI x60,nI x61,nI x62,nI x63,nI x64,nI x65,nI x174]) #[nI x48,nI x49,nI x50,nI x60,nI x61,nI x62,nI x63,nI x64,nI x65,nI x174] hF189 (by kernel_rfl) rfl rfl rfl rfl (by kernel_rfl) hS191 (by kernel_rfl) (by kernel_rfl) (by kernel_rfl) (l':=[(50,.agg #[nI x48,nI x49,nI x50,nI x60,nI x61,nI x62,nI x63,nI x64,nI x65,nI x174]),(8,nP g47 0),(4,nB w)]) (by kernel_rfl) ?_
   intro w192 a193 hS194 hF195; clear hF189 hS191
   refine ev_runK 1 hF195 [4,5] (l':=[(5,nI 0),(4,nB w)]) (w':=w192) (by kernel_rfl) ?_
   intro a197 hF196; clear hF195
   refine wpList_nil ?_
   have hS198:=hS194.pick1.drop
   clear hS194
   refine thenN ?_
   refine wp_ret ?_
   have hS199:=hS198.pick1
   clear hS198
   simp only [Option.some.injEq,Prod.mk.injEq] at hm176
   obtain ⟨rfl,rfl,rfl⟩:=hm176
   refine ev_retC hF196 _ [.agg #[nI x48,nI x49,nI x50,nI x60,nI x61,nI x62,nI x63,nI x64,nI x65,nI x174],nI 0] (.tuple #[.agg #[nI x48,nI x49,nI x50,nI x60,nI x61,nI x62,nI x63,nI x64,nI x65,nI x174],nI 0]) rfl ⟨⟨rfl,_,rfl,(run_loadA (cs:=[nI x48,nI x49,nI x50,nI x60,nI x61,nI x62,nI x63,nI x64,nI x65,nI x174]) rfl rfl (by kernel_rfl) (blk_cells hS199 1 rfl rfl))⟩,⟨rfl,rfl⟩,trivial⟩ rfl ?_
   have hS203:=hS199.pick1.drop
   clear hS199
   exact ⟨rfl,hS203⟩
 · skip
   obtain ⟨hc204,hm205⟩:=ifTE hm45; clear hm45
   obtain ⟨g206,rfl⟩:=hp22.resolve_left (by have:=inR_spec hc204; omega)
   obtain ⟨hc207,hm208⟩:=ifTE hm205; clear hm205
   obtain ⟨hc209,hm210⟩:=ifTE hm208; clear hm208
   have hS211:=hS16.pick1
   clear hS16
   have hS212:=hS211.drew; clear hS211
   refine any_start (fun wS=>∃ qs,St w0 F0 (RowP (nS g206 L10 c21) L10::qs) wS) 15 #[false,false,false,false,false,false,false,false,false,false,false,false,false,false,false] (by kernel_rfl) (by kernel_rfl) (by kernel_rfl) ?_
   refine any_many 9 [(0,some (nS g206 L10 c21)),(1,some (nP g206 ((0:Int).toNat))),(2,some (nI (atI L10 (0:Int)))),(4,some (nS g206 L10 c21)),(5,some (nP g206 ((1:Int).toNat))),(6,some (nI (atI L10 (1:Int)))),(8,some (nS g206 L10 c21)),(9,some (nP g206 ((2:Int).toNat))),(10,some (nI (atI L10 (2:Int))))] [4,6,8,22,23,26,27,30,31,32] #[true,true,true,false,true,true,true,false,true,true,true,false,false,false,false] (by rfl) hF46 (by kernel_rfl) (by kernel_rfl) (by exact ⟨fun wS hw=>by kernel_rfl,fun wS hw=>run_idx rfl rfl rfl rfl rfl (inR_spec hc204).1 (inR_spec hc204).2 _,fun wS hw=>run_load1 rfl rfl rfl (hw.elim fun qs hw=>hw.atI 0 rfl hc204),fun wS hw=>by kernel_rfl,fun wS hw=>run_idx rfl rfl rfl rfl rfl (inR_spec hc207).1 (inR_spec hc207).2 _,fun wS hw=>run_load1 rfl rfl rfl (hw.elim fun qs hw=>hw.atI 0 rfl hc207),fun wS hw=>by kernel_rfl,fun wS hw=>run_idx rfl rfl rfl rfl rfl (inR_spec hc209).1 (inR_spec hc209).2 _,fun wS hw=>run_load1 rfl rfl rfl (hw.elim fun qs hw=>hw.atI 0 rfl hc209),trivial⟩) (fun _ _ _ _ _ h=>h) ⟨_,hS212⟩ (l':=[(30,nI (atI L10 (2:Int))),(26,nI (atI L10 (1:Int))),(22,nI (atI L10 (0:Int))),(6,nS g206 L10 c21),(4,nB w)]) (by kernel_rfl) ?_
   intro a214 hF213; clear hF46
   refine any_two 3 13 (by kernel_rfl) ?_ ?_
   · skip
     refine op_call 3 #[true,true,true,true,true,true,true,false,true,true,true,false,false,false,false] 68 #[nI (atI L10 (0:Int))] hF213 rfl rfl rfl (by kernel_rfl) rfl (by kernel_rfl) (fun w=>by kernel_rfl) (by kernel_rfl) ?_
     obtain ⟨x215,hx216,hm217⟩:=bind1E hm210; clear hm210
     refine (p_vNum hS212 hx216).mono ?_
     rintro _ w218 ⟨rfl,hS220⟩; clear hS212
     refine ⟨⟨_,hS220⟩,?_⟩
     intro a219 hF221; clear hF213
     refine any_two 7 13 (by kernel_rfl) ?_ ?_
     · skip
       refine op_call 7 #[true,true,true,true,true,true,true,true,true,true,true,false,false,false,false] 68 #[nI (atI L10 (1:Int))] hF221 rfl rfl rfl (by kernel_rfl) rfl (by kernel_rfl) (fun w=>by kernel_rfl) (by kernel_rfl) ?_
       obtain ⟨x222,hx223,hm224⟩:=bind1E hm217; clear hm217
       refine (p_vNum hS220 hx223).mono ?_
       rintro _ w225 ⟨rfl,hS227⟩; clear hS220
       refine ⟨⟨_,hS227⟩,?_⟩
       intro a226 hF228; clear hF221
       refine any_two 11 13 (by kernel_rfl) ?_ ?_
       · skip
         refine op_call 11 #[true,true,true,true,true,true,true,true,true,true,true,true,false,false,false] 68 #[nI (atI L10 (2:Int))] hF228 rfl rfl rfl (by kernel_rfl) rfl (by kernel_rfl) (fun w=>by kernel_rfl) (by kernel_rfl) ?_
         obtain ⟨x229,hx230,hm231⟩:=bind1E hm224; clear hm224
         refine (p_vNum hS227 hx230).mono ?_
         rintro _ w232 ⟨rfl,hS234⟩; clear hS227
         refine ⟨⟨_,hS234⟩,?_⟩
         intro a233 hF235; clear hF228
         refine any_many 1 [(12,some (.agg #[nI x215,nI x222,nI x229,nI 0,nI 0,nI 0,nI 0,nI 0,nI 0,nI (-1)]))] [4,6,8,32] #[true,true,true,true,true,true,true,true,true,true,true,true,true,false,false] (by rfl) hF235 (by kernel_rfl) (by kernel_rfl) (by exact ⟨fun wS hw=>by kernel_rfl,trivial⟩) (fun _ _ _ _ _ h=>h) ⟨_,hS234⟩ (l':=[(32,.agg #[nI x215,nI x222,nI x229,nI 0,nI 0,nI 0,nI 0,nI 0,nI 0,nI (-1)]),(6,nS g206 L10 c21),(4,nB w)]) (by kernel_rfl) ?_
         intro a237 hF236; clear hF235
         refine any_one 13 (by kernel_rfl) ?_
         have hS238:St w0 F0 (BlkP (w232.heap.size) 70 #[nI 0,nI 0,nI 0,nI 0,nI 0,nI 0,nI 0,nI 0,nI 0,nI 0]::RowP (nS g206 L10 c21) L10::HeapP b0 ab0 s0::BlkP (w.heap.size) 70 #[nI 0,nI 0,nI 0,nI 0,nI 0,nI 0,nI 0,nI 0,nI 0,nI 0]::ps) (w232.alloc (.cells #[nI 0,nI 0,nI 0,nI 0,nI 0,nI 0,nI 0,nI 0,nI 0,nI 0] 70)):=St.new hS234 #[nI 0,nI 0,nI 0,nI 0,nI 0,nI 0,nI 0,nI 0,nI 0,nI 0] 70
         clear hS234
         refine op_step 13 #[true,true,true,true,true,true,true,true,true,true,true,true,true,true,false] (nB w232) (w232.alloc (.cells #[nI 0,nI 0,nI 0,nI 0,nI 0,nI 0,nI 0,nI 0,nI 0,nI 0] 70)) hF236 rfl (by kernel_rfl) rfl (by kernel_rfl) (by kernel_rfl) (l':=[(8,nB w232),(32,.agg #[nI x215,nI x222,nI x229,nI 0,nI 0,nI 0,nI 0,nI 0,nI 0,nI (-1)]),(6,nS g206 L10 c21),(4,nB w)]) (by kernel_rfl) ⟨_,hS238.pick1⟩ (by kernel_rfl) ?_
         intro a240 hF239; clear hF236
         refine any_one 14 (by kernel_rfl) ?_
         refine op_store 14 #[true,true,true,true,true,true,true,true,true,true,true,true,true,true,true] (.agg #[nI x215,nI x222,nI x229,nI 0,nI 0,nI 0,nI 0,nI 0,nI 0,nI (-1)]) #[nI x215,nI x222,nI x229,nI 0,nI 0,nI 0,nI 0,nI 0,nI 0,nI (-1)] hF239 rfl (by kernel_rfl) rfl rfl rfl rfl (by kernel_rfl) hS238 (by kernel_rfl) (by kernel_rfl) (by kernel_rfl) (l':=[(8,nB w232),(32,.agg #[nI x215,nI x222,nI x229,nI 0,nI 0,nI 0,nI 0,nI 0,nI 0,nI (-1)]),(6,nS g206 L10 c21),(4,nB w)]) (by kernel_rfl) (by kernel_rfl) ?_
         intro w241 a242 hS243 hF244; clear hF239 hS238
         refine ⟨⟨_,hS243.pick1⟩,?_⟩
         refine any_done (by kernel_rfl) ?_
         have hF245:=hF244.keep [4,6,8]
         clear hF244
         exact thenN ⟨(w232.heap.size),x215,x222,x229,hF245,hS243,hm231⟩
       · skip
         have hS246:St w0 F0 (BlkP (w225.heap.size) 70 #[nI 0,nI 0,nI 0,nI 0,nI 0,nI 0,nI 0,nI 0,nI 0,nI 0]::RowP (nS g206 L10 c21) L10::HeapP b0 ab0 s0::BlkP (w.heap.size) 70 #[nI 0,nI 0,nI 0,nI 0,nI 0,nI 0,nI 0,nI 0,nI 0,nI 0]::ps) (w225.alloc (.cells #[nI 0,nI 0,nI 0,nI 0,nI 0,nI 0,nI 0,nI 0,nI 0,nI 0] 70)):=St.new hS227 #[nI 0,nI 0,nI 0,nI 0,nI 0,nI 0,nI 0,nI 0,nI 0,nI 0] 70
         clear hS227
         refine op_step 13 #[true,true,true,true,true,true,true,true,true,true,true,false,false,true,false] (nB w225) (w225.alloc (.cells #[nI 0,nI 0,nI 0,nI 0,nI 0,nI 0,nI 0,nI 0,nI 0,nI 0] 70)) hF228 rfl (by kernel_rfl) rfl (by kernel_rfl) (by kernel_rfl) (l':=[(8,nB w225),(27,nI x222),(23,nI x215),(30,nI (atI L10 (2:Int))),(26,nI (atI L10 (1:Int))),(22,nI (atI L10 (0:Int))),(6,nS g206 L10 c21),(4,nB w)]) (by kernel_rfl) ⟨_,hS246.pick1⟩ (by kernel_rfl) ?_
         intro a248 hF247; clear hF228
         refine any_call 11 #[true,true,true,true,true,true,true,true,true,true,true,true,false,true,false] 68 #[nI (atI L10 (2:Int))] hF247 rfl (by kernel_rfl) rfl rfl (by kernel_rfl) rfl (by kernel_rfl) (fun w=>by kernel_rfl) (by kernel_rfl) ?_
         obtain ⟨x249,hx250,hm251⟩:=bind1E hm224; clear hm224
         refine (p_vNum hS246 hx250).mono ?_
         rintro _ w252 ⟨rfl,hS254⟩; clear hS246
         refine ⟨⟨_,hS254.pick1⟩,?_⟩
         intro a253 hF255; clear hF247
         refine any_many 1 [(12,some (.agg #[nI x215,nI x222,nI x249,nI 0,nI 0,nI 0,nI 0,nI 0,nI 0,nI (-1)]))] [4,6,8,32] #[true,true,true,true,true,true,true,true,true,true,true,true,true,true,false] (by rfl) hF255 (by kernel_rfl) (by kernel_rfl) (by exact ⟨fun wS hw=>by kernel_rfl,trivial⟩) (fun _ _ _ _ _ h=>h) ⟨_,hS254.pick1⟩ (l':=[(32,.agg #[nI x215,nI x222,nI x249,nI 0,nI 0,nI 0,nI 0,nI 0,nI 0,nI (-1)]),(8,nB w225),(6,nS g206 L10 c21),(4,nB w)]) (by kernel_rfl) ?_
         intro a257 hF256; clear hF255
         refine any_one 14 (by kernel_rfl) ?_
         refine op_store 14 #[true,true,true,true,true,true,true,true,true,true,true,true,true,true,true] (.agg #[nI x215,nI x222,nI x249,nI 0,nI 0,nI 0,nI 0,nI 0,nI 0,nI (-1)]) #[nI x215,nI x222,nI x249,nI 0,nI 0,nI 0,nI 0,nI 0,nI 0,nI (-1)] hF256 rfl (by kernel_rfl) rfl rfl rfl rfl (by kernel_rfl) hS254 (by kernel_rfl) (by kernel_rfl) (by kernel_rfl) (l':=[(32,.agg #[nI x215,nI x222,nI x249,nI 0,nI 0,nI 0,nI 0,nI 0,nI 0,nI (-1)]),(8,nB w225),(6,nS g206 L10 c21),(4,nB w)]) (by kernel_rfl) (by kernel_rfl) ?_
         intro w258 a259 hS260 hF261; clear hF256 hS254
         refine ⟨⟨_,hS260.pick1⟩,?_⟩
         refine any_done (by kernel_rfl) ?_
         have hF262:=hF261.keep [4,6,8]
         clear hF261
         exact thenN ⟨(w225.heap.size),x215,x222,x249,hF262,hS260,hm251⟩
     · skip
       have hS263:St w0 F0 (BlkP (w218.heap.size) 70 #[nI 0,nI 0,nI 0,nI 0,nI 0,nI 0,nI 0,nI 0,nI 0,nI 0]::RowP (nS g206 L10 c21) L10::HeapP b0 ab0 s0::BlkP (w.heap.size) 70 #[nI 0,nI 0,nI 0,nI 0,nI 0,nI 0,nI 0,nI 0,nI 0,nI 0]::ps) (w218.alloc (.cells #[nI 0,nI 0,nI 0,nI 0,nI 0,nI 0,nI 0,nI 0,nI 0,nI 0] 70)):=St.new hS220 #[nI 0,nI 0,nI 0,nI 0,nI 0,nI 0,nI 0,nI 0,nI 0,nI 0] 70
       clear hS220
       refine op_step 13 #[true,true,true,true,true,true,true,false,true,true,true,false,false,true,false] (nB w218) (w218.alloc (.cells #[nI 0,nI 0,nI 0,nI 0,nI 0,nI 0,nI 0,nI 0,nI 0,nI 0] 70)) hF221 rfl (by kernel_rfl) rfl (by kernel_rfl) (by kernel_rfl) (l':=[(8,nB w218),(23,nI x215),(30,nI (atI L10 (2:Int))),(26,nI (atI L10 (1:Int))),(22,nI (atI L10 (0:Int))),(6,nS g206 L10 c21),(4,nB w)]) (by kernel_rfl) ⟨_,hS263.pick1⟩ (by kernel_rfl) ?_
       intro a265 hF264; clear hF221
       refine any_call 7 #[true,true,true,true,true,true,true,true,true,true,true,false,false,true,false] 68 #[nI (atI L10 (1:Int))] hF264 rfl (by kernel_rfl) rfl rfl (by kernel_rfl) rfl (by kernel_rfl) (fun w=>by kernel_rfl) (by kernel_rfl) ?_
       obtain ⟨x266,hx267,hm268⟩:=bind1E hm217; clear hm217
       refine (p_vNum hS263 hx267).mono ?_
       rintro _ w269 ⟨rfl,hS271⟩; clear hS263
       refine ⟨⟨_,hS271.pick1⟩,?_⟩
       intro a270 hF272; clear hF264
       refine any_call 11 #[true,true,true,true,true,true,true,true,true,true,true,true,false,true,false] 68 #[nI (atI L10 (2:Int))] hF272 rfl (by kernel_rfl) rfl rfl (by kernel_rfl) rfl (by kernel_rfl) (fun w=>by kernel_rfl) (by kernel_rfl) ?_
       obtain ⟨x273,hx274,hm275⟩:=bind1E hm268; clear hm268
       refine (p_vNum hS271 hx274).mono ?_
       rintro _ w276 ⟨rfl,hS278⟩; clear hS271
       refine ⟨⟨_,hS278.pick1⟩,?_⟩
       intro a277 hF279; clear hF272
       refine any_many 1 [(12,some (.agg #[nI x215,nI x266,nI x273,nI 0,nI 0,nI 0,nI 0,nI 0,nI 0,nI (-1)]))] [4,6,8,32] #[true,true,true,true,true,true,true,true,true,true,true,true,true,true,false] (by rfl) hF279 (by kernel_rfl) (by kernel_rfl) (by exact ⟨fun wS hw=>by kernel_rfl,trivial⟩) (fun _ _ _ _ _ h=>h) ⟨_,hS278.pick1⟩ (l':=[(32,.agg #[nI x215,nI x266,nI x273,nI 0,nI 0,nI 0,nI 0,nI 0,nI 0,nI (-1)]),(8,nB w218),(6,nS g206 L10 c21),(4,nB w)]) (by kernel_rfl) ?_
       intro a281 hF280; clear hF279
       refine any_one 14 (by kernel_rfl) ?_
       refine op_store 14 #[true,true,true,true,true,true,true,true,true,true,true,true,true,true,true] (.agg #[nI x215,nI x266,nI x273,nI 0,nI 0,nI 0,nI 0,nI 0,nI 0,nI (-1)]) #[nI x215,nI x266,nI x273,nI 0,nI 0,nI 0,nI 0,nI 0,nI 0,nI (-1)] hF280 rfl (by kernel_rfl) rfl rfl rfl rfl (by kernel_rfl) hS278 (by kernel_rfl) (by kernel_rfl) (by kernel_rfl) (l':=[(32,.agg #[nI x215,nI x266,nI x273,nI 0,nI 0,nI 0,nI 0,nI 0,nI 0,nI (-1)]),(8,nB w218),(6,nS g206 L10 c21),(4,nB w)]) (by kernel_rfl) (by kernel_rfl) ?_
       intro w282 a283 hS284 hF285; clear hF280 hS278
       refine ⟨⟨_,hS284.pick1⟩,?_⟩
       refine any_done (by kernel_rfl) ?_
       have hF286:=hF285.keep [4,6,8]
       clear hF285
       exact thenN ⟨(w218.heap.size),x215,x266,x273,hF286,hS284,hm275⟩
   · skip
     have hS287:St w0 F0 (BlkP ((w14.drew).heap.size) 70 #[nI 0,nI 0,nI 0,nI 0,nI 0,nI 0,nI 0,nI 0,nI 0,nI 0]::RowP (nS g206 L10 c21) L10::HeapP b0 ab0 s0::BlkP (w.heap.size) 70 #[nI 0,nI 0,nI 0,nI 0,nI 0,nI 0,nI 0,nI 0,nI 0,nI 0]::ps) ((w14.drew).alloc (.cells #[nI 0,nI 0,nI 0,nI 0,nI 0,nI 0,nI 0,nI 0,nI 0,nI 0] 70)):=St.new hS212 #[nI 0,nI 0,nI 0,nI 0,nI 0,nI 0,nI 0,nI 0,nI 0,nI 0] 70
     clear hS212
     refine op_step 13 #[true,true,true,false,true,true,true,false,true,true,true,false,false,true,false] (nB (w14.drew)) ((w14.drew).alloc (.cells #[nI 0,nI 0,nI 0,nI 0,nI 0,nI 0,nI 0,nI 0,nI 0,nI 0] 70)) hF213 rfl (by kernel_rfl) rfl (by kernel_rfl) (by kernel_rfl) (l':=[(8,nB (w14.drew)),(30,nI (atI L10 (2:Int))),(26,nI (atI L10 (1:Int))),(22,nI (atI L10 (0:Int))),(6,nS g206 L10 c21),(4,nB w)]) (by kernel_rfl) ⟨_,hS287.pick1⟩ (by kernel_rfl) ?_
     intro a289 hF288; clear hF213
     refine any_call 3 #[true,true,true,true,true,true,true,false,true,true,true,false,false,true,false] 68 #[nI (atI L10 (0:Int))] hF288 rfl (by kernel_rfl) rfl rfl (by kernel_rfl) rfl (by kernel_rfl) (fun w=>by kernel_rfl) (by kernel_rfl) ?_
     obtain ⟨x290,hx291,hm292⟩:=bind1E hm210; clear hm210
     refine (p_vNum hS287 hx291).mono ?_
     rintro _ w293 ⟨rfl,hS295⟩; clear hS287
     refine ⟨⟨_,hS295.pick1⟩,?_⟩
     intro a294 hF296; clear hF288
     refine any_call 7 #[true,true,true,true,true,true,true,true,true,true,true,false,false,true,false] 68 #[nI (atI L10 (1:Int))] hF296 rfl (by kernel_rfl) rfl rfl (by kernel_rfl) rfl (by kernel_rfl) (fun w=>by kernel_rfl) (by kernel_rfl) ?_
     obtain ⟨x297,hx298,hm299⟩:=bind1E hm292; clear hm292
     refine (p_vNum hS295 hx298).mono ?_
     rintro _ w300 ⟨rfl,hS302⟩; clear hS295
     refine ⟨⟨_,hS302.pick1⟩,?_⟩
     intro a301 hF303; clear hF296
     refine any_call 11 #[true,true,true,true,true,true,true,true,true,true,true,true,false,true,false] 68 #[nI (atI L10 (2:Int))] hF303 rfl (by kernel_rfl) rfl rfl (by kernel_rfl) rfl (by kernel_rfl) (fun w=>by kernel_rfl) (by kernel_rfl) ?_
     obtain ⟨x304,hx305,hm306⟩:=bind1E hm299; clear hm299
     refine (p_vNum hS302 hx305).mono ?_
     rintro _ w307 ⟨rfl,hS309⟩; clear hS302
     refine ⟨⟨_,hS309.pick1⟩,?_⟩
     intro a308 hF310; clear hF303
     refine any_many 1 [(12,some (.agg #[nI x290,nI x297,nI x304,nI 0,nI 0,nI 0,nI 0,nI 0,nI 0,nI (-1)]))] [4,6,8,32] #[true,true,true,true,true,true,true,true,true,true,true,true,true,true,false] (by rfl) hF310 (by kernel_rfl) (by kernel_rfl) (by exact ⟨fun wS hw=>by kernel_rfl,trivial⟩) (fun _ _ _ _ _ h=>h) ⟨_,hS309.pick1⟩ (l':=[(32,.agg #[nI x290,nI x297,nI x304,nI 0,nI 0,nI 0,nI 0,nI 0,nI 0,nI (-1)]),(8,nB (w14.drew)),(6,nS g206 L10 c21),(4,nB w)]) (by kernel_rfl) ?_
     intro a312 hF311; clear hF310
     refine any_one 14 (by kernel_rfl) ?_
     refine op_store 14 #[true,true,true,true,true,true,true,true,true,true,true,true,true,true,true] (.agg #[nI x290,nI x297,nI x304,nI 0,nI 0,nI 0,nI 0,nI 0,nI 0,nI (-1)]) #[nI x290,nI x297,nI x304,nI 0,nI 0,nI 0,nI 0,nI 0,nI 0,nI (-1)] hF311 rfl (by kernel_rfl) rfl rfl rfl rfl (by kernel_rfl) hS309 (by kernel_rfl) (by kernel_rfl) (by kernel_rfl) (l':=[(32,.agg #[nI x290,nI x297,nI x304,nI 0,nI 0,nI 0,nI 0,nI 0,nI 0,nI (-1)]),(8,nB (w14.drew)),(6,nS g206 L10 c21),(4,nB w)]) (by kernel_rfl) (by kernel_rfl) ?_
     intro w313 a314 hS315 hF316; clear hF311 hS309
     refine ⟨⟨_,hS315.pick1⟩,?_⟩
     refine any_done (by kernel_rfl) ?_
     have hF317:=hF316.keep [4,6,8]
     clear hF316
     exact thenN ⟨((w14.drew).heap.size),x290,x297,x304,hF317,hS315,hm306⟩
end Go.Proofs.YtaojmbkmicjecaaGreat
namespace Go.Proofs.YtaojmbkmicjecaaGreat
open Go.RowKit
set_option maxRecDepth 100000
set_option maxHeartbeats 40000000
set_option linter.unusedVariables false
def slices_Index.l1b (L0:List Int) (i1:Int) (rec12:Int→Option (Int)) (x9:Int):Option (Int):=(if (decide (x9<(L0.length:Int))) then (if (inR x9 L0.length) then (if (i1 == (atI L0 x9)) then some (x9) else rec12 (IntKind.i64.wrap (x9+1))) else none) else some (-1))
def slices_Index.l1 (L0:List Int) (i1:Int):Nat→Int→Option (Int)
  | 0=>fun _=>none
  | kI+1=>slices_Index.l1b L0 i1 (slices_Index.l1 L0 i1 kI)
def slices_Index.m (k:Nat) (L0:List Int) (i1:Int):Option (Int):=slices_Index.l1 L0 i1 k 0
theorem slices_Index.ok {w0 w:World} {F0:List Nat} {ps:List Piece} {k:Nat} {v0:Value} {L0:List Int} {i1:Int} {r0:Int} (hS:St w0 F0 (RowP (v0) L0::ps) w) (hm:slices_Index.m k L0 i1=some r0) :
    Calls Tryz.prog 82 #[v0,nI i1] w fun e w'=>e=.returned (.int .i64 r0)∧St w0 F0 (RowP (v0) L0::ps) w':=by
 refine ev_enterL 19 [v0,nI i1] Tryz.func82 rfl rfl (by simp) ?_
 intro a hF
 have hF0:Fr 19 a [(0,v0),(1,nI i1)]:=hF; clear hF
 unfold slices_Index.m at hm
 obtain ⟨hl4,p1,c2,rfl,hp3⟩:=St.shape hS 0 rfl
 refine wp_seq (wp_region_lit ?_)
 refine ev_runK 1 hF0 [0,1] (l':=[(0,.slice p1 L0.length c2),(1,nI i1)]) (w':=w) (by kernel_rfl) ?_
 intro a6 hF5; clear hF0
 refine wpList_nil (thenN (wp_seq (wp_seq (wp_region_lit ?_))))
 refine ev_runK 3 hF5 [0,1,7,8] (l':=[(8,nI 0),(7,nI ((L0.length:Int))),(0,.slice p1 L0.length c2),(1,nI i1)]) (w':=w) (by kernel_rfl) ?_
 intro a8 hF7; clear hF5
 refine wpList_nil (thenN ?_)
 refine wp_block ?_
 refine wp_loop_ghost (fun kI aI wI=>∃ (x9:Int),Fr 19 aI [(8,nI x9),(7,nI ((L0.length:Int))),(0,.slice p1 L0.length c2),(1,nI i1)]∧St w0 F0 (RowP (.slice p1 L0.length c2) L0::ps) wI∧slices_Index.l1 L0 i1 kI x9=some r0) k ⟨0,hF7,hS,hm⟩ ?_
 rintro k10 a11 w12 ⟨x9,hF13,hS14,hm15⟩
 clear hF7 hS hm
 rcases k10 with _ | k10
 · cases hm15
 have hm16:slices_Index.l1b L0 i1 (slices_Index.l1 L0 i1 k10) x9=some r0:=hm15
 clear hm15
 unfold slices_Index.l1b at hm16
 refine wp_seq (wp_region_lit ?_)
 refine ev_runs 1 hF13 (l':=[(9,.bool (decide (x9<(L0.length:Int)))),(8,nI x9),(7,nI ((L0.length:Int))),(0,.slice p1 L0.length c2),(1,nI i1)]) (w':=w12) (by kernel_rfl) ?_
 intro a18 hF17; clear hF13
 refine wpList_nil (thenN (wp_seq ?_))
 cases hc19:(decide (x9<(L0.length:Int)))
 case true =>
  rw [hc19] at hF17
  have hm20:=ifYes hc19 hm16; clear hm16
  refine ev_condT hF17 rfl rfl ?_
  refine wp_skip ?_
  have hF21:=hF17.keep [0,1,7,8]
  clear hF17
  refine thenN (wp_seq ?_)
  refine wp_block ?_
  refine wp_seq (wp_region_lit ?_)
  refine ev_runK 2 hF21 [0,1,5,7,8] (l':=[(5,nI x9),(8,nI x9),(7,nI ((L0.length:Int))),(0,.slice p1 L0.length c2),(1,nI i1)]) (w':=w12) (by kernel_rfl) ?_
  intro a23 hF22; clear hF21
  refine wpList_nil (thenN (wp_seq (wp_region_lit ?_)))
  refine ev_runs 3 hF22 (l':=[(13,nI x9),(12,.slice p1 L0.length c2),(11,nI i1),(5,nI x9),(8,nI x9),(7,nI ((L0.length:Int))),(0,.slice p1 L0.length c2),(1,nI i1)]) (w':=w12) (by kernel_rfl) ?_
  intro a25 hF24; clear hF22
  obtain ⟨hc26,hm27⟩:=ifTE hm20; clear hm20
  obtain ⟨g28,rfl⟩:=hp3.resolve_left (by have:=inR_spec hc26; omega)
  refine ev_one (nP g28 (x9.toNat)) w12 hF24 (by kernel_rfl) rfl (by kernel_rfl) (run_idx rfl rfl rfl rfl rfl (inR_spec hc26).1 (inR_spec hc26).2 _) (l':=[(14,nP g28 (x9.toNat)),(13,nI x9),(12,nS g28 L0 c2),(11,nI i1),(5,nI x9),(8,nI x9),(7,nI ((L0.length:Int))),(0,nS g28 L0 c2),(1,nI i1)]) (by kernel_rfl) ?_
  intro a30 hF29; clear hF24
  refine ev_one (nI (atI L0 x9)) w12 hF29 (by kernel_rfl) rfl (by kernel_rfl) (run_load1 rfl rfl rfl (hS14.atI 0 rfl hc26)) (l':=[(15,nI (atI L0 x9)),(14,nP g28 (x9.toNat)),(13,nI x9),(12,nS g28 L0 c2),(11,nI i1),(5,nI x9),(8,nI x9),(7,nI ((L0.length:Int))),(0,nS g28 L0 c2),(1,nI i1)]) (by kernel_rfl) ?_
  intro a32 hF31; clear hF29
  refine ev_runK 1 hF31 [0,1,5,7,8,16] (l':=[(16,.bool (i1 == (atI L0 x9))),(5,nI x9),(8,nI x9),(7,nI ((L0.length:Int))),(0,nS g28 L0 c2),(1,nI i1)]) (w':=w12) (by kernel_rfl) ?_
  intro a34 hF33; clear hF31
  refine wpList_nil (thenN ?_)
  cases hc35:(i1 == (atI L0 x9))
  case true =>
   rw [hc35] at hF33
   have hm36:=ifYes hc35 hm27; clear hm27
   refine ev_condT hF33 rfl rfl ?_
   refine wp_seq (wp_region_lit ?_)
   refine ev_runK 2 hF33 [4] (l':=[(4,nI x9)]) (w':=w12) (by kernel_rfl) ?_
   intro a38 hF37; clear hF33
   refine wpList_nil (thenN ?_)
   refine wp_ret ?_
   refine blockR ?_
   refine thenR (thenR ?_)
   refine blockR ?_
   refine thenR ?_
   obtain rfl:=Option.some.inj hm36
   refine ev_ret hF37 [4] (nI x9) rfl rfl rfl ?_
   exact ⟨rfl,hS14⟩
  rw [hc35] at hF33
  have hm40:=ifNot hc35 hm27; clear hm27
  refine ev_condF hF33 rfl rfl ?_
  refine wp_skip ?_
  have hF41:=hF33.keep [0,1,7,8]
  clear hF33
  refine blockN ?_
  refine thenN (wp_region_lit ?_)
  refine ev_runK 2 hF41 [0,1,7,8] (l':=[(8,nI (IntKind.i64.wrap (x9+1))),(7,nI ((L0.length:Int))),(0,nS g28 L0 c2),(1,nI i1)]) (w':=w12) (by kernel_rfl) ?_
  intro a43 hF42; clear hF41
  refine wpList_nil ?_
  exact thenN ⟨k10,Nat.lt_succ_self _,IntKind.i64.wrap (x9+1),hF42,hS14,hm40⟩
 rw [hc19] at hF17
 have hm44:=ifNot hc19 hm16; clear hm16
 refine ev_condF hF17 rfl rfl ?_
 refine wp_exit ?_
 refine thenE ?_
 refine thenE ?_
 refine blockE ?_
 refine thenN (wp_seq (wp_region_lit ?_))
 refine ev_runK 1 hF17 [4] (l':=[(4,nI (-1))]) (w':=w12) (by kernel_rfl) ?_
 intro a46 hF45; clear hF17
 refine wpList_nil (thenN ?_)
 refine wp_ret ?_
 obtain rfl:=Option.some.inj hm44
 refine ev_ret hF45 [4] (nI (-1)) rfl rfl rfl ?_
 exact ⟨rfl,hS14⟩
def slices_Contains.m (k:Nat) (L0:List Int) (i1:Int):Option (Bool):=bind1 (slices_Index.m k L0 i1) fun x9=>some (decide (x9 ≥ 0))
theorem slices_Contains.ok {w0 w:World} {F0:List Nat} {ps:List Piece} {k:Nat} {v0:Value} {L0:List Int} {i1:Int} {r0:Bool} (hS:St w0 F0 (RowP (v0) L0::ps) w) (hm:slices_Contains.m k L0 i1=some r0) :
    Calls Tryz.prog 83 #[v0,nI i1] w fun e w'=>e=.returned (.bool r0)∧St w0 F0 (RowP (v0) L0::ps) w':=by
 refine ev_enterL 9 [v0,nI i1] Tryz.func83 rfl rfl (by simp) ?_
 intro a hF
 have hF0:Fr 9 a [(0,v0),(1,nI i1)]:=hF; clear hF
 unfold slices_Contains.m at hm
 obtain ⟨hl4,p1,c2,rfl,hp3⟩:=St.shape hS 0 rfl
 refine wp_seq (wp_region_lit ?_)
 refine ev_runK 1 hF0 [0,1] (l':=[(0,.slice p1 L0.length c2),(1,nI i1)]) (w':=w) (by kernel_rfl) ?_
 intro a6 hF5; clear hF0
 refine wpList_nil (thenN (wp_seq (wp_region_lit ?_)))
 refine ev_runs 2 hF5 (l':=[(6,nI i1),(5,.slice p1 L0.length c2),(0,.slice p1 L0.length c2),(1,nI i1)]) (w':=w) (by kernel_rfl) ?_
 intro a8 hF7; clear hF5
 refine ev_call 82 #[.slice p1 L0.length c2,nI i1] hF7 rfl rfl (by kernel_rfl) rfl (by kernel_rfl) (fun w=>by kernel_rfl) ?_
 obtain ⟨x9,hx10,hm11⟩:=bind1E hm; clear hm
 refine (slices_Index.ok hS hx10).mono ?_
 rintro _ w12 ⟨rfl,hS14⟩ a13 hF15; clear hF7 hS
 refine ev_runK 2 hF15 [4] (l':=[(4,.bool (decide (x9 ≥ 0)))]) (w':=w12) (by kernel_rfl) ?_
 intro a17 hF16; clear hF15
 refine wpList_nil (thenN ?_)
 refine wp_ret ?_
 obtain rfl:=Option.some.inj hm11
 refine ev_ret hF16 [4] (.bool (decide (x9 ≥ 0))) rfl rfl rfl ?_
 exact ⟨rfl,hS14⟩
def list_of.m (k:Nat) (i0:Ch) (i1:Bool):Option (En):=(if (i1) then some ((⟨i0.sh,i0.st⟩:En)) else some ((⟨i0.th,i0.tt⟩:En)))
theorem list_of.ok {w0 w:World} {F0:List Nat} {ps:List Piece} {k:Nat} {i0:Ch} {i1:Bool} {r0:En} (hS:St w0 F0 (ps) w) (hm:list_of.m k i0 i1=some r0) :
    Calls Tryz.prog 78 #[.agg #[nI (i0.cap),nI (i0.closed),nI (i0.count),nI (i0.start),nI (i0.buf),nI (i0.th),nI (i0.tt),nI (i0.sh),nI (i0.st)],.bool (i1)] w fun e w'=>e=.returned (.agg #[nI (r0.head),nI (r0.tail)])∧St w0 F0 (ps) w':=by
 refine ev_enterL 16 [.agg #[nI (i0.cap),nI (i0.closed),nI (i0.count),nI (i0.start),nI (i0.buf),nI (i0.th),nI (i0.tt),nI (i0.sh),nI (i0.st)],.bool (i1)] Tryz.func78 rfl rfl (by simp) ?_
 intro a hF
 have hF0:Fr 16 a [(0,.agg #[nI (i0.cap),nI (i0.closed),nI (i0.count),nI (i0.start),nI (i0.buf),nI (i0.th),nI (i0.tt),nI (i0.sh),nI (i0.st)]),(1,.bool (i1))]:=hF; clear hF
 unfold list_of.m at hm
 refine wp_seq (wp_region_lit ?_)
 refine ev_runs 1 hF0 (l':=[(2,nB w),(0,.agg #[nI (i0.cap),nI (i0.closed),nI (i0.count),nI (i0.start),nI (i0.buf),nI (i0.th),nI (i0.tt),nI (i0.sh),nI (i0.st)]),(1,.bool (i1))]) (w':=w.alloc (.cells #[nI (i0.cap),nI (i0.closed),nI (i0.count),nI (i0.start),nI (i0.buf),nI (i0.th),nI (i0.tt),nI (i0.sh),nI (i0.st)] 37)) (by kernel_rfl) ?_
 intro a2 hF1; clear hF0
 have hS4:St w0 F0 (BlkP (w.heap.size) 37 #[nI (i0.cap),nI (i0.closed),nI (i0.count),nI (i0.start),nI (i0.buf),nI (i0.th),nI (i0.tt),nI (i0.sh),nI (i0.st)]::ps) (w.alloc (.cells #[nI (i0.cap),nI (i0.closed),nI (i0.count),nI (i0.start),nI (i0.buf),nI (i0.th),nI (i0.tt),nI (i0.sh),nI (i0.st)] 37)):=St.new hS #[nI (i0.cap),nI (i0.closed),nI (i0.count),nI (i0.start),nI (i0.buf),nI (i0.th),nI (i0.tt),nI (i0.sh),nI (i0.st)] 37
 refine ev_runs 1 hF1 (l':=[(4,nP ((w.alloc (.cells #[nI (i0.cap),nI (i0.closed),nI (i0.count),nI (i0.start),nI (i0.buf),nI (i0.th),nI (i0.tt),nI (i0.sh),nI (i0.st)] 37)).heap.size) 0),(2,nB w),(0,.agg #[nI (i0.cap),nI (i0.closed),nI (i0.count),nI (i0.start),nI (i0.buf),nI (i0.th),nI (i0.tt),nI (i0.sh),nI (i0.st)]),(1,.bool (i1))]) (w':=(w.alloc (.cells #[nI (i0.cap),nI (i0.closed),nI (i0.count),nI (i0.start),nI (i0.buf),nI (i0.th),nI (i0.tt),nI (i0.sh),nI (i0.st)] 37)).alloc (.cells #[nI 0,nI 0] 122)) (by kernel_rfl) ?_
 intro a6 hF5; clear hF1
 have hS8:St w0 F0 (BlkP ((w.alloc (.cells #[nI (i0.cap),nI (i0.closed),nI (i0.count),nI (i0.start),nI (i0.buf),nI (i0.th),nI (i0.tt),nI (i0.sh),nI (i0.st)] 37)).heap.size) 122 #[nI 0,nI 0]::BlkP (w.heap.size) 37 #[nI (i0.cap),nI (i0.closed),nI (i0.count),nI (i0.start),nI (i0.buf),nI (i0.th),nI (i0.tt),nI (i0.sh),nI (i0.st)]::ps) ((w.alloc (.cells #[nI (i0.cap),nI (i0.closed),nI (i0.count),nI (i0.start),nI (i0.buf),nI (i0.th),nI (i0.tt),nI (i0.sh),nI (i0.st)] 37)).alloc (.cells #[nI 0,nI 0] 122)):=St.new hS4 #[nI 0,nI 0] 122
 clear hS4
 refine wpList_nil ?_
 have hF9:=hF5.keep [1,2,4]
 clear hF5
 refine thenN (wp_seq (wp_seq (wp_region_lit ?_)))
 refine ev_runK 1 hF9 [2,4,5] (l':=[(5,.bool (i1)),(4,nP ((w.alloc (.cells #[nI (i0.cap),nI (i0.closed),nI (i0.count),nI (i0.start),nI (i0.buf),nI (i0.th),nI (i0.tt),nI (i0.sh),nI (i0.st)] 37)).heap.size) 0),(2,nB w)]) (w':=(w.alloc (.cells #[nI (i0.cap),nI (i0.closed),nI (i0.count),nI (i0.start),nI (i0.buf),nI (i0.th),nI (i0.tt),nI (i0.sh),nI (i0.st)] 37)).alloc (.cells #[nI 0,nI 0] 122)) (by kernel_rfl) ?_
 intro a11 hF10; clear hF9
 refine wpList_nil (thenN ?_)
 cases hc12:(i1)
 case true =>
  rw [hc12] at hF10
  have hm13:=ifYes hc12 hm; clear hm
  refine ev_condT hF10 rfl rfl ?_
  refine wp_seq (wp_region_lit ?_)
  refine ev_runs 1 hF10 (l':=[(6,nP (w.heap.size) 7),(5,.bool true),(4,nP ((w.alloc (.cells #[nI (i0.cap),nI (i0.closed),nI (i0.count),nI (i0.start),nI (i0.buf),nI (i0.th),nI (i0.tt),nI (i0.sh),nI (i0.st)] 37)).heap.size) 0),(2,nB w)]) (w':=(w.alloc (.cells #[nI (i0.cap),nI (i0.closed),nI (i0.count),nI (i0.start),nI (i0.buf),nI (i0.th),nI (i0.tt),nI (i0.sh),nI (i0.st)] 37)).alloc (.cells #[nI 0,nI 0] 122)) (by kernel_rfl) ?_
  intro a15 hF14; clear hF10
  refine ev_one (nI (i0.sh)) ((w.alloc (.cells #[nI (i0.cap),nI (i0.closed),nI (i0.count),nI (i0.start),nI (i0.buf),nI (i0.th),nI (i0.tt),nI (i0.sh),nI (i0.st)] 37)).alloc (.cells #[nI 0,nI 0] 122)) hF14 (by kernel_rfl) rfl (by kernel_rfl) (run_loadV rfl rfl (run_loadS rfl rfl (hS8.cell 1 rfl 7 rfl))) (l':=[(7,nI (i0.sh)),(6,nP (w.heap.size) 7),(5,.bool true),(4,nP ((w.alloc (.cells #[nI (i0.cap),nI (i0.closed),nI (i0.count),nI (i0.start),nI (i0.buf),nI (i0.th),nI (i0.tt),nI (i0.sh),nI (i0.st)] 37)).heap.size) 0),(2,nB w)]) (by kernel_rfl) ?_
  intro a17 hF16; clear hF14
  refine ev_runs 1 hF16 (l':=[(8,nP (w.heap.size) 8),(7,nI (i0.sh)),(6,nP (w.heap.size) 7),(5,.bool true),(4,nP ((w.alloc (.cells #[nI (i0.cap),nI (i0.closed),nI (i0.count),nI (i0.start),nI (i0.buf),nI (i0.th),nI (i0.tt),nI (i0.sh),nI (i0.st)] 37)).heap.size) 0),(2,nB w)]) (w':=(w.alloc (.cells #[nI (i0.cap),nI (i0.closed),nI (i0.count),nI (i0.start),nI (i0.buf),nI (i0.th),nI (i0.tt),nI (i0.sh),nI (i0.st)] 37)).alloc (.cells #[nI 0,nI 0] 122)) (by kernel_rfl) ?_
  intro a19 hF18; clear hF16
  refine ev_one (nI (i0.st)) ((w.alloc (.cells #[nI (i0.cap),nI (i0.closed),nI (i0.count),nI (i0.start),nI (i0.buf),nI (i0.th),nI (i0.tt),nI (i0.sh),nI (i0.st)] 37)).alloc (.cells #[nI 0,nI 0] 122)) hF18 (by kernel_rfl) rfl (by kernel_rfl) (run_loadV rfl rfl (run_loadS rfl rfl (hS8.cell 1 rfl 8 rfl))) (l':=[(9,nI (i0.st)),(8,nP (w.heap.size) 8),(7,nI (i0.sh)),(6,nP (w.heap.size) 7),(5,.bool true),(4,nP ((w.alloc (.cells #[nI (i0.cap),nI (i0.closed),nI (i0.count),nI (i0.start),nI (i0.buf),nI (i0.th),nI (i0.tt),nI (i0.sh),nI (i0.st)] 37)).heap.size) 0),(2,nB w)]) (by kernel_rfl) ?_
  intro a21 hF20; clear hF18
  refine ev_runs 1 hF20 (l':=[(10,.agg #[nI (i0.sh),nI (i0.st)]),(9,nI (i0.st)),(8,nP (w.heap.size) 8),(7,nI (i0.sh)),(6,nP (w.heap.size) 7),(5,.bool true),(4,nP ((w.alloc (.cells #[nI (i0.cap),nI (i0.closed),nI (i0.count),nI (i0.start),nI (i0.buf),nI (i0.th),nI (i0.tt),nI (i0.sh),nI (i0.st)] 37)).heap.size) 0),(2,nB w)]) (w':=(w.alloc (.cells #[nI (i0.cap),nI (i0.closed),nI (i0.count),nI (i0.start),nI (i0.buf),nI (i0.th),nI (i0.tt),nI (i0.sh),nI (i0.st)] 37)).alloc (.cells #[nI 0,nI 0] 122)) (by kernel_rfl) ?_
  intro a23 hF22; clear hF20
  refine ev_store (.agg #[nI (i0.sh),nI (i0.st)]) #[nI (i0.sh),nI (i0.st)] hF22 (by kernel_rfl) rfl rfl rfl rfl (by kernel_rfl) hS8 (by kernel_rfl) (by kernel_rfl) (by kernel_rfl) (l':=[(10,.agg #[nI (i0.sh),nI (i0.st)]),(9,nI (i0.st)),(8,nP (w.heap.size) 8),(7,nI (i0.sh)),(6,nP (w.heap.size) 7),(5,.bool true),(4,nP ((w.alloc (.cells #[nI (i0.cap),nI (i0.closed),nI (i0.count),nI (i0.start),nI (i0.buf),nI (i0.th),nI (i0.tt),nI (i0.sh),nI (i0.st)] 37)).heap.size) 0),(2,nB w)]) (by kernel_rfl) ?_
  intro w24 a25 hS26 hF27; clear hF22 hS8
  refine wpList_nil ?_
  have hF28:=hF27.keep [4]
  clear hF27
  have hS29:=hS26.pick1.drop
  clear hS26
  refine thenN ?_
  refine wp_ret ?_
  refine thenR ?_
  obtain rfl:=Option.some.inj hm13
  refine ev_retC hF28 _ [.agg #[nI (i0.sh),nI (i0.st)]] (.agg #[nI (i0.sh),nI (i0.st)]) rfl ⟨⟨rfl,_,rfl,(run_loadA (cs:=[nI (i0.sh),nI (i0.st)]) rfl rfl (by kernel_rfl) (blk_cells hS29 0 rfl rfl))⟩,trivial⟩ rfl ?_
  have hS31:=hS29.drop
  clear hS29
  exact ⟨rfl,hS31⟩
 rw [hc12] at hF10
 have hm32:=ifNot hc12 hm; clear hm
 refine ev_condF hF10 rfl rfl ?_
 refine wp_skip ?_
 have hF33:=hF10.keep [2,4]
 clear hF10
 refine thenN (wp_seq (wp_region_lit ?_))
 refine ev_runs 1 hF33 (l':=[(11,nP (w.heap.size) 5),(4,nP ((w.alloc (.cells #[nI (i0.cap),nI (i0.closed),nI (i0.count),nI (i0.start),nI (i0.buf),nI (i0.th),nI (i0.tt),nI (i0.sh),nI (i0.st)] 37)).heap.size) 0),(2,nB w)]) (w':=(w.alloc (.cells #[nI (i0.cap),nI (i0.closed),nI (i0.count),nI (i0.start),nI (i0.buf),nI (i0.th),nI (i0.tt),nI (i0.sh),nI (i0.st)] 37)).alloc (.cells #[nI 0,nI 0] 122)) (by kernel_rfl) ?_
 intro a35 hF34; clear hF33
 refine ev_one (nI (i0.th)) ((w.alloc (.cells #[nI (i0.cap),nI (i0.closed),nI (i0.count),nI (i0.start),nI (i0.buf),nI (i0.th),nI (i0.tt),nI (i0.sh),nI (i0.st)] 37)).alloc (.cells #[nI 0,nI 0] 122)) hF34 (by kernel_rfl) rfl (by kernel_rfl) (run_loadV rfl rfl (run_loadS rfl rfl (hS8.cell 1 rfl 5 rfl))) (l':=[(12,nI (i0.th)),(11,nP (w.heap.size) 5),(4,nP ((w.alloc (.cells #[nI (i0.cap),nI (i0.closed),nI (i0.count),nI (i0.start),nI (i0.buf),nI (i0.th),nI (i0.tt),nI (i0.sh),nI (i0.st)] 37)).heap.size) 0),(2,nB w)]) (by kernel_rfl) ?_
 intro a37 hF36; clear hF34
 refine ev_runs 1 hF36 (l':=[(13,nP (w.heap.size) 6),(12,nI (i0.th)),(11,nP (w.heap.size) 5),(4,nP ((w.alloc (.cells #[nI (i0.cap),nI (i0.closed),nI (i0.count),nI (i0.start),nI (i0.buf),nI (i0.th),nI (i0.tt),nI (i0.sh),nI (i0.st)] 37)).heap.size) 0),(2,nB w)]) (w':=(w.alloc (.cells #[nI (i0.cap),nI (i0.closed),nI (i0.count),nI (i0.start),nI (i0.buf),nI (i0.th),nI (i0.tt),nI (i0.sh),nI (i0.st)] 37)).alloc (.cells #[nI 0,nI 0] 122)) (by kernel_rfl) ?_
 intro a39 hF38; clear hF36
 refine ev_one (nI (i0.tt)) ((w.alloc (.cells #[nI (i0.cap),nI (i0.closed),nI (i0.count),nI (i0.start),nI (i0.buf),nI (i0.th),nI (i0.tt),nI (i0.sh),nI (i0.st)] 37)).alloc (.cells #[nI 0,nI 0] 122)) hF38 (by kernel_rfl) rfl (by kernel_rfl) (run_loadV rfl rfl (run_loadS rfl rfl (hS8.cell 1 rfl 6 rfl))) (l':=[(14,nI (i0.tt)),(13,nP (w.heap.size) 6),(12,nI (i0.th)),(11,nP (w.heap.size) 5),(4,nP ((w.alloc (.cells #[nI (i0.cap),nI (i0.closed),nI (i0.count),nI (i0.start),nI (i0.buf),nI (i0.th),nI (i0.tt),nI (i0.sh),nI (i0.st)] 37)).heap.size) 0),(2,nB w)]) (by kernel_rfl) ?_
 intro a41 hF40; clear hF38
 refine ev_runs 1 hF40 (l':=[(15,.agg #[nI (i0.th),nI (i0.tt)]),(14,nI (i0.tt)),(13,nP (w.heap.size) 6),(12,nI (i0.th)),(11,nP (w.heap.size) 5),(4,nP ((w.alloc (.cells #[nI (i0.cap),nI (i0.closed),nI (i0.count),nI (i0.start),nI (i0.buf),nI (i0.th),nI (i0.tt),nI (i0.sh),nI (i0.st)] 37)).heap.size) 0),(2,nB w)]) (w':=(w.alloc (.cells #[nI (i0.cap),nI (i0.closed),nI (i0.count),nI (i0.start),nI (i0.buf),nI (i0.th),nI (i0.tt),nI (i0.sh),nI (i0.st)] 37)).alloc (.cells #[nI 0,nI 0] 122)) (by kernel_rfl) ?_
 intro a43 hF42; clear hF40
 refine ev_store (.agg #[nI (i0.th),nI (i0.tt)]) #[nI (i0.th),nI (i0.tt)] hF42 (by kernel_rfl) rfl rfl rfl rfl (by kernel_rfl) hS8 (by kernel_rfl) (by kernel_rfl) (by kernel_rfl) (l':=[(15,.agg #[nI (i0.th),nI (i0.tt)]),(14,nI (i0.tt)),(13,nP (w.heap.size) 6),(12,nI (i0.th)),(11,nP (w.heap.size) 5),(4,nP ((w.alloc (.cells #[nI (i0.cap),nI (i0.closed),nI (i0.count),nI (i0.start),nI (i0.buf),nI (i0.th),nI (i0.tt),nI (i0.sh),nI (i0.st)] 37)).heap.size) 0),(2,nB w)]) (by kernel_rfl) ?_
 intro w44 a45 hS46 hF47; clear hF42 hS8
 refine wpList_nil ?_
 have hF48:=hF47.keep [4]
 clear hF47
 have hS49:=hS46.pick1.drop
 clear hS46
 refine thenN ?_
 refine wp_ret ?_
 obtain rfl:=Option.some.inj hm32
 refine ev_retC hF48 _ [.agg #[nI (i0.th),nI (i0.tt)]] (.agg #[nI (i0.th),nI (i0.tt)]) rfl ⟨⟨rfl,_,rfl,(run_loadA (cs:=[nI (i0.th),nI (i0.tt)]) rfl rfl (by kernel_rfl) (blk_cells hS49 0 rfl rfl))⟩,trivial⟩ rfl ?_
 have hS51:=hS49.drop
 clear hS49
 exact ⟨rfl,hS51⟩
def list_into.j1 (i0:Ch) (x16:Int) (x17:Int) (x18:Int) (x19:Int):Option (Ch):=some ((⟨i0.cap,i0.closed,i0.count,i0.start,i0.buf,x16,x17,x18,x19⟩:Ch))
def list_into.m (k:Nat) (i0:Ch) (i1:Bool) (i2:En):Option (Ch):=(if (i1) then list_into.j1 i0 i0.th i0.tt i2.head i2.tail else list_into.j1 i0 i2.head i2.tail i0.sh i0.st)
theorem list_into.ok {w0 w:World} {F0:List Nat} {ps:List Piece} {k:Nat} {i0:Ch} {i1:Bool} {i2:En} {r0:Ch} (hS:St w0 F0 (ps) w) (hm:list_into.m k i0 i1 i2=some r0) :
    Calls Tryz.prog 80 #[.agg #[nI (i0.cap),nI (i0.closed),nI (i0.count),nI (i0.start),nI (i0.buf),nI (i0.th),nI (i0.tt),nI (i0.sh),nI (i0.st)],.bool (i1),.agg #[nI (i2.head),nI (i2.tail)]] w fun e w'=>e=.returned (.agg #[nI (r0.cap),nI (r0.closed),nI (r0.count),nI (r0.start),nI (r0.buf),nI (r0.th),nI (r0.tt),nI (r0.sh),nI (r0.st)])∧St w0 F0 (ps) w':=by
 refine ev_enterL 21 [.agg #[nI (i0.cap),nI (i0.closed),nI (i0.count),nI (i0.start),nI (i0.buf),nI (i0.th),nI (i0.tt),nI (i0.sh),nI (i0.st)],.bool (i1),.agg #[nI (i2.head),nI (i2.tail)]] Tryz.func80 rfl rfl (by simp) ?_
 intro a hF
 have hF0:Fr 21 a [(0,.agg #[nI (i0.cap),nI (i0.closed),nI (i0.count),nI (i0.start),nI (i0.buf),nI (i0.th),nI (i0.tt),nI (i0.sh),nI (i0.st)]),(1,.bool (i1)),(2,.agg #[nI (i2.head),nI (i2.tail)])]:=hF; clear hF
 unfold list_into.m at hm
 refine wp_seq (wp_region_lit ?_)
 refine ev_runs 1 hF0 (l':=[(3,nB w),(0,.agg #[nI (i0.cap),nI (i0.closed),nI (i0.count),nI (i0.start),nI (i0.buf),nI (i0.th),nI (i0.tt),nI (i0.sh),nI (i0.st)]),(1,.bool (i1)),(2,.agg #[nI (i2.head),nI (i2.tail)])]) (w':=w.alloc (.cells #[nI (i0.cap),nI (i0.closed),nI (i0.count),nI (i0.start),nI (i0.buf),nI (i0.th),nI (i0.tt),nI (i0.sh),nI (i0.st)] 37)) (by kernel_rfl) ?_
 intro a2 hF1; clear hF0
 have hS4:St w0 F0 (BlkP (w.heap.size) 37 #[nI (i0.cap),nI (i0.closed),nI (i0.count),nI (i0.start),nI (i0.buf),nI (i0.th),nI (i0.tt),nI (i0.sh),nI (i0.st)]::ps) (w.alloc (.cells #[nI (i0.cap),nI (i0.closed),nI (i0.count),nI (i0.start),nI (i0.buf),nI (i0.th),nI (i0.tt),nI (i0.sh),nI (i0.st)] 37)):=St.new hS #[nI (i0.cap),nI (i0.closed),nI (i0.count),nI (i0.start),nI (i0.buf),nI (i0.th),nI (i0.tt),nI (i0.sh),nI (i0.st)] 37
 refine ev_runs 1 hF1 (l':=[(5,nP ((w.alloc (.cells #[nI (i0.cap),nI (i0.closed),nI (i0.count),nI (i0.start),nI (i0.buf),nI (i0.th),nI (i0.tt),nI (i0.sh),nI (i0.st)] 37)).heap.size) 0),(3,nB w),(0,.agg #[nI (i0.cap),nI (i0.closed),nI (i0.count),nI (i0.start),nI (i0.buf),nI (i0.th),nI (i0.tt),nI (i0.sh),nI (i0.st)]),(1,.bool (i1)),(2,.agg #[nI (i2.head),nI (i2.tail)])]) (w':=(w.alloc (.cells #[nI (i0.cap),nI (i0.closed),nI (i0.count),nI (i0.start),nI (i0.buf),nI (i0.th),nI (i0.tt),nI (i0.sh),nI (i0.st)] 37)).alloc (.cells #[nI (i2.head),nI (i2.tail)] 122)) (by kernel_rfl) ?_
 intro a6 hF5; clear hF1
 have hS8:St w0 F0 (BlkP ((w.alloc (.cells #[nI (i0.cap),nI (i0.closed),nI (i0.count),nI (i0.start),nI (i0.buf),nI (i0.th),nI (i0.tt),nI (i0.sh),nI (i0.st)] 37)).heap.size) 122 #[nI (i2.head),nI (i2.tail)]::BlkP (w.heap.size) 37 #[nI (i0.cap),nI (i0.closed),nI (i0.count),nI (i0.start),nI (i0.buf),nI (i0.th),nI (i0.tt),nI (i0.sh),nI (i0.st)]::ps) ((w.alloc (.cells #[nI (i0.cap),nI (i0.closed),nI (i0.count),nI (i0.start),nI (i0.buf),nI (i0.th),nI (i0.tt),nI (i0.sh),nI (i0.st)] 37)).alloc (.cells #[nI (i2.head),nI (i2.tail)] 122)):=St.new hS4 #[nI (i2.head),nI (i2.tail)] 122
 clear hS4
 refine ev_runs 1 hF5 (l':=[(6,nP (((w.alloc (.cells #[nI (i0.cap),nI (i0.closed),nI (i0.count),nI (i0.start),nI (i0.buf),nI (i0.th),nI (i0.tt),nI (i0.sh),nI (i0.st)] 37)).alloc (.cells #[nI (i2.head),nI (i2.tail)] 122)).heap.size) 0),(5,nP ((w.alloc (.cells #[nI (i0.cap),nI (i0.closed),nI (i0.count),nI (i0.start),nI (i0.buf),nI (i0.th),nI (i0.tt),nI (i0.sh),nI (i0.st)] 37)).heap.size) 0),(3,nB w),(0,.agg #[nI (i0.cap),nI (i0.closed),nI (i0.count),nI (i0.start),nI (i0.buf),nI (i0.th),nI (i0.tt),nI (i0.sh),nI (i0.st)]),(1,.bool (i1)),(2,.agg #[nI (i2.head),nI (i2.tail)])]) (w':=((w.alloc (.cells #[nI (i0.cap),nI (i0.closed),nI (i0.count),nI (i0.start),nI (i0.buf),nI (i0.th),nI (i0.tt),nI (i0.sh),nI (i0.st)] 37)).alloc (.cells #[nI (i2.head),nI (i2.tail)] 122)).alloc (.cells #[nI 0,nI 0,nI 0,nI 0,nI 0,nI 0,nI 0,nI 0,nI 0] 37)) (by kernel_rfl) ?_
 intro a10 hF9; clear hF5
 have hS12:St w0 F0 (BlkP (((w.alloc (.cells #[nI (i0.cap),nI (i0.closed),nI (i0.count),nI (i0.start),nI (i0.buf),nI (i0.th),nI (i0.tt),nI (i0.sh),nI (i0.st)] 37)).alloc (.cells #[nI (i2.head),nI (i2.tail)] 122)).heap.size) 37 #[nI 0,nI 0,nI 0,nI 0,nI 0,nI 0,nI 0,nI 0,nI 0]::BlkP ((w.alloc (.cells #[nI (i0.cap),nI (i0.closed),nI (i0.count),nI (i0.start),nI (i0.buf),nI (i0.th),nI (i0.tt),nI (i0.sh),nI (i0.st)] 37)).heap.size) 122 #[nI (i2.head),nI (i2.tail)]::BlkP (w.heap.size) 37 #[nI (i0.cap),nI (i0.closed),nI (i0.count),nI (i0.start),nI (i0.buf),nI (i0.th),nI (i0.tt),nI (i0.sh),nI (i0.st)]::ps) (((w.alloc (.cells #[nI (i0.cap),nI (i0.closed),nI (i0.count),nI (i0.start),nI (i0.buf),nI (i0.th),nI (i0.tt),nI (i0.sh),nI (i0.st)] 37)).alloc (.cells #[nI (i2.head),nI (i2.tail)] 122)).alloc (.cells #[nI 0,nI 0,nI 0,nI 0,nI 0,nI 0,nI 0,nI 0,nI 0] 37)):=St.new hS8 #[nI 0,nI 0,nI 0,nI 0,nI 0,nI 0,nI 0,nI 0,nI 0] 37
 clear hS8
 refine wpList_nil ?_
 have hF13:=hF9.keep [1,3,5,6]
 clear hF9
 refine thenN (wp_seq (wp_seq (wp_region_lit ?_)))
 refine ev_runK 1 hF13 [3,5,6,7] (l':=[(7,.bool (i1)),(6,nP (((w.alloc (.cells #[nI (i0.cap),nI (i0.closed),nI (i0.count),nI (i0.start),nI (i0.buf),nI (i0.th),nI (i0.tt),nI (i0.sh),nI (i0.st)] 37)).alloc (.cells #[nI (i2.head),nI (i2.tail)] 122)).heap.size) 0),(5,nP ((w.alloc (.cells #[nI (i0.cap),nI (i0.closed),nI (i0.count),nI (i0.start),nI (i0.buf),nI (i0.th),nI (i0.tt),nI (i0.sh),nI (i0.st)] 37)).heap.size) 0),(3,nB w)]) (w':=((w.alloc (.cells #[nI (i0.cap),nI (i0.closed),nI (i0.count),nI (i0.start),nI (i0.buf),nI (i0.th),nI (i0.tt),nI (i0.sh),nI (i0.st)] 37)).alloc (.cells #[nI (i2.head),nI (i2.tail)] 122)).alloc (.cells #[nI 0,nI 0,nI 0,nI 0,nI 0,nI 0,nI 0,nI 0,nI 0] 37)) (by kernel_rfl) ?_
 intro a15 hF14; clear hF13
 refine wpList_nil (thenN ?_)
 refine joinQ (fun aI wI=>∃ (x16:Int) (x17:Int) (x18:Int) (x19:Int),Fr 21 aI [(6,nP (((w.alloc (.cells #[nI (i0.cap),nI (i0.closed),nI (i0.count),nI (i0.start),nI (i0.buf),nI (i0.th),nI (i0.tt),nI (i0.sh),nI (i0.st)] 37)).alloc (.cells #[nI (i2.head),nI (i2.tail)] 122)).heap.size) 0),(3,nB w)]∧St w0 F0 (BlkP (w.heap.size) 37 #[nI (i0.cap),nI (i0.closed),nI (i0.count),nI (i0.start),nI (i0.buf),nI x16,nI x17,nI x18,nI x19]::BlkP (((w.alloc (.cells #[nI (i0.cap),nI (i0.closed),nI (i0.count),nI (i0.start),nI (i0.buf),nI (i0.th),nI (i0.tt),nI (i0.sh),nI (i0.st)] 37)).alloc (.cells #[nI (i2.head),nI (i2.tail)] 122)).heap.size) 37 #[nI 0,nI 0,nI 0,nI 0,nI 0,nI 0,nI 0,nI 0,nI 0]::ps) wI∧list_into.j1 i0 x16 x17 x18 x19=some r0) ?_ ?_
 rotate_left
 · rintro a21 w22 ⟨x16,x17,x18,x19,hF23,hS24,hm25⟩
   clear hF14 hS12 hm
   unfold list_into.j1 at hm25
   refine thenN (wp_seq (wp_region_lit ?_))
   refine ev_one (.agg #[nI (i0.cap),nI (i0.closed),nI (i0.count),nI (i0.start),nI (i0.buf),nI x16,nI x17,nI x18,nI x19]) w22 hF23 (by kernel_rfl) rfl (by kernel_rfl) (run_loadV rfl rfl (run_loadA (cs:=[nI (i0.cap),nI (i0.closed),nI (i0.count),nI (i0.start),nI (i0.buf),nI x16,nI x17,nI x18,nI x19]) rfl rfl (by kernel_rfl) (blk_cells hS24 0 rfl rfl))) (l':=[(20,.agg #[nI (i0.cap),nI (i0.closed),nI (i0.count),nI (i0.start),nI (i0.buf),nI x16,nI x17,nI x18,nI x19]),(6,nP (((w.alloc (.cells #[nI (i0.cap),nI (i0.closed),nI (i0.count),nI (i0.start),nI (i0.buf),nI (i0.th),nI (i0.tt),nI (i0.sh),nI (i0.st)] 37)).alloc (.cells #[nI (i2.head),nI (i2.tail)] 122)).heap.size) 0),(3,nB w)]) (by kernel_rfl) ?_
   intro a28 hF27; clear hF23
   have hS29:=hS24.pick1
   clear hS24
   refine ev_store (.agg #[nI (i0.cap),nI (i0.closed),nI (i0.count),nI (i0.start),nI (i0.buf),nI x16,nI x17,nI x18,nI x19]) #[nI (i0.cap),nI (i0.closed),nI (i0.count),nI (i0.start),nI (i0.buf),nI x16,nI x17,nI x18,nI x19] hF27 (by kernel_rfl) rfl rfl rfl rfl (by kernel_rfl) hS29 (by kernel_rfl) (by kernel_rfl) (by kernel_rfl) (l':=[(20,.agg #[nI (i0.cap),nI (i0.closed),nI (i0.count),nI (i0.start),nI (i0.buf),nI x16,nI x17,nI x18,nI x19]),(6,nP (((w.alloc (.cells #[nI (i0.cap),nI (i0.closed),nI (i0.count),nI (i0.start),nI (i0.buf),nI (i0.th),nI (i0.tt),nI (i0.sh),nI (i0.st)] 37)).alloc (.cells #[nI (i2.head),nI (i2.tail)] 122)).heap.size) 0),(3,nB w)]) (by kernel_rfl) ?_
   intro w30 a31 hS32 hF33; clear hF27 hS29
   refine wpList_nil ?_
   have hF34:=hF33.keep [6]
   clear hF33
   have hS35:=hS32.pick1.drop
   clear hS32
   refine thenN ?_
   refine wp_ret ?_
   obtain rfl:=Option.some.inj hm25
   refine ev_retC hF34 _ [.agg #[nI (i0.cap),nI (i0.closed),nI (i0.count),nI (i0.start),nI (i0.buf),nI x16,nI x17,nI x18,nI x19]] (.agg #[nI (i0.cap),nI (i0.closed),nI (i0.count),nI (i0.start),nI (i0.buf),nI x16,nI x17,nI x18,nI x19]) rfl ⟨⟨rfl,_,rfl,(run_loadA (cs:=[nI (i0.cap),nI (i0.closed),nI (i0.count),nI (i0.start),nI (i0.buf),nI x16,nI x17,nI x18,nI x19]) rfl rfl (by kernel_rfl) (blk_cells hS35 0 rfl rfl))⟩,trivial⟩ rfl ?_
   have hS37:=hS35.drop
   clear hS35
   exact ⟨rfl,hS37⟩
 · skip
   cases hc38:(i1)
   case true =>
    rw [hc38] at hF14
    have hm39:=ifYes hc38 hm; clear hm
    refine ev_condT hF14 rfl rfl ?_
    have hS40:=hS12.pick1
    clear hS12
    have hS41:=hS40.drew; clear hS40
    refine any_start (fun wS=>∃ qs,St w0 F0 (BlkP ((w.alloc (.cells #[nI (i0.cap),nI (i0.closed),nI (i0.count),nI (i0.start),nI (i0.buf),nI (i0.th),nI (i0.tt),nI (i0.sh),nI (i0.st)] 37)).heap.size) 122 #[nI (i2.head),nI (i2.tail)]::qs) wS) 8 #[false,false,false,false,false,false,false,false] (by kernel_rfl) (by kernel_rfl) (by kernel_rfl) ?_
    refine any_many 5 [(0,some (nP ((w.alloc (.cells #[nI (i0.cap),nI (i0.closed),nI (i0.count),nI (i0.start),nI (i0.buf),nI (i0.th),nI (i0.tt),nI (i0.sh),nI (i0.st)] 37)).heap.size) 0)),(1,some (nI (i2.head))),(2,some (nP ((w.alloc (.cells #[nI (i0.cap),nI (i0.closed),nI (i0.count),nI (i0.start),nI (i0.buf),nI (i0.th),nI (i0.tt),nI (i0.sh),nI (i0.st)] 37)).heap.size) 1)),(3,some (nI (i2.tail))),(4,some (nP (w.heap.size) 7))] [3,6,9,11,12,13] #[true,true,true,true,true,false,false,false] (by rfl) hF14 (by kernel_rfl) (by kernel_rfl) (by exact ⟨fun wS hw=>by kernel_rfl,fun wS hw=>hw.elim fun qs hw=>run_loadV rfl rfl (run_loadS rfl rfl (hw.cell 0 rfl 0 rfl)),fun wS hw=>by kernel_rfl,fun wS hw=>hw.elim fun qs hw=>run_loadV rfl rfl (run_loadS rfl rfl (hw.cell 0 rfl 1 rfl)),fun wS hw=>by kernel_rfl,trivial⟩) (fun _ _ _ _ _ h=>h) ⟨_,hS41⟩ (l':=[(12,nP (w.heap.size) 7),(11,nI (i2.tail)),(9,nI (i2.head)),(6,nP (((w.alloc (.cells #[nI (i0.cap),nI (i0.closed),nI (i0.count),nI (i0.start),nI (i0.buf),nI (i0.th),nI (i0.tt),nI (i0.sh),nI (i0.st)] 37)).alloc (.cells #[nI (i2.head),nI (i2.tail)] 122)).heap.size) 0),(3,nB w)]) (by kernel_rfl) ?_
    intro a43 hF42; clear hF14
    refine any_one 5 (by kernel_rfl) ?_
    have hS44:=hS41.pick2
    clear hS41
    refine op_store 5 #[true,true,true,true,true,true,false,false] (nI (i2.head)) #[nI (i0.cap),nI (i0.closed),nI (i0.count),nI (i0.start),nI (i0.buf),nI (i0.th),nI (i0.tt),nI (i2.head),nI (i0.st)] hF42 rfl (by kernel_rfl) rfl rfl rfl rfl (by kernel_rfl) hS44 (by kernel_rfl) (by kernel_rfl) (by kernel_rfl) (l':=[(12,nP (w.heap.size) 7),(11,nI (i2.tail)),(9,nI (i2.head)),(6,nP (((w.alloc (.cells #[nI (i0.cap),nI (i0.closed),nI (i0.count),nI (i0.start),nI (i0.buf),nI (i0.th),nI (i0.tt),nI (i0.sh),nI (i0.st)] 37)).alloc (.cells #[nI (i2.head),nI (i2.tail)] 122)).heap.size) 0),(3,nB w)]) (by kernel_rfl) (by kernel_rfl) ?_
    intro w45 a46 hS47 hF48; clear hF42 hS44
    refine ⟨⟨_,hS47.pick1⟩,?_⟩
    refine any_many 1 [(6,some (nP (w.heap.size) 8))] [3,6,11,13] #[true,true,true,true,true,true,true,false] (by rfl) hF48 (by kernel_rfl) (by kernel_rfl) (by exact ⟨fun wS hw=>by kernel_rfl,trivial⟩) (fun _ _ _ _ _ h=>h) ⟨_,hS47.pick1⟩ (l':=[(13,nP (w.heap.size) 8),(11,nI (i2.tail)),(6,nP (((w.alloc (.cells #[nI (i0.cap),nI (i0.closed),nI (i0.count),nI (i0.start),nI (i0.buf),nI (i0.th),nI (i0.tt),nI (i0.sh),nI (i0.st)] 37)).alloc (.cells #[nI (i2.head),nI (i2.tail)] 122)).heap.size) 0),(3,nB w)]) (by kernel_rfl) ?_
    intro a50 hF49; clear hF48
    refine any_one 7 (by kernel_rfl) ?_
    refine op_store 7 #[true,true,true,true,true,true,true,true] (nI (i2.tail)) #[nI (i0.cap),nI (i0.closed),nI (i0.count),nI (i0.start),nI (i0.buf),nI (i0.th),nI (i0.tt),nI (i2.head),nI (i2.tail)] hF49 rfl (by kernel_rfl) rfl rfl rfl rfl (by kernel_rfl) hS47 (by kernel_rfl) (by kernel_rfl) (by kernel_rfl) (l':=[(13,nP (w.heap.size) 8),(11,nI (i2.tail)),(6,nP (((w.alloc (.cells #[nI (i0.cap),nI (i0.closed),nI (i0.count),nI (i0.start),nI (i0.buf),nI (i0.th),nI (i0.tt),nI (i0.sh),nI (i0.st)] 37)).alloc (.cells #[nI (i2.head),nI (i2.tail)] 122)).heap.size) 0),(3,nB w)]) (by kernel_rfl) (by kernel_rfl) ?_
    intro w51 a52 hS53 hF54; clear hF49 hS47
    refine ⟨⟨_,hS53.pick1⟩,?_⟩
    refine any_done (by kernel_rfl) ?_
    have hF55:=hF54.keep [3,6]
    clear hF54
    have hS56:=hS53.pick1.drop
    clear hS53
    exact thenN ⟨i0.th,i0.tt,i2.head,i2.tail,hF55,hS56,hm39⟩
   rw [hc38] at hF14
   have hm57:=ifNot hc38 hm; clear hm
   refine ev_condF hF14 rfl rfl ?_
   have hS58:=hS12.pick1
   clear hS12
   have hS59:=hS58.drew; clear hS58
   refine any_start (fun wS=>∃ qs,St w0 F0 (BlkP ((w.alloc (.cells #[nI (i0.cap),nI (i0.closed),nI (i0.count),nI (i0.start),nI (i0.buf),nI (i0.th),nI (i0.tt),nI (i0.sh),nI (i0.st)] 37)).heap.size) 122 #[nI (i2.head),nI (i2.tail)]::qs) wS) 8 #[false,false,false,false,false,false,false,false] (by kernel_rfl) (by kernel_rfl) (by kernel_rfl) ?_
   refine any_many 5 [(0,some (nP ((w.alloc (.cells #[nI (i0.cap),nI (i0.closed),nI (i0.count),nI (i0.start),nI (i0.buf),nI (i0.th),nI (i0.tt),nI (i0.sh),nI (i0.st)] 37)).heap.size) 0)),(1,some (nI (i2.head))),(2,some (nP ((w.alloc (.cells #[nI (i0.cap),nI (i0.closed),nI (i0.count),nI (i0.start),nI (i0.buf),nI (i0.th),nI (i0.tt),nI (i0.sh),nI (i0.st)] 37)).heap.size) 1)),(3,some (nI (i2.tail))),(4,some (nP (w.heap.size) 5))] [3,6,15,17,18,19] #[true,true,true,true,true,false,false,false] (by rfl) hF14 (by kernel_rfl) (by kernel_rfl) (by exact ⟨fun wS hw=>by kernel_rfl,fun wS hw=>hw.elim fun qs hw=>run_loadV rfl rfl (run_loadS rfl rfl (hw.cell 0 rfl 0 rfl)),fun wS hw=>by kernel_rfl,fun wS hw=>hw.elim fun qs hw=>run_loadV rfl rfl (run_loadS rfl rfl (hw.cell 0 rfl 1 rfl)),fun wS hw=>by kernel_rfl,trivial⟩) (fun _ _ _ _ _ h=>h) ⟨_,hS59⟩ (l':=[(18,nP (w.heap.size) 5),(17,nI (i2.tail)),(15,nI (i2.head)),(6,nP (((w.alloc (.cells #[nI (i0.cap),nI (i0.closed),nI (i0.count),nI (i0.start),nI (i0.buf),nI (i0.th),nI (i0.tt),nI (i0.sh),nI (i0.st)] 37)).alloc (.cells #[nI (i2.head),nI (i2.tail)] 122)).heap.size) 0),(3,nB w)]) (by kernel_rfl) ?_
   intro a61 hF60; clear hF14
   refine any_one 5 (by kernel_rfl) ?_
   have hS62:=hS59.pick2
   clear hS59
   refine op_store 5 #[true,true,true,true,true,true,false,false] (nI (i2.head)) #[nI (i0.cap),nI (i0.closed),nI (i0.count),nI (i0.start),nI (i0.buf),nI (i2.head),nI (i0.tt),nI (i0.sh),nI (i0.st)] hF60 rfl (by kernel_rfl) rfl rfl rfl rfl (by kernel_rfl) hS62 (by kernel_rfl) (by kernel_rfl) (by kernel_rfl) (l':=[(18,nP (w.heap.size) 5),(17,nI (i2.tail)),(15,nI (i2.head)),(6,nP (((w.alloc (.cells #[nI (i0.cap),nI (i0.closed),nI (i0.count),nI (i0.start),nI (i0.buf),nI (i0.th),nI (i0.tt),nI (i0.sh),nI (i0.st)] 37)).alloc (.cells #[nI (i2.head),nI (i2.tail)] 122)).heap.size) 0),(3,nB w)]) (by kernel_rfl) (by kernel_rfl) ?_
   intro w63 a64 hS65 hF66; clear hF60 hS62
   refine ⟨⟨_,hS65.pick1⟩,?_⟩
   refine any_many 1 [(6,some (nP (w.heap.size) 6))] [3,6,17,19] #[true,true,true,true,true,true,true,false] (by rfl) hF66 (by kernel_rfl) (by kernel_rfl) (by exact ⟨fun wS hw=>by kernel_rfl,trivial⟩) (fun _ _ _ _ _ h=>h) ⟨_,hS65.pick1⟩ (l':=[(19,nP (w.heap.size) 6),(17,nI (i2.tail)),(6,nP (((w.alloc (.cells #[nI (i0.cap),nI (i0.closed),nI (i0.count),nI (i0.start),nI (i0.buf),nI (i0.th),nI (i0.tt),nI (i0.sh),nI (i0.st)] 37)).alloc (.cells #[nI (i2.head),nI (i2.tail)] 122)).heap.size) 0),(3,nB w)]) (by kernel_rfl) ?_
   intro a68 hF67; clear hF66
   refine any_one 7 (by kernel_rfl) ?_
   refine op_store 7 #[true,true,true,true,true,true,true,true] (nI (i2.tail)) #[nI (i0.cap),nI (i0.closed),nI (i0.count),nI (i0.start),nI (i0.buf),nI (i2.head),nI (i2.tail),nI (i0.sh),nI (i0.st)] hF67 rfl (by kernel_rfl) rfl rfl rfl rfl (by kernel_rfl) hS65 (by kernel_rfl) (by kernel_rfl) (by kernel_rfl) (l':=[(19,nP (w.heap.size) 6),(17,nI (i2.tail)),(6,nP (((w.alloc (.cells #[nI (i0.cap),nI (i0.closed),nI (i0.count),nI (i0.start),nI (i0.buf),nI (i0.th),nI (i0.tt),nI (i0.sh),nI (i0.st)] 37)).alloc (.cells #[nI (i2.head),nI (i2.tail)] 122)).heap.size) 0),(3,nB w)]) (by kernel_rfl) (by kernel_rfl) ?_
   intro w69 a70 hS71 hF72; clear hF67 hS65
   refine ⟨⟨_,hS71.pick1⟩,?_⟩
   refine any_done (by kernel_rfl) ?_
   have hF73:=hF72.keep [3,6]
   clear hF72
   have hS74:=hS71.pick1.drop
   clear hS71
   exact thenN ⟨i2.head,i2.tail,i0.sh,i0.st,hF73,hS74,hm57⟩
def list_look.m (k:Nat) (s0:HSt) (i1:Int):Option (Option Su×HSt):=bind2 (pSudog i1 s0) fun q5 x6=>(if (x6 != 0) then some (none,s0) else some ((some (⟨q5.gor,q5.chan,q5.value,q5.next,q5.to,q5.reg,q5.more⟩:Su)),s0))
theorem list_look.ok {w0 w:World} {F0:List Nat} {ps:List Piece} {k:Nat} {b0 ab0:Nat} {s0:HSt} {i1:Int} {r0:Option Su} {t0:HSt} (hS:St w0 F0 (HeapP b0 ab0 s0::ps) w) (hm:list_look.m k s0 i1=some (r0,t0)) :
    Calls Tryz.prog 81 #[nP b0 0,nI i1] w fun e w'=>e=.returned (oSuV 54 r0)∧St w0 F0 (HeapP b0 ab0 t0::ps) w':=by
 refine ev_enterL 17 [nP b0 0,nI i1] Tryz.func81 rfl rfl (by simp) ?_
 intro a hF
 have hF0:Fr 17 a [(0,nP b0 0),(1,nI i1)]:=hF; clear hF
 unfold list_look.m at hm
 refine wp_seq (wp_region_lit ?_)
 refine ev_runK 1 hF0 [0,1] (l':=[(0,nP b0 0),(1,nI i1)]) (w':=w) (by kernel_rfl) ?_
 intro a2 hF1; clear hF0
 refine wpList_nil (thenN (wp_seq (wp_region_lit ?_)))
 refine ev_runs 2 hF1 (l':=[(9,nI i1),(8,nP b0 0),(0,nP b0 0),(1,nI i1)]) (w':=w) (by kernel_rfl) ?_
 intro a4 hF3; clear hF1
 refine ev_call 30 #[nP b0 0,nI i1] hF3 rfl rfl (by kernel_rfl) rfl (by kernel_rfl) (fun w=>by kernel_rfl) ?_
 obtain ⟨q5,x6,hx7,hm8⟩:=bind2E hm; clear hm
 refine (p_Sudog hS hx7).mono ?_
 rintro _ w9 ⟨rfl,hS11⟩ a10 hF12; clear hF3 hS
 refine ev_runs 4 hF12 (l':=[(5,nB w9),(12,nI x6),(11,.agg #[nI (q5.gor),nI (q5.chan),nI (q5.value),nI (q5.next),nI (q5.to),nI (q5.reg),nI (q5.more)]),(7,.tuple #[.agg #[nI (q5.gor),nI (q5.chan),nI (q5.value),nI (q5.next),nI (q5.to),nI (q5.reg),nI (q5.more)],nI x6]),(10,.tuple #[.agg #[nI (q5.gor),nI (q5.chan),nI (q5.value),nI (q5.next),nI (q5.to),nI (q5.reg),nI (q5.more)],nI x6]),(9,nI i1),(8,nP b0 0),(0,nP b0 0),(1,nI i1)]) (w':=w9.alloc (.cells #[nI 0,nI 0,nI 0,nI 0,nI 0,nI 0,nI 0] 54)) (by kernel_rfl) ?_
 intro a14 hF13; clear hF12
 have hS16:St w0 F0 (BlkP (w9.heap.size) 54 #[nI 0,nI 0,nI 0,nI 0,nI 0,nI 0,nI 0]::HeapP b0 ab0 s0::ps) (w9.alloc (.cells #[nI 0,nI 0,nI 0,nI 0,nI 0,nI 0,nI 0] 54)):=St.new hS11 #[nI 0,nI 0,nI 0,nI 0,nI 0,nI 0,nI 0] 54
 clear hS11
 refine ev_store (.agg #[nI (q5.gor),nI (q5.chan),nI (q5.value),nI (q5.next),nI (q5.to),nI (q5.reg),nI (q5.more)]) #[nI (q5.gor),nI (q5.chan),nI (q5.value),nI (q5.next),nI (q5.to),nI (q5.reg),nI (q5.more)] hF13 (by kernel_rfl) rfl rfl rfl rfl (by kernel_rfl) hS16 (by kernel_rfl) (by kernel_rfl) (by kernel_rfl) (l':=[(5,nB w9),(12,nI x6),(11,.agg #[nI (q5.gor),nI (q5.chan),nI (q5.value),nI (q5.next),nI (q5.to),nI (q5.reg),nI (q5.more)]),(7,.tuple #[.agg #[nI (q5.gor),nI (q5.chan),nI (q5.value),nI (q5.next),nI (q5.to),nI (q5.reg),nI (q5.more)],nI x6]),(10,.tuple #[.agg #[nI (q5.gor),nI (q5.chan),nI (q5.value),nI (q5.next),nI (q5.to),nI (q5.reg),nI (q5.more)],nI x6]),(9,nI i1),(8,nP b0 0),(0,nP b0 0),(1,nI i1)]) (by kernel_rfl) ?_
 intro w17 a18 hS19 hF20; clear hF13 hS16
 refine ev_runK 1 hF20 [5,6] (l':=[(6,nI x6),(5,nB w9)]) (w':=w17) (by kernel_rfl) ?_
 intro a22 hF21; clear hF20
 refine wpList_nil (thenN (wp_seq (wp_seq (wp_region_lit ?_))))
 refine ev_runK 2 hF21 [5,14] (l':=[(14,.bool (x6 != 0)),(5,nB w9)]) (w':=w17) (by kernel_rfl) ?_
 intro a24 hF23; clear hF21
 refine wpList_nil (thenN ?_)
 cases hc25:(x6 != 0)
 case true =>
  rw [hc25] at hF23
  have hm26:=ifYes hc25 hm8; clear hm8
  refine ev_condT hF23 rfl rfl ?_
  refine wp_seq (wp_region_lit ?_)
  refine ev_runK 1 hF23 [4] (l':=[(4,.nilIface)]) (w':=w17) (by kernel_rfl) ?_
  intro a28 hF27; clear hF23
  refine wpList_nil ?_
  have hS29:=hS19.drop
  clear hS19
  refine thenN ?_
  refine wp_ret ?_
  refine thenR ?_
  simp only [Option.some.injEq,Prod.mk.injEq] at hm26
  obtain ⟨rfl,rfl⟩:=hm26
  refine ev_ret hF27 [4] (.nilIface) rfl rfl rfl ?_
  exact ⟨rfl,hS29⟩
 rw [hc25] at hF23
 have hm32:=ifNot hc25 hm8; clear hm8
 refine ev_condF hF23 rfl rfl ?_
 refine wp_skip ?_
 have hF33:=hF23.keep [5]
 clear hF23
 refine thenN (wp_seq (wp_region_lit ?_))
 refine ev_one (.agg #[nI (q5.gor),nI (q5.chan),nI (q5.value),nI (q5.next),nI (q5.to),nI (q5.reg),nI (q5.more)]) w17 hF33 (by kernel_rfl) rfl (by kernel_rfl) (run_loadV rfl rfl (run_loadA (cs:=[nI (q5.gor),nI (q5.chan),nI (q5.value),nI (q5.next),nI (q5.to),nI (q5.reg),nI (q5.more)]) rfl rfl (by kernel_rfl) (blk_cells hS19 0 rfl rfl))) (l':=[(15,.agg #[nI (q5.gor),nI (q5.chan),nI (q5.value),nI (q5.next),nI (q5.to),nI (q5.reg),nI (q5.more)]),(5,nB w9)]) (by kernel_rfl) ?_
 intro a35 hF34; clear hF33
 refine ev_runK 2 hF34 [4] (l':=[(4,.iface 54 (.agg #[nI (q5.gor),nI (q5.chan),nI (q5.value),nI (q5.next),nI (q5.to),nI (q5.reg),nI (q5.more)]))]) (w':=w17) (by kernel_rfl) ?_
 intro a37 hF36; clear hF34
 refine wpList_nil ?_
 have hS38:=hS19.drop
 clear hS19
 refine thenN ?_
 refine wp_ret ?_
 simp only [Option.some.injEq,Prod.mk.injEq] at hm32
 obtain ⟨rfl,rfl⟩:=hm32
 refine ev_ret hF36 [4] (.iface 54 (.agg #[nI (q5.gor),nI (q5.chan),nI (q5.value),nI (q5.next),nI (q5.to),nI (q5.reg),nI (q5.more)])) rfl rfl rfl ?_
 exact ⟨rfl,hS38⟩
def list_follow.m (k:Nat) (s0:HSt) (i1:Int) (i2:Int):Option (HSt):=bind2 (list_look.m k s0 i1) fun o3 s4=>optE o3 (some (s4)) fun q27=>bind2 (pPutSudog i1 (⟨q27.gor,q27.chan,q27.value,i2,q27.to,q27.reg,q27.more⟩:Su) s4) fun x53 s54=>some (s54)
theorem list_follow.ok {w0 w:World} {F0:List Nat} {ps:List Piece} {k:Nat} {b0 ab0:Nat} {s0:HSt} {i1:Int} {i2:Int} {t0:HSt} (hS:St w0 F0 (HeapP b0 ab0 s0::ps) w) (hm:list_follow.m k s0 i1 i2=some t0) :
    Calls Tryz.prog 79 #[nP b0 0,nI i1,nI i2] w fun e w'=>e=.returned (.tuple #[])∧St w0 F0 (HeapP b0 ab0 t0::ps) w':=by
 refine ev_enterL 22 [nP b0 0,nI i1,nI i2] Tryz.func79 rfl rfl (by simp) ?_
 intro a hF
 have hF0:Fr 22 a [(0,nP b0 0),(1,nI i1),(2,nI i2)]:=hF; clear hF
 unfold list_follow.m at hm
 refine wp_seq (wp_region_lit ?_)
 refine ev_runs 2 hF0 (l':=[(10,nI i1),(9,nP b0 0),(0,nP b0 0),(1,nI i1),(2,nI i2)]) (w':=w) (by kernel_rfl) ?_
 intro a2 hF1; clear hF0
 refine ev_call 81 #[nP b0 0,nI i1] hF1 rfl rfl (by kernel_rfl) rfl (by kernel_rfl) (fun w=>by kernel_rfl) ?_
 obtain ⟨o3,s4,hx5,hm6⟩:=bind2E hm; clear hm
 refine (list_look.ok hS hx5).mono ?_
 rintro _ w7 ⟨rfl,hS9⟩ a8 hF10; clear hF1 hS
 cases o3 with
 | none =>
  have hm11:=optN hm6; clear hm6
  refine ev_runs 5 hF10 (l':=[(6,nB w7),(14,.bool false),(13,.agg #[nI 0,nI 0,nI 0,nI 0,nI 0,nI 0,nI 0]),(8,.tuple #[.agg #[nI 0,nI 0,nI 0,nI 0,nI 0,nI 0,nI 0],.bool false]),(12,.tuple #[.agg #[nI 0,nI 0,nI 0,nI 0,nI 0,nI 0,nI 0],.bool false]),(11,.nilIface),(10,nI i1),(9,nP b0 0),(0,nP b0 0),(1,nI i1),(2,nI i2)]) (w':=w7.alloc (.cells #[nI 0,nI 0,nI 0,nI 0,nI 0,nI 0,nI 0] 54)) (by kernel_rfl) ?_
  intro a13 hF12; clear hF10
  have hS15:St w0 F0 (BlkP (w7.heap.size) 54 #[nI 0,nI 0,nI 0,nI 0,nI 0,nI 0,nI 0]::HeapP b0 ab0 s4::ps) (w7.alloc (.cells #[nI 0,nI 0,nI 0,nI 0,nI 0,nI 0,nI 0] 54)):=St.new hS9 #[nI 0,nI 0,nI 0,nI 0,nI 0,nI 0,nI 0] 54
  clear hS9
  refine ev_store (.agg #[nI 0,nI 0,nI 0,nI 0,nI 0,nI 0,nI 0]) #[nI 0,nI 0,nI 0,nI 0,nI 0,nI 0,nI 0] hF12 (by kernel_rfl) rfl rfl rfl rfl (by kernel_rfl) hS15 (by kernel_rfl) (by kernel_rfl) (by kernel_rfl) (l':=[(6,nB w7),(14,.bool false),(13,.agg #[nI 0,nI 0,nI 0,nI 0,nI 0,nI 0,nI 0]),(8,.tuple #[.agg #[nI 0,nI 0,nI 0,nI 0,nI 0,nI 0,nI 0],.bool false]),(12,.tuple #[.agg #[nI 0,nI 0,nI 0,nI 0,nI 0,nI 0,nI 0],.bool false]),(11,.nilIface),(10,nI i1),(9,nP b0 0),(0,nP b0 0),(1,nI i1),(2,nI i2)]) (by kernel_rfl) ?_
  intro w16 a17 hS18 hF19; clear hF12 hS15
  refine ev_runK 1 hF19 [0,1,2,6,7] (l':=[(7,.bool false),(6,nB w7),(0,nP b0 0),(1,nI i1),(2,nI i2)]) (w':=w16) (by kernel_rfl) ?_
  intro a21 hF20; clear hF19
  refine wpList_nil (thenN (wp_seq (wp_region_lit ?_)))
  refine ev_runK 1 hF20 [0,1,2,6,15] (l':=[(15,.bool false),(6,nB w7),(0,nP b0 0),(1,nI i1),(2,nI i2)]) (w':=w16) (by kernel_rfl) ?_
  intro a23 hF22; clear hF20
  refine wpList_nil (thenN ?_)
  refine ev_condF hF22 rfl rfl ?_
  refine wp_skip ?_
  have hF24:=hF22.keep []
  clear hF22
  have hS25:=hS18.drop
  clear hS18
  obtain rfl:=Option.some.inj hm11
  refine ev_retN hF24 [] (.tuple #[]) rfl rfl rfl ?_
  exact ⟨rfl,hS25⟩
 | some q27 =>
  have hm28:=optS hm6; clear hm6
  refine ev_runs 5 hF10 (l':=[(6,nB w7),(14,.bool true),(13,.agg #[nI (q27.gor),nI (q27.chan),nI (q27.value),nI (q27.next),nI (q27.to),nI (q27.reg),nI (q27.more)]),(8,.tuple #[.agg #[nI (q27.gor),nI (q27.chan),nI (q27.value),nI (q27.next),nI (q27.to),nI (q27.reg),nI (q27.more)],.bool true]),(12,.tuple #[.agg #[nI (q27.gor),nI (q27.chan),nI (q27.value),nI (q27.next),nI (q27.to),nI (q27.reg),nI (q27.more)],.bool true]),(11,.iface 54 (.agg #[nI (q27.gor),nI (q27.chan),nI (q27.value),nI (q27.next),nI (q27.to),nI (q27.reg),nI (q27.more)])),(10,nI i1),(9,nP b0 0),(0,nP b0 0),(1,nI i1),(2,nI i2)]) (w':=w7.alloc (.cells #[nI 0,nI 0,nI 0,nI 0,nI 0,nI 0,nI 0] 54)) (by kernel_rfl) ?_
  intro a30 hF29; clear hF10
  have hS32:St w0 F0 (BlkP (w7.heap.size) 54 #[nI 0,nI 0,nI 0,nI 0,nI 0,nI 0,nI 0]::HeapP b0 ab0 s4::ps) (w7.alloc (.cells #[nI 0,nI 0,nI 0,nI 0,nI 0,nI 0,nI 0] 54)):=St.new hS9 #[nI 0,nI 0,nI 0,nI 0,nI 0,nI 0,nI 0] 54
  clear hS9
  refine ev_store (.agg #[nI (q27.gor),nI (q27.chan),nI (q27.value),nI (q27.next),nI (q27.to),nI (q27.reg),nI (q27.more)]) #[nI (q27.gor),nI (q27.chan),nI (q27.value),nI (q27.next),nI (q27.to),nI (q27.reg),nI (q27.more)] hF29 (by kernel_rfl) rfl rfl rfl rfl (by kernel_rfl) hS32 (by kernel_rfl) (by kernel_rfl) (by kernel_rfl) (l':=[(6,nB w7),(14,.bool true),(13,.agg #[nI (q27.gor),nI (q27.chan),nI (q27.value),nI (q27.next),nI (q27.to),nI (q27.reg),nI (q27.more)]),(8,.tuple #[.agg #[nI (q27.gor),nI (q27.chan),nI (q27.value),nI (q27.next),nI (q27.to),nI (q27.reg),nI (q27.more)],.bool true]),(12,.tuple #[.agg #[nI (q27.gor),nI (q27.chan),nI (q27.value),nI (q27.next),nI (q27.to),nI (q27.reg),nI (q27.more)],.bool true]),(11,.iface 54 (.agg #[nI (q27.gor),nI (q27.chan),nI (q27.value),nI (q27.next),nI (q27.to),nI (q27.reg),nI (q27.more)])),(10,nI i1),(9,nP b0 0),(0,nP b0 0),(1,nI i1),(2,nI i2)]) (by kernel_rfl) ?_
  intro w33 a34 hS35 hF36; clear hF29 hS32
  refine ev_runK 1 hF36 [0,1,2,6,7] (l':=[(7,.bool true),(6,nB w7),(0,nP b0 0),(1,nI i1),(2,nI i2)]) (w':=w33) (by kernel_rfl) ?_
  intro a38 hF37; clear hF36
  refine wpList_nil (thenN (wp_seq (wp_region_lit ?_)))
  refine ev_runK 1 hF37 [0,1,2,6,15] (l':=[(15,.bool true),(6,nB w7),(0,nP b0 0),(1,nI i1),(2,nI i2)]) (w':=w33) (by kernel_rfl) ?_
  intro a40 hF39; clear hF37
  refine wpList_nil (thenN ?_)
  refine ev_condT hF39 rfl rfl ?_
  refine wp_seq (wp_region_lit ?_)
  refine ev_runs 2 hF39 (l':=[(17,nP (w7.heap.size) 3),(16,nI i2),(15,.bool true),(6,nB w7),(0,nP b0 0),(1,nI i1),(2,nI i2)]) (w':=w33) (by kernel_rfl) ?_
  intro a42 hF41; clear hF39
  refine ev_store (nI i2) #[nI (q27.gor),nI (q27.chan),nI (q27.value),nI i2,nI (q27.to),nI (q27.reg),nI (q27.more)] hF41 (by kernel_rfl) rfl rfl rfl rfl (by kernel_rfl) hS35 (by kernel_rfl) (by kernel_rfl) (by kernel_rfl) (l':=[(17,nP (w7.heap.size) 3),(16,nI i2),(15,.bool true),(6,nB w7),(0,nP b0 0),(1,nI i1),(2,nI i2)]) (by kernel_rfl) ?_
  intro w43 a44 hS45 hF46; clear hF41 hS35
  refine wpList_nil ?_
  have hF47:=hF46.keep [0,1,6]
  clear hF46
  refine thenN (wp_region_lit ?_)
  refine ev_runs 2 hF47 (l':=[(19,nI i1),(18,nP b0 0),(6,nB w7),(0,nP b0 0),(1,nI i1)]) (w':=w43) (by kernel_rfl) ?_
  intro a49 hF48; clear hF47
  refine ev_one (.agg #[nI (q27.gor),nI (q27.chan),nI (q27.value),nI i2,nI (q27.to),nI (q27.reg),nI (q27.more)]) w43 hF48 (by kernel_rfl) rfl (by kernel_rfl) (run_loadV rfl rfl (run_loadA (cs:=[nI (q27.gor),nI (q27.chan),nI (q27.value),nI i2,nI (q27.to),nI (q27.reg),nI (q27.more)]) rfl rfl (by kernel_rfl) (blk_cells hS45 0 rfl rfl))) (l':=[(20,.agg #[nI (q27.gor),nI (q27.chan),nI (q27.value),nI i2,nI (q27.to),nI (q27.reg),nI (q27.more)]),(19,nI i1),(18,nP b0 0),(6,nB w7),(0,nP b0 0),(1,nI i1)]) (by kernel_rfl) ?_
  intro a51 hF50; clear hF48
  have hS52:=hS45.pick1
  clear hS45
  refine ev_call 41 #[nP b0 0,nI i1,.agg #[nI (q27.gor),nI (q27.chan),nI (q27.value),nI i2,nI (q27.to),nI (q27.reg),nI (q27.more)]] hF50 rfl rfl (by kernel_rfl) rfl (by kernel_rfl) (fun w=>by kernel_rfl) ?_
  obtain ⟨x53,s54,hx55,hm56⟩:=bind2E hm28; clear hm28
  refine (p_PutSudog hS52 hx55).mono ?_
  rintro _ w57 ⟨rfl,hS59⟩ a58 hF60; clear hF50 hS52
  refine wpList_nil ?_
  have hF61:=hF60.keep []
  clear hF60
  have hS62:=hS59.pick1.drop
  clear hS59
  obtain rfl:=Option.some.inj hm56
  refine ev_retN hF61 [] (.tuple #[]) rfl rfl rfl ?_
  exact ⟨rfl,hS62⟩
def list_All.l1b (k:Nat) (rec64:List Int→HSt→Int→Option (List Int×HSt)) (L58:List Int) (s60:HSt) (x61:Int):Option (List Int×HSt):=bind1 (slices_Contains.m k L58 x61) fun y75=>(if (!(y75)) then bind2 (list_look.m k s60 x61) fun o90 s91=>optE o90 (some (L58,s91)) fun q116=>bind1 (pushM L58 x61) fun L134=>rec64 L134 s91 q116.next else some (L58,s60))
def list_All.l1 (k:Nat):Nat→List Int→HSt→Int→Option (List Int×HSt)
  | 0=>fun _ _ _=>none
  | kI+1=>list_All.l1b k (list_All.l1 k kI)
def list_All.m (k:Nat) (s0:HSt) (i1:Int) (i2:Bool):Option (List Int×HSt):=bind2 (pChan i1 s0) fun q8 x9=>(if (x9 != 0) then some ([],s0) else bind1 (list_of.m k (⟨q8.cap,q8.closed,q8.count,q8.start,q8.buf,q8.th,q8.tt,q8.sh,q8.st⟩:Ch) (i2)) fun q48=>list_All.l1 k k [] s0 q48.head)
theorem list_All.ok {w0 w:World} {F0:List Nat} {ps:List Piece} {k:Nat} {b0 ab0:Nat} {s0:HSt} {i1:Int} {i2:Bool} {r0:List Int} {t0:HSt} (hS:St w0 F0 (HeapP b0 ab0 s0::ps) w) (hm:list_All.m k s0 i1 i2=some (r0,t0)) :
    Calls Tryz.prog 34 #[nP b0 0,nI i1,.bool (i2)] w fun e w'=>∃ vr0,e=.returned (vr0)∧St w0 F0 (HeapP b0 ab0 t0::RowP vr0 r0::ps) w':=by
 refine ev_enterL 45 [nP b0 0,nI i1,.bool (i2)] Tryz.func34 rfl rfl (by simp) ?_
 intro a hF
 have hF0:Fr 45 a [(0,nP b0 0),(1,nI i1),(2,.bool (i2))]:=hF; clear hF
 unfold list_All.m at hm
 refine wp_seq (wp_region_lit ?_)
 have hS2:St w0 F0 (RowP (.slice none 0 0) []::HeapP b0 ab0 s0::ps) w:=St.nil hS
 refine ev_runK 1 hF0 [0,1,2] (l':=[(0,nP b0 0),(1,nI i1),(2,.bool (i2))]) (w':=w) (by kernel_rfl) ?_
 intro a4 hF3; clear hF0
 refine wpList_nil ?_
 have hS5:=hS2.drop
 clear hS2
 refine thenN (wp_seq (wp_region_lit ?_))
 refine ev_runs 2 hF3 (l':=[(15,nI i1),(14,nP b0 0),(0,nP b0 0),(1,nI i1),(2,.bool (i2))]) (w':=w) (by kernel_rfl) ?_
 intro a7 hF6; clear hF3
 refine ev_call 19 #[nP b0 0,nI i1] hF6 rfl rfl (by kernel_rfl) rfl (by kernel_rfl) (fun w=>by kernel_rfl) ?_
 obtain ⟨q8,x9,hx10,hm11⟩:=bind2E hm; clear hm
 refine (p_Chan hS5 hx10).mono ?_
 rintro _ w12 ⟨rfl,hS14⟩ a13 hF15; clear hF6 hS5
 refine ev_runs 4 hF15 (l':=[(7,nB w12),(18,nI x9),(17,.agg #[nI (q8.cap),nI (q8.closed),nI (q8.count),nI (q8.start),nI (q8.buf),nI (q8.th),nI (q8.tt),nI (q8.sh),nI (q8.st)]),(13,.tuple #[.agg #[nI (q8.cap),nI (q8.closed),nI (q8.count),nI (q8.start),nI (q8.buf),nI (q8.th),nI (q8.tt),nI (q8.sh),nI (q8.st)],nI x9]),(16,.tuple #[.agg #[nI (q8.cap),nI (q8.closed),nI (q8.count),nI (q8.start),nI (q8.buf),nI (q8.th),nI (q8.tt),nI (q8.sh),nI (q8.st)],nI x9]),(15,nI i1),(14,nP b0 0),(0,nP b0 0),(1,nI i1),(2,.bool (i2))]) (w':=w12.alloc (.cells #[nI 0,nI 0,nI 0,nI 0,nI 0,nI 0,nI 0,nI 0,nI 0] 37)) (by kernel_rfl) ?_
 intro a17 hF16; clear hF15
 have hS19:St w0 F0 (BlkP (w12.heap.size) 37 #[nI 0,nI 0,nI 0,nI 0,nI 0,nI 0,nI 0,nI 0,nI 0]::HeapP b0 ab0 s0::ps) (w12.alloc (.cells #[nI 0,nI 0,nI 0,nI 0,nI 0,nI 0,nI 0,nI 0,nI 0] 37)):=St.new hS14 #[nI 0,nI 0,nI 0,nI 0,nI 0,nI 0,nI 0,nI 0,nI 0] 37
 clear hS14
 refine ev_store (.agg #[nI (q8.cap),nI (q8.closed),nI (q8.count),nI (q8.start),nI (q8.buf),nI (q8.th),nI (q8.tt),nI (q8.sh),nI (q8.st)]) #[nI (q8.cap),nI (q8.closed),nI (q8.count),nI (q8.start),nI (q8.buf),nI (q8.th),nI (q8.tt),nI (q8.sh),nI (q8.st)] hF16 (by kernel_rfl) rfl rfl rfl rfl (by kernel_rfl) hS19 (by kernel_rfl) (by kernel_rfl) (by kernel_rfl) (l':=[(7,nB w12),(18,nI x9),(17,.agg #[nI (q8.cap),nI (q8.closed),nI (q8.count),nI (q8.start),nI (q8.buf),nI (q8.th),nI (q8.tt),nI (q8.sh),nI (q8.st)]),(13,.tuple #[.agg #[nI (q8.cap),nI (q8.closed),nI (q8.count),nI (q8.start),nI (q8.buf),nI (q8.th),nI (q8.tt),nI (q8.sh),nI (q8.st)],nI x9]),(16,.tuple #[.agg #[nI (q8.cap),nI (q8.closed),nI (q8.count),nI (q8.start),nI (q8.buf),nI (q8.th),nI (q8.tt),nI (q8.sh),nI (q8.st)],nI x9]),(15,nI i1),(14,nP b0 0),(0,nP b0 0),(1,nI i1),(2,.bool (i2))]) (by kernel_rfl) ?_
 intro w20 a21 hS22 hF23; clear hF16 hS19
 refine ev_runK 1 hF23 [0,2,7,8] (l':=[(8,nI x9),(7,nB w12),(0,nP b0 0),(2,.bool (i2))]) (w':=w20) (by kernel_rfl) ?_
 intro a25 hF24; clear hF23
 refine wpList_nil (thenN (wp_seq (wp_seq (wp_region_lit ?_))))
 refine ev_runK 2 hF24 [0,2,7,20] (l':=[(20,.bool (x9 != 0)),(7,nB w12),(0,nP b0 0),(2,.bool (i2))]) (w':=w20) (by kernel_rfl) ?_
 intro a27 hF26; clear hF24
 refine wpList_nil (thenN ?_)
 cases hc28:(x9 != 0)
 case true =>
  rw [hc28] at hF26
  have hm29:=ifYes hc28 hm11; clear hm11
  refine ev_condT hF26 rfl rfl ?_
  refine wp_seq (wp_region_lit ?_)
  have hS31:St w0 F0 (RowP (.slice none 0 0) []::BlkP (w12.heap.size) 37 #[nI (q8.cap),nI (q8.closed),nI (q8.count),nI (q8.start),nI (q8.buf),nI (q8.th),nI (q8.tt),nI (q8.sh),nI (q8.st)]::HeapP b0 ab0 s0::ps) w20:=St.nil hS22
  clear hS22
  refine ev_runK 1 hF26 [6] (l':=[(6,.slice none 0 0)]) (w':=w20) (by kernel_rfl) ?_
  intro a33 hF32; clear hF26
  refine wpList_nil ?_
  have hS34:=hS31.pick1.drop
  clear hS31
  refine thenN ?_
  refine wp_ret ?_
  refine thenR ?_
  have hS35:=hS34.pick1
  clear hS34
  simp only [Option.some.injEq,Prod.mk.injEq] at hm29
  obtain ⟨rfl,rfl⟩:=hm29
  refine ev_ret hF32 [6] (.slice none 0 0) rfl rfl rfl ?_
  exact ⟨_,rfl,hS35⟩
 rw [hc28] at hF26
 have hm38:=ifNot hc28 hm11; clear hm11
 refine ev_condF hF26 rfl rfl ?_
 refine wp_skip ?_
 have hF39:=hF26.keep [0,2,7]
 clear hF26
 refine thenN (wp_seq (wp_region_lit ?_))
 have hS41:St w0 F0 (RowP (.slice none 0 0) []::BlkP (w12.heap.size) 37 #[nI (q8.cap),nI (q8.closed),nI (q8.count),nI (q8.start),nI (q8.buf),nI (q8.th),nI (q8.tt),nI (q8.sh),nI (q8.st)]::HeapP b0 ab0 s0::ps) w20:=St.nil hS22
 clear hS22
 refine ev_runs 1 hF39 (l':=[(9,.slice none 0 0),(7,nB w12),(0,nP b0 0),(2,.bool (i2))]) (w':=w20) (by kernel_rfl) ?_
 intro a43 hF42; clear hF39
 refine wpList_nil (thenN (wp_seq (wp_seq (wp_region_lit ?_))))
 refine ev_one (.agg #[nI (q8.cap),nI (q8.closed),nI (q8.count),nI (q8.start),nI (q8.buf),nI (q8.th),nI (q8.tt),nI (q8.sh),nI (q8.st)]) w20 hF42 (by kernel_rfl) rfl (by kernel_rfl) (run_loadV rfl rfl (run_loadA (cs:=[nI (q8.cap),nI (q8.closed),nI (q8.count),nI (q8.start),nI (q8.buf),nI (q8.th),nI (q8.tt),nI (q8.sh),nI (q8.st)]) rfl rfl (by kernel_rfl) (blk_cells hS41 1 rfl rfl))) (l':=[(21,.agg #[nI (q8.cap),nI (q8.closed),nI (q8.count),nI (q8.start),nI (q8.buf),nI (q8.th),nI (q8.tt),nI (q8.sh),nI (q8.st)]),(9,.slice none 0 0),(7,nB w12),(0,nP b0 0),(2,.bool (i2))]) (by kernel_rfl) ?_
 intro a45 hF44; clear hF42
 refine ev_runs 1 hF44 (l':=[(22,.bool (i2)),(21,.agg #[nI (q8.cap),nI (q8.closed),nI (q8.count),nI (q8.start),nI (q8.buf),nI (q8.th),nI (q8.tt),nI (q8.sh),nI (q8.st)]),(9,.slice none 0 0),(7,nB w12),(0,nP b0 0),(2,.bool (i2))]) (w':=w20) (by kernel_rfl) ?_
 intro a47 hF46; clear hF44
 refine ev_call 78 #[.agg #[nI (q8.cap),nI (q8.closed),nI (q8.count),nI (q8.start),nI (q8.buf),nI (q8.th),nI (q8.tt),nI (q8.sh),nI (q8.st)],.bool (i2)] hF46 rfl rfl (by kernel_rfl) rfl (by kernel_rfl) (fun w=>by kernel_rfl) ?_
 obtain ⟨q48,hx49,hm50⟩:=bind1E hm38; clear hm38
 refine (list_of.ok hS41 hx49).mono ?_
 rintro _ w51 ⟨rfl,hS53⟩ a52 hF54; clear hF46 hS41
 refine ev_runK 2 hF54 [0,9,10] (l':=[(10,nI (q48.head)),(9,.slice none 0 0),(0,nP b0 0)]) (w':=w51) (by kernel_rfl) ?_
 intro a56 hF55; clear hF54
 refine wpList_nil ?_
 have hS57:=hS53.pick1.drop
 clear hS53
 refine thenN ?_
 refine wp_block ?_
 refine wp_loop_ghost (fun kI aI wI=>∃ (v59:Value) (L58:List Int) (s60:HSt) (x61:Int),Fr 45 aI [(10,nI x61),(9,v59),(0,nP b0 0)]∧St w0 F0 (RowP (v59) L58::HeapP b0 ab0 s60::ps) wI∧list_All.l1 k kI L58 s60 x61=some (r0,t0)) k ⟨.slice none 0 0,[],s0,q48.head,hF55,hS57,hm50⟩ ?_
 rintro k62 a63 w64 ⟨v59,L58,s60,x61,hF65,hS66,hm67⟩
 clear hF55 hS57 hm50
 rcases k62 with _ | k62
 · cases hm67
 have hm68:list_All.l1b k (list_All.l1 k k62) L58 s60 x61=some (r0,t0):=hm67
 clear hm67
 unfold list_All.l1b at hm68
 obtain ⟨hl72,p69,c70,rfl,hp71⟩:=St.shape hS66 0 rfl
 refine wp_seq (wp_seq (wp_region_lit ?_))
 refine ev_runs 2 hF65 (l':=[(26,nI x61),(25,.slice p69 L58.length c70),(10,nI x61),(9,.slice p69 L58.length c70),(0,nP b0 0)]) (w':=w64) (by kernel_rfl) ?_
 intro a74 hF73; clear hF65
 refine ev_call 83 #[.slice p69 L58.length c70,nI x61] hF73 rfl rfl (by kernel_rfl) rfl (by kernel_rfl) (fun w=>by kernel_rfl) ?_
 obtain ⟨y75,hx76,hm77⟩:=bind1E hm68; clear hm68
 refine (slices_Contains.ok hS66 hx76).mono ?_
 rintro _ w78 ⟨rfl,hS80⟩ a79 hF81; clear hF73 hS66
 refine ev_runK 1 hF81 [0,9,10,28] (l':=[(28,.bool (!(y75))),(10,nI x61),(9,.slice p69 L58.length c70),(0,nP b0 0)]) (w':=w78) (by kernel_rfl) ?_
 intro a83 hF82; clear hF81
 refine wpList_nil (thenN ?_)
 cases hc84:(!(y75))
 case true =>
  rw [hc84] at hF82
  have hm85:=ifYes hc84 hm77; clear hm77
  refine ev_condT hF82 rfl rfl ?_
  refine wp_skip ?_
  have hF86:=hF82.keep [0,9,10]
  clear hF82
  refine thenN ?_
  refine wp_block ?_
  refine wp_seq (wp_region_lit ?_)
  refine ev_runs 2 hF86 (l':=[(31,nI x61),(30,nP b0 0),(10,nI x61),(9,.slice p69 L58.length c70),(0,nP b0 0)]) (w':=w78) (by kernel_rfl) ?_
  intro a88 hF87; clear hF86
  have hS89:=hS80.pick1
  clear hS80
  refine ev_call 81 #[nP b0 0,nI x61] hF87 rfl rfl (by kernel_rfl) rfl (by kernel_rfl) (fun w=>by kernel_rfl) ?_
  obtain ⟨o90,s91,hx92,hm93⟩:=bind2E hm85; clear hm85
  refine (list_look.ok hS89 hx92).mono ?_
  rintro _ w94 ⟨rfl,hS96⟩ a95 hF97; clear hF87 hS89
  cases o90 with
  | none =>
   have hm98:=optN hm93; clear hm93
   refine ev_runs 5 hF97 (l':=[(11,nB w94),(35,.bool false),(34,.agg #[nI 0,nI 0,nI 0,nI 0,nI 0,nI 0,nI 0]),(29,.tuple #[.agg #[nI 0,nI 0,nI 0,nI 0,nI 0,nI 0,nI 0],.bool false]),(33,.tuple #[.agg #[nI 0,nI 0,nI 0,nI 0,nI 0,nI 0,nI 0],.bool false]),(32,.nilIface),(31,nI x61),(30,nP b0 0),(10,nI x61),(9,.slice p69 L58.length c70),(0,nP b0 0)]) (w':=w94.alloc (.cells #[nI 0,nI 0,nI 0,nI 0,nI 0,nI 0,nI 0] 54)) (by kernel_rfl) ?_
   intro a100 hF99; clear hF97
   have hS102:St w0 F0 (BlkP (w94.heap.size) 54 #[nI 0,nI 0,nI 0,nI 0,nI 0,nI 0,nI 0]::HeapP b0 ab0 s91::RowP (.slice p69 L58.length c70) L58::ps) (w94.alloc (.cells #[nI 0,nI 0,nI 0,nI 0,nI 0,nI 0,nI 0] 54)):=St.new hS96 #[nI 0,nI 0,nI 0,nI 0,nI 0,nI 0,nI 0] 54
   clear hS96
   refine ev_store (.agg #[nI 0,nI 0,nI 0,nI 0,nI 0,nI 0,nI 0]) #[nI 0,nI 0,nI 0,nI 0,nI 0,nI 0,nI 0] hF99 (by kernel_rfl) rfl rfl rfl rfl (by kernel_rfl) hS102 (by kernel_rfl) (by kernel_rfl) (by kernel_rfl) (l':=[(11,nB w94),(35,.bool false),(34,.agg #[nI 0,nI 0,nI 0,nI 0,nI 0,nI 0,nI 0]),(29,.tuple #[.agg #[nI 0,nI 0,nI 0,nI 0,nI 0,nI 0,nI 0],.bool false]),(33,.tuple #[.agg #[nI 0,nI 0,nI 0,nI 0,nI 0,nI 0,nI 0],.bool false]),(32,.nilIface),(31,nI x61),(30,nP b0 0),(10,nI x61),(9,.slice p69 L58.length c70),(0,nP b0 0)]) (by kernel_rfl) ?_
   intro w103 a104 hS105 hF106; clear hF99 hS102
   refine ev_runK 1 hF106 [0,9,10,11,12] (l':=[(12,.bool false),(11,nB w94),(10,nI x61),(9,.slice p69 L58.length c70),(0,nP b0 0)]) (w':=w103) (by kernel_rfl) ?_
   intro a108 hF107; clear hF106
   refine wpList_nil (thenN (wp_seq (wp_seq (wp_region_lit ?_))))
   refine ev_runK 2 hF107 [0,9,10,11,37] (l':=[(37,.bool true),(11,nB w94),(10,nI x61),(9,.slice p69 L58.length c70),(0,nP b0 0)]) (w':=w103) (by kernel_rfl) ?_
   intro a110 hF109; clear hF107
   refine wpList_nil (thenN ?_)
   refine ev_condT hF109 rfl rfl ?_
   refine wp_exit ?_
   refine thenE ?_
   refine blockX (by decide) ?_
   refine thenE ?_
   refine blockE ?_
   refine thenN (wp_seq (wp_region_lit ?_))
   refine ev_runK 2 hF109 [6] (l':=[(6,.slice p69 L58.length c70)]) (w':=w103) (by kernel_rfl) ?_
   intro a112 hF111; clear hF109
   refine wpList_nil ?_
   have hS113:=hS105.drop
   clear hS105
   refine thenN ?_
   refine wp_ret ?_
   simp only [Option.some.injEq,Prod.mk.injEq] at hm98
   obtain ⟨rfl,rfl⟩:=hm98
   refine ev_ret hF111 [6] (.slice p69 L58.length c70) rfl rfl rfl ?_
   exact ⟨_,rfl,hS113⟩
  | some q116 =>
   have hm117:=optS hm93; clear hm93
   refine ev_runs 5 hF97 (l':=[(11,nB w94),(35,.bool true),(34,.agg #[nI (q116.gor),nI (q116.chan),nI (q116.value),nI (q116.next),nI (q116.to),nI (q116.reg),nI (q116.more)]),(29,.tuple #[.agg #[nI (q116.gor),nI (q116.chan),nI (q116.value),nI (q116.next),nI (q116.to),nI (q116.reg),nI (q116.more)],.bool true]),(33,.tuple #[.agg #[nI (q116.gor),nI (q116.chan),nI (q116.value),nI (q116.next),nI (q116.to),nI (q116.reg),nI (q116.more)],.bool true]),(32,.iface 54 (.agg #[nI (q116.gor),nI (q116.chan),nI (q116.value),nI (q116.next),nI (q116.to),nI (q116.reg),nI (q116.more)])),(31,nI x61),(30,nP b0 0),(10,nI x61),(9,.slice p69 L58.length c70),(0,nP b0 0)]) (w':=w94.alloc (.cells #[nI 0,nI 0,nI 0,nI 0,nI 0,nI 0,nI 0] 54)) (by kernel_rfl) ?_
   intro a119 hF118; clear hF97
   have hS121:St w0 F0 (BlkP (w94.heap.size) 54 #[nI 0,nI 0,nI 0,nI 0,nI 0,nI 0,nI 0]::HeapP b0 ab0 s91::RowP (.slice p69 L58.length c70) L58::ps) (w94.alloc (.cells #[nI 0,nI 0,nI 0,nI 0,nI 0,nI 0,nI 0] 54)):=St.new hS96 #[nI 0,nI 0,nI 0,nI 0,nI 0,nI 0,nI 0] 54
   clear hS96
   refine ev_store (.agg #[nI (q116.gor),nI (q116.chan),nI (q116.value),nI (q116.next),nI (q116.to),nI (q116.reg),nI (q116.more)]) #[nI (q116.gor),nI (q116.chan),nI (q116.value),nI (q116.next),nI (q116.to),nI (q116.reg),nI (q116.more)] hF118 (by kernel_rfl) rfl rfl rfl rfl (by kernel_rfl) hS121 (by kernel_rfl) (by kernel_rfl) (by kernel_rfl) (l':=[(11,nB w94),(35,.bool true),(34,.agg #[nI (q116.gor),nI (q116.chan),nI (q116.value),nI (q116.next),nI (q116.to),nI (q116.reg),nI (q116.more)]),(29,.tuple #[.agg #[nI (q116.gor),nI (q116.chan),nI (q116.value),nI (q116.next),nI (q116.to),nI (q116.reg),nI (q116.more)],.bool true]),(33,.tuple #[.agg #[nI (q116.gor),nI (q116.chan),nI (q116.value),nI (q116.next),nI (q116.to),nI (q116.reg),nI (q116.more)],.bool true]),(32,.iface 54 (.agg #[nI (q116.gor),nI (q116.chan),nI (q116.value),nI (q116.next),nI (q116.to),nI (q116.reg),nI (q116.more)])),(31,nI x61),(30,nP b0 0),(10,nI x61),(9,.slice p69 L58.length c70),(0,nP b0 0)]) (by kernel_rfl) ?_
   intro w122 a123 hS124 hF125; clear hF118 hS121
   refine ev_runK 1 hF125 [0,9,10,11,12] (l':=[(12,.bool true),(11,nB w94),(10,nI x61),(9,.slice p69 L58.length c70),(0,nP b0 0)]) (w':=w122) (by kernel_rfl) ?_
   intro a127 hF126; clear hF125
   refine wpList_nil (thenN (wp_seq (wp_seq (wp_region_lit ?_))))
   refine ev_runK 2 hF126 [0,9,10,11,37] (l':=[(37,.bool false),(11,nB w94),(10,nI x61),(9,.slice p69 L58.length c70),(0,nP b0 0)]) (w':=w122) (by kernel_rfl) ?_
   intro a129 hF128; clear hF126
   refine wpList_nil (thenN ?_)
   refine ev_condF hF128 rfl rfl ?_
   refine wp_skip ?_
   have hF130:=hF128.keep [0,9,10,11]
   clear hF128
   refine thenN (wp_seq (wp_region_lit ?_))
   refine ev_runs 3 hF130 (l':=[(40,.slice (some ⟨w122.heap.size,0,none⟩) 1 1),(39,nI x61),(38,.slice p69 L58.length c70),(11,nB w94),(10,nI x61),(9,.slice p69 L58.length c70),(0,nP b0 0)]) (w':=w122.alloc (.cells #[nI x61] 3)) (by kernel_rfl) ?_
   intro a132 hF131; clear hF130
   have hS133:=hS124.pick2
   clear hS124
   obtain ⟨L134,hx135,hm136⟩:=bind1E hm117; clear hm117
   refine ev_push 41 (.tmp 38) (.tmp 40) hF131 rfl rfl rfl rfl rfl rfl rfl rfl hS133 hx135 ?_
   intro g137 c138 w139 a140 hS141 hF142; clear hF131 hS133
   refine ev_runK 1 hF142 [0,9,11] (l':=[(9,nS g137 L134 c138),(11,nB w94),(0,nP b0 0)]) (w':=w139) (by kernel_rfl) ?_
   intro a144 hF143; clear hF142
   refine wpList_nil (thenN (wp_region_lit ?_))
   refine ev_runs 1 hF143 (l':=[(42,nP (w94.heap.size) 3),(9,nS g137 L134 c138),(11,nB w94),(0,nP b0 0)]) (w':=w139) (by kernel_rfl) ?_
   intro a146 hF145; clear hF143
   refine ev_one (nI (q116.next)) w139 hF145 (by kernel_rfl) rfl (by kernel_rfl) (run_loadV rfl rfl (run_loadS rfl rfl (hS141.cell 1 rfl 3 rfl))) (l':=[(43,nI (q116.next)),(42,nP (w94.heap.size) 3),(9,nS g137 L134 c138),(11,nB w94),(0,nP b0 0)]) (by kernel_rfl) ?_
   intro a148 hF147; clear hF145
   refine ev_runK 1 hF147 [0,9,10] (l':=[(10,nI (q116.next)),(9,nS g137 L134 c138),(0,nP b0 0)]) (w':=w139) (by kernel_rfl) ?_
   intro a150 hF149; clear hF147
   refine wpList_nil ?_
   have hS151:=hS141.pick1.drop
   clear hS141
   refine blockN ?_
   exact thenN ⟨k62,Nat.lt_succ_self _,nS g137 L134 c138,L134,s91,q116.next,hF149,hS151,hm136⟩
 rw [hc84] at hF82
 have hm152:=ifNot hc84 hm77; clear hm77
 refine ev_condF hF82 rfl rfl ?_
 refine wp_exit ?_
 refine thenE ?_
 refine thenE ?_
 refine blockE ?_
 refine thenN (wp_seq (wp_region_lit ?_))
 refine ev_runK 2 hF82 [6] (l':=[(6,.slice p69 L58.length c70)]) (w':=w78) (by kernel_rfl) ?_
 intro a154 hF153; clear hF82
 refine wpList_nil (thenN ?_)
 refine wp_ret ?_
 have hS155:=hS80.pick1
 clear hS80
 simp only [Option.some.injEq,Prod.mk.injEq] at hm152
 obtain ⟨rfl,rfl⟩:=hm152
 refine ev_ret hF153 [6] (.slice p69 L58.length c70) rfl rfl rfl ?_
 exact ⟨_,rfl,hS155⟩
def list_Push.j1 (i1:Int) (i2:Bool) (i3:Int) (k:Nat) (q5:Ch) (s99:HSt) (x100:Int):Option (Int×HSt):=bind1 (list_follow.m k s99 i3 (-1)) fun s118=>bind1 (list_into.m k (⟨q5.cap,q5.closed,q5.count,q5.start,q5.buf,q5.th,q5.tt,q5.sh,q5.st⟩:Ch) (i2) (⟨x100,i3⟩:En)) fun q134=>bind2 (pPutChan i1 (⟨q134.cap,q134.closed,q134.count,q134.start,q134.buf,q134.th,q134.tt,q134.sh,q134.st⟩:Ch) s118) fun x141 s142=>some (x141,s142)
def list_Push.m (k:Nat) (s0:HSt) (i1:Int) (i2:Bool) (i3:Int):Option (Int×HSt):=bind2 (pChan i1 s0) fun q5 x6=>(if (x6 != 0) then some (x6,s0) else bind2 (pSudog i3 s0) fun q37 x38=>(if (x38 != 0) then some (x38,s0) else bind1 (list_of.m k (⟨q5.cap,q5.closed,q5.count,q5.start,q5.buf,q5.th,q5.tt,q5.sh,q5.st⟩:Ch) (i2)) fun q62=>bind2 (list_All.m k s0 i1 (i2)) fun L81 s82=>(if (decide ((L81.length:Int) > 0)) then (if (inR (IntKind.i64.wrap ((L81.length:Int) - 1)) L81.length) then bind1 (list_follow.m k s82 (atI L81 (IntKind.i64.wrap ((L81.length:Int) - 1))) i3) fun s167=>list_Push.j1 i1 i2 i3 k q5 s167 q62.head else none) else list_Push.j1 i1 i2 i3 k q5 s82 i3)))
theorem list_Push.ok {w0 w:World} {F0:List Nat} {ps:List Piece} {k:Nat} {b0 ab0:Nat} {s0:HSt} {i1:Int} {i2:Bool} {i3:Int} {r0:Int} {t0:HSt} (hS:St w0 F0 (HeapP b0 ab0 s0::ps) w) (hm:list_Push.m k s0 i1 i2 i3=some (r0,t0)) :
    Calls Tryz.prog 29 #[nP b0 0,nI i1,.bool (i2),nI i3] w fun e w'=>e=.returned (.int .i64 r0)∧St w0 F0 (HeapP b0 ab0 t0::ps) w':=by
 refine ev_enterL 64 [nP b0 0,nI i1,.bool (i2),nI i3] Tryz.func29 rfl rfl (by simp) ?_
 intro a hF
 have hF0:Fr 64 a [(0,nP b0 0),(1,nI i1),(2,.bool (i2)),(3,nI i3)]:=hF; clear hF
 unfold list_Push.m at hm
 refine wp_seq (wp_region_lit ?_)
 refine ev_runK 1 hF0 [0,1,2,3] (l':=[(0,nP b0 0),(1,nI i1),(2,.bool (i2)),(3,nI i3)]) (w':=w) (by kernel_rfl) ?_
 intro a2 hF1; clear hF0
 refine wpList_nil (thenN (wp_seq (wp_region_lit ?_)))
 refine ev_runs 2 hF1 (l':=[(15,nI i1),(14,nP b0 0),(0,nP b0 0),(1,nI i1),(2,.bool (i2)),(3,nI i3)]) (w':=w) (by kernel_rfl) ?_
 intro a4 hF3; clear hF1
 refine ev_call 19 #[nP b0 0,nI i1] hF3 rfl rfl (by kernel_rfl) rfl (by kernel_rfl) (fun w=>by kernel_rfl) ?_
 obtain ⟨q5,x6,hx7,hm8⟩:=bind2E hm; clear hm
 refine (p_Chan hS hx7).mono ?_
 rintro _ w9 ⟨rfl,hS11⟩ a10 hF12; clear hF3 hS
 refine ev_runs 4 hF12 (l':=[(9,nB w9),(18,nI x6),(17,.agg #[nI (q5.cap),nI (q5.closed),nI (q5.count),nI (q5.start),nI (q5.buf),nI (q5.th),nI (q5.tt),nI (q5.sh),nI (q5.st)]),(13,.tuple #[.agg #[nI (q5.cap),nI (q5.closed),nI (q5.count),nI (q5.start),nI (q5.buf),nI (q5.th),nI (q5.tt),nI (q5.sh),nI (q5.st)],nI x6]),(16,.tuple #[.agg #[nI (q5.cap),nI (q5.closed),nI (q5.count),nI (q5.start),nI (q5.buf),nI (q5.th),nI (q5.tt),nI (q5.sh),nI (q5.st)],nI x6]),(15,nI i1),(14,nP b0 0),(0,nP b0 0),(1,nI i1),(2,.bool (i2)),(3,nI i3)]) (w':=w9.alloc (.cells #[nI 0,nI 0,nI 0,nI 0,nI 0,nI 0,nI 0,nI 0,nI 0] 37)) (by kernel_rfl) ?_
 intro a14 hF13; clear hF12
 have hS16:St w0 F0 (BlkP (w9.heap.size) 37 #[nI 0,nI 0,nI 0,nI 0,nI 0,nI 0,nI 0,nI 0,nI 0]::HeapP b0 ab0 s0::ps) (w9.alloc (.cells #[nI 0,nI 0,nI 0,nI 0,nI 0,nI 0,nI 0,nI 0,nI 0] 37)):=St.new hS11 #[nI 0,nI 0,nI 0,nI 0,nI 0,nI 0,nI 0,nI 0,nI 0] 37
 clear hS11
 refine ev_store (.agg #[nI (q5.cap),nI (q5.closed),nI (q5.count),nI (q5.start),nI (q5.buf),nI (q5.th),nI (q5.tt),nI (q5.sh),nI (q5.st)]) #[nI (q5.cap),nI (q5.closed),nI (q5.count),nI (q5.start),nI (q5.buf),nI (q5.th),nI (q5.tt),nI (q5.sh),nI (q5.st)] hF13 (by kernel_rfl) rfl rfl rfl rfl (by kernel_rfl) hS16 (by kernel_rfl) (by kernel_rfl) (by kernel_rfl) (l':=[(9,nB w9),(18,nI x6),(17,.agg #[nI (q5.cap),nI (q5.closed),nI (q5.count),nI (q5.start),nI (q5.buf),nI (q5.th),nI (q5.tt),nI (q5.sh),nI (q5.st)]),(13,.tuple #[.agg #[nI (q5.cap),nI (q5.closed),nI (q5.count),nI (q5.start),nI (q5.buf),nI (q5.th),nI (q5.tt),nI (q5.sh),nI (q5.st)],nI x6]),(16,.tuple #[.agg #[nI (q5.cap),nI (q5.closed),nI (q5.count),nI (q5.start),nI (q5.buf),nI (q5.th),nI (q5.tt),nI (q5.sh),nI (q5.st)],nI x6]),(15,nI i1),(14,nP b0 0),(0,nP b0 0),(1,nI i1),(2,.bool (i2)),(3,nI i3)]) (by kernel_rfl) ?_
 intro w17 a18 hS19 hF20; clear hF13 hS16
 refine ev_runK 1 hF20 [0,1,2,3,9,10] (l':=[(10,nI x6),(9,nB w9),(0,nP b0 0),(1,nI i1),(2,.bool (i2)),(3,nI i3)]) (w':=w17) (by kernel_rfl) ?_
 intro a22 hF21; clear hF20
 refine wpList_nil (thenN (wp_seq (wp_seq (wp_region_lit ?_))))
 refine ev_runK 2 hF21 [0,1,2,3,9,10,20] (l':=[(20,.bool (x6 != 0)),(10,nI x6),(9,nB w9),(0,nP b0 0),(1,nI i1),(2,.bool (i2)),(3,nI i3)]) (w':=w17) (by kernel_rfl) ?_
 intro a24 hF23; clear hF21
 refine wpList_nil (thenN ?_)
 cases hc25:(x6 != 0)
 case true =>
  rw [hc25] at hF23
  have hm26:=ifYes hc25 hm8; clear hm8
  refine ev_condT hF23 rfl rfl ?_
  refine wp_seq (wp_region_lit ?_)
  refine ev_runK 2 hF23 [8] (l':=[(8,nI x6)]) (w':=w17) (by kernel_rfl) ?_
  intro a28 hF27; clear hF23
  refine wpList_nil ?_
  have hS29:=hS19.drop
  clear hS19
  refine thenN ?_
  refine wp_ret ?_
  refine thenR ?_
  simp only [Option.some.injEq,Prod.mk.injEq] at hm26
  obtain ⟨rfl,rfl⟩:=hm26
  refine ev_ret hF27 [8] (nI x6) rfl rfl rfl ?_
  exact ⟨rfl,hS29⟩
 rw [hc25] at hF23
 have hm32:=ifNot hc25 hm8; clear hm8
 refine ev_condF hF23 rfl rfl ?_
 refine wp_skip ?_
 have hF33:=hF23.keep [0,1,2,3,9]
 clear hF23
 refine thenN (wp_seq (wp_seq (wp_region_lit ?_)))
 refine ev_runs 2 hF33 (l':=[(24,nI i3),(23,nP b0 0),(9,nB w9),(0,nP b0 0),(1,nI i1),(2,.bool (i2)),(3,nI i3)]) (w':=w17) (by kernel_rfl) ?_
 intro a35 hF34; clear hF33
 have hS36:=hS19.pick1
 clear hS19
 refine ev_call 30 #[nP b0 0,nI i3] hF34 rfl rfl (by kernel_rfl) rfl (by kernel_rfl) (fun w=>by kernel_rfl) ?_
 obtain ⟨q37,x38,hx39,hm40⟩:=bind2E hm32; clear hm32
 refine (p_Sudog hS36 hx39).mono ?_
 rintro _ w41 ⟨rfl,hS43⟩ a42 hF44; clear hF34 hS36
 refine ev_runK 4 hF44 [0,1,2,3,9,10] (l':=[(10,nI x38),(9,nB w9),(0,nP b0 0),(1,nI i1),(2,.bool (i2)),(3,nI i3)]) (w':=w41) (by kernel_rfl) ?_
 intro a46 hF45; clear hF44
 refine wpList_nil (thenN (wp_seq (wp_region_lit ?_)))
 refine ev_runK 2 hF45 [0,1,2,3,9,10,29] (l':=[(29,.bool (x38 != 0)),(10,nI x38),(9,nB w9),(0,nP b0 0),(1,nI i1),(2,.bool (i2)),(3,nI i3)]) (w':=w41) (by kernel_rfl) ?_
 intro a48 hF47; clear hF45
 refine wpList_nil (thenN ?_)
 cases hc49:(x38 != 0)
 case true =>
  rw [hc49] at hF47
  have hm50:=ifYes hc49 hm40; clear hm40
  refine ev_condT hF47 rfl rfl ?_
  refine wp_seq (wp_region_lit ?_)
  refine ev_runK 2 hF47 [8] (l':=[(8,nI x38)]) (w':=w41) (by kernel_rfl) ?_
  intro a52 hF51; clear hF47
  refine wpList_nil ?_
  have hS53:=hS43.pick1.drop
  clear hS43
  refine thenN ?_
  refine wp_ret ?_
  refine thenR ?_
  simp only [Option.some.injEq,Prod.mk.injEq] at hm50
  obtain ⟨rfl,rfl⟩:=hm50
  refine ev_ret hF51 [8] (nI x38) rfl rfl rfl ?_
  exact ⟨rfl,hS53⟩
 rw [hc49] at hF47
 have hm56:=ifNot hc49 hm40; clear hm40
 refine ev_condF hF47 rfl rfl ?_
 refine wp_skip ?_
 have hF57:=hF47.keep [0,1,2,3,9]
 clear hF47
 refine thenN (wp_seq (wp_region_lit ?_))
 refine ev_one (.agg #[nI (q5.cap),nI (q5.closed),nI (q5.count),nI (q5.start),nI (q5.buf),nI (q5.th),nI (q5.tt),nI (q5.sh),nI (q5.st)]) w41 hF57 (by kernel_rfl) rfl (by kernel_rfl) (run_loadV rfl rfl (run_loadA (cs:=[nI (q5.cap),nI (q5.closed),nI (q5.count),nI (q5.start),nI (q5.buf),nI (q5.th),nI (q5.tt),nI (q5.sh),nI (q5.st)]) rfl rfl (by kernel_rfl) (blk_cells hS43 1 rfl rfl))) (l':=[(31,.agg #[nI (q5.cap),nI (q5.closed),nI (q5.count),nI (q5.start),nI (q5.buf),nI (q5.th),nI (q5.tt),nI (q5.sh),nI (q5.st)]),(9,nB w9),(0,nP b0 0),(1,nI i1),(2,.bool (i2)),(3,nI i3)]) (by kernel_rfl) ?_
 intro a59 hF58; clear hF57
 refine ev_runs 1 hF58 (l':=[(32,.bool (i2)),(31,.agg #[nI (q5.cap),nI (q5.closed),nI (q5.count),nI (q5.start),nI (q5.buf),nI (q5.th),nI (q5.tt),nI (q5.sh),nI (q5.st)]),(9,nB w9),(0,nP b0 0),(1,nI i1),(2,.bool (i2)),(3,nI i3)]) (w':=w41) (by kernel_rfl) ?_
 intro a61 hF60; clear hF58
 refine ev_call 78 #[.agg #[nI (q5.cap),nI (q5.closed),nI (q5.count),nI (q5.start),nI (q5.buf),nI (q5.th),nI (q5.tt),nI (q5.sh),nI (q5.st)],.bool (i2)] hF60 rfl rfl (by kernel_rfl) rfl (by kernel_rfl) (fun w=>by kernel_rfl) ?_
 obtain ⟨q62,hx63,hm64⟩:=bind1E hm56; clear hm56
 refine (list_of.ok hS43 hx63).mono ?_
 rintro _ w65 ⟨rfl,hS67⟩ a66 hF68; clear hF60 hS43
 refine ev_runs 1 hF68 (l':=[(11,nB w65),(33,.agg #[nI (q62.head),nI (q62.tail)]),(32,.bool (i2)),(31,.agg #[nI (q5.cap),nI (q5.closed),nI (q5.count),nI (q5.start),nI (q5.buf),nI (q5.th),nI (q5.tt),nI (q5.sh),nI (q5.st)]),(9,nB w9),(0,nP b0 0),(1,nI i1),(2,.bool (i2)),(3,nI i3)]) (w':=w65.alloc (.cells #[nI 0,nI 0] 122)) (by kernel_rfl) ?_
 intro a70 hF69; clear hF68
 have hS72:St w0 F0 (BlkP (w65.heap.size) 122 #[nI 0,nI 0]::HeapP b0 ab0 s0::BlkP (w9.heap.size) 37 #[nI (q5.cap),nI (q5.closed),nI (q5.count),nI (q5.start),nI (q5.buf),nI (q5.th),nI (q5.tt),nI (q5.sh),nI (q5.st)]::ps) (w65.alloc (.cells #[nI 0,nI 0] 122)):=St.new hS67 #[nI 0,nI 0] 122
 clear hS67
 refine ev_store (.agg #[nI (q62.head),nI (q62.tail)]) #[nI (q62.head),nI (q62.tail)] hF69 (by kernel_rfl) rfl rfl rfl rfl (by kernel_rfl) hS72 (by kernel_rfl) (by kernel_rfl) (by kernel_rfl) (l':=[(11,nB w65),(33,.agg #[nI (q62.head),nI (q62.tail)]),(32,.bool (i2)),(31,.agg #[nI (q5.cap),nI (q5.closed),nI (q5.count),nI (q5.start),nI (q5.buf),nI (q5.th),nI (q5.tt),nI (q5.sh),nI (q5.st)]),(9,nB w9),(0,nP b0 0),(1,nI i1),(2,.bool (i2)),(3,nI i3)]) (by kernel_rfl) ?_
 intro w73 a74 hS75 hF76; clear hF69 hS72
 refine wpList_nil ?_
 have hF77:=hF76.keep [0,1,2,3,9,11]
 clear hF76
 refine thenN (wp_seq (wp_seq (wp_region_lit ?_)))
 refine ev_runs 3 hF77 (l':=[(36,.bool (i2)),(35,nI i1),(34,nP b0 0),(11,nB w65),(9,nB w9),(0,nP b0 0),(1,nI i1),(2,.bool (i2)),(3,nI i3)]) (w':=w73) (by kernel_rfl) ?_
 intro a79 hF78; clear hF77
 have hS80:=hS75.pick1
 clear hS75
 refine ev_call 34 #[nP b0 0,nI i1,.bool (i2)] hF78 rfl rfl (by kernel_rfl) rfl (by kernel_rfl) (fun w=>by kernel_rfl) ?_
 obtain ⟨L81,s82,hx83,hm84⟩:=bind2E hm64; clear hm64
 refine (list_All.ok hS80 hx83).mono ?_
 rintro _ w85 ⟨z89,rfl,hS87⟩ a86 hF88; clear hF78 hS80
 obtain ⟨hl94,p91,c92,rfl,hp93⟩:=St.shape hS87 1 rfl
 refine ev_runK 1 hF88 [0,1,2,3,9,11,12] (l':=[(12,.slice p91 L81.length c92),(11,nB w65),(9,nB w9),(0,nP b0 0),(1,nI i1),(2,.bool (i2)),(3,nI i3)]) (w':=w85) (by kernel_rfl) ?_
 intro a96 hF95; clear hF88
 refine wpList_nil (thenN (wp_seq (wp_region_lit ?_)))
 refine ev_runK 3 hF95 [0,1,2,3,9,11,12,40] (l':=[(40,.bool (decide ((L81.length:Int) > 0))),(12,.slice p91 L81.length c92),(11,nB w65),(9,nB w9),(0,nP b0 0),(1,nI i1),(2,.bool (i2)),(3,nI i3)]) (w':=w85) (by kernel_rfl) ?_
 intro a98 hF97; clear hF95
 refine wpList_nil (thenN ?_)
 refine joinQ (fun aI wI=>∃ (s99:HSt) (x100:Int),Fr 64 aI [(11,nB w65),(9,nB w9),(0,nP b0 0),(1,nI i1),(2,.bool (i2)),(3,nI i3)]∧St w0 F0 (BlkP (w65.heap.size) 122 #[nI x100,nI (q62.tail)]::HeapP b0 ab0 s99::BlkP (w9.heap.size) 37 #[nI (q5.cap),nI (q5.closed),nI (q5.count),nI (q5.start),nI (q5.buf),nI (q5.th),nI (q5.tt),nI (q5.sh),nI (q5.st)]::ps) wI∧list_Push.j1 i1 i2 i3 k q5 s99 x100=some (r0,t0)) ?_ ?_
 rotate_left
 · rintro a102 w103 ⟨s99,x100,hF104,hS105,hm106⟩
   clear hF97 hS87 hm84
   unfold list_Push.j1 at hm106
   refine thenN (wp_seq (wp_region_lit ?_))
   refine ev_runs 2 hF104 (l':=[(53,nP (w65.heap.size) 1),(52,nI i3),(11,nB w65),(9,nB w9),(0,nP b0 0),(1,nI i1),(2,.bool (i2)),(3,nI i3)]) (w':=w103) (by kernel_rfl) ?_
   intro a109 hF108; clear hF104
   refine ev_store (nI i3) #[nI x100,nI i3] hF108 (by kernel_rfl) rfl rfl rfl rfl (by kernel_rfl) hS105 (by kernel_rfl) (by kernel_rfl) (by kernel_rfl) (l':=[(53,nP (w65.heap.size) 1),(52,nI i3),(11,nB w65),(9,nB w9),(0,nP b0 0),(1,nI i1),(2,.bool (i2)),(3,nI i3)]) (by kernel_rfl) ?_
   intro w110 a111 hS112 hF113; clear hF108 hS105
   refine wpList_nil ?_
   have hF114:=hF113.keep [0,1,2,3,9,11]
   clear hF113
   refine thenN (wp_seq (wp_region_lit ?_))
   refine ev_runs 2 hF114 (l':=[(55,nI i3),(54,nP b0 0),(11,nB w65),(9,nB w9),(0,nP b0 0),(1,nI i1),(2,.bool (i2)),(3,nI i3)]) (w':=w110) (by kernel_rfl) ?_
   intro a116 hF115; clear hF114
   have hS117:=hS112.pick1
   clear hS112
   refine ev_call 79 #[nP b0 0,nI i3,nI (-1)] hF115 rfl rfl (by kernel_rfl) rfl (by kernel_rfl) (fun w=>by kernel_rfl) ?_
   obtain ⟨s118,hx119,hm120⟩:=bind1E hm106; clear hm106
   refine (list_follow.ok hS117 hx119).mono ?_
   rintro _ w121 ⟨rfl,hS123⟩ a122 hF124; clear hF115 hS117
   refine wpList_nil ?_
   have hF125:=hF124.keep [0,1,2,9,11]
   clear hF124
   refine thenN (wp_seq (wp_region_lit ?_))
   refine ev_runs 2 hF125 (l':=[(58,nI i1),(57,nP b0 0),(11,nB w65),(9,nB w9),(0,nP b0 0),(1,nI i1),(2,.bool (i2))]) (w':=w121) (by kernel_rfl) ?_
   intro a127 hF126; clear hF125
   refine ev_one (.agg #[nI (q5.cap),nI (q5.closed),nI (q5.count),nI (q5.start),nI (q5.buf),nI (q5.th),nI (q5.tt),nI (q5.sh),nI (q5.st)]) w121 hF126 (by kernel_rfl) rfl (by kernel_rfl) (run_loadV rfl rfl (run_loadA (cs:=[nI (q5.cap),nI (q5.closed),nI (q5.count),nI (q5.start),nI (q5.buf),nI (q5.th),nI (q5.tt),nI (q5.sh),nI (q5.st)]) rfl rfl (by kernel_rfl) (blk_cells hS123 2 rfl rfl))) (l':=[(59,.agg #[nI (q5.cap),nI (q5.closed),nI (q5.count),nI (q5.start),nI (q5.buf),nI (q5.th),nI (q5.tt),nI (q5.sh),nI (q5.st)]),(58,nI i1),(57,nP b0 0),(11,nB w65),(9,nB w9),(0,nP b0 0),(1,nI i1),(2,.bool (i2))]) (by kernel_rfl) ?_
   intro a129 hF128; clear hF126
   refine ev_runs 1 hF128 (l':=[(60,.bool (i2)),(59,.agg #[nI (q5.cap),nI (q5.closed),nI (q5.count),nI (q5.start),nI (q5.buf),nI (q5.th),nI (q5.tt),nI (q5.sh),nI (q5.st)]),(58,nI i1),(57,nP b0 0),(11,nB w65),(9,nB w9),(0,nP b0 0),(1,nI i1),(2,.bool (i2))]) (w':=w121) (by kernel_rfl) ?_
   intro a131 hF130; clear hF128
   refine ev_one (.agg #[nI x100,nI i3]) w121 hF130 (by kernel_rfl) rfl (by kernel_rfl) (run_loadV rfl rfl (run_loadA (cs:=[nI x100,nI i3]) rfl rfl (by kernel_rfl) (blk_cells hS123 1 rfl rfl))) (l':=[(61,.agg #[nI x100,nI i3]),(60,.bool (i2)),(59,.agg #[nI (q5.cap),nI (q5.closed),nI (q5.count),nI (q5.start),nI (q5.buf),nI (q5.th),nI (q5.tt),nI (q5.sh),nI (q5.st)]),(58,nI i1),(57,nP b0 0),(11,nB w65),(9,nB w9),(0,nP b0 0),(1,nI i1),(2,.bool (i2))]) (by kernel_rfl) ?_
   intro a133 hF132; clear hF130
   refine ev_call 80 #[.agg #[nI (q5.cap),nI (q5.closed),nI (q5.count),nI (q5.start),nI (q5.buf),nI (q5.th),nI (q5.tt),nI (q5.sh),nI (q5.st)],.bool (i2),.agg #[nI x100,nI i3]] hF132 rfl rfl (by kernel_rfl) rfl (by kernel_rfl) (fun w=>by kernel_rfl) ?_
   obtain ⟨q134,hx135,hm136⟩:=bind1E hm120; clear hm120
   refine (list_into.ok hS123 hx135).mono ?_
   rintro _ w137 ⟨rfl,hS139⟩ a138 hF140; clear hF132 hS123
   refine ev_call 23 #[nP b0 0,nI i1,.agg #[nI (q134.cap),nI (q134.closed),nI (q134.count),nI (q134.start),nI (q134.buf),nI (q134.th),nI (q134.tt),nI (q134.sh),nI (q134.st)]] hF140 rfl rfl (by kernel_rfl) rfl (by kernel_rfl) (fun w=>by kernel_rfl) ?_
   obtain ⟨x141,s142,hx143,hm144⟩:=bind2E hm136; clear hm136
   refine (p_PutChan hS139 hx143).mono ?_
   rintro _ w145 ⟨rfl,hS147⟩ a146 hF148; clear hF140 hS139
   refine ev_runK 1 hF148 [8] (l':=[(8,nI x141)]) (w':=w145) (by kernel_rfl) ?_
   intro a150 hF149; clear hF148
   refine wpList_nil ?_
   have hS151:=hS147.pick1.drop.pick1.drop
   clear hS147
   refine thenN ?_
   refine wp_ret ?_
   simp only [Option.some.injEq,Prod.mk.injEq] at hm144
   obtain ⟨rfl,rfl⟩:=hm144
   refine ev_ret hF149 [8] (nI x141) rfl rfl rfl ?_
   exact ⟨rfl,hS151⟩
 · skip
   cases hc154:(decide ((L81.length:Int) > 0))
   case true =>
    rw [hc154] at hF97
    have hm155:=ifYes hc154 hm84; clear hm84
    refine ev_condT hF97 rfl rfl ?_
    refine wp_region_lit ?_
    refine ev_runs 5 hF97 (l':=[(45,nI (IntKind.i64.wrap ((L81.length:Int) - 1))),(44,nI ((L81.length:Int))),(43,.slice p91 L81.length c92),(42,.slice p91 L81.length c92),(41,nP b0 0),(40,.bool true),(12,.slice p91 L81.length c92),(11,nB w65),(9,nB w9),(0,nP b0 0),(1,nI i1),(2,.bool (i2)),(3,nI i3)]) (w':=w85) (by kernel_rfl) ?_
    intro a157 hF156; clear hF97
    obtain ⟨hc158,hm159⟩:=ifTE hm155; clear hm155
    obtain ⟨g160,rfl⟩:=hp93.resolve_left (by have:=inR_spec hc158; omega)
    refine ev_one (nP g160 ((IntKind.i64.wrap ((L81.length:Int) - 1)).toNat)) w85 hF156 (by kernel_rfl) rfl (by kernel_rfl) (run_idx rfl rfl rfl rfl rfl (inR_spec hc158).1 (inR_spec hc158).2 _) (l':=[(46,nP g160 ((IntKind.i64.wrap ((L81.length:Int) - 1)).toNat)),(45,nI (IntKind.i64.wrap ((L81.length:Int) - 1))),(44,nI ((L81.length:Int))),(43,nS g160 L81 c92),(42,nS g160 L81 c92),(41,nP b0 0),(40,.bool true),(12,nS g160 L81 c92),(11,nB w65),(9,nB w9),(0,nP b0 0),(1,nI i1),(2,.bool (i2)),(3,nI i3)]) (by kernel_rfl) ?_
    intro a162 hF161; clear hF156
    refine ev_one (nI (atI L81 (IntKind.i64.wrap ((L81.length:Int) - 1)))) w85 hF161 (by kernel_rfl) rfl (by kernel_rfl) (run_load1 rfl rfl rfl (hS87.atI 1 rfl hc158)) (l':=[(47,nI (atI L81 (IntKind.i64.wrap ((L81.length:Int) - 1)))),(46,nP g160 ((IntKind.i64.wrap ((L81.length:Int) - 1)).toNat)),(45,nI (IntKind.i64.wrap ((L81.length:Int) - 1))),(44,nI ((L81.length:Int))),(43,nS g160 L81 c92),(42,nS g160 L81 c92),(41,nP b0 0),(40,.bool true),(12,nS g160 L81 c92),(11,nB w65),(9,nB w9),(0,nP b0 0),(1,nI i1),(2,.bool (i2)),(3,nI i3)]) (by kernel_rfl) ?_
    intro a164 hF163; clear hF161
    refine ev_runs 1 hF163 (l':=[(48,nI i3),(47,nI (atI L81 (IntKind.i64.wrap ((L81.length:Int) - 1)))),(46,nP g160 ((IntKind.i64.wrap ((L81.length:Int) - 1)).toNat)),(45,nI (IntKind.i64.wrap ((L81.length:Int) - 1))),(44,nI ((L81.length:Int))),(43,nS g160 L81 c92),(42,nS g160 L81 c92),(41,nP b0 0),(40,.bool true),(12,nS g160 L81 c92),(11,nB w65),(9,nB w9),(0,nP b0 0),(1,nI i1),(2,.bool (i2)),(3,nI i3)]) (w':=w85) (by kernel_rfl) ?_
    intro a166 hF165; clear hF163
    refine ev_call 79 #[nP b0 0,nI (atI L81 (IntKind.i64.wrap ((L81.length:Int) - 1))),nI i3] hF165 rfl rfl (by kernel_rfl) rfl (by kernel_rfl) (fun w=>by kernel_rfl) ?_
    obtain ⟨s167,hx168,hm169⟩:=bind1E hm159; clear hm159
    refine (list_follow.ok hS87 hx168).mono ?_
    rintro _ w170 ⟨rfl,hS172⟩ a171 hF173; clear hF165 hS87
    refine wpList_nil ?_
    have hF174:=hF173.keep [0,1,2,3,9,11]
    clear hF173
    have hS175:=hS172.pick1.drop
    clear hS172
    have hS176:=hS175.pick2.pick1.pick2
    clear hS175
    exact thenN ⟨s167,q62.head,hF174,hS176,hm169⟩
   rw [hc154] at hF97
   have hm177:=ifNot hc154 hm84; clear hm84
   refine ev_condF hF97 rfl rfl ?_
   refine wp_region_lit ?_
   refine ev_runs 2 hF97 (l':=[(51,nB w65),(50,nI i3),(40,.bool false),(12,.slice p91 L81.length c92),(11,nB w65),(9,nB w9),(0,nP b0 0),(1,nI i1),(2,.bool (i2)),(3,nI i3)]) (w':=w85) (by kernel_rfl) ?_
   intro a179 hF178; clear hF97
   have hS180:=hS87.pick2
   clear hS87
   refine ev_store (nI i3) #[nI i3,nI (q62.tail)] hF178 (by kernel_rfl) rfl rfl rfl rfl (by kernel_rfl) hS180 (by kernel_rfl) (by kernel_rfl) (by kernel_rfl) (l':=[(51,nB w65),(50,nI i3),(40,.bool false),(12,.slice p91 L81.length c92),(11,nB w65),(9,nB w9),(0,nP b0 0),(1,nI i1),(2,.bool (i2)),(3,nI i3)]) (by kernel_rfl) ?_
   intro w181 a182 hS183 hF184; clear hF178 hS180
   refine wpList_nil ?_
   have hF185:=hF184.keep [0,1,2,3,9,11]
   clear hF184
   have hS186:=hS183.pick2.drop
   clear hS183
   exact thenN ⟨s82,i3,hF185,hS186,hm177⟩
def list_Pop.j1 (i1:Int) (i2:Bool) (k:Nat) (q5:Ch) (q39:En) (s65:HSt) (q91:Su) (x125:Int):Option (Int×Bool×HSt):=bind1 (list_into.m k (⟨q5.cap,q5.closed,q5.count,q5.start,q5.buf,q5.th,q5.tt,q5.sh,q5.st⟩:Ch) (i2) (⟨q91.next,x125⟩:En)) fun q141=>bind2 (pPutChan i1 (⟨q141.cap,q141.closed,q141.count,q141.start,q141.buf,q141.th,q141.tt,q141.sh,q141.st⟩:Ch) s65) fun x149 s150=>bind1 (list_follow.m k s150 q39.head (-1)) fun s161=>some (q39.head,true,s161)
def list_Pop.m (k:Nat) (s0:HSt) (i1:Int) (i2:Bool):Option (Int×Bool×HSt):=bind2 (pChan i1 s0) fun q5 x6=>(if (x6 != 0) then some (0,false,s0) else bind1 (list_of.m k (⟨q5.cap,q5.closed,q5.count,q5.start,q5.buf,q5.th,q5.tt,q5.sh,q5.st⟩:Ch) (i2)) fun q39=>bind2 (list_look.m k s0 q39.head) fun o64 s65=>optE o64 (some (0,false,s65)) fun q91=>(if (q91.next == (-1)) then list_Pop.j1 i1 i2 k q5 q39 s65 q91 (-1) else list_Pop.j1 i1 i2 k q5 q39 s65 q91 q39.tail))
theorem list_Pop.ok {w0 w:World} {F0:List Nat} {ps:List Piece} {k:Nat} {b0 ab0:Nat} {s0:HSt} {i1:Int} {i2:Bool} {r0:Int} {r1:Bool} {t0:HSt} (hS:St w0 F0 (HeapP b0 ab0 s0::ps) w) (hm:list_Pop.m k s0 i1 i2=some (r0,r1,t0)) :
    Calls Tryz.prog 32 #[nP b0 0,nI i1,.bool (i2)] w fun e w'=>e=.returned (.tuple #[.int .i64 r0,.bool r1])∧St w0 F0 (HeapP b0 ab0 t0::ps) w':=by
 refine ev_enterL 54 [nP b0 0,nI i1,.bool (i2)] Tryz.func32 rfl rfl (by simp) ?_
 intro a hF
 have hF0:Fr 54 a [(0,nP b0 0),(1,nI i1),(2,.bool (i2))]:=hF; clear hF
 unfold list_Pop.m at hm
 refine wp_seq (wp_region_lit ?_)
 refine ev_runK 2 hF0 [0,1,2] (l':=[(0,nP b0 0),(1,nI i1),(2,.bool (i2))]) (w':=w) (by kernel_rfl) ?_
 intro a2 hF1; clear hF0
 refine wpList_nil (thenN (wp_seq (wp_region_lit ?_)))
 refine ev_runs 2 hF1 (l':=[(16,nI i1),(15,nP b0 0),(0,nP b0 0),(1,nI i1),(2,.bool (i2))]) (w':=w) (by kernel_rfl) ?_
 intro a4 hF3; clear hF1
 refine ev_call 19 #[nP b0 0,nI i1] hF3 rfl rfl (by kernel_rfl) rfl (by kernel_rfl) (fun w=>by kernel_rfl) ?_
 obtain ⟨q5,x6,hx7,hm8⟩:=bind2E hm; clear hm
 refine (p_Chan hS hx7).mono ?_
 rintro _ w9 ⟨rfl,hS11⟩ a10 hF12; clear hF3 hS
 refine ev_runs 4 hF12 (l':=[(8,nB w9),(19,nI x6),(18,.agg #[nI (q5.cap),nI (q5.closed),nI (q5.count),nI (q5.start),nI (q5.buf),nI (q5.th),nI (q5.tt),nI (q5.sh),nI (q5.st)]),(14,.tuple #[.agg #[nI (q5.cap),nI (q5.closed),nI (q5.count),nI (q5.start),nI (q5.buf),nI (q5.th),nI (q5.tt),nI (q5.sh),nI (q5.st)],nI x6]),(17,.tuple #[.agg #[nI (q5.cap),nI (q5.closed),nI (q5.count),nI (q5.start),nI (q5.buf),nI (q5.th),nI (q5.tt),nI (q5.sh),nI (q5.st)],nI x6]),(16,nI i1),(15,nP b0 0),(0,nP b0 0),(1,nI i1),(2,.bool (i2))]) (w':=w9.alloc (.cells #[nI 0,nI 0,nI 0,nI 0,nI 0,nI 0,nI 0,nI 0,nI 0] 37)) (by kernel_rfl) ?_
 intro a14 hF13; clear hF12
 have hS16:St w0 F0 (BlkP (w9.heap.size) 37 #[nI 0,nI 0,nI 0,nI 0,nI 0,nI 0,nI 0,nI 0,nI 0]::HeapP b0 ab0 s0::ps) (w9.alloc (.cells #[nI 0,nI 0,nI 0,nI 0,nI 0,nI 0,nI 0,nI 0,nI 0] 37)):=St.new hS11 #[nI 0,nI 0,nI 0,nI 0,nI 0,nI 0,nI 0,nI 0,nI 0] 37
 clear hS11
 refine ev_store (.agg #[nI (q5.cap),nI (q5.closed),nI (q5.count),nI (q5.start),nI (q5.buf),nI (q5.th),nI (q5.tt),nI (q5.sh),nI (q5.st)]) #[nI (q5.cap),nI (q5.closed),nI (q5.count),nI (q5.start),nI (q5.buf),nI (q5.th),nI (q5.tt),nI (q5.sh),nI (q5.st)] hF13 (by kernel_rfl) rfl rfl rfl rfl (by kernel_rfl) hS16 (by kernel_rfl) (by kernel_rfl) (by kernel_rfl) (l':=[(8,nB w9),(19,nI x6),(18,.agg #[nI (q5.cap),nI (q5.closed),nI (q5.count),nI (q5.start),nI (q5.buf),nI (q5.th),nI (q5.tt),nI (q5.sh),nI (q5.st)]),(14,.tuple #[.agg #[nI (q5.cap),nI (q5.closed),nI (q5.count),nI (q5.start),nI (q5.buf),nI (q5.th),nI (q5.tt),nI (q5.sh),nI (q5.st)],nI x6]),(17,.tuple #[.agg #[nI (q5.cap),nI (q5.closed),nI (q5.count),nI (q5.start),nI (q5.buf),nI (q5.th),nI (q5.tt),nI (q5.sh),nI (q5.st)],nI x6]),(16,nI i1),(15,nP b0 0),(0,nP b0 0),(1,nI i1),(2,.bool (i2))]) (by kernel_rfl) ?_
 intro w17 a18 hS19 hF20; clear hF13 hS16
 refine ev_runK 1 hF20 [0,1,2,8,9] (l':=[(9,nI x6),(8,nB w9),(0,nP b0 0),(1,nI i1),(2,.bool (i2))]) (w':=w17) (by kernel_rfl) ?_
 intro a22 hF21; clear hF20
 refine wpList_nil (thenN (wp_seq (wp_seq (wp_region_lit ?_))))
 refine ev_runK 2 hF21 [0,1,2,8,21] (l':=[(21,.bool (x6 != 0)),(8,nB w9),(0,nP b0 0),(1,nI i1),(2,.bool (i2))]) (w':=w17) (by kernel_rfl) ?_
 intro a24 hF23; clear hF21
 refine wpList_nil (thenN ?_)
 cases hc25:(x6 != 0)
 case true =>
  rw [hc25] at hF23
  have hm26:=ifYes hc25 hm8; clear hm8
  refine ev_condT hF23 rfl rfl ?_
  refine wp_seq (wp_region_lit ?_)
  refine ev_runK 2 hF23 [6,7] (l':=[(7,.bool false),(6,nI 0)]) (w':=w17) (by kernel_rfl) ?_
  intro a28 hF27; clear hF23
  refine wpList_nil ?_
  have hS29:=hS19.drop
  clear hS19
  refine thenN ?_
  refine wp_ret ?_
  refine thenR ?_
  simp only [Option.some.injEq,Prod.mk.injEq] at hm26
  obtain ⟨rfl,rfl,rfl⟩:=hm26
  refine ev_ret hF27 [6,7] (.tuple #[nI 0,.bool false]) rfl rfl rfl ?_
  exact ⟨rfl,hS29⟩
 rw [hc25] at hF23
 have hm33:=ifNot hc25 hm8; clear hm8
 refine ev_condF hF23 rfl rfl ?_
 refine wp_skip ?_
 have hF34:=hF23.keep [0,1,2,8]
 clear hF23
 refine thenN (wp_seq (wp_region_lit ?_))
 refine ev_one (.agg #[nI (q5.cap),nI (q5.closed),nI (q5.count),nI (q5.start),nI (q5.buf),nI (q5.th),nI (q5.tt),nI (q5.sh),nI (q5.st)]) w17 hF34 (by kernel_rfl) rfl (by kernel_rfl) (run_loadV rfl rfl (run_loadA (cs:=[nI (q5.cap),nI (q5.closed),nI (q5.count),nI (q5.start),nI (q5.buf),nI (q5.th),nI (q5.tt),nI (q5.sh),nI (q5.st)]) rfl rfl (by kernel_rfl) (blk_cells hS19 0 rfl rfl))) (l':=[(22,.agg #[nI (q5.cap),nI (q5.closed),nI (q5.count),nI (q5.start),nI (q5.buf),nI (q5.th),nI (q5.tt),nI (q5.sh),nI (q5.st)]),(8,nB w9),(0,nP b0 0),(1,nI i1),(2,.bool (i2))]) (by kernel_rfl) ?_
 intro a36 hF35; clear hF34
 refine ev_runs 1 hF35 (l':=[(23,.bool (i2)),(22,.agg #[nI (q5.cap),nI (q5.closed),nI (q5.count),nI (q5.start),nI (q5.buf),nI (q5.th),nI (q5.tt),nI (q5.sh),nI (q5.st)]),(8,nB w9),(0,nP b0 0),(1,nI i1),(2,.bool (i2))]) (w':=w17) (by kernel_rfl) ?_
 intro a38 hF37; clear hF35
 refine ev_call 78 #[.agg #[nI (q5.cap),nI (q5.closed),nI (q5.count),nI (q5.start),nI (q5.buf),nI (q5.th),nI (q5.tt),nI (q5.sh),nI (q5.st)],.bool (i2)] hF37 rfl rfl (by kernel_rfl) rfl (by kernel_rfl) (fun w=>by kernel_rfl) ?_
 obtain ⟨q39,hx40,hm41⟩:=bind1E hm33; clear hm33
 refine (list_of.ok hS19 hx40).mono ?_
 rintro _ w42 ⟨rfl,hS44⟩ a43 hF45; clear hF37 hS19
 refine ev_runs 1 hF45 (l':=[(10,nB w42),(24,.agg #[nI (q39.head),nI (q39.tail)]),(23,.bool (i2)),(22,.agg #[nI (q5.cap),nI (q5.closed),nI (q5.count),nI (q5.start),nI (q5.buf),nI (q5.th),nI (q5.tt),nI (q5.sh),nI (q5.st)]),(8,nB w9),(0,nP b0 0),(1,nI i1),(2,.bool (i2))]) (w':=w42.alloc (.cells #[nI 0,nI 0] 122)) (by kernel_rfl) ?_
 intro a47 hF46; clear hF45
 have hS49:St w0 F0 (BlkP (w42.heap.size) 122 #[nI 0,nI 0]::BlkP (w9.heap.size) 37 #[nI (q5.cap),nI (q5.closed),nI (q5.count),nI (q5.start),nI (q5.buf),nI (q5.th),nI (q5.tt),nI (q5.sh),nI (q5.st)]::HeapP b0 ab0 s0::ps) (w42.alloc (.cells #[nI 0,nI 0] 122)):=St.new hS44 #[nI 0,nI 0] 122
 clear hS44
 refine ev_store (.agg #[nI (q39.head),nI (q39.tail)]) #[nI (q39.head),nI (q39.tail)] hF46 (by kernel_rfl) rfl rfl rfl rfl (by kernel_rfl) hS49 (by kernel_rfl) (by kernel_rfl) (by kernel_rfl) (l':=[(10,nB w42),(24,.agg #[nI (q39.head),nI (q39.tail)]),(23,.bool (i2)),(22,.agg #[nI (q5.cap),nI (q5.closed),nI (q5.count),nI (q5.start),nI (q5.buf),nI (q5.th),nI (q5.tt),nI (q5.sh),nI (q5.st)]),(8,nB w9),(0,nP b0 0),(1,nI i1),(2,.bool (i2))]) (by kernel_rfl) ?_
 intro w50 a51 hS52 hF53; clear hF46 hS49
 refine wpList_nil ?_
 have hF54:=hF53.keep [0,1,2,8,10]
 clear hF53
 refine thenN (wp_seq (wp_region_lit ?_))
 refine ev_runs 1 hF54 (l':=[(25,nB w42),(10,nB w42),(8,nB w9),(0,nP b0 0),(1,nI i1),(2,.bool (i2))]) (w':=w50) (by kernel_rfl) ?_
 intro a56 hF55; clear hF54
 refine ev_one (nI (q39.head)) w50 hF55 (by kernel_rfl) rfl (by kernel_rfl) (run_loadV rfl rfl (run_loadS rfl rfl (hS52.cell 0 rfl 0 rfl))) (l':=[(26,nI (q39.head)),(25,nB w42),(10,nB w42),(8,nB w9),(0,nP b0 0),(1,nI i1),(2,.bool (i2))]) (by kernel_rfl) ?_
 intro a58 hF57; clear hF55
 refine ev_runK 1 hF57 [0,1,2,8,10,11] (l':=[(11,nI (q39.head)),(10,nB w42),(8,nB w9),(0,nP b0 0),(1,nI i1),(2,.bool (i2))]) (w':=w50) (by kernel_rfl) ?_
 intro a60 hF59; clear hF57
 refine wpList_nil (thenN (wp_seq (wp_region_lit ?_)))
 refine ev_runs 2 hF59 (l':=[(29,nI (q39.head)),(28,nP b0 0),(11,nI (q39.head)),(10,nB w42),(8,nB w9),(0,nP b0 0),(1,nI i1),(2,.bool (i2))]) (w':=w50) (by kernel_rfl) ?_
 intro a62 hF61; clear hF59
 have hS63:=hS52.pick2
 clear hS52
 refine ev_call 81 #[nP b0 0,nI (q39.head)] hF61 rfl rfl (by kernel_rfl) rfl (by kernel_rfl) (fun w=>by kernel_rfl) ?_
 obtain ⟨o64,s65,hx66,hm67⟩:=bind2E hm41; clear hm41
 refine (list_look.ok hS63 hx66).mono ?_
 rintro _ w68 ⟨rfl,hS70⟩ a69 hF71; clear hF61 hS63
 cases o64 with
 | none =>
  have hm72:=optN hm67; clear hm67
  refine ev_runs 5 hF71 (l':=[(12,nB w68),(33,.bool false),(32,.agg #[nI 0,nI 0,nI 0,nI 0,nI 0,nI 0,nI 0]),(27,.tuple #[.agg #[nI 0,nI 0,nI 0,nI 0,nI 0,nI 0,nI 0],.bool false]),(31,.tuple #[.agg #[nI 0,nI 0,nI 0,nI 0,nI 0,nI 0,nI 0],.bool false]),(30,.nilIface),(29,nI (q39.head)),(28,nP b0 0),(11,nI (q39.head)),(10,nB w42),(8,nB w9),(0,nP b0 0),(1,nI i1),(2,.bool (i2))]) (w':=w68.alloc (.cells #[nI 0,nI 0,nI 0,nI 0,nI 0,nI 0,nI 0] 54)) (by kernel_rfl) ?_
  intro a74 hF73; clear hF71
  have hS76:St w0 F0 (BlkP (w68.heap.size) 54 #[nI 0,nI 0,nI 0,nI 0,nI 0,nI 0,nI 0]::HeapP b0 ab0 s65::BlkP (w42.heap.size) 122 #[nI (q39.head),nI (q39.tail)]::BlkP (w9.heap.size) 37 #[nI (q5.cap),nI (q5.closed),nI (q5.count),nI (q5.start),nI (q5.buf),nI (q5.th),nI (q5.tt),nI (q5.sh),nI (q5.st)]::ps) (w68.alloc (.cells #[nI 0,nI 0,nI 0,nI 0,nI 0,nI 0,nI 0] 54)):=St.new hS70 #[nI 0,nI 0,nI 0,nI 0,nI 0,nI 0,nI 0] 54
  clear hS70
  refine ev_store (.agg #[nI 0,nI 0,nI 0,nI 0,nI 0,nI 0,nI 0]) #[nI 0,nI 0,nI 0,nI 0,nI 0,nI 0,nI 0] hF73 (by kernel_rfl) rfl rfl rfl rfl (by kernel_rfl) hS76 (by kernel_rfl) (by kernel_rfl) (by kernel_rfl) (l':=[(12,nB w68),(33,.bool false),(32,.agg #[nI 0,nI 0,nI 0,nI 0,nI 0,nI 0,nI 0]),(27,.tuple #[.agg #[nI 0,nI 0,nI 0,nI 0,nI 0,nI 0,nI 0],.bool false]),(31,.tuple #[.agg #[nI 0,nI 0,nI 0,nI 0,nI 0,nI 0,nI 0],.bool false]),(30,.nilIface),(29,nI (q39.head)),(28,nP b0 0),(11,nI (q39.head)),(10,nB w42),(8,nB w9),(0,nP b0 0),(1,nI i1),(2,.bool (i2))]) (by kernel_rfl) ?_
  intro w77 a78 hS79 hF80; clear hF73 hS76
  refine ev_runK 1 hF80 [0,1,2,8,10,11,12,13] (l':=[(13,.bool false),(12,nB w68),(11,nI (q39.head)),(10,nB w42),(8,nB w9),(0,nP b0 0),(1,nI i1),(2,.bool (i2))]) (w':=w77) (by kernel_rfl) ?_
  intro a82 hF81; clear hF80
  refine wpList_nil (thenN (wp_seq (wp_seq (wp_region_lit ?_))))
  refine ev_runK 2 hF81 [0,1,2,8,10,11,12,35] (l':=[(35,.bool true),(12,nB w68),(11,nI (q39.head)),(10,nB w42),(8,nB w9),(0,nP b0 0),(1,nI i1),(2,.bool (i2))]) (w':=w77) (by kernel_rfl) ?_
  intro a84 hF83; clear hF81
  refine wpList_nil (thenN ?_)
  refine ev_condT hF83 rfl rfl ?_
  refine wp_seq (wp_region_lit ?_)
  refine ev_runK 2 hF83 [6,7] (l':=[(7,.bool false),(6,nI 0)]) (w':=w77) (by kernel_rfl) ?_
  intro a86 hF85; clear hF83
  refine wpList_nil ?_
  have hS87:=hS79.drop.pick1.drop.pick1.drop
  clear hS79
  refine thenN ?_
  refine wp_ret ?_
  refine thenR ?_
  simp only [Option.some.injEq,Prod.mk.injEq] at hm72
  obtain ⟨rfl,rfl,rfl⟩:=hm72
  refine ev_ret hF85 [6,7] (.tuple #[nI 0,.bool false]) rfl rfl rfl ?_
  exact ⟨rfl,hS87⟩
 | some q91 =>
  have hm92:=optS hm67; clear hm67
  refine ev_runs 5 hF71 (l':=[(12,nB w68),(33,.bool true),(32,.agg #[nI (q91.gor),nI (q91.chan),nI (q91.value),nI (q91.next),nI (q91.to),nI (q91.reg),nI (q91.more)]),(27,.tuple #[.agg #[nI (q91.gor),nI (q91.chan),nI (q91.value),nI (q91.next),nI (q91.to),nI (q91.reg),nI (q91.more)],.bool true]),(31,.tuple #[.agg #[nI (q91.gor),nI (q91.chan),nI (q91.value),nI (q91.next),nI (q91.to),nI (q91.reg),nI (q91.more)],.bool true]),(30,.iface 54 (.agg #[nI (q91.gor),nI (q91.chan),nI (q91.value),nI (q91.next),nI (q91.to),nI (q91.reg),nI (q91.more)])),(29,nI (q39.head)),(28,nP b0 0),(11,nI (q39.head)),(10,nB w42),(8,nB w9),(0,nP b0 0),(1,nI i1),(2,.bool (i2))]) (w':=w68.alloc (.cells #[nI 0,nI 0,nI 0,nI 0,nI 0,nI 0,nI 0] 54)) (by kernel_rfl) ?_
  intro a94 hF93; clear hF71
  have hS96:St w0 F0 (BlkP (w68.heap.size) 54 #[nI 0,nI 0,nI 0,nI 0,nI 0,nI 0,nI 0]::HeapP b0 ab0 s65::BlkP (w42.heap.size) 122 #[nI (q39.head),nI (q39.tail)]::BlkP (w9.heap.size) 37 #[nI (q5.cap),nI (q5.closed),nI (q5.count),nI (q5.start),nI (q5.buf),nI (q5.th),nI (q5.tt),nI (q5.sh),nI (q5.st)]::ps) (w68.alloc (.cells #[nI 0,nI 0,nI 0,nI 0,nI 0,nI 0,nI 0] 54)):=St.new hS70 #[nI 0,nI 0,nI 0,nI 0,nI 0,nI 0,nI 0] 54
  clear hS70
  refine ev_store (.agg #[nI (q91.gor),nI (q91.chan),nI (q91.value),nI (q91.next),nI (q91.to),nI (q91.reg),nI (q91.more)]) #[nI (q91.gor),nI (q91.chan),nI (q91.value),nI (q91.next),nI (q91.to),nI (q91.reg),nI (q91.more)] hF93 (by kernel_rfl) rfl rfl rfl rfl (by kernel_rfl) hS96 (by kernel_rfl) (by kernel_rfl) (by kernel_rfl) (l':=[(12,nB w68),(33,.bool true),(32,.agg #[nI (q91.gor),nI (q91.chan),nI (q91.value),nI (q91.next),nI (q91.to),nI (q91.reg),nI (q91.more)]),(27,.tuple #[.agg #[nI (q91.gor),nI (q91.chan),nI (q91.value),nI (q91.next),nI (q91.to),nI (q91.reg),nI (q91.more)],.bool true]),(31,.tuple #[.agg #[nI (q91.gor),nI (q91.chan),nI (q91.value),nI (q91.next),nI (q91.to),nI (q91.reg),nI (q91.more)],.bool true]),(30,.iface 54 (.agg #[nI (q91.gor),nI (q91.chan),nI (q91.value),nI (q91.next),nI (q91.to),nI (q91.reg),nI (q91.more)])),(29,nI (q39.head)),(28,nP b0 0),(11,nI (q39.head)),(10,nB w42),(8,nB w9),(0,nP b0 0),(1,nI i1),(2,.bool (i2))]) (by kernel_rfl) ?_
  intro w97 a98 hS99 hF100; clear hF93 hS96
  refine ev_runK 1 hF100 [0,1,2,8,10,11,12,13] (l':=[(13,.bool true),(12,nB w68),(11,nI (q39.head)),(10,nB w42),(8,nB w9),(0,nP b0 0),(1,nI i1),(2,.bool (i2))]) (w':=w97) (by kernel_rfl) ?_
  intro a102 hF101; clear hF100
  refine wpList_nil (thenN (wp_seq (wp_seq (wp_region_lit ?_))))
  refine ev_runK 2 hF101 [0,1,2,8,10,11,12,35] (l':=[(35,.bool false),(12,nB w68),(11,nI (q39.head)),(10,nB w42),(8,nB w9),(0,nP b0 0),(1,nI i1),(2,.bool (i2))]) (w':=w97) (by kernel_rfl) ?_
  intro a104 hF103; clear hF101
  refine wpList_nil (thenN ?_)
  refine ev_condF hF103 rfl rfl ?_
  refine wp_skip ?_
  have hF105:=hF103.keep [0,1,2,8,10,11,12]
  clear hF103
  refine thenN (wp_seq (wp_seq (wp_region_lit ?_)))
  refine ev_runs 1 hF105 (l':=[(36,nP (w68.heap.size) 3),(12,nB w68),(11,nI (q39.head)),(10,nB w42),(8,nB w9),(0,nP b0 0),(1,nI i1),(2,.bool (i2))]) (w':=w97) (by kernel_rfl) ?_
  intro a107 hF106; clear hF105
  refine ev_one (nI (q91.next)) w97 hF106 (by kernel_rfl) rfl (by kernel_rfl) (run_loadV rfl rfl (run_loadS rfl rfl (hS99.cell 0 rfl 3 rfl))) (l':=[(37,nI (q91.next)),(36,nP (w68.heap.size) 3),(12,nB w68),(11,nI (q39.head)),(10,nB w42),(8,nB w9),(0,nP b0 0),(1,nI i1),(2,.bool (i2))]) (by kernel_rfl) ?_
  intro a109 hF108; clear hF106
  refine ev_runs 1 hF108 (l':=[(38,nB w42),(37,nI (q91.next)),(36,nP (w68.heap.size) 3),(12,nB w68),(11,nI (q39.head)),(10,nB w42),(8,nB w9),(0,nP b0 0),(1,nI i1),(2,.bool (i2))]) (w':=w97) (by kernel_rfl) ?_
  intro a111 hF110; clear hF108
  have hS112:=hS99.pick2
  clear hS99
  refine ev_store (nI (q91.next)) #[nI (q91.next),nI (q39.tail)] hF110 (by kernel_rfl) rfl rfl rfl rfl (by kernel_rfl) hS112 (by kernel_rfl) (by kernel_rfl) (by kernel_rfl) (l':=[(38,nB w42),(37,nI (q91.next)),(36,nP (w68.heap.size) 3),(12,nB w68),(11,nI (q39.head)),(10,nB w42),(8,nB w9),(0,nP b0 0),(1,nI i1),(2,.bool (i2))]) (by kernel_rfl) ?_
  intro w113 a114 hS115 hF116; clear hF110 hS112
  refine wpList_nil ?_
  have hF117:=hF116.keep [0,1,2,8,10,11]
  clear hF116
  have hS118:=hS115.pick1.drop
  clear hS115
  refine thenN (wp_seq (wp_region_lit ?_))
  refine ev_runs 1 hF117 (l':=[(39,nB w42),(11,nI (q39.head)),(10,nB w42),(8,nB w9),(0,nP b0 0),(1,nI i1),(2,.bool (i2))]) (w':=w113) (by kernel_rfl) ?_
  intro a120 hF119; clear hF117
  refine ev_one (nI (q91.next)) w113 hF119 (by kernel_rfl) rfl (by kernel_rfl) (run_loadV rfl rfl (run_loadS rfl rfl (hS118.cell 0 rfl 0 rfl))) (l':=[(40,nI (q91.next)),(39,nB w42),(11,nI (q39.head)),(10,nB w42),(8,nB w9),(0,nP b0 0),(1,nI i1),(2,.bool (i2))]) (by kernel_rfl) ?_
  intro a122 hF121; clear hF119
  refine ev_runK 1 hF121 [0,1,2,8,10,11,41] (l':=[(41,.bool (q91.next == (-1))),(11,nI (q39.head)),(10,nB w42),(8,nB w9),(0,nP b0 0),(1,nI i1),(2,.bool (i2))]) (w':=w113) (by kernel_rfl) ?_
  intro a124 hF123; clear hF121
  refine wpList_nil (thenN ?_)
  refine joinQ (fun aI wI=>∃ (x125:Int),Fr 54 aI [(11,nI (q39.head)),(10,nB w42),(8,nB w9),(0,nP b0 0),(1,nI i1),(2,.bool (i2))]∧St w0 F0 (BlkP (w42.heap.size) 122 #[nI (q91.next),nI x125]::HeapP b0 ab0 s65::BlkP (w9.heap.size) 37 #[nI (q5.cap),nI (q5.closed),nI (q5.count),nI (q5.start),nI (q5.buf),nI (q5.th),nI (q5.tt),nI (q5.sh),nI (q5.st)]::ps) wI∧list_Pop.j1 i1 i2 k q5 q39 s65 q91 x125=some (r0,r1,t0)) ?_ ?_
  rotate_left
  · rintro a127 w128 ⟨x125,hF129,hS130,hm131⟩
    clear hF123 hS118 hm92
    unfold list_Pop.j1 at hm131
    refine thenN (wp_seq (wp_region_lit ?_))
    refine ev_runs 2 hF129 (l':=[(44,nI i1),(43,nP b0 0),(11,nI (q39.head)),(10,nB w42),(8,nB w9),(0,nP b0 0),(1,nI i1),(2,.bool (i2))]) (w':=w128) (by kernel_rfl) ?_
    intro a134 hF133; clear hF129
    refine ev_one (.agg #[nI (q5.cap),nI (q5.closed),nI (q5.count),nI (q5.start),nI (q5.buf),nI (q5.th),nI (q5.tt),nI (q5.sh),nI (q5.st)]) w128 hF133 (by kernel_rfl) rfl (by kernel_rfl) (run_loadV rfl rfl (run_loadA (cs:=[nI (q5.cap),nI (q5.closed),nI (q5.count),nI (q5.start),nI (q5.buf),nI (q5.th),nI (q5.tt),nI (q5.sh),nI (q5.st)]) rfl rfl (by kernel_rfl) (blk_cells hS130 2 rfl rfl))) (l':=[(45,.agg #[nI (q5.cap),nI (q5.closed),nI (q5.count),nI (q5.start),nI (q5.buf),nI (q5.th),nI (q5.tt),nI (q5.sh),nI (q5.st)]),(44,nI i1),(43,nP b0 0),(11,nI (q39.head)),(10,nB w42),(8,nB w9),(0,nP b0 0),(1,nI i1),(2,.bool (i2))]) (by kernel_rfl) ?_
    intro a136 hF135; clear hF133
    refine ev_runs 1 hF135 (l':=[(46,.bool (i2)),(45,.agg #[nI (q5.cap),nI (q5.closed),nI (q5.count),nI (q5.start),nI (q5.buf),nI (q5.th),nI (q5.tt),nI (q5.sh),nI (q5.st)]),(44,nI i1),(43,nP b0 0),(11,nI (q39.head)),(10,nB w42),(8,nB w9),(0,nP b0 0),(1,nI i1),(2,.bool (i2))]) (w':=w128) (by kernel_rfl) ?_
    intro a138 hF137; clear hF135
    refine ev_one (.agg #[nI (q91.next),nI x125]) w128 hF137 (by kernel_rfl) rfl (by kernel_rfl) (run_loadV rfl rfl (run_loadA (cs:=[nI (q91.next),nI x125]) rfl rfl (by kernel_rfl) (blk_cells hS130 0 rfl rfl))) (l':=[(47,.agg #[nI (q91.next),nI x125]),(46,.bool (i2)),(45,.agg #[nI (q5.cap),nI (q5.closed),nI (q5.count),nI (q5.start),nI (q5.buf),nI (q5.th),nI (q5.tt),nI (q5.sh),nI (q5.st)]),(44,nI i1),(43,nP b0 0),(11,nI (q39.head)),(10,nB w42),(8,nB w9),(0,nP b0 0),(1,nI i1),(2,.bool (i2))]) (by kernel_rfl) ?_
    intro a140 hF139; clear hF137
    refine ev_call 80 #[.agg #[nI (q5.cap),nI (q5.closed),nI (q5.count),nI (q5.start),nI (q5.buf),nI (q5.th),nI (q5.tt),nI (q5.sh),nI (q5.st)],.bool (i2),.agg #[nI (q91.next),nI x125]] hF139 rfl rfl (by kernel_rfl) rfl (by kernel_rfl) (fun w=>by kernel_rfl) ?_
    obtain ⟨q141,hx142,hm143⟩:=bind1E hm131; clear hm131
    refine (list_into.ok hS130 hx142).mono ?_
    rintro _ w144 ⟨rfl,hS146⟩ a145 hF147; clear hF139 hS130
    have hS148:=hS146.pick1
    clear hS146
    refine ev_call 23 #[nP b0 0,nI i1,.agg #[nI (q141.cap),nI (q141.closed),nI (q141.count),nI (q141.start),nI (q141.buf),nI (q141.th),nI (q141.tt),nI (q141.sh),nI (q141.st)]] hF147 rfl rfl (by kernel_rfl) rfl (by kernel_rfl) (fun w=>by kernel_rfl) ?_
    obtain ⟨x149,s150,hx151,hm152⟩:=bind2E hm143; clear hm143
    refine (p_PutChan hS148 hx151).mono ?_
    rintro _ w153 ⟨rfl,hS155⟩ a154 hF156; clear hF147 hS148
    refine wpList_nil ?_
    have hF157:=hF156.keep [0,11]
    clear hF156
    have hS158:=hS155.pick1.drop.pick1.drop
    clear hS155
    refine thenN (wp_seq (wp_region_lit ?_))
    refine ev_runs 2 hF157 (l':=[(51,nI (q39.head)),(50,nP b0 0),(11,nI (q39.head)),(0,nP b0 0)]) (w':=w153) (by kernel_rfl) ?_
    intro a160 hF159; clear hF157
    refine ev_call 79 #[nP b0 0,nI (q39.head),nI (-1)] hF159 rfl rfl (by kernel_rfl) rfl (by kernel_rfl) (fun w=>by kernel_rfl) ?_
    obtain ⟨s161,hx162,hm163⟩:=bind1E hm152; clear hm152
    refine (list_follow.ok hS158 hx162).mono ?_
    rintro _ w164 ⟨rfl,hS166⟩ a165 hF167; clear hF159 hS158
    refine wpList_nil ?_
    have hF168:=hF167.keep [11]
    clear hF167
    refine thenN (wp_seq (wp_region_lit ?_))
    refine ev_runK 3 hF168 [6,7] (l':=[(7,.bool true),(6,nI (q39.head))]) (w':=w164) (by kernel_rfl) ?_
    intro a170 hF169; clear hF168
    refine wpList_nil (thenN ?_)
    refine wp_ret ?_
    simp only [Option.some.injEq,Prod.mk.injEq] at hm163
    obtain ⟨rfl,rfl,rfl⟩:=hm163
    refine ev_ret hF169 [6,7] (.tuple #[nI (q39.head),.bool true]) rfl rfl rfl ?_
    exact ⟨rfl,hS166⟩
  · skip
    cases hc174:(q91.next == (-1))
    case true =>
     rw [hc174] at hF123
     have hm175:=ifYes hc174 hm92; clear hm92
     refine ev_condT hF123 rfl rfl ?_
     refine wp_region_lit ?_
     refine ev_runs 1 hF123 (l':=[(42,nP (w42.heap.size) 1),(41,.bool true),(11,nI (q39.head)),(10,nB w42),(8,nB w9),(0,nP b0 0),(1,nI i1),(2,.bool (i2))]) (w':=w113) (by kernel_rfl) ?_
     intro a177 hF176; clear hF123
     refine ev_store (nI (-1)) #[nI (q91.next),nI (-1)] hF176 (by kernel_rfl) rfl rfl rfl rfl (by kernel_rfl) hS118 (by kernel_rfl) (by kernel_rfl) (by kernel_rfl) (l':=[(42,nP (w42.heap.size) 1),(41,.bool true),(11,nI (q39.head)),(10,nB w42),(8,nB w9),(0,nP b0 0),(1,nI i1),(2,.bool (i2))]) (by kernel_rfl) ?_
     intro w178 a179 hS180 hF181; clear hF176 hS118
     refine wpList_nil ?_
     have hF182:=hF181.keep [0,1,2,8,10,11]
     clear hF181
     exact thenN ⟨-1,hF182,hS180,hm175⟩
    rw [hc174] at hF123
    have hm183:=ifNot hc174 hm92; clear hm92
    refine ev_condF hF123 rfl rfl ?_
    refine wp_skip ?_
    have hF184:=hF123.keep [0,1,2,8,10,11]
    clear hF123
    exact thenN ⟨q39.tail,hF184,hS118,hm183⟩
def list_Remove.j2 (i1:Int) (i2:Bool) (i3:Int) (k:Nat) (q47:Ch) (s109:HSt) (x110:Int) (x125:Int):Option (Bool×HSt):=bind1 (list_into.m k (⟨q47.cap,q47.closed,q47.count,q47.start,q47.buf,q47.th,q47.tt,q47.sh,q47.st⟩:Ch) (i2) (⟨x110,x125⟩:En)) fun q141=>bind2 (pPutChan i1 (⟨q141.cap,q141.closed,q141.count,q141.start,q141.buf,q141.th,q141.tt,q141.sh,q141.st⟩:Ch) s109) fun x149 s150=>bind1 (list_follow.m k s150 i3 (-1)) fun s161=>some (true,s161)
def list_Remove.j1 (i1:Int) (i2:Bool) (i3:Int) (k:Nat) (q47:Ch) (q90:En) (s109:HSt) (x110:Int) (x111:Int):Option (Bool×HSt):=(if (q90.tail == i3) then list_Remove.j2 i1 i2 i3 k q47 s109 x110 x111 else list_Remove.j2 i1 i2 i3 k q47 s109 x110 q90.tail)
def list_Remove.m (k:Nat) (s0:HSt) (i1:Int) (i2:Bool) (i3:Int):Option (Bool×HSt):=bind2 (list_All.m k s0 i1 (i2)) fun L5 s6=>bind1 (slices_Index.m k L5 i3) fun x24=>(if (decide (x24<0)) then some (false,s6) else bind2 (pChan i1 s6) fun q47 x48=>bind2 (pSudog i3 s6) fun q68 x69=>bind1 (list_of.m k (⟨q47.cap,q47.closed,q47.count,q47.start,q47.buf,q47.th,q47.tt,q47.sh,q47.st⟩:Ch) (i2)) fun q90=>(if (decide (x24 > 0)) then (if (inR (IntKind.i64.wrap (x24 - 1)) L5.length) then bind1 (list_follow.m k s6 (atI L5 (IntKind.i64.wrap (x24 - 1))) q68.next) fun s203=>list_Remove.j1 i1 i2 i3 k q47 q90 s203 q90.head (atI L5 (IntKind.i64.wrap (x24 - 1))) else none) else list_Remove.j1 i1 i2 i3 k q47 q90 s6 q68.next (-1)))
theorem list_Remove.ok {w0 w:World} {F0:List Nat} {ps:List Piece} {k:Nat} {b0 ab0:Nat} {s0:HSt} {i1:Int} {i2:Bool} {i3:Int} {r0:Bool} {t0:HSt} (hS:St w0 F0 (HeapP b0 ab0 s0::ps) w) (hm:list_Remove.m k s0 i1 i2 i3=some (r0,t0)) :
    Calls Tryz.prog 33 #[nP b0 0,nI i1,.bool (i2),nI i3] w fun e w'=>e=.returned (.bool r0)∧St w0 F0 (HeapP b0 ab0 t0::ps) w':=by
 refine ev_enterL 72 [nP b0 0,nI i1,.bool (i2),nI i3] Tryz.func33 rfl rfl (by simp) ?_
 intro a hF
 have hF0:Fr 72 a [(0,nP b0 0),(1,nI i1),(2,.bool (i2)),(3,nI i3)]:=hF; clear hF
 unfold list_Remove.m at hm
 refine wp_seq (wp_region_lit ?_)
 refine ev_runK 1 hF0 [0,1,2,3] (l':=[(0,nP b0 0),(1,nI i1),(2,.bool (i2)),(3,nI i3)]) (w':=w) (by kernel_rfl) ?_
 intro a2 hF1; clear hF0
 refine wpList_nil (thenN (wp_seq (wp_region_lit ?_)))
 refine ev_runs 3 hF1 (l':=[(19,.bool (i2)),(18,nI i1),(17,nP b0 0),(0,nP b0 0),(1,nI i1),(2,.bool (i2)),(3,nI i3)]) (w':=w) (by kernel_rfl) ?_
 intro a4 hF3; clear hF1
 refine ev_call 34 #[nP b0 0,nI i1,.bool (i2)] hF3 rfl rfl (by kernel_rfl) rfl (by kernel_rfl) (fun w=>by kernel_rfl) ?_
 obtain ⟨L5,s6,hx7,hm8⟩:=bind2E hm; clear hm
 refine (list_All.ok hS hx7).mono ?_
 rintro _ w9 ⟨z13,rfl,hS11⟩ a10 hF12; clear hF3 hS
 obtain ⟨hl18,p15,c16,rfl,hp17⟩:=St.shape hS11 1 rfl
 refine ev_runK 1 hF12 [0,1,2,3,9] (l':=[(9,.slice p15 L5.length c16),(0,nP b0 0),(1,nI i1),(2,.bool (i2)),(3,nI i3)]) (w':=w9) (by kernel_rfl) ?_
 intro a20 hF19; clear hF12
 refine wpList_nil (thenN (wp_seq (wp_region_lit ?_)))
 refine ev_runs 2 hF19 (l':=[(22,nI i3),(21,.slice p15 L5.length c16),(9,.slice p15 L5.length c16),(0,nP b0 0),(1,nI i1),(2,.bool (i2)),(3,nI i3)]) (w':=w9) (by kernel_rfl) ?_
 intro a22 hF21; clear hF19
 have hS23:=hS11.pick1
 clear hS11
 refine ev_call 82 #[.slice p15 L5.length c16,nI i3] hF21 rfl rfl (by kernel_rfl) rfl (by kernel_rfl) (fun w=>by kernel_rfl) ?_
 obtain ⟨x24,hx25,hm26⟩:=bind1E hm8; clear hm8
 refine (slices_Index.ok hS23 hx25).mono ?_
 rintro _ w27 ⟨rfl,hS29⟩ a28 hF30; clear hF21 hS23
 refine ev_runK 1 hF30 [0,1,2,3,9,10] (l':=[(10,nI x24),(9,.slice p15 L5.length c16),(0,nP b0 0),(1,nI i1),(2,.bool (i2)),(3,nI i3)]) (w':=w27) (by kernel_rfl) ?_
 intro a32 hF31; clear hF30
 refine wpList_nil (thenN (wp_seq (wp_seq (wp_region_lit ?_))))
 refine ev_runK 2 hF31 [0,1,2,3,9,10,25] (l':=[(25,.bool (decide (x24<0))),(10,nI x24),(9,.slice p15 L5.length c16),(0,nP b0 0),(1,nI i1),(2,.bool (i2)),(3,nI i3)]) (w':=w27) (by kernel_rfl) ?_
 intro a34 hF33; clear hF31
 refine wpList_nil (thenN ?_)
 cases hc35:(decide (x24<0))
 case true =>
  rw [hc35] at hF33
  have hm36:=ifYes hc35 hm26; clear hm26
  refine ev_condT hF33 rfl rfl ?_
  refine wp_seq (wp_region_lit ?_)
  refine ev_runK 1 hF33 [8] (l':=[(8,.bool false)]) (w':=w27) (by kernel_rfl) ?_
  intro a38 hF37; clear hF33
  refine wpList_nil ?_
  have hS39:=hS29.drop
  clear hS29
  refine thenN ?_
  refine wp_ret ?_
  refine thenR ?_
  simp only [Option.some.injEq,Prod.mk.injEq] at hm36
  obtain ⟨rfl,rfl⟩:=hm36
  refine ev_ret hF37 [8] (.bool false) rfl rfl rfl ?_
  exact ⟨rfl,hS39⟩
 rw [hc35] at hF33
 have hm42:=ifNot hc35 hm26; clear hm26
 refine ev_condF hF33 rfl rfl ?_
 refine wp_skip ?_
 have hF43:=hF33.keep [0,1,2,3,9,10]
 clear hF33
 refine thenN (wp_seq (wp_region_lit ?_))
 refine ev_runs 2 hF43 (l':=[(28,nI i1),(27,nP b0 0),(10,nI x24),(9,.slice p15 L5.length c16),(0,nP b0 0),(1,nI i1),(2,.bool (i2)),(3,nI i3)]) (w':=w27) (by kernel_rfl) ?_
 intro a45 hF44; clear hF43
 have hS46:=hS29.pick1
 clear hS29
 refine ev_call 19 #[nP b0 0,nI i1] hF44 rfl rfl (by kernel_rfl) rfl (by kernel_rfl) (fun w=>by kernel_rfl) ?_
 obtain ⟨q47,x48,hx49,hm50⟩:=bind2E hm42; clear hm42
 refine (p_Chan hS46 hx49).mono ?_
 rintro _ w51 ⟨rfl,hS53⟩ a52 hF54; clear hF44 hS46
 refine ev_runs 4 hF54 (l':=[(11,nB w51),(31,nI x48),(30,.agg #[nI (q47.cap),nI (q47.closed),nI (q47.count),nI (q47.start),nI (q47.buf),nI (q47.th),nI (q47.tt),nI (q47.sh),nI (q47.st)]),(26,.tuple #[.agg #[nI (q47.cap),nI (q47.closed),nI (q47.count),nI (q47.start),nI (q47.buf),nI (q47.th),nI (q47.tt),nI (q47.sh),nI (q47.st)],nI x48]),(29,.tuple #[.agg #[nI (q47.cap),nI (q47.closed),nI (q47.count),nI (q47.start),nI (q47.buf),nI (q47.th),nI (q47.tt),nI (q47.sh),nI (q47.st)],nI x48]),(28,nI i1),(27,nP b0 0),(10,nI x24),(9,.slice p15 L5.length c16),(0,nP b0 0),(1,nI i1),(2,.bool (i2)),(3,nI i3)]) (w':=w51.alloc (.cells #[nI 0,nI 0,nI 0,nI 0,nI 0,nI 0,nI 0,nI 0,nI 0] 37)) (by kernel_rfl) ?_
 intro a56 hF55; clear hF54
 have hS58:St w0 F0 (BlkP (w51.heap.size) 37 #[nI 0,nI 0,nI 0,nI 0,nI 0,nI 0,nI 0,nI 0,nI 0]::HeapP b0 ab0 s6::RowP (.slice p15 L5.length c16) L5::ps) (w51.alloc (.cells #[nI 0,nI 0,nI 0,nI 0,nI 0,nI 0,nI 0,nI 0,nI 0] 37)):=St.new hS53 #[nI 0,nI 0,nI 0,nI 0,nI 0,nI 0,nI 0,nI 0,nI 0] 37
 clear hS53
 refine ev_store (.agg #[nI (q47.cap),nI (q47.closed),nI (q47.count),nI (q47.start),nI (q47.buf),nI (q47.th),nI (q47.tt),nI (q47.sh),nI (q47.st)]) #[nI (q47.cap),nI (q47.closed),nI (q47.count),nI (q47.start),nI (q47.buf),nI (q47.th),nI (q47.tt),nI (q47.sh),nI (q47.st)] hF55 (by kernel_rfl) rfl rfl rfl rfl (by kernel_rfl) hS58 (by kernel_rfl) (by kernel_rfl) (by kernel_rfl) (l':=[(11,nB w51),(31,nI x48),(30,.agg #[nI (q47.cap),nI (q47.closed),nI (q47.count),nI (q47.start),nI (q47.buf),nI (q47.th),nI (q47.tt),nI (q47.sh),nI (q47.st)]),(26,.tuple #[.agg #[nI (q47.cap),nI (q47.closed),nI (q47.count),nI (q47.start),nI (q47.buf),nI (q47.th),nI (q47.tt),nI (q47.sh),nI (q47.st)],nI x48]),(29,.tuple #[.agg #[nI (q47.cap),nI (q47.closed),nI (q47.count),nI (q47.start),nI (q47.buf),nI (q47.th),nI (q47.tt),nI (q47.sh),nI (q47.st)],nI x48]),(28,nI i1),(27,nP b0 0),(10,nI x24),(9,.slice p15 L5.length c16),(0,nP b0 0),(1,nI i1),(2,.bool (i2)),(3,nI i3)]) (by kernel_rfl) ?_
 intro w59 a60 hS61 hF62; clear hF55 hS58
 refine ev_runK 1 hF62 [0,1,2,3,9,10,11] (l':=[(11,nB w51),(10,nI x24),(9,.slice p15 L5.length c16),(0,nP b0 0),(1,nI i1),(2,.bool (i2)),(3,nI i3)]) (w':=w59) (by kernel_rfl) ?_
 intro a64 hF63; clear hF62
 refine wpList_nil (thenN (wp_seq (wp_region_lit ?_)))
 refine ev_runs 2 hF63 (l':=[(34,nI i3),(33,nP b0 0),(11,nB w51),(10,nI x24),(9,.slice p15 L5.length c16),(0,nP b0 0),(1,nI i1),(2,.bool (i2)),(3,nI i3)]) (w':=w59) (by kernel_rfl) ?_
 intro a66 hF65; clear hF63
 have hS67:=hS61.pick1
 clear hS61
 refine ev_call 30 #[nP b0 0,nI i3] hF65 rfl rfl (by kernel_rfl) rfl (by kernel_rfl) (fun w=>by kernel_rfl) ?_
 obtain ⟨q68,x69,hx70,hm71⟩:=bind2E hm50; clear hm50
 refine (p_Sudog hS67 hx70).mono ?_
 rintro _ w72 ⟨rfl,hS74⟩ a73 hF75; clear hF65 hS67
 refine ev_runs 4 hF75 (l':=[(13,nB w72),(37,nI x69),(36,.agg #[nI (q68.gor),nI (q68.chan),nI (q68.value),nI (q68.next),nI (q68.to),nI (q68.reg),nI (q68.more)]),(32,.tuple #[.agg #[nI (q68.gor),nI (q68.chan),nI (q68.value),nI (q68.next),nI (q68.to),nI (q68.reg),nI (q68.more)],nI x69]),(35,.tuple #[.agg #[nI (q68.gor),nI (q68.chan),nI (q68.value),nI (q68.next),nI (q68.to),nI (q68.reg),nI (q68.more)],nI x69]),(34,nI i3),(33,nP b0 0),(11,nB w51),(10,nI x24),(9,.slice p15 L5.length c16),(0,nP b0 0),(1,nI i1),(2,.bool (i2)),(3,nI i3)]) (w':=w72.alloc (.cells #[nI 0,nI 0,nI 0,nI 0,nI 0,nI 0,nI 0] 54)) (by kernel_rfl) ?_
 intro a77 hF76; clear hF75
 have hS79:St w0 F0 (BlkP (w72.heap.size) 54 #[nI 0,nI 0,nI 0,nI 0,nI 0,nI 0,nI 0]::HeapP b0 ab0 s6::BlkP (w51.heap.size) 37 #[nI (q47.cap),nI (q47.closed),nI (q47.count),nI (q47.start),nI (q47.buf),nI (q47.th),nI (q47.tt),nI (q47.sh),nI (q47.st)]::RowP (.slice p15 L5.length c16) L5::ps) (w72.alloc (.cells #[nI 0,nI 0,nI 0,nI 0,nI 0,nI 0,nI 0] 54)):=St.new hS74 #[nI 0,nI 0,nI 0,nI 0,nI 0,nI 0,nI 0] 54
 clear hS74
 refine ev_store (.agg #[nI (q68.gor),nI (q68.chan),nI (q68.value),nI (q68.next),nI (q68.to),nI (q68.reg),nI (q68.more)]) #[nI (q68.gor),nI (q68.chan),nI (q68.value),nI (q68.next),nI (q68.to),nI (q68.reg),nI (q68.more)] hF76 (by kernel_rfl) rfl rfl rfl rfl (by kernel_rfl) hS79 (by kernel_rfl) (by kernel_rfl) (by kernel_rfl) (l':=[(13,nB w72),(37,nI x69),(36,.agg #[nI (q68.gor),nI (q68.chan),nI (q68.value),nI (q68.next),nI (q68.to),nI (q68.reg),nI (q68.more)]),(32,.tuple #[.agg #[nI (q68.gor),nI (q68.chan),nI (q68.value),nI (q68.next),nI (q68.to),nI (q68.reg),nI (q68.more)],nI x69]),(35,.tuple #[.agg #[nI (q68.gor),nI (q68.chan),nI (q68.value),nI (q68.next),nI (q68.to),nI (q68.reg),nI (q68.more)],nI x69]),(34,nI i3),(33,nP b0 0),(11,nB w51),(10,nI x24),(9,.slice p15 L5.length c16),(0,nP b0 0),(1,nI i1),(2,.bool (i2)),(3,nI i3)]) (by kernel_rfl) ?_
 intro w80 a81 hS82 hF83; clear hF76 hS79
 refine ev_runK 1 hF83 [0,1,2,3,9,10,11,13] (l':=[(13,nB w72),(11,nB w51),(10,nI x24),(9,.slice p15 L5.length c16),(0,nP b0 0),(1,nI i1),(2,.bool (i2)),(3,nI i3)]) (w':=w80) (by kernel_rfl) ?_
 intro a85 hF84; clear hF83
 refine wpList_nil (thenN (wp_seq (wp_region_lit ?_)))
 refine ev_one (.agg #[nI (q47.cap),nI (q47.closed),nI (q47.count),nI (q47.start),nI (q47.buf),nI (q47.th),nI (q47.tt),nI (q47.sh),nI (q47.st)]) w80 hF84 (by kernel_rfl) rfl (by kernel_rfl) (run_loadV rfl rfl (run_loadA (cs:=[nI (q47.cap),nI (q47.closed),nI (q47.count),nI (q47.start),nI (q47.buf),nI (q47.th),nI (q47.tt),nI (q47.sh),nI (q47.st)]) rfl rfl (by kernel_rfl) (blk_cells hS82 2 rfl rfl))) (l':=[(38,.agg #[nI (q47.cap),nI (q47.closed),nI (q47.count),nI (q47.start),nI (q47.buf),nI (q47.th),nI (q47.tt),nI (q47.sh),nI (q47.st)]),(13,nB w72),(11,nB w51),(10,nI x24),(9,.slice p15 L5.length c16),(0,nP b0 0),(1,nI i1),(2,.bool (i2)),(3,nI i3)]) (by kernel_rfl) ?_
 intro a87 hF86; clear hF84
 refine ev_runs 1 hF86 (l':=[(39,.bool (i2)),(38,.agg #[nI (q47.cap),nI (q47.closed),nI (q47.count),nI (q47.start),nI (q47.buf),nI (q47.th),nI (q47.tt),nI (q47.sh),nI (q47.st)]),(13,nB w72),(11,nB w51),(10,nI x24),(9,.slice p15 L5.length c16),(0,nP b0 0),(1,nI i1),(2,.bool (i2)),(3,nI i3)]) (w':=w80) (by kernel_rfl) ?_
 intro a89 hF88; clear hF86
 refine ev_call 78 #[.agg #[nI (q47.cap),nI (q47.closed),nI (q47.count),nI (q47.start),nI (q47.buf),nI (q47.th),nI (q47.tt),nI (q47.sh),nI (q47.st)],.bool (i2)] hF88 rfl rfl (by kernel_rfl) rfl (by kernel_rfl) (fun w=>by kernel_rfl) ?_
 obtain ⟨q90,hx91,hm92⟩:=bind1E hm71; clear hm71
 refine (list_of.ok hS82 hx91).mono ?_
 rintro _ w93 ⟨rfl,hS95⟩ a94 hF96; clear hF88 hS82
 refine ev_runs 1 hF96 (l':=[(15,nB w93),(40,.agg #[nI (q90.head),nI (q90.tail)]),(39,.bool (i2)),(38,.agg #[nI (q47.cap),nI (q47.closed),nI (q47.count),nI (q47.start),nI (q47.buf),nI (q47.th),nI (q47.tt),nI (q47.sh),nI (q47.st)]),(13,nB w72),(11,nB w51),(10,nI x24),(9,.slice p15 L5.length c16),(0,nP b0 0),(1,nI i1),(2,.bool (i2)),(3,nI i3)]) (w':=w93.alloc (.cells #[nI 0,nI 0] 122)) (by kernel_rfl) ?_
 intro a98 hF97; clear hF96
 have hS100:St w0 F0 (BlkP (w93.heap.size) 122 #[nI 0,nI 0]::BlkP (w72.heap.size) 54 #[nI (q68.gor),nI (q68.chan),nI (q68.value),nI (q68.next),nI (q68.to),nI (q68.reg),nI (q68.more)]::HeapP b0 ab0 s6::BlkP (w51.heap.size) 37 #[nI (q47.cap),nI (q47.closed),nI (q47.count),nI (q47.start),nI (q47.buf),nI (q47.th),nI (q47.tt),nI (q47.sh),nI (q47.st)]::RowP (.slice p15 L5.length c16) L5::ps) (w93.alloc (.cells #[nI 0,nI 0] 122)):=St.new hS95 #[nI 0,nI 0] 122
 clear hS95
 refine ev_store (.agg #[nI (q90.head),nI (q90.tail)]) #[nI (q90.head),nI (q90.tail)] hF97 (by kernel_rfl) rfl rfl rfl rfl (by kernel_rfl) hS100 (by kernel_rfl) (by kernel_rfl) (by kernel_rfl) (l':=[(15,nB w93),(40,.agg #[nI (q90.head),nI (q90.tail)]),(39,.bool (i2)),(38,.agg #[nI (q47.cap),nI (q47.closed),nI (q47.count),nI (q47.start),nI (q47.buf),nI (q47.th),nI (q47.tt),nI (q47.sh),nI (q47.st)]),(13,nB w72),(11,nB w51),(10,nI x24),(9,.slice p15 L5.length c16),(0,nP b0 0),(1,nI i1),(2,.bool (i2)),(3,nI i3)]) (by kernel_rfl) ?_
 intro w101 a102 hS103 hF104; clear hF97 hS100
 refine ev_runK 1 hF104 [0,1,2,3,9,10,11,13,15,16] (l':=[(16,nI (-1)),(15,nB w93),(13,nB w72),(11,nB w51),(10,nI x24),(9,.slice p15 L5.length c16),(0,nP b0 0),(1,nI i1),(2,.bool (i2)),(3,nI i3)]) (w':=w101) (by kernel_rfl) ?_
 intro a106 hF105; clear hF104
 refine wpList_nil (thenN (wp_seq (wp_seq (wp_region_lit ?_))))
 refine ev_runK 2 hF105 [0,1,2,3,9,10,11,13,15,16,42] (l':=[(42,.bool (decide (x24 > 0))),(16,nI (-1)),(15,nB w93),(13,nB w72),(11,nB w51),(10,nI x24),(9,.slice p15 L5.length c16),(0,nP b0 0),(1,nI i1),(2,.bool (i2)),(3,nI i3)]) (w':=w101) (by kernel_rfl) ?_
 intro a108 hF107; clear hF105
 refine wpList_nil (thenN ?_)
 refine joinQ (fun aI wI=>∃ (s109:HSt) (x110:Int) (x111:Int),Fr 72 aI [(16,nI x111),(15,nB w93),(11,nB w51),(0,nP b0 0),(1,nI i1),(2,.bool (i2)),(3,nI i3)]∧St w0 F0 (BlkP (w93.heap.size) 122 #[nI x110,nI (q90.tail)]::HeapP b0 ab0 s109::BlkP (w51.heap.size) 37 #[nI (q47.cap),nI (q47.closed),nI (q47.count),nI (q47.start),nI (q47.buf),nI (q47.th),nI (q47.tt),nI (q47.sh),nI (q47.st)]::ps) wI∧list_Remove.j1 i1 i2 i3 k q47 q90 s109 x110 x111=some (r0,t0)) ?_ ?_
 rotate_left
 · rintro a113 w114 ⟨s109,x110,x111,hF115,hS116,hm117⟩
   clear hF107 hS103 hm92
   unfold list_Remove.j1 at hm117
   refine thenN (wp_seq (wp_seq (wp_region_lit ?_)))
   refine ev_runs 1 hF115 (l':=[(56,nP (w93.heap.size) 1),(16,nI x111),(15,nB w93),(11,nB w51),(0,nP b0 0),(1,nI i1),(2,.bool (i2)),(3,nI i3)]) (w':=w114) (by kernel_rfl) ?_
   intro a120 hF119; clear hF115
   refine ev_one (nI (q90.tail)) w114 hF119 (by kernel_rfl) rfl (by kernel_rfl) (run_loadV rfl rfl (run_loadS rfl rfl (hS116.cell 0 rfl 1 rfl))) (l':=[(57,nI (q90.tail)),(56,nP (w93.heap.size) 1),(16,nI x111),(15,nB w93),(11,nB w51),(0,nP b0 0),(1,nI i1),(2,.bool (i2)),(3,nI i3)]) (by kernel_rfl) ?_
   intro a122 hF121; clear hF119
   refine ev_runK 2 hF121 [0,1,2,3,11,15,16,59] (l':=[(59,.bool (q90.tail == i3)),(16,nI x111),(15,nB w93),(11,nB w51),(0,nP b0 0),(1,nI i1),(2,.bool (i2)),(3,nI i3)]) (w':=w114) (by kernel_rfl) ?_
   intro a124 hF123; clear hF121
   refine wpList_nil (thenN ?_)
   refine joinQ (fun aI wI=>∃ (x125:Int),Fr 72 aI [(15,nB w93),(11,nB w51),(0,nP b0 0),(1,nI i1),(2,.bool (i2)),(3,nI i3)]∧St w0 F0 (BlkP (w93.heap.size) 122 #[nI x110,nI x125]::HeapP b0 ab0 s109::BlkP (w51.heap.size) 37 #[nI (q47.cap),nI (q47.closed),nI (q47.count),nI (q47.start),nI (q47.buf),nI (q47.th),nI (q47.tt),nI (q47.sh),nI (q47.st)]::ps) wI∧list_Remove.j2 i1 i2 i3 k q47 s109 x110 x125=some (r0,t0)) ?_ ?_
   rotate_left
   · rintro a127 w128 ⟨x125,hF129,hS130,hm131⟩
     clear hF123 hS116 hm117
     unfold list_Remove.j2 at hm131
     refine thenN (wp_seq (wp_region_lit ?_))
     refine ev_runs 2 hF129 (l':=[(63,nI i1),(62,nP b0 0),(15,nB w93),(11,nB w51),(0,nP b0 0),(1,nI i1),(2,.bool (i2)),(3,nI i3)]) (w':=w128) (by kernel_rfl) ?_
     intro a134 hF133; clear hF129
     refine ev_one (.agg #[nI (q47.cap),nI (q47.closed),nI (q47.count),nI (q47.start),nI (q47.buf),nI (q47.th),nI (q47.tt),nI (q47.sh),nI (q47.st)]) w128 hF133 (by kernel_rfl) rfl (by kernel_rfl) (run_loadV rfl rfl (run_loadA (cs:=[nI (q47.cap),nI (q47.closed),nI (q47.count),nI (q47.start),nI (q47.buf),nI (q47.th),nI (q47.tt),nI (q47.sh),nI (q47.st)]) rfl rfl (by kernel_rfl) (blk_cells hS130 2 rfl rfl))) (l':=[(64,.agg #[nI (q47.cap),nI (q47.closed),nI (q47.count),nI (q47.start),nI (q47.buf),nI (q47.th),nI (q47.tt),nI (q47.sh),nI (q47.st)]),(63,nI i1),(62,nP b0 0),(15,nB w93),(11,nB w51),(0,nP b0 0),(1,nI i1),(2,.bool (i2)),(3,nI i3)]) (by kernel_rfl) ?_
     intro a136 hF135; clear hF133
     refine ev_runs 1 hF135 (l':=[(65,.bool (i2)),(64,.agg #[nI (q47.cap),nI (q47.closed),nI (q47.count),nI (q47.start),nI (q47.buf),nI (q47.th),nI (q47.tt),nI (q47.sh),nI (q47.st)]),(63,nI i1),(62,nP b0 0),(15,nB w93),(11,nB w51),(0,nP b0 0),(1,nI i1),(2,.bool (i2)),(3,nI i3)]) (w':=w128) (by kernel_rfl) ?_
     intro a138 hF137; clear hF135
     refine ev_one (.agg #[nI x110,nI x125]) w128 hF137 (by kernel_rfl) rfl (by kernel_rfl) (run_loadV rfl rfl (run_loadA (cs:=[nI x110,nI x125]) rfl rfl (by kernel_rfl) (blk_cells hS130 0 rfl rfl))) (l':=[(66,.agg #[nI x110,nI x125]),(65,.bool (i2)),(64,.agg #[nI (q47.cap),nI (q47.closed),nI (q47.count),nI (q47.start),nI (q47.buf),nI (q47.th),nI (q47.tt),nI (q47.sh),nI (q47.st)]),(63,nI i1),(62,nP b0 0),(15,nB w93),(11,nB w51),(0,nP b0 0),(1,nI i1),(2,.bool (i2)),(3,nI i3)]) (by kernel_rfl) ?_
     intro a140 hF139; clear hF137
     refine ev_call 80 #[.agg #[nI (q47.cap),nI (q47.closed),nI (q47.count),nI (q47.start),nI (q47.buf),nI (q47.th),nI (q47.tt),nI (q47.sh),nI (q47.st)],.bool (i2),.agg #[nI x110,nI x125]] hF139 rfl rfl (by kernel_rfl) rfl (by kernel_rfl) (fun w=>by kernel_rfl) ?_
     obtain ⟨q141,hx142,hm143⟩:=bind1E hm131; clear hm131
     refine (list_into.ok hS130 hx142).mono ?_
     rintro _ w144 ⟨rfl,hS146⟩ a145 hF147; clear hF139 hS130
     have hS148:=hS146.pick1
     clear hS146
     refine ev_call 23 #[nP b0 0,nI i1,.agg #[nI (q141.cap),nI (q141.closed),nI (q141.count),nI (q141.start),nI (q141.buf),nI (q141.th),nI (q141.tt),nI (q141.sh),nI (q141.st)]] hF147 rfl rfl (by kernel_rfl) rfl (by kernel_rfl) (fun w=>by kernel_rfl) ?_
     obtain ⟨x149,s150,hx151,hm152⟩:=bind2E hm143; clear hm143
     refine (p_PutChan hS148 hx151).mono ?_
     rintro _ w153 ⟨rfl,hS155⟩ a154 hF156; clear hF147 hS148
     refine wpList_nil ?_
     have hF157:=hF156.keep [0,3]
     clear hF156
     have hS158:=hS155.pick1.drop.pick1.drop
     clear hS155
     refine thenN (wp_seq (wp_region_lit ?_))
     refine ev_runs 2 hF157 (l':=[(70,nI i3),(69,nP b0 0),(0,nP b0 0),(3,nI i3)]) (w':=w153) (by kernel_rfl) ?_
     intro a160 hF159; clear hF157
     refine ev_call 79 #[nP b0 0,nI i3,nI (-1)] hF159 rfl rfl (by kernel_rfl) rfl (by kernel_rfl) (fun w=>by kernel_rfl) ?_
     obtain ⟨s161,hx162,hm163⟩:=bind1E hm152; clear hm152
     refine (list_follow.ok hS158 hx162).mono ?_
     rintro _ w164 ⟨rfl,hS166⟩ a165 hF167; clear hF159 hS158
     refine wpList_nil ?_
     have hF168:=hF167.keep []
     clear hF167
     refine thenN (wp_seq (wp_region_lit ?_))
     refine ev_runs 1 hF168 (l':=[(8,.bool true)]) (w':=w164) (by kernel_rfl) ?_
     intro a170 hF169; clear hF168
     refine wpList_nil (thenN ?_)
     refine wp_ret ?_
     simp only [Option.some.injEq,Prod.mk.injEq] at hm163
     obtain ⟨rfl,rfl⟩:=hm163
     refine ev_ret hF169 [8] (.bool true) rfl rfl rfl ?_
     exact ⟨rfl,hS166⟩
   · skip
     cases hc173:(q90.tail == i3)
     case true =>
      rw [hc173] at hF123
      have hm174:=ifYes hc173 hm117; clear hm117
      refine ev_condT hF123 rfl rfl ?_
      refine wp_region_lit ?_
      refine ev_runs 2 hF123 (l':=[(61,nP (w93.heap.size) 1),(60,nI x111),(59,.bool true),(16,nI x111),(15,nB w93),(11,nB w51),(0,nP b0 0),(1,nI i1),(2,.bool (i2)),(3,nI i3)]) (w':=w114) (by kernel_rfl) ?_
      intro a176 hF175; clear hF123
      refine ev_store (nI x111) #[nI x110,nI x111] hF175 (by kernel_rfl) rfl rfl rfl rfl (by kernel_rfl) hS116 (by kernel_rfl) (by kernel_rfl) (by kernel_rfl) (l':=[(61,nP (w93.heap.size) 1),(60,nI x111),(59,.bool true),(16,nI x111),(15,nB w93),(11,nB w51),(0,nP b0 0),(1,nI i1),(2,.bool (i2)),(3,nI i3)]) (by kernel_rfl) ?_
      intro w177 a178 hS179 hF180; clear hF175 hS116
      refine wpList_nil ?_
      have hF181:=hF180.keep [0,1,2,3,11,15]
      clear hF180
      exact thenN ⟨x111,hF181,hS179,hm174⟩
     rw [hc173] at hF123
     have hm182:=ifNot hc173 hm117; clear hm117
     refine ev_condF hF123 rfl rfl ?_
     refine wp_skip ?_
     have hF183:=hF123.keep [0,1,2,3,11,15]
     clear hF123
     exact thenN ⟨q90.tail,hF183,hS116,hm182⟩
 · skip
   cases hc184:(decide (x24 > 0))
   case true =>
    rw [hc184] at hF107
    have hm185:=ifYes hc184 hm92; clear hm92
    refine ev_condT hF107 rfl rfl ?_
    refine wp_seq (wp_region_lit ?_)
    refine ev_runs 3 hF107 (l':=[(45,nI (IntKind.i64.wrap (x24 - 1))),(44,nI x24),(43,.slice p15 L5.length c16),(42,.bool true),(16,nI (-1)),(15,nB w93),(13,nB w72),(11,nB w51),(10,nI x24),(9,.slice p15 L5.length c16),(0,nP b0 0),(1,nI i1),(2,.bool (i2)),(3,nI i3)]) (w':=w101) (by kernel_rfl) ?_
    intro a187 hF186; clear hF107
    obtain ⟨hc188,hm189⟩:=ifTE hm185; clear hm185
    obtain ⟨g190,rfl⟩:=hp17.resolve_left (by have:=inR_spec hc188; omega)
    refine ev_one (nP g190 ((IntKind.i64.wrap (x24 - 1)).toNat)) w101 hF186 (by kernel_rfl) rfl (by kernel_rfl) (run_idx rfl rfl rfl rfl rfl (inR_spec hc188).1 (inR_spec hc188).2 _) (l':=[(46,nP g190 ((IntKind.i64.wrap (x24 - 1)).toNat)),(45,nI (IntKind.i64.wrap (x24 - 1))),(44,nI x24),(43,nS g190 L5 c16),(42,.bool true),(16,nI (-1)),(15,nB w93),(13,nB w72),(11,nB w51),(10,nI x24),(9,nS g190 L5 c16),(0,nP b0 0),(1,nI i1),(2,.bool (i2)),(3,nI i3)]) (by kernel_rfl) ?_
    intro a192 hF191; clear hF186
    refine ev_one (nI (atI L5 (IntKind.i64.wrap (x24 - 1)))) w101 hF191 (by kernel_rfl) rfl (by kernel_rfl) (run_load1 rfl rfl rfl (hS103.atI 4 rfl hc188)) (l':=[(47,nI (atI L5 (IntKind.i64.wrap (x24 - 1)))),(46,nP g190 ((IntKind.i64.wrap (x24 - 1)).toNat)),(45,nI (IntKind.i64.wrap (x24 - 1))),(44,nI x24),(43,nS g190 L5 c16),(42,.bool true),(16,nI (-1)),(15,nB w93),(13,nB w72),(11,nB w51),(10,nI x24),(9,nS g190 L5 c16),(0,nP b0 0),(1,nI i1),(2,.bool (i2)),(3,nI i3)]) (by kernel_rfl) ?_
    intro a194 hF193; clear hF191
    refine ev_runK 1 hF193 [0,1,2,3,11,13,15,16] (l':=[(16,nI (atI L5 (IntKind.i64.wrap (x24 - 1)))),(15,nB w93),(13,nB w72),(11,nB w51),(0,nP b0 0),(1,nI i1),(2,.bool (i2)),(3,nI i3)]) (w':=w101) (by kernel_rfl) ?_
    intro a196 hF195; clear hF193
    refine wpList_nil ?_
    have hS197:=hS103.pick4.drop
    clear hS103
    refine thenN (wp_region_lit ?_)
    refine ev_runs 3 hF195 (l':=[(50,nP (w72.heap.size) 3),(49,nI (atI L5 (IntKind.i64.wrap (x24 - 1)))),(48,nP b0 0),(16,nI (atI L5 (IntKind.i64.wrap (x24 - 1)))),(15,nB w93),(13,nB w72),(11,nB w51),(0,nP b0 0),(1,nI i1),(2,.bool (i2)),(3,nI i3)]) (w':=w101) (by kernel_rfl) ?_
    intro a199 hF198; clear hF195
    refine ev_one (nI (q68.next)) w101 hF198 (by kernel_rfl) rfl (by kernel_rfl) (run_loadV rfl rfl (run_loadS rfl rfl (hS197.cell 1 rfl 3 rfl))) (l':=[(51,nI (q68.next)),(50,nP (w72.heap.size) 3),(49,nI (atI L5 (IntKind.i64.wrap (x24 - 1)))),(48,nP b0 0),(16,nI (atI L5 (IntKind.i64.wrap (x24 - 1)))),(15,nB w93),(13,nB w72),(11,nB w51),(0,nP b0 0),(1,nI i1),(2,.bool (i2)),(3,nI i3)]) (by kernel_rfl) ?_
    intro a201 hF200; clear hF198
    have hS202:=hS197.pick2
    clear hS197
    refine ev_call 79 #[nP b0 0,nI (atI L5 (IntKind.i64.wrap (x24 - 1))),nI (q68.next)] hF200 rfl rfl (by kernel_rfl) rfl (by kernel_rfl) (fun w=>by kernel_rfl) ?_
    obtain ⟨s203,hx204,hm205⟩:=bind1E hm189; clear hm189
    refine (list_follow.ok hS202 hx204).mono ?_
    rintro _ w206 ⟨rfl,hS208⟩ a207 hF209; clear hF200 hS202
    refine wpList_nil ?_
    have hF210:=hF209.keep [0,1,2,3,11,15,16]
    clear hF209
    have hS211:=hS208.pick2.drop
    clear hS208
    have hS212:=hS211.pick2.pick1.pick2
    clear hS211
    exact thenN ⟨s203,q90.head,atI L5 (IntKind.i64.wrap (x24 - 1)),hF210,hS212,hm205⟩
   rw [hc184] at hF107
   have hm213:=ifNot hc184 hm92; clear hm92
   refine ev_condF hF107 rfl rfl ?_
   refine wp_region_lit ?_
   refine ev_runs 1 hF107 (l':=[(53,nP (w72.heap.size) 3),(42,.bool false),(16,nI (-1)),(15,nB w93),(13,nB w72),(11,nB w51),(10,nI x24),(9,.slice p15 L5.length c16),(0,nP b0 0),(1,nI i1),(2,.bool (i2)),(3,nI i3)]) (w':=w101) (by kernel_rfl) ?_
   intro a215 hF214; clear hF107
   refine ev_one (nI (q68.next)) w101 hF214 (by kernel_rfl) rfl (by kernel_rfl) (run_loadV rfl rfl (run_loadS rfl rfl (hS103.cell 1 rfl 3 rfl))) (l':=[(54,nI (q68.next)),(53,nP (w72.heap.size) 3),(42,.bool false),(16,nI (-1)),(15,nB w93),(13,nB w72),(11,nB w51),(10,nI x24),(9,.slice p15 L5.length c16),(0,nP b0 0),(1,nI i1),(2,.bool (i2)),(3,nI i3)]) (by kernel_rfl) ?_
   intro a217 hF216; clear hF214
   refine ev_runs 1 hF216 (l':=[(55,nB w93),(54,nI (q68.next)),(53,nP (w72.heap.size) 3),(42,.bool false),(16,nI (-1)),(15,nB w93),(13,nB w72),(11,nB w51),(10,nI x24),(9,.slice p15 L5.length c16),(0,nP b0 0),(1,nI i1),(2,.bool (i2)),(3,nI i3)]) (w':=w101) (by kernel_rfl) ?_
   intro a219 hF218; clear hF216
   refine ev_store (nI (q68.next)) #[nI (q68.next),nI (q90.tail)] hF218 (by kernel_rfl) rfl rfl rfl rfl (by kernel_rfl) hS103 (by kernel_rfl) (by kernel_rfl) (by kernel_rfl) (l':=[(55,nB w93),(54,nI (q68.next)),(53,nP (w72.heap.size) 3),(42,.bool false),(16,nI (-1)),(15,nB w93),(13,nB w72),(11,nB w51),(10,nI x24),(9,.slice p15 L5.length c16),(0,nP b0 0),(1,nI i1),(2,.bool (i2)),(3,nI i3)]) (by kernel_rfl) ?_
   intro w220 a221 hS222 hF223; clear hF218 hS103
   refine wpList_nil ?_
   have hF224:=hF223.keep [0,1,2,3,11,15,16]
   clear hF223
   have hS225:=hS222.pick1.drop.pick3.drop
   clear hS222
   exact thenN ⟨s6,q68.next,-1,hF224,hS225,hm213⟩
end Go.Proofs.YtaojmbkmicjecaaGreat
namespace Go.Proofs.YtaojmbkmicjecaaGreat
open Go.RowKit
set_option linter.unusedVariables false
def wake_look.m (k:Nat) (s0:HSt) (i1:Int):Option (Option (Su ⊕ Gr)×HSt):=bind2 (pSudog i1 s0) fun q5 x6=>(if (x6 == 0) then some ((some (.inl (⟨q5.gor,q5.chan,q5.value,q5.next,q5.to,q5.reg,q5.more⟩:Su))),s0) else bind3 (view_Gor.m k s0 i1) fun q39 x40 s41=>(if (x40 == 0) then some ((some (.inr (⟨q39.id,q39.status,q39.pc,q39.a,q39.b,q39.c,q39.d,q39.e,q39.f,q39.sudogs⟩:Gr))),s41) else some (none,s41)))
set_option maxRecDepth 100000 in
set_option maxHeartbeats 1500000 in
theorem wake_look.ok {w0 w:World} {F0:List Nat} {ps:List Piece} {k:Nat} {b0 ab0:Nat} {s0:HSt} {i1:Int} {r0:Option (Su ⊕ Gr)} {t0:HSt} (hS:St w0 F0 (HeapP b0 ab0 s0::ps) w) (hm:wake_look.m k s0 i1=some (r0,t0)) :
    Calls Tryz.prog 129 #[nP b0 0,nI i1] w fun e w'=>e=.returned (oSGV 54 70 r0)∧St w0 F0 (HeapP b0 ab0 t0::ps) w':=by
 refine ev_enterL 29 [nP b0 0,nI i1] Tryz.func129 rfl rfl (by simp) ?_
 intro a hF
 have hF0:Fr 29 a [(0,nP b0 0),(1,nI i1)]:=hF; clear hF
 unfold wake_look.m at hm
 refine wp_seq (wp_region_lit ?_)
 refine ev_runK 1 hF0 [0,1] (l':=[(0,nP b0 0),(1,nI i1)]) (w':=w) (by kernel_rfl) ?_
 intro a2 hF1; clear hF0
 refine wpList_nil (thenN (wp_seq (wp_seq (wp_region_lit ?_))))
 refine ev_runs 2 hF1 (l':=[(11,nI i1),(10,nP b0 0),(0,nP b0 0),(1,nI i1)]) (w':=w) (by kernel_rfl) ?_
 intro a4 hF3; clear hF1
 refine ev_call 30 #[nP b0 0,nI i1] hF3 rfl rfl (by kernel_rfl) rfl (by kernel_rfl) (fun w=>by kernel_rfl) ?_
 obtain ⟨q5,x6,hx7,hm8⟩:=bind2E hm; clear hm
 refine (p_Sudog hS hx7).mono ?_
 rintro _ w9 ⟨rfl,hS11⟩ a10 hF12; clear hF3 hS
 refine ev_runs 4 hF12 (l':=[(5,nB w9),(14,nI x6),(13,.agg #[nI (q5.gor),nI (q5.chan),nI (q5.value),nI (q5.next),nI (q5.to),nI (q5.reg),nI (q5.more)]),(9,.tuple #[.agg #[nI (q5.gor),nI (q5.chan),nI (q5.value),nI (q5.next),nI (q5.to),nI (q5.reg),nI (q5.more)],nI x6]),(12,.tuple #[.agg #[nI (q5.gor),nI (q5.chan),nI (q5.value),nI (q5.next),nI (q5.to),nI (q5.reg),nI (q5.more)],nI x6]),(11,nI i1),(10,nP b0 0),(0,nP b0 0),(1,nI i1)]) (w':=w9.alloc (.cells #[nI 0,nI 0,nI 0,nI 0,nI 0,nI 0,nI 0] 54)) (by kernel_rfl) ?_
 intro a14 hF13; clear hF12
 have hS16:St w0 F0 (BlkP (w9.heap.size) 54 #[nI 0,nI 0,nI 0,nI 0,nI 0,nI 0,nI 0]::HeapP b0 ab0 s0::ps) (w9.alloc (.cells #[nI 0,nI 0,nI 0,nI 0,nI 0,nI 0,nI 0] 54)):=St.new hS11 #[nI 0,nI 0,nI 0,nI 0,nI 0,nI 0,nI 0] 54
 clear hS11
 refine ev_store (.agg #[nI (q5.gor),nI (q5.chan),nI (q5.value),nI (q5.next),nI (q5.to),nI (q5.reg),nI (q5.more)]) #[nI (q5.gor),nI (q5.chan),nI (q5.value),nI (q5.next),nI (q5.to),nI (q5.reg),nI (q5.more)] hF13 (by kernel_rfl) rfl rfl rfl rfl (by kernel_rfl) hS16 (by kernel_rfl) (by kernel_rfl) (by kernel_rfl) (l':=[(5,nB w9),(14,nI x6),(13,.agg #[nI (q5.gor),nI (q5.chan),nI (q5.value),nI (q5.next),nI (q5.to),nI (q5.reg),nI (q5.more)]),(9,.tuple #[.agg #[nI (q5.gor),nI (q5.chan),nI (q5.value),nI (q5.next),nI (q5.to),nI (q5.reg),nI (q5.more)],nI x6]),(12,.tuple #[.agg #[nI (q5.gor),nI (q5.chan),nI (q5.value),nI (q5.next),nI (q5.to),nI (q5.reg),nI (q5.more)],nI x6]),(11,nI i1),(10,nP b0 0),(0,nP b0 0),(1,nI i1)]) (by kernel_rfl) ?_
 intro w17 a18 hS19 hF20; clear hF13 hS16
 refine ev_runK 1 hF20 [0,1,5,6] (l':=[(6,nI x6),(5,nB w9),(0,nP b0 0),(1,nI i1)]) (w':=w17) (by kernel_rfl) ?_
 intro a22 hF21; clear hF20
 refine wpList_nil (thenN (wp_seq (wp_region_lit ?_)))
 refine ev_runK 2 hF21 [0,1,5,16] (l':=[(16,.bool (x6 == 0)),(5,nB w9),(0,nP b0 0),(1,nI i1)]) (w':=w17) (by kernel_rfl) ?_
 intro a24 hF23; clear hF21
 refine wpList_nil (thenN ?_)
 cases hc25:(x6 == 0)
 case true =>
  rw [hc25] at hF23
  have hm26:=ifYes hc25 hm8; clear hm8
  refine ev_condT hF23 rfl rfl ?_
  refine wp_seq (wp_region_lit ?_)
  refine ev_one (.agg #[nI (q5.gor),nI (q5.chan),nI (q5.value),nI (q5.next),nI (q5.to),nI (q5.reg),nI (q5.more)]) w17 hF23 (by kernel_rfl) rfl (by kernel_rfl) (run_loadV rfl rfl (run_loadA (cs:=[nI (q5.gor),nI (q5.chan),nI (q5.value),nI (q5.next),nI (q5.to),nI (q5.reg),nI (q5.more)]) rfl rfl (by kernel_rfl) (blk_cells hS19 0 rfl rfl))) (l':=[(17,.agg #[nI (q5.gor),nI (q5.chan),nI (q5.value),nI (q5.next),nI (q5.to),nI (q5.reg),nI (q5.more)]),(16,.bool true),(5,nB w9),(0,nP b0 0),(1,nI i1)]) (by kernel_rfl) ?_
  intro a28 hF27; clear hF23
  refine ev_runK 2 hF27 [4] (l':=[(4,.iface 54 (.agg #[nI (q5.gor),nI (q5.chan),nI (q5.value),nI (q5.next),nI (q5.to),nI (q5.reg),nI (q5.more)]))]) (w':=w17) (by kernel_rfl) ?_
  intro a30 hF29; clear hF27
  refine wpList_nil ?_
  have hS31:=hS19.drop
  clear hS19
  refine thenN ?_
  refine wp_ret ?_
  refine thenR ?_
  simp only [Option.some.injEq,Prod.mk.injEq] at hm26
  obtain ⟨rfl,rfl⟩:=hm26
  refine ev_ret hF29 [4] (.iface 54 (.agg #[nI (q5.gor),nI (q5.chan),nI (q5.value),nI (q5.next),nI (q5.to),nI (q5.reg),nI (q5.more)])) rfl rfl rfl ?_
  exact ⟨rfl,hS31⟩
 rw [hc25] at hF23
 have hm34:=ifNot hc25 hm8; clear hm8
 refine ev_condF hF23 rfl rfl ?_
 refine wp_skip ?_
 have hF35:=hF23.keep [0,1]
 clear hF23
 have hS36:=hS19.drop
 clear hS19
 refine thenN (wp_seq (wp_seq (wp_region_lit ?_)))
 refine ev_runs 2 hF35 (l':=[(21,nI i1),(20,nP b0 0),(0,nP b0 0),(1,nI i1)]) (w':=w17) (by kernel_rfl) ?_
 intro a38 hF37; clear hF35
 refine ev_call 38 #[nP b0 0,nI i1] hF37 rfl rfl (by kernel_rfl) rfl (by kernel_rfl) (fun w=>by kernel_rfl) ?_
 obtain ⟨q39,x40,s41,hx42,hm43⟩:=bind3E hm34; clear hm34
 refine (view_Gor.ok hS36 hx42).mono ?_
 rintro _ w44 ⟨rfl,hS46⟩ a45 hF47; clear hF37 hS36
 refine ev_runs 4 hF47 (l':=[(7,nB w44),(24,nI x40),(23,.agg #[nI (q39.id),nI (q39.status),nI (q39.pc),nI (q39.a),nI (q39.b),nI (q39.c),nI (q39.d),nI (q39.e),nI (q39.f),nI (q39.sudogs)]),(19,.tuple #[.agg #[nI (q39.id),nI (q39.status),nI (q39.pc),nI (q39.a),nI (q39.b),nI (q39.c),nI (q39.d),nI (q39.e),nI (q39.f),nI (q39.sudogs)],nI x40]),(22,.tuple #[.agg #[nI (q39.id),nI (q39.status),nI (q39.pc),nI (q39.a),nI (q39.b),nI (q39.c),nI (q39.d),nI (q39.e),nI (q39.f),nI (q39.sudogs)],nI x40]),(21,nI i1),(20,nP b0 0),(0,nP b0 0),(1,nI i1)]) (w':=w44.alloc (.cells #[nI 0,nI 0,nI 0,nI 0,nI 0,nI 0,nI 0,nI 0,nI 0,nI 0] 70)) (by kernel_rfl) ?_
 intro a49 hF48; clear hF47
 have hS51:St w0 F0 (BlkP (w44.heap.size) 70 #[nI 0,nI 0,nI 0,nI 0,nI 0,nI 0,nI 0,nI 0,nI 0,nI 0]::HeapP b0 ab0 s41::ps) (w44.alloc (.cells #[nI 0,nI 0,nI 0,nI 0,nI 0,nI 0,nI 0,nI 0,nI 0,nI 0] 70)):=St.new hS46 #[nI 0,nI 0,nI 0,nI 0,nI 0,nI 0,nI 0,nI 0,nI 0,nI 0] 70
 clear hS46
 refine ev_store (.agg #[nI (q39.id),nI (q39.status),nI (q39.pc),nI (q39.a),nI (q39.b),nI (q39.c),nI (q39.d),nI (q39.e),nI (q39.f),nI (q39.sudogs)]) #[nI (q39.id),nI (q39.status),nI (q39.pc),nI (q39.a),nI (q39.b),nI (q39.c),nI (q39.d),nI (q39.e),nI (q39.f),nI (q39.sudogs)] hF48 (by kernel_rfl) rfl rfl rfl rfl (by kernel_rfl) hS51 (by kernel_rfl) (by kernel_rfl) (by kernel_rfl) (l':=[(7,nB w44),(24,nI x40),(23,.agg #[nI (q39.id),nI (q39.status),nI (q39.pc),nI (q39.a),nI (q39.b),nI (q39.c),nI (q39.d),nI (q39.e),nI (q39.f),nI (q39.sudogs)]),(19,.tuple #[.agg #[nI (q39.id),nI (q39.status),nI (q39.pc),nI (q39.a),nI (q39.b),nI (q39.c),nI (q39.d),nI (q39.e),nI (q39.f),nI (q39.sudogs)],nI x40]),(22,.tuple #[.agg #[nI (q39.id),nI (q39.status),nI (q39.pc),nI (q39.a),nI (q39.b),nI (q39.c),nI (q39.d),nI (q39.e),nI (q39.f),nI (q39.sudogs)],nI x40]),(21,nI i1),(20,nP b0 0),(0,nP b0 0),(1,nI i1)]) (by kernel_rfl) ?_
 intro w52 a53 hS54 hF55; clear hF48 hS51
 refine ev_runK 1 hF55 [7,8] (l':=[(8,nI x40),(7,nB w44)]) (w':=w52) (by kernel_rfl) ?_
 intro a57 hF56; clear hF55
 refine wpList_nil (thenN (wp_seq (wp_region_lit ?_)))
 refine ev_runK 2 hF56 [7,26] (l':=[(26,.bool (x40 == 0)),(7,nB w44)]) (w':=w52) (by kernel_rfl) ?_
 intro a59 hF58; clear hF56
 refine wpList_nil (thenN ?_)
 cases hc60:(x40 == 0)
 case true =>
  rw [hc60] at hF58
  have hm61:=ifYes hc60 hm43; clear hm43
  refine ev_condT hF58 rfl rfl ?_
  refine wp_seq (wp_region_lit ?_)
  refine ev_one (.agg #[nI (q39.id),nI (q39.status),nI (q39.pc),nI (q39.a),nI (q39.b),nI (q39.c),nI (q39.d),nI (q39.e),nI (q39.f),nI (q39.sudogs)]) w52 hF58 (by kernel_rfl) rfl (by kernel_rfl) (run_loadV rfl rfl (run_loadA (cs:=[nI (q39.id),nI (q39.status),nI (q39.pc),nI (q39.a),nI (q39.b),nI (q39.c),nI (q39.d),nI (q39.e),nI (q39.f),nI (q39.sudogs)]) rfl rfl (by kernel_rfl) (blk_cells hS54 0 rfl rfl))) (l':=[(27,.agg #[nI (q39.id),nI (q39.status),nI (q39.pc),nI (q39.a),nI (q39.b),nI (q39.c),nI (q39.d),nI (q39.e),nI (q39.f),nI (q39.sudogs)]),(26,.bool true),(7,nB w44)]) (by kernel_rfl) ?_
  intro a63 hF62; clear hF58
  refine ev_runK 2 hF62 [4] (l':=[(4,.iface 70 (.agg #[nI (q39.id),nI (q39.status),nI (q39.pc),nI (q39.a),nI (q39.b),nI (q39.c),nI (q39.d),nI (q39.e),nI (q39.f),nI (q39.sudogs)]))]) (w':=w52) (by kernel_rfl) ?_
  intro a65 hF64; clear hF62
  refine wpList_nil ?_
  have hS66:=hS54.drop
  clear hS54
  refine thenN ?_
  refine wp_ret ?_
  refine thenR ?_
  simp only [Option.some.injEq,Prod.mk.injEq] at hm61
  obtain ⟨rfl,rfl⟩:=hm61
  refine ev_ret hF64 [4] (.iface 70 (.agg #[nI (q39.id),nI (q39.status),nI (q39.pc),nI (q39.a),nI (q39.b),nI (q39.c),nI (q39.d),nI (q39.e),nI (q39.f),nI (q39.sudogs)])) rfl rfl rfl ?_
  exact ⟨rfl,hS66⟩
 rw [hc60] at hF58
 have hm69:=ifNot hc60 hm43; clear hm43
 refine ev_condF hF58 rfl rfl ?_
 refine wp_skip ?_
 have hF70:=hF58.keep []
 clear hF58
 have hS71:=hS54.drop
 clear hS54
 refine thenN (wp_seq (wp_region_lit ?_))
 refine ev_runs 1 hF70 (l':=[(4,.nilIface)]) (w':=w52) (by kernel_rfl) ?_
 intro a73 hF72; clear hF70
 refine wpList_nil (thenN ?_)
 refine wp_ret ?_
 simp only [Option.some.injEq,Prod.mk.injEq] at hm69
 obtain ⟨rfl,rfl⟩:=hm69
 refine ev_ret hF72 [4] (.nilIface) rfl rfl rfl ?_
 exact ⟨rfl,hS71⟩
def wake_leave.l1b (k:Nat) (rec12:(Int→Int)→HSt→Int→Option (HSt)) (f7:(Int→Int)) (s8:HSt) (x9:Int):Option (HSt):=(if (wdR x9) then (if ((f7 x9) == 0) then bind2 (wake_look.m k s8 x9) fun o32 s33=>optE o32 (some (s33)) fun q55=>sumE q55 (fun q57=>(if (keyR x9) then (if (wdR (IntKind.i64.wrap ((f7 x9)+1))) then bind2 (list_Remove.m k s33 q57.chan (true) x9) fun y97 s98=>bind2 (list_Remove.m k s98 q57.chan (false) x9) fun y112 s113=>rec12 ((updM f7 x9 (IntKind.i64.wrap ((f7 x9)+1)))) s113 q57.more else none) else none)) fun q58=>some (s33) else some (s8)) else none)
def wake_leave.l1 (k:Nat):Nat→(Int→Int)→HSt→Int→Option (HSt)
  | 0=>fun _ _ _=>none
  | kI+1=>wake_leave.l1b k (wake_leave.l1 k kI)
def wake_leave.m (k:Nat) (s0:HSt) (i1:Int):Option (HSt):=wake_leave.l1 k k (fun _=>0) s0 i1
set_option maxRecDepth 100000 in
set_option maxHeartbeats 1500000 in
theorem wake_leave.ok {w0 w:World} {F0:List Nat} {ps:List Piece} {k:Nat} {b0 ab0:Nat} {s0:HSt} {i1:Int} {t0:HSt} (hS:St w0 F0 (HeapP b0 ab0 s0::ps) w) (hm:wake_leave.m k s0 i1=some t0) :
    Calls Tryz.prog 87 #[nP b0 0,nI i1] w fun e w'=>e=.returned (.tuple #[])∧St w0 F0 (HeapP b0 ab0 t0::ps) w':=by
 refine ev_enterL 37 [nP b0 0,nI i1] Tryz.func87 rfl rfl (by simp) ?_
 intro a hF
 have hF0:Fr 37 a [(0,nP b0 0),(1,nI i1)]:=hF; clear hF
 unfold wake_leave.m at hm
 refine wp_seq (wp_region_lit ?_)
 refine ev_runs 1 hF0 (l':=[(7,.map (some (w.heap.size))),(0,nP b0 0),(1,nI i1)]) (w':=w.alloc (.map #[] 0)) (by kernel_rfl) ?_
 intro a3 hF2; clear hF0
 have hS4:St w0 F0 (ColP (w.heap.size) (fun _=>0)::HeapP b0 ab0 s0::ps) (w.alloc (.map #[] 0)):=St.newMap hS
 refine ev_runK 1 hF2 [0,1,4] (l':=[(4,.map (some (w.heap.size))),(0,nP b0 0),(1,nI i1)]) (w':=w.alloc (.map #[] 0)) (by kernel_rfl) ?_
 intro a6 hF5; clear hF2
 refine wpList_nil (thenN ?_)
 refine wp_block ?_
 refine wp_loop_ghost (fun kI aI wI=>∃ (f7:(Int→Int)) (s8:HSt) (x9:Int),Fr 37 aI [(4,.map (some (w.heap.size))),(0,nP b0 0),(1,nI x9)]∧St w0 F0 (ColP (w.heap.size) f7::HeapP b0 ab0 s8::ps) wI∧wake_leave.l1 k kI f7 s8 x9=some t0) k ⟨(fun _=>0),s0,i1,hF5,hS4,hm⟩ ?_
 rintro k10 a11 w12 ⟨f7,s8,x9,hF13,hS14,hm15⟩
 clear hF5 hS4 hm
 rcases k10 with _ | k10
 · cases hm15
 have hm16:wake_leave.l1b k (wake_leave.l1 k k10) f7 s8 x9=some t0:=hm15
 clear hm15
 unfold wake_leave.l1b at hm16
 refine wp_seq (wp_seq (wp_region_lit ?_))
 refine ev_runs 2 hF13 (l':=[(9,nI x9),(8,.map (some (w.heap.size))),(4,.map (some (w.heap.size))),(0,nP b0 0),(1,nI x9)]) (w':=w12) (by kernel_rfl) ?_
 intro a18 hF17; clear hF13
 obtain ⟨hc19,hm20⟩:=ifTE hm16; clear hm16
 refine ev_colGet 10 0 (.tmp 8) (.tmp 9) x9 hF17 hS14 rfl rfl rfl (by kernel_rfl) rfl (by kernel_rfl) (by kernel_rfl) rfl rfl hc19 ?_
 intro a22 hF21; clear hF17
 have hF23:Fr 37 a22 [(10,nI (f7 x9)),(9,nI x9),(8,.map (some (w.heap.size))),(4,.map (some (w.heap.size))),(0,nP b0 0),(1,nI x9)]:=hF21
 clear hF21
 refine ev_runK 1 hF23 [0,1,4,11] (l':=[(11,.bool ((f7 x9) == 0)),(4,.map (some (w.heap.size))),(0,nP b0 0),(1,nI x9)]) (w':=w12) (by kernel_rfl) ?_
 intro a25 hF24; clear hF23
 refine wpList_nil (thenN ?_)
 cases hc26:((f7 x9) == 0)
 case true =>
  rw [hc26] at hF24
  have hm27:=ifYes hc26 hm20; clear hm20
  refine ev_condT hF24 rfl rfl ?_
  refine wp_skip ?_
  have hF28:=hF24.keep [0,1,4]
  clear hF24
  refine thenN ?_
  refine wp_block ?_
  refine wp_seq (wp_region_lit ?_)
  refine ev_runs 2 hF28 (l':=[(14,nI x9),(13,nP b0 0),(4,.map (some (w.heap.size))),(0,nP b0 0),(1,nI x9)]) (w':=w12) (by kernel_rfl) ?_
  intro a30 hF29; clear hF28
  have hS31:=hS14.pick1
  clear hS14
  refine ev_call 129 #[nP b0 0,nI x9] hF29 rfl rfl (by kernel_rfl) rfl (by kernel_rfl) (fun w=>by kernel_rfl) ?_
  obtain ⟨o32,s33,hx34,hm35⟩:=bind2E hm27; clear hm27
  refine (wake_look.ok hS31 hx34).mono ?_
  rintro _ w36 ⟨rfl,hS38⟩ a37 hF39; clear hF29 hS31
  cases o32 with
  | none =>
   have hm40:=optN hm35; clear hm35
   refine ev_runs 5 hF39 (l':=[(5,nB w36),(18,.bool false),(17,.agg #[nI 0,nI 0,nI 0,nI 0,nI 0,nI 0,nI 0]),(12,.tuple #[.agg #[nI 0,nI 0,nI 0,nI 0,nI 0,nI 0,nI 0],.bool false]),(16,.tuple #[.agg #[nI 0,nI 0,nI 0,nI 0,nI 0,nI 0,nI 0],.bool false]),(15,.nilIface),(14,nI x9),(13,nP b0 0),(4,.map (some (w.heap.size))),(0,nP b0 0),(1,nI x9)]) (w':=w36.alloc (.cells #[nI 0,nI 0,nI 0,nI 0,nI 0,nI 0,nI 0] 54)) (by kernel_rfl) ?_
   intro a42 hF41; clear hF39
   have hS44:St w0 F0 (BlkP (w36.heap.size) 54 #[nI 0,nI 0,nI 0,nI 0,nI 0,nI 0,nI 0]::HeapP b0 ab0 s33::ColP (w.heap.size) f7::ps) (w36.alloc (.cells #[nI 0,nI 0,nI 0,nI 0,nI 0,nI 0,nI 0] 54)):=St.new hS38 #[nI 0,nI 0,nI 0,nI 0,nI 0,nI 0,nI 0] 54
   clear hS38
   refine ev_store (.agg #[nI 0,nI 0,nI 0,nI 0,nI 0,nI 0,nI 0]) #[nI 0,nI 0,nI 0,nI 0,nI 0,nI 0,nI 0] hF41 (by kernel_rfl) rfl rfl rfl rfl (by kernel_rfl) hS44 (by kernel_rfl) (by kernel_rfl) (by kernel_rfl) (l':=[(5,nB w36),(18,.bool false),(17,.agg #[nI 0,nI 0,nI 0,nI 0,nI 0,nI 0,nI 0]),(12,.tuple #[.agg #[nI 0,nI 0,nI 0,nI 0,nI 0,nI 0,nI 0],.bool false]),(16,.tuple #[.agg #[nI 0,nI 0,nI 0,nI 0,nI 0,nI 0,nI 0],.bool false]),(15,.nilIface),(14,nI x9),(13,nP b0 0),(4,.map (some (w.heap.size))),(0,nP b0 0),(1,nI x9)]) (by kernel_rfl) ?_
   intro w45 a46 hS47 hF48; clear hF41 hS44
   refine ev_runK 1 hF48 [0,1,4,5,6] (l':=[(6,.bool false),(5,nB w36),(4,.map (some (w.heap.size))),(0,nP b0 0),(1,nI x9)]) (w':=w45) (by kernel_rfl) ?_
   intro a50 hF49; clear hF48
   refine wpList_nil (thenN (wp_seq (wp_seq (wp_region_lit ?_))))
   refine ev_runK 2 hF49 [0,1,4,5,20] (l':=[(20,.bool true),(5,nB w36),(4,.map (some (w.heap.size))),(0,nP b0 0),(1,nI x9)]) (w':=w45) (by kernel_rfl) ?_
   intro a52 hF51; clear hF49
   refine wpList_nil (thenN ?_)
   refine ev_condT hF51 rfl rfl ?_
   refine wp_ret ?_
   refine thenR ?_
   refine blockR ?_
   refine thenR ?_
   refine blockR ?_
   have hS53:=hS47.drop.pick1.drop
   clear hS47
   obtain rfl:=Option.some.inj hm40
   refine ev_ret hF51 [] (.tuple #[]) rfl rfl rfl ?_
   exact ⟨rfl,hS53⟩
  | some q55 =>
   have hm56:=optS hm35; clear hm35
   cases q55 with
   | inl q57 =>
    have hm59:=sumL hm56; clear hm56
    refine ev_runs 5 hF39 (l':=[(5,nB w36),(18,.bool true),(17,.agg #[nI (q57.gor),nI (q57.chan),nI (q57.value),nI (q57.next),nI (q57.to),nI (q57.reg),nI (q57.more)]),(12,.tuple #[.agg #[nI (q57.gor),nI (q57.chan),nI (q57.value),nI (q57.next),nI (q57.to),nI (q57.reg),nI (q57.more)],.bool true]),(16,.tuple #[.agg #[nI (q57.gor),nI (q57.chan),nI (q57.value),nI (q57.next),nI (q57.to),nI (q57.reg),nI (q57.more)],.bool true]),(15,.iface 54 (.agg #[nI (q57.gor),nI (q57.chan),nI (q57.value),nI (q57.next),nI (q57.to),nI (q57.reg),nI (q57.more)])),(14,nI x9),(13,nP b0 0),(4,.map (some (w.heap.size))),(0,nP b0 0),(1,nI x9)]) (w':=w36.alloc (.cells #[nI 0,nI 0,nI 0,nI 0,nI 0,nI 0,nI 0] 54)) (by kernel_rfl) ?_
    intro a61 hF60; clear hF39
    have hS63:St w0 F0 (BlkP (w36.heap.size) 54 #[nI 0,nI 0,nI 0,nI 0,nI 0,nI 0,nI 0]::HeapP b0 ab0 s33::ColP (w.heap.size) f7::ps) (w36.alloc (.cells #[nI 0,nI 0,nI 0,nI 0,nI 0,nI 0,nI 0] 54)):=St.new hS38 #[nI 0,nI 0,nI 0,nI 0,nI 0,nI 0,nI 0] 54
    clear hS38
    refine ev_store (.agg #[nI (q57.gor),nI (q57.chan),nI (q57.value),nI (q57.next),nI (q57.to),nI (q57.reg),nI (q57.more)]) #[nI (q57.gor),nI (q57.chan),nI (q57.value),nI (q57.next),nI (q57.to),nI (q57.reg),nI (q57.more)] hF60 (by kernel_rfl) rfl rfl rfl rfl (by kernel_rfl) hS63 (by kernel_rfl) (by kernel_rfl) (by kernel_rfl) (l':=[(5,nB w36),(18,.bool true),(17,.agg #[nI (q57.gor),nI (q57.chan),nI (q57.value),nI (q57.next),nI (q57.to),nI (q57.reg),nI (q57.more)]),(12,.tuple #[.agg #[nI (q57.gor),nI (q57.chan),nI (q57.value),nI (q57.next),nI (q57.to),nI (q57.reg),nI (q57.more)],.bool true]),(16,.tuple #[.agg #[nI (q57.gor),nI (q57.chan),nI (q57.value),nI (q57.next),nI (q57.to),nI (q57.reg),nI (q57.more)],.bool true]),(15,.iface 54 (.agg #[nI (q57.gor),nI (q57.chan),nI (q57.value),nI (q57.next),nI (q57.to),nI (q57.reg),nI (q57.more)])),(14,nI x9),(13,nP b0 0),(4,.map (some (w.heap.size))),(0,nP b0 0),(1,nI x9)]) (by kernel_rfl) ?_
    intro w64 a65 hS66 hF67; clear hF60 hS63
    refine ev_runK 1 hF67 [0,1,4,5,6] (l':=[(6,.bool true),(5,nB w36),(4,.map (some (w.heap.size))),(0,nP b0 0),(1,nI x9)]) (w':=w64) (by kernel_rfl) ?_
    intro a69 hF68; clear hF67
    refine wpList_nil (thenN (wp_seq (wp_seq (wp_region_lit ?_))))
    refine ev_runK 2 hF68 [0,1,4,5,20] (l':=[(20,.bool false),(5,nB w36),(4,.map (some (w.heap.size))),(0,nP b0 0),(1,nI x9)]) (w':=w64) (by kernel_rfl) ?_
    intro a71 hF70; clear hF68
    refine wpList_nil (thenN ?_)
    refine ev_condF hF70 rfl rfl ?_
    refine wp_skip ?_
    have hF72:=hF70.keep [0,1,4,5]
    clear hF70
    refine thenN (wp_seq (wp_region_lit ?_))
    refine ev_runs 2 hF72 (l':=[(22,nI x9),(21,.map (some (w.heap.size))),(5,nB w36),(4,.map (some (w.heap.size))),(0,nP b0 0),(1,nI x9)]) (w':=w64) (by kernel_rfl) ?_
    intro a74 hF73; clear hF72
    refine ev_colGet 23 2 (.tmp 21) (.tmp 22) x9 hF73 hS66 rfl rfl rfl (by kernel_rfl) rfl (by kernel_rfl) (by kernel_rfl) rfl rfl hc19 ?_
    intro a76 hF75; clear hF73
    have hF77:Fr 37 a76 [(23,nI (f7 x9)),(22,nI x9),(21,.map (some (w.heap.size))),(5,nB w36),(4,.map (some (w.heap.size))),(0,nP b0 0),(1,nI x9)]:=hF75
    clear hF75
    refine ev_runs 1 hF77 (l':=[(24,nI (IntKind.i64.wrap ((f7 x9)+1))),(23,nI (f7 x9)),(22,nI x9),(21,.map (some (w.heap.size))),(5,nB w36),(4,.map (some (w.heap.size))),(0,nP b0 0),(1,nI x9)]) (w':=w64) (by kernel_rfl) ?_
    intro a79 hF78; clear hF77
    have hS80:=hS66.pick2
    clear hS66
    obtain ⟨hc81,hm82⟩:=ifTE hm59; clear hm59
    obtain ⟨hc83,hm84⟩:=ifTE hm82; clear hm82
    refine ev_colSet (.tmp 21) (.tmp 22) (.tmp 24) x9 (IntKind.i64.wrap ((f7 x9)+1)) hF78 hS80 rfl rfl (by kernel_rfl) (by kernel_rfl) (by kernel_rfl) rfl rfl rfl hc81 hc83 (l':=[(24,nI (IntKind.i64.wrap ((f7 x9)+1))),(23,nI (f7 x9)),(22,nI x9),(21,.map (some (w.heap.size))),(5,nB w36),(4,.map (some (w.heap.size))),(0,nP b0 0),(1,nI x9)]) (by kernel_rfl) ?_
    intro w85 a86 hS87 hF88; clear hF78 hS80
    refine wpList_nil ?_
    have hF89:=hF88.keep [0,1,4,5]
    clear hF88
    refine thenN (wp_seq (wp_region_lit ?_))
    refine ev_runs 2 hF89 (l':=[(26,nP (w36.heap.size) 1),(25,nP b0 0),(5,nB w36),(4,.map (some (w.heap.size))),(0,nP b0 0),(1,nI x9)]) (w':=w85) (by kernel_rfl) ?_
    intro a91 hF90; clear hF89
    refine ev_one (nI (q57.chan)) w85 hF90 (by kernel_rfl) rfl (by kernel_rfl) (run_loadV rfl rfl (run_loadS rfl rfl (hS87.cell 1 rfl 1 rfl))) (l':=[(27,nI (q57.chan)),(26,nP (w36.heap.size) 1),(25,nP b0 0),(5,nB w36),(4,.map (some (w.heap.size))),(0,nP b0 0),(1,nI x9)]) (by kernel_rfl) ?_
    intro a93 hF92; clear hF90
    refine ev_runs 1 hF92 (l':=[(28,nI x9),(27,nI (q57.chan)),(26,nP (w36.heap.size) 1),(25,nP b0 0),(5,nB w36),(4,.map (some (w.heap.size))),(0,nP b0 0),(1,nI x9)]) (w':=w85) (by kernel_rfl) ?_
    intro a95 hF94; clear hF92
    have hS96:=hS87.pick2
    clear hS87
    refine ev_call 33 #[nP b0 0,nI (q57.chan),.bool true,nI x9] hF94 rfl rfl (by kernel_rfl) rfl (by kernel_rfl) (fun w=>by kernel_rfl) ?_
    obtain ⟨y97,s98,hx99,hm100⟩:=bind2E hm84; clear hm84
    refine (list_Remove.ok hS96 hx99).mono ?_
    rintro _ w101 ⟨rfl,hS103⟩ a102 hF104; clear hF94 hS96
    refine wpList_nil ?_
    have hF105:=hF104.keep [0,1,4,5]
    clear hF104
    refine thenN (wp_seq (wp_region_lit ?_))
    refine ev_runs 2 hF105 (l':=[(31,nP (w36.heap.size) 1),(30,nP b0 0),(5,nB w36),(4,.map (some (w.heap.size))),(0,nP b0 0),(1,nI x9)]) (w':=w101) (by kernel_rfl) ?_
    intro a107 hF106; clear hF105
    refine ev_one (nI (q57.chan)) w101 hF106 (by kernel_rfl) rfl (by kernel_rfl) (run_loadV rfl rfl (run_loadS rfl rfl (hS103.cell 2 rfl 1 rfl))) (l':=[(32,nI (q57.chan)),(31,nP (w36.heap.size) 1),(30,nP b0 0),(5,nB w36),(4,.map (some (w.heap.size))),(0,nP b0 0),(1,nI x9)]) (by kernel_rfl) ?_
    intro a109 hF108; clear hF106
    refine ev_runs 1 hF108 (l':=[(33,nI x9),(32,nI (q57.chan)),(31,nP (w36.heap.size) 1),(30,nP b0 0),(5,nB w36),(4,.map (some (w.heap.size))),(0,nP b0 0),(1,nI x9)]) (w':=w101) (by kernel_rfl) ?_
    intro a111 hF110; clear hF108
    refine ev_call 33 #[nP b0 0,nI (q57.chan),.bool false,nI x9] hF110 rfl rfl (by kernel_rfl) rfl (by kernel_rfl) (fun w=>by kernel_rfl) ?_
    obtain ⟨y112,s113,hx114,hm115⟩:=bind2E hm100; clear hm100
    refine (list_Remove.ok hS103 hx114).mono ?_
    rintro _ w116 ⟨rfl,hS118⟩ a117 hF119; clear hF110 hS103
    refine wpList_nil ?_
    have hF120:=hF119.keep [0,4,5]
    clear hF119
    refine thenN (wp_region_lit ?_)
    refine ev_runs 1 hF120 (l':=[(35,nP (w36.heap.size) 6),(5,nB w36),(4,.map (some (w.heap.size))),(0,nP b0 0)]) (w':=w116) (by kernel_rfl) ?_
    intro a122 hF121; clear hF120
    refine ev_one (nI (q57.more)) w116 hF121 (by kernel_rfl) rfl (by kernel_rfl) (run_loadV rfl rfl (run_loadS rfl rfl (hS118.cell 2 rfl 6 rfl))) (l':=[(36,nI (q57.more)),(35,nP (w36.heap.size) 6),(5,nB w36),(4,.map (some (w.heap.size))),(0,nP b0 0)]) (by kernel_rfl) ?_
    intro a124 hF123; clear hF121
    refine ev_runK 1 hF123 [0,1,4] (l':=[(1,nI (q57.more)),(4,.map (some (w.heap.size))),(0,nP b0 0)]) (w':=w116) (by kernel_rfl) ?_
    intro a126 hF125; clear hF123
    refine wpList_nil ?_
    have hS127:=hS118.pick2.drop
    clear hS118
    refine blockN ?_
    have hF128:Fr 37 a126 [(4,.map (some (w.heap.size))),(0,nP b0 0),(1,nI (q57.more))]:=Fr.re hF125 (by kernel_rfl)
    clear hF125
    have hS129:=hS127.pick1
    clear hS127
    exact thenN ⟨k10,Nat.lt_succ_self _,(updM f7 x9 (IntKind.i64.wrap ((f7 x9)+1))),s113,q57.more,hF128,hS129,hm115⟩
   | inr q58 =>
    have hm130:=sumR hm56; clear hm56
    refine ev_runs 5 hF39 (l':=[(5,nB w36),(18,.bool false),(17,.agg #[nI 0,nI 0,nI 0,nI 0,nI 0,nI 0,nI 0]),(12,.tuple #[.agg #[nI 0,nI 0,nI 0,nI 0,nI 0,nI 0,nI 0],.bool false]),(16,.tuple #[.agg #[nI 0,nI 0,nI 0,nI 0,nI 0,nI 0,nI 0],.bool false]),(15,.iface 70 (.agg #[nI (q58.id),nI (q58.status),nI (q58.pc),nI (q58.a),nI (q58.b),nI (q58.c),nI (q58.d),nI (q58.e),nI (q58.f),nI (q58.sudogs)])),(14,nI x9),(13,nP b0 0),(4,.map (some (w.heap.size))),(0,nP b0 0),(1,nI x9)]) (w':=w36.alloc (.cells #[nI 0,nI 0,nI 0,nI 0,nI 0,nI 0,nI 0] 54)) (by kernel_rfl) ?_
    intro a132 hF131; clear hF39
    have hS134:St w0 F0 (BlkP (w36.heap.size) 54 #[nI 0,nI 0,nI 0,nI 0,nI 0,nI 0,nI 0]::HeapP b0 ab0 s33::ColP (w.heap.size) f7::ps) (w36.alloc (.cells #[nI 0,nI 0,nI 0,nI 0,nI 0,nI 0,nI 0] 54)):=St.new hS38 #[nI 0,nI 0,nI 0,nI 0,nI 0,nI 0,nI 0] 54
    clear hS38
    refine ev_store (.agg #[nI 0,nI 0,nI 0,nI 0,nI 0,nI 0,nI 0]) #[nI 0,nI 0,nI 0,nI 0,nI 0,nI 0,nI 0] hF131 (by kernel_rfl) rfl rfl rfl rfl (by kernel_rfl) hS134 (by kernel_rfl) (by kernel_rfl) (by kernel_rfl) (l':=[(5,nB w36),(18,.bool false),(17,.agg #[nI 0,nI 0,nI 0,nI 0,nI 0,nI 0,nI 0]),(12,.tuple #[.agg #[nI 0,nI 0,nI 0,nI 0,nI 0,nI 0,nI 0],.bool false]),(16,.tuple #[.agg #[nI 0,nI 0,nI 0,nI 0,nI 0,nI 0,nI 0],.bool false]),(15,.iface 70 (.agg #[nI (q58.id),nI (q58.status),nI (q58.pc),nI (q58.a),nI (q58.b),nI (q58.c),nI (q58.d),nI (q58.e),nI (q58.f),nI (q58.sudogs)])),(14,nI x9),(13,nP b0 0),(4,.map (some (w.heap.size))),(0,nP b0 0),(1,nI x9)]) (by kernel_rfl) ?_
    intro w135 a136 hS137 hF138; clear hF131 hS134
    refine ev_runK 1 hF138 [0,1,4,5,6] (l':=[(6,.bool false),(5,nB w36),(4,.map (some (w.heap.size))),(0,nP b0 0),(1,nI x9)]) (w':=w135) (by kernel_rfl) ?_
    intro a140 hF139; clear hF138
    refine wpList_nil (thenN (wp_seq (wp_seq (wp_region_lit ?_))))
    refine ev_runK 2 hF139 [0,1,4,5,20] (l':=[(20,.bool true),(5,nB w36),(4,.map (some (w.heap.size))),(0,nP b0 0),(1,nI x9)]) (w':=w135) (by kernel_rfl) ?_
    intro a142 hF141; clear hF139
    refine wpList_nil (thenN ?_)
    refine ev_condT hF141 rfl rfl ?_
    refine wp_ret ?_
    refine thenR ?_
    refine blockR ?_
    refine thenR ?_
    refine blockR ?_
    have hS143:=hS137.drop.pick1.drop
    clear hS137
    obtain rfl:=Option.some.inj hm130
    refine ev_ret hF141 [] (.tuple #[]) rfl rfl rfl ?_
    exact ⟨rfl,hS143⟩
 rw [hc26] at hF24
 have hm145:=ifNot hc26 hm20; clear hm20
 refine ev_condF hF24 rfl rfl ?_
 refine wp_exit ?_
 refine thenE ?_
 refine thenE ?_
 refine blockE ?_
 have hS146:=hS14.drop
 clear hS14
 obtain rfl:=Option.some.inj hm145
 refine ev_retN hF24 [] (.tuple #[]) rfl rfl rfl ?_
 exact ⟨rfl,hS146⟩
def wake_Wake.j2 (q5:Su) (q40:Gr) (s76:HSt) (x114:Int) (x115:Int) (x116:Int) (x117:Int) (x118:Int) (x119:Int):Option (Int×Int×HSt):=bind2 (pPutGor q5.gor (⟨q40.id,0,q5.to,x114,x115,x116,x117,x118,x119,-1⟩:Gr) s76) fun x134 s135=>bind1 (pShade q5.gor s135) fun s149=>some (q5.gor,x134,s149)
def wake_Wake.j1 (i2:Int) (q5:Su) (q40:Gr) (s76:HSt) (y106:Bool):Option (Int×Int×HSt):=(if (y106) then (if (q5.reg == 0) then wake_Wake.j2 q5 q40 s76 i2 q40.b q40.c q40.d q40.e q40.f else (if (q5.reg == 1) then wake_Wake.j2 q5 q40 s76 q40.a i2 q40.c q40.d q40.e q40.f else (if (q5.reg == 2) then wake_Wake.j2 q5 q40 s76 q40.a q40.b i2 q40.d q40.e q40.f else (if (q5.reg == 3) then wake_Wake.j2 q5 q40 s76 q40.a q40.b q40.c i2 q40.e q40.f else (if (q5.reg == 4) then wake_Wake.j2 q5 q40 s76 q40.a q40.b q40.c q40.d i2 q40.f else (if (q5.reg == 5) then wake_Wake.j2 q5 q40 s76 q40.a q40.b q40.c q40.d q40.e i2 else none)))))) else wake_Wake.j2 q5 q40 s76 q40.a q40.b q40.c q40.d q40.e q40.f)
def wake_Wake.m (k:Nat) (s0:HSt) (i1:Int) (i2:Int):Option (Int×Int×HSt):=bind2 (pSudog i1 s0) fun q5 x6=>(if (x6 != 0) then some (0,x6,s0) else bind3 (view_Gor.m k s0 q5.gor) fun q40 x41 s42=>(if (x41 != 0) then some (0,x41,s42) else bind1 (wake_leave.m k s42 q40.sudogs) fun s76=>(if (decide (q5.reg ≥ 0)) then wake_Wake.j1 i2 q5 q40 s76 (decide (q5.reg<6)) else wake_Wake.j1 i2 q5 q40 s76 false)))
set_option maxRecDepth 100000 in
set_option maxHeartbeats 1500000 in
theorem wake_Wake.ok {w0 w:World} {F0:List Nat} {ps:List Piece} {k:Nat} {b0 ab0:Nat} {s0:HSt} {i1:Int} {i2:Int} {r0:Int} {r1:Int} {t0:HSt} (hS:St w0 F0 (HeapP b0 ab0 s0::ps) w) (hm:wake_Wake.m k s0 i1 i2=some (r0,r1,t0)) :
    Calls Tryz.prog 39 #[nP b0 0,nI i1,nI i2] w fun e w'=>e=.returned (.tuple #[.int .i64 r0,.int .i64 r1])∧St w0 F0 (HeapP b0 ab0 t0::ps) w':=by
 refine ev_enterL 64 [nP b0 0,nI i1,nI i2] Tryz.func39 rfl rfl (by simp) ?_
 intro a hF
 have hF0:Fr 64 a [(0,nP b0 0),(1,nI i1),(2,nI i2)]:=hF; clear hF
 unfold wake_Wake.m at hm
 refine wp_seq (wp_region_lit ?_)
 refine ev_runK 2 hF0 [0,1,2] (l':=[(0,nP b0 0),(1,nI i1),(2,nI i2)]) (w':=w) (by kernel_rfl) ?_
 intro a2 hF1; clear hF0
 refine wpList_nil (thenN (wp_seq (wp_region_lit ?_)))
 refine ev_runs 2 hF1 (l':=[(13,nI i1),(12,nP b0 0),(0,nP b0 0),(1,nI i1),(2,nI i2)]) (w':=w) (by kernel_rfl) ?_
 intro a4 hF3; clear hF1
 refine ev_call 30 #[nP b0 0,nI i1] hF3 rfl rfl (by kernel_rfl) rfl (by kernel_rfl) (fun w=>by kernel_rfl) ?_
 obtain ⟨q5,x6,hx7,hm8⟩:=bind2E hm; clear hm
 refine (p_Sudog hS hx7).mono ?_
 rintro _ w9 ⟨rfl,hS11⟩ a10 hF12; clear hF3 hS
 refine ev_runs 4 hF12 (l':=[(8,nB w9),(16,nI x6),(15,.agg #[nI (q5.gor),nI (q5.chan),nI (q5.value),nI (q5.next),nI (q5.to),nI (q5.reg),nI (q5.more)]),(11,.tuple #[.agg #[nI (q5.gor),nI (q5.chan),nI (q5.value),nI (q5.next),nI (q5.to),nI (q5.reg),nI (q5.more)],nI x6]),(14,.tuple #[.agg #[nI (q5.gor),nI (q5.chan),nI (q5.value),nI (q5.next),nI (q5.to),nI (q5.reg),nI (q5.more)],nI x6]),(13,nI i1),(12,nP b0 0),(0,nP b0 0),(1,nI i1),(2,nI i2)]) (w':=w9.alloc (.cells #[nI 0,nI 0,nI 0,nI 0,nI 0,nI 0,nI 0] 54)) (by kernel_rfl) ?_
 intro a14 hF13; clear hF12
 have hS16:St w0 F0 (BlkP (w9.heap.size) 54 #[nI 0,nI 0,nI 0,nI 0,nI 0,nI 0,nI 0]::HeapP b0 ab0 s0::ps) (w9.alloc (.cells #[nI 0,nI 0,nI 0,nI 0,nI 0,nI 0,nI 0] 54)):=St.new hS11 #[nI 0,nI 0,nI 0,nI 0,nI 0,nI 0,nI 0] 54
 clear hS11
 refine ev_store (.agg #[nI (q5.gor),nI (q5.chan),nI (q5.value),nI (q5.next),nI (q5.to),nI (q5.reg),nI (q5.more)]) #[nI (q5.gor),nI (q5.chan),nI (q5.value),nI (q5.next),nI (q5.to),nI (q5.reg),nI (q5.more)] hF13 (by kernel_rfl) rfl rfl rfl rfl (by kernel_rfl) hS16 (by kernel_rfl) (by kernel_rfl) (by kernel_rfl) (l':=[(8,nB w9),(16,nI x6),(15,.agg #[nI (q5.gor),nI (q5.chan),nI (q5.value),nI (q5.next),nI (q5.to),nI (q5.reg),nI (q5.more)]),(11,.tuple #[.agg #[nI (q5.gor),nI (q5.chan),nI (q5.value),nI (q5.next),nI (q5.to),nI (q5.reg),nI (q5.more)],nI x6]),(14,.tuple #[.agg #[nI (q5.gor),nI (q5.chan),nI (q5.value),nI (q5.next),nI (q5.to),nI (q5.reg),nI (q5.more)],nI x6]),(13,nI i1),(12,nP b0 0),(0,nP b0 0),(1,nI i1),(2,nI i2)]) (by kernel_rfl) ?_
 intro w17 a18 hS19 hF20; clear hF13 hS16
 refine ev_runK 1 hF20 [0,2,8,9] (l':=[(9,nI x6),(8,nB w9),(0,nP b0 0),(2,nI i2)]) (w':=w17) (by kernel_rfl) ?_
 intro a22 hF21; clear hF20
 refine wpList_nil (thenN (wp_seq (wp_seq (wp_region_lit ?_))))
 refine ev_runK 2 hF21 [0,2,8,9,18] (l':=[(18,.bool (x6 != 0)),(9,nI x6),(8,nB w9),(0,nP b0 0),(2,nI i2)]) (w':=w17) (by kernel_rfl) ?_
 intro a24 hF23; clear hF21
 refine wpList_nil (thenN ?_)
 cases hc25:(x6 != 0)
 case true =>
  rw [hc25] at hF23
  have hm26:=ifYes hc25 hm8; clear hm8
  refine ev_condT hF23 rfl rfl ?_
  refine wp_seq (wp_region_lit ?_)
  refine ev_runK 3 hF23 [6,7] (l':=[(7,nI x6),(6,nI 0)]) (w':=w17) (by kernel_rfl) ?_
  intro a28 hF27; clear hF23
  refine wpList_nil ?_
  have hS29:=hS19.drop
  clear hS19
  refine thenN ?_
  refine wp_ret ?_
  refine thenR ?_
  simp only [Option.some.injEq,Prod.mk.injEq] at hm26
  obtain ⟨rfl,rfl,rfl⟩:=hm26
  refine ev_ret hF27 [6,7] (.tuple #[nI 0,nI x6]) rfl rfl rfl ?_
  exact ⟨rfl,hS29⟩
 rw [hc25] at hF23
 have hm33:=ifNot hc25 hm8; clear hm8
 refine ev_condF hF23 rfl rfl ?_
 refine wp_skip ?_
 have hF34:=hF23.keep [0,2,8]
 clear hF23
 refine thenN (wp_seq (wp_region_lit ?_))
 refine ev_runs 2 hF34 (l':=[(22,nB w9),(21,nP b0 0),(8,nB w9),(0,nP b0 0),(2,nI i2)]) (w':=w17) (by kernel_rfl) ?_
 intro a36 hF35; clear hF34
 refine ev_one (nI (q5.gor)) w17 hF35 (by kernel_rfl) rfl (by kernel_rfl) (run_loadV rfl rfl (run_loadS rfl rfl (hS19.cell 0 rfl 0 rfl))) (l':=[(23,nI (q5.gor)),(22,nB w9),(21,nP b0 0),(8,nB w9),(0,nP b0 0),(2,nI i2)]) (by kernel_rfl) ?_
 intro a38 hF37; clear hF35
 have hS39:=hS19.pick1
 clear hS19
 refine ev_call 38 #[nP b0 0,nI (q5.gor)] hF37 rfl rfl (by kernel_rfl) rfl (by kernel_rfl) (fun w=>by kernel_rfl) ?_
 obtain ⟨q40,x41,s42,hx43,hm44⟩:=bind3E hm33; clear hm33
 refine (view_Gor.ok hS39 hx43).mono ?_
 rintro _ w45 ⟨rfl,hS47⟩ a46 hF48; clear hF37 hS39
 refine ev_runs 4 hF48 (l':=[(10,nB w45),(26,nI x41),(25,.agg #[nI (q40.id),nI (q40.status),nI (q40.pc),nI (q40.a),nI (q40.b),nI (q40.c),nI (q40.d),nI (q40.e),nI (q40.f),nI (q40.sudogs)]),(20,.tuple #[.agg #[nI (q40.id),nI (q40.status),nI (q40.pc),nI (q40.a),nI (q40.b),nI (q40.c),nI (q40.d),nI (q40.e),nI (q40.f),nI (q40.sudogs)],nI x41]),(24,.tuple #[.agg #[nI (q40.id),nI (q40.status),nI (q40.pc),nI (q40.a),nI (q40.b),nI (q40.c),nI (q40.d),nI (q40.e),nI (q40.f),nI (q40.sudogs)],nI x41]),(23,nI (q5.gor)),(22,nB w9),(21,nP b0 0),(8,nB w9),(0,nP b0 0),(2,nI i2)]) (w':=w45.alloc (.cells #[nI 0,nI 0,nI 0,nI 0,nI 0,nI 0,nI 0,nI 0,nI 0,nI 0] 70)) (by kernel_rfl) ?_
 intro a50 hF49; clear hF48
 have hS52:St w0 F0 (BlkP (w45.heap.size) 70 #[nI 0,nI 0,nI 0,nI 0,nI 0,nI 0,nI 0,nI 0,nI 0,nI 0]::HeapP b0 ab0 s42::BlkP (w9.heap.size) 54 #[nI (q5.gor),nI (q5.chan),nI (q5.value),nI (q5.next),nI (q5.to),nI (q5.reg),nI (q5.more)]::ps) (w45.alloc (.cells #[nI 0,nI 0,nI 0,nI 0,nI 0,nI 0,nI 0,nI 0,nI 0,nI 0] 70)):=St.new hS47 #[nI 0,nI 0,nI 0,nI 0,nI 0,nI 0,nI 0,nI 0,nI 0,nI 0] 70
 clear hS47
 refine ev_store (.agg #[nI (q40.id),nI (q40.status),nI (q40.pc),nI (q40.a),nI (q40.b),nI (q40.c),nI (q40.d),nI (q40.e),nI (q40.f),nI (q40.sudogs)]) #[nI (q40.id),nI (q40.status),nI (q40.pc),nI (q40.a),nI (q40.b),nI (q40.c),nI (q40.d),nI (q40.e),nI (q40.f),nI (q40.sudogs)] hF49 (by kernel_rfl) rfl rfl rfl rfl (by kernel_rfl) hS52 (by kernel_rfl) (by kernel_rfl) (by kernel_rfl) (l':=[(10,nB w45),(26,nI x41),(25,.agg #[nI (q40.id),nI (q40.status),nI (q40.pc),nI (q40.a),nI (q40.b),nI (q40.c),nI (q40.d),nI (q40.e),nI (q40.f),nI (q40.sudogs)]),(20,.tuple #[.agg #[nI (q40.id),nI (q40.status),nI (q40.pc),nI (q40.a),nI (q40.b),nI (q40.c),nI (q40.d),nI (q40.e),nI (q40.f),nI (q40.sudogs)],nI x41]),(24,.tuple #[.agg #[nI (q40.id),nI (q40.status),nI (q40.pc),nI (q40.a),nI (q40.b),nI (q40.c),nI (q40.d),nI (q40.e),nI (q40.f),nI (q40.sudogs)],nI x41]),(23,nI (q5.gor)),(22,nB w9),(21,nP b0 0),(8,nB w9),(0,nP b0 0),(2,nI i2)]) (by kernel_rfl) ?_
 intro w53 a54 hS55 hF56; clear hF49 hS52
 refine ev_runK 1 hF56 [0,2,8,9,10] (l':=[(9,nI x41),(10,nB w45),(8,nB w9),(0,nP b0 0),(2,nI i2)]) (w':=w53) (by kernel_rfl) ?_
 intro a58 hF57; clear hF56
 refine wpList_nil (thenN (wp_seq (wp_seq (wp_region_lit ?_))))
 refine ev_runK 2 hF57 [0,2,8,9,10,28] (l':=[(28,.bool (x41 != 0)),(9,nI x41),(10,nB w45),(8,nB w9),(0,nP b0 0),(2,nI i2)]) (w':=w53) (by kernel_rfl) ?_
 intro a60 hF59; clear hF57
 refine wpList_nil (thenN ?_)
 cases hc61:(x41 != 0)
 case true =>
  rw [hc61] at hF59
  have hm62:=ifYes hc61 hm44; clear hm44
  refine ev_condT hF59 rfl rfl ?_
  refine wp_seq (wp_region_lit ?_)
  refine ev_runK 3 hF59 [6,7] (l':=[(7,nI x41),(6,nI 0)]) (w':=w53) (by kernel_rfl) ?_
  intro a64 hF63; clear hF59
  refine wpList_nil ?_
  have hS65:=hS55.drop.pick1.drop
  clear hS55
  refine thenN ?_
  refine wp_ret ?_
  refine thenR ?_
  simp only [Option.some.injEq,Prod.mk.injEq] at hm62
  obtain ⟨rfl,rfl,rfl⟩:=hm62
  refine ev_ret hF63 [6,7] (.tuple #[nI 0,nI x41]) rfl rfl rfl ?_
  exact ⟨rfl,hS65⟩
 rw [hc61] at hF59
 have hm69:=ifNot hc61 hm44; clear hm44
 refine ev_condF hF59 rfl rfl ?_
 refine wp_skip ?_
 have hF70:=hF59.keep [0,2,8,10]
 clear hF59
 refine thenN (wp_seq (wp_region_lit ?_))
 refine ev_runs 2 hF70 (l':=[(31,nP (w45.heap.size) 9),(30,nP b0 0),(10,nB w45),(8,nB w9),(0,nP b0 0),(2,nI i2)]) (w':=w53) (by kernel_rfl) ?_
 intro a72 hF71; clear hF70
 refine ev_one (nI (q40.sudogs)) w53 hF71 (by kernel_rfl) rfl (by kernel_rfl) (run_loadV rfl rfl (run_loadS rfl rfl (hS55.cell 0 rfl 9 rfl))) (l':=[(32,nI (q40.sudogs)),(31,nP (w45.heap.size) 9),(30,nP b0 0),(10,nB w45),(8,nB w9),(0,nP b0 0),(2,nI i2)]) (by kernel_rfl) ?_
 intro a74 hF73; clear hF71
 have hS75:=hS55.pick1
 clear hS55
 refine ev_call 87 #[nP b0 0,nI (q40.sudogs)] hF73 rfl rfl (by kernel_rfl) rfl (by kernel_rfl) (fun w=>by kernel_rfl) ?_
 obtain ⟨s76,hx77,hm78⟩:=bind1E hm69; clear hm69
 refine (wake_leave.ok hS75 hx77).mono ?_
 rintro _ w79 ⟨rfl,hS81⟩ a80 hF82; clear hF73 hS75
 refine wpList_nil ?_
 have hF83:=hF82.keep [0,2,8,10]
 clear hF82
 refine thenN (wp_seq ?_)
 have hS84:=hS81.pick2
 clear hS81
 have hS85:=hS84.drew; clear hS84
 refine any_start (fun wS=>∃ qs,St w0 F0 (BlkP (w9.heap.size) 54 #[nI (q5.gor),nI (q5.chan),nI (q5.value),nI (q5.next),nI (q5.to),nI (q5.reg),nI (q5.more)]::qs) wS) 8 #[false,false,false,false,false,false,false,false] (by kernel_rfl) (by kernel_rfl) (by kernel_rfl) ?_
 refine any_many 3 [(0,some (nP (w9.heap.size) 4)),(1,some (nI (q5.to))),(2,some (nP (w45.heap.size) 9))] [0,2,8,10,35,36,37,38] #[true,true,true,false,false,false,false,false] (by rfl) hF83 (by kernel_rfl) (by kernel_rfl) (by exact ⟨fun wS hw=>by kernel_rfl,fun wS hw=>hw.elim fun qs hw=>run_loadV rfl rfl (run_loadS rfl rfl (hw.cell 0 rfl 4 rfl)),fun wS hw=>by kernel_rfl,trivial⟩) (fun _ _ _ _ _ h=>h) ⟨_,hS85⟩ (l':=[(36,nP (w45.heap.size) 9),(35,nI (q5.to)),(10,nB w45),(8,nB w9),(0,nP b0 0),(2,nI i2)]) (by kernel_rfl) ?_
 intro a87 hF86; clear hF83
 refine any_one 3 (by kernel_rfl) ?_
 have hS88:=hS85.pick2
 clear hS85
 refine op_store 3 #[true,true,true,true,false,false,false,false] (nI (-1)) #[nI (q40.id),nI (q40.status),nI (q40.pc),nI (q40.a),nI (q40.b),nI (q40.c),nI (q40.d),nI (q40.e),nI (q40.f),nI (-1)] hF86 rfl (by kernel_rfl) rfl rfl rfl rfl (by kernel_rfl) hS88 (by kernel_rfl) (by kernel_rfl) (by kernel_rfl) (l':=[(36,nP (w45.heap.size) 9),(35,nI (q5.to)),(10,nB w45),(8,nB w9),(0,nP b0 0),(2,nI i2)]) (by kernel_rfl) (by kernel_rfl) ?_
 intro w89 a90 hS91 hF92; clear hF86 hS88
 refine ⟨⟨_,hS91.pick1⟩,?_⟩
 refine any_many 1 [(4,some (nP (w45.heap.size) 1))] [0,2,8,10,35,37,38] #[true,true,true,true,true,false,false,false] (by rfl) hF92 (by kernel_rfl) (by kernel_rfl) (by exact ⟨fun wS hw=>by kernel_rfl,trivial⟩) (fun _ _ _ _ _ h=>h) ⟨_,hS91.pick1⟩ (l':=[(37,nP (w45.heap.size) 1),(35,nI (q5.to)),(10,nB w45),(8,nB w9),(0,nP b0 0),(2,nI i2)]) (by kernel_rfl) ?_
 intro a94 hF93; clear hF92
 refine any_one 5 (by kernel_rfl) ?_
 refine op_store 5 #[true,true,true,true,true,true,false,false] (nI 0) #[nI (q40.id),nI 0,nI (q40.pc),nI (q40.a),nI (q40.b),nI (q40.c),nI (q40.d),nI (q40.e),nI (q40.f),nI (-1)] hF93 rfl (by kernel_rfl) rfl rfl rfl rfl (by kernel_rfl) hS91 (by kernel_rfl) (by kernel_rfl) (by kernel_rfl) (l':=[(37,nP (w45.heap.size) 1),(35,nI (q5.to)),(10,nB w45),(8,nB w9),(0,nP b0 0),(2,nI i2)]) (by kernel_rfl) (by kernel_rfl) ?_
 intro w95 a96 hS97 hF98; clear hF93 hS91
 refine ⟨⟨_,hS97.pick1⟩,?_⟩
 refine any_many 1 [(6,some (nP (w45.heap.size) 2))] [0,2,8,10,35,38] #[true,true,true,true,true,true,true,false] (by rfl) hF98 (by kernel_rfl) (by kernel_rfl) (by exact ⟨fun wS hw=>by kernel_rfl,trivial⟩) (fun _ _ _ _ _ h=>h) ⟨_,hS97.pick1⟩ (l':=[(38,nP (w45.heap.size) 2),(35,nI (q5.to)),(10,nB w45),(8,nB w9),(0,nP b0 0),(2,nI i2)]) (by kernel_rfl) ?_
 intro a100 hF99; clear hF98
 refine any_one 7 (by kernel_rfl) ?_
 refine op_store 7 #[true,true,true,true,true,true,true,true] (nI (q5.to)) #[nI (q40.id),nI 0,nI (q5.to),nI (q40.a),nI (q40.b),nI (q40.c),nI (q40.d),nI (q40.e),nI (q40.f),nI (-1)] hF99 rfl (by kernel_rfl) rfl rfl rfl rfl (by kernel_rfl) hS97 (by kernel_rfl) (by kernel_rfl) (by kernel_rfl) (l':=[(38,nP (w45.heap.size) 2),(35,nI (q5.to)),(10,nB w45),(8,nB w9),(0,nP b0 0),(2,nI i2)]) (by kernel_rfl) (by kernel_rfl) ?_
 intro w101 a102 hS103 hF104; clear hF99 hS97
 refine ⟨⟨_,hS103.pick1⟩,?_⟩
 refine any_done (by kernel_rfl) ?_
 have hF105:=hF104.keep [0,2,8,10]
 clear hF104
 refine thenN (wp_seq (wp_seq ?_))
 refine joinQ (fun aI wI=>∃ (y106:Bool),Fr 64 aI [(46,.bool (y106)),(10,nB w45),(8,nB w9),(0,nP b0 0),(2,nI i2)]∧St w0 F0 (BlkP (w45.heap.size) 70 #[nI (q40.id),nI 0,nI (q5.to),nI (q40.a),nI (q40.b),nI (q40.c),nI (q40.d),nI (q40.e),nI (q40.f),nI (-1)]::BlkP (w9.heap.size) 54 #[nI (q5.gor),nI (q5.chan),nI (q5.value),nI (q5.next),nI (q5.to),nI (q5.reg),nI (q5.more)]::HeapP b0 ab0 s76::ps) wI∧wake_Wake.j1 i2 q5 q40 s76 y106=some (r0,r1,t0)) ?_ ?_
 rotate_left
 · rintro a108 w109 ⟨y106,hF110,hS111,hm112⟩
   clear hF105 hS103 hm78
   unfold wake_Wake.j1 at hm112
   refine thenN ?_
   refine joinQ (fun aI wI=>∃ (x114:Int) (x115:Int) (x116:Int) (x117:Int) (x118:Int) (x119:Int),Fr 64 aI [(10,nB w45),(8,nB w9),(0,nP b0 0)]∧St w0 F0 (BlkP (w45.heap.size) 70 #[nI (q40.id),nI 0,nI (q5.to),nI x114,nI x115,nI x116,nI x117,nI x118,nI x119,nI (-1)]::BlkP (w9.heap.size) 54 #[nI (q5.gor),nI (q5.chan),nI (q5.value),nI (q5.next),nI (q5.to),nI (q5.reg),nI (q5.more)]::HeapP b0 ab0 s76::ps) wI∧wake_Wake.j2 q5 q40 s76 x114 x115 x116 x117 x118 x119=some (r0,r1,t0)) ?_ ?_
   rotate_left
   · rintro a121 w122 ⟨x114,x115,x116,x117,x118,x119,hF123,hS124,hm125⟩
     clear hF110 hS111 hm112
     unfold wake_Wake.j2 at hm125
     refine thenN (wp_seq (wp_region_lit ?_))
     refine ev_runs 2 hF123 (l':=[(53,nB w9),(52,nP b0 0),(10,nB w45),(8,nB w9),(0,nP b0 0)]) (w':=w122) (by kernel_rfl) ?_
     intro a128 hF127; clear hF123
     refine ev_one (nI (q5.gor)) w122 hF127 (by kernel_rfl) rfl (by kernel_rfl) (run_loadV rfl rfl (run_loadS rfl rfl (hS124.cell 1 rfl 0 rfl))) (l':=[(54,nI (q5.gor)),(53,nB w9),(52,nP b0 0),(10,nB w45),(8,nB w9),(0,nP b0 0)]) (by kernel_rfl) ?_
     intro a130 hF129; clear hF127
     refine ev_one (.agg #[nI (q40.id),nI 0,nI (q5.to),nI x114,nI x115,nI x116,nI x117,nI x118,nI x119,nI (-1)]) w122 hF129 (by kernel_rfl) rfl (by kernel_rfl) (run_loadV rfl rfl (run_loadA (cs:=[nI (q40.id),nI 0,nI (q5.to),nI x114,nI x115,nI x116,nI x117,nI x118,nI x119,nI (-1)]) rfl rfl (by kernel_rfl) (blk_cells hS124 0 rfl rfl))) (l':=[(55,.agg #[nI (q40.id),nI 0,nI (q5.to),nI x114,nI x115,nI x116,nI x117,nI x118,nI x119,nI (-1)]),(54,nI (q5.gor)),(53,nB w9),(52,nP b0 0),(10,nB w45),(8,nB w9),(0,nP b0 0)]) (by kernel_rfl) ?_
     intro a132 hF131; clear hF129
     have hS133:=hS124.pick2
     clear hS124
     refine ev_call 63 #[nP b0 0,nI (q5.gor),.agg #[nI (q40.id),nI 0,nI (q5.to),nI x114,nI x115,nI x116,nI x117,nI x118,nI x119,nI (-1)]] hF131 rfl rfl (by kernel_rfl) rfl (by kernel_rfl) (fun w=>by kernel_rfl) ?_
     obtain ⟨x134,s135,hx136,hm137⟩:=bind2E hm125; clear hm125
     refine (p_PutGor hS133 hx136).mono ?_
     rintro _ w138 ⟨rfl,hS140⟩ a139 hF141; clear hF131 hS133
     refine ev_runK 1 hF141 [0,8,9] (l':=[(9,nI x134),(8,nB w9),(0,nP b0 0)]) (w':=w138) (by kernel_rfl) ?_
     intro a143 hF142; clear hF141
     refine wpList_nil ?_
     have hS144:=hS140.pick1.drop
     clear hS140
     refine thenN (wp_seq (wp_region_lit ?_))
     refine ev_runs 2 hF142 (l':=[(58,nB w9),(57,nP b0 0),(9,nI x134),(8,nB w9),(0,nP b0 0)]) (w':=w138) (by kernel_rfl) ?_
     intro a146 hF145; clear hF142
     refine ev_one (nI (q5.gor)) w138 hF145 (by kernel_rfl) rfl (by kernel_rfl) (run_loadV rfl rfl (run_loadS rfl rfl (hS144.cell 1 rfl 0 rfl))) (l':=[(59,nI (q5.gor)),(58,nB w9),(57,nP b0 0),(9,nI x134),(8,nB w9),(0,nP b0 0)]) (by kernel_rfl) ?_
     intro a148 hF147; clear hF145
     refine ev_call 88 #[nP b0 0,nI (q5.gor)] hF147 rfl rfl (by kernel_rfl) rfl (by kernel_rfl) (fun w=>by kernel_rfl) ?_
     obtain ⟨s149,hx150,hm151⟩:=bind1E hm137; clear hm137
     refine (p_Shade hS144 hx150).mono ?_
     rintro _ w152 ⟨rfl,hS154⟩ a153 hF155; clear hF147 hS144
     refine wpList_nil ?_
     have hF156:=hF155.keep [8,9]
     clear hF155
     refine thenN (wp_seq (wp_region_lit ?_))
     refine ev_runs 1 hF156 (l':=[(61,nB w9),(9,nI x134),(8,nB w9)]) (w':=w152) (by kernel_rfl) ?_
     intro a158 hF157; clear hF156
     refine ev_one (nI (q5.gor)) w152 hF157 (by kernel_rfl) rfl (by kernel_rfl) (run_loadV rfl rfl (run_loadS rfl rfl (hS154.cell 1 rfl 0 rfl))) (l':=[(62,nI (q5.gor)),(61,nB w9),(9,nI x134),(8,nB w9)]) (by kernel_rfl) ?_
     intro a160 hF159; clear hF157
     refine ev_runK 3 hF159 [6,7] (l':=[(7,nI x134),(6,nI (q5.gor))]) (w':=w152) (by kernel_rfl) ?_
     intro a162 hF161; clear hF159
     refine wpList_nil ?_
     have hS163:=hS154.pick1.drop
     clear hS154
     refine thenN ?_
     refine wp_ret ?_
     simp only [Option.some.injEq,Prod.mk.injEq] at hm151
     obtain ⟨rfl,rfl,rfl⟩:=hm151
     refine ev_ret hF161 [6,7] (.tuple #[nI (q5.gor),nI x134]) rfl rfl rfl ?_
     exact ⟨rfl,hS163⟩
   · skip
     cases hc167:(y106)
     case true =>
      rw [hc167] at hF110
      have hm168:=ifYes hc167 hm112; clear hm112
      refine ev_condT hF110 rfl rfl ?_
      refine wp_region_lit ?_
      refine ev_runs 1 hF110 (l':=[(47,nP (w9.heap.size) 5),(46,.bool true),(10,nB w45),(8,nB w9),(0,nP b0 0),(2,nI i2)]) (w':=w109) (by kernel_rfl) ?_
      intro a170 hF169; clear hF110
      refine ev_one (nI (q5.reg)) w109 hF169 (by kernel_rfl) rfl (by kernel_rfl) (run_loadV rfl rfl (run_loadS rfl rfl (hS111.cell 1 rfl 5 rfl))) (l':=[(48,nI (q5.reg)),(47,nP (w9.heap.size) 5),(46,.bool true),(10,nB w45),(8,nB w9),(0,nP b0 0),(2,nI i2)]) (by kernel_rfl) ?_
      intro a172 hF171; clear hF169
      refine ev_runs 2 hF171 (l':=[(50,nP (w45.heap.size) 3),(49,nI i2),(48,nI (q5.reg)),(47,nP (w9.heap.size) 5),(46,.bool true),(10,nB w45),(8,nB w9),(0,nP b0 0),(2,nI i2)]) (w':=w109) (by kernel_rfl) ?_
      intro a174 hF173; clear hF171
      cases hc175:(q5.reg == 0)
      case true =>
       have hm176:=ifYes hc175 hm168; clear hm168
       refine ev_one (nP (w45.heap.size) 3) w109 hF173 (by kernel_rfl) rfl (by kernel_rfl) (run_idxA (q:=0) rfl rfl rfl rfl (congrArg (Value.int .i64) (eq_of_beq hc175)) (by decide) (by decide) (by kernel_rfl) _) (l':=[(51,nP (w45.heap.size) 3),(50,nP (w45.heap.size) 3),(49,nI i2),(48,nI (q5.reg)),(47,nP (w9.heap.size) 5),(46,.bool true),(10,nB w45),(8,nB w9),(0,nP b0 0),(2,nI i2)]) (by kernel_rfl) ?_
       intro a178 hF177; clear hF173
       refine ev_store (nI i2) #[nI (q40.id),nI 0,nI (q5.to),nI i2,nI (q40.b),nI (q40.c),nI (q40.d),nI (q40.e),nI (q40.f),nI (-1)] hF177 (by kernel_rfl) rfl rfl rfl rfl (by kernel_rfl) hS111 (by kernel_rfl) (by kernel_rfl) (by kernel_rfl) (l':=[(51,nP (w45.heap.size) 3),(50,nP (w45.heap.size) 3),(49,nI i2),(48,nI (q5.reg)),(47,nP (w9.heap.size) 5),(46,.bool true),(10,nB w45),(8,nB w9),(0,nP b0 0),(2,nI i2)]) (by kernel_rfl) ?_
       intro w179 a180 hS181 hF182; clear hF177 hS111
       refine wpList_nil ?_
       have hF183:=hF182.keep [0,8,10]
       clear hF182
       exact thenN ⟨i2,q40.b,q40.c,q40.d,q40.e,q40.f,hF183,hS181,hm176⟩
      have hm184:=ifNot hc175 hm168; clear hm168
      cases hc185:(q5.reg == 1)
      case true =>
       have hm186:=ifYes hc185 hm184; clear hm184
       refine ev_one (nP (w45.heap.size) 4) w109 hF173 (by kernel_rfl) rfl (by kernel_rfl) (run_idxA (q:=1) rfl rfl rfl rfl (congrArg (Value.int .i64) (eq_of_beq hc185)) (by decide) (by decide) (by kernel_rfl) _) (l':=[(51,nP (w45.heap.size) 4),(50,nP (w45.heap.size) 3),(49,nI i2),(48,nI (q5.reg)),(47,nP (w9.heap.size) 5),(46,.bool true),(10,nB w45),(8,nB w9),(0,nP b0 0),(2,nI i2)]) (by kernel_rfl) ?_
       intro a188 hF187; clear hF173
       refine ev_store (nI i2) #[nI (q40.id),nI 0,nI (q5.to),nI (q40.a),nI i2,nI (q40.c),nI (q40.d),nI (q40.e),nI (q40.f),nI (-1)] hF187 (by kernel_rfl) rfl rfl rfl rfl (by kernel_rfl) hS111 (by kernel_rfl) (by kernel_rfl) (by kernel_rfl) (l':=[(51,nP (w45.heap.size) 4),(50,nP (w45.heap.size) 3),(49,nI i2),(48,nI (q5.reg)),(47,nP (w9.heap.size) 5),(46,.bool true),(10,nB w45),(8,nB w9),(0,nP b0 0),(2,nI i2)]) (by kernel_rfl) ?_
       intro w189 a190 hS191 hF192; clear hF187 hS111
       refine wpList_nil ?_
       have hF193:=hF192.keep [0,8,10]
       clear hF192
       exact thenN ⟨q40.a,i2,q40.c,q40.d,q40.e,q40.f,hF193,hS191,hm186⟩
      have hm194:=ifNot hc185 hm184; clear hm184
      cases hc195:(q5.reg == 2)
      case true =>
       have hm196:=ifYes hc195 hm194; clear hm194
       refine ev_one (nP (w45.heap.size) 5) w109 hF173 (by kernel_rfl) rfl (by kernel_rfl) (run_idxA (q:=2) rfl rfl rfl rfl (congrArg (Value.int .i64) (eq_of_beq hc195)) (by decide) (by decide) (by kernel_rfl) _) (l':=[(51,nP (w45.heap.size) 5),(50,nP (w45.heap.size) 3),(49,nI i2),(48,nI (q5.reg)),(47,nP (w9.heap.size) 5),(46,.bool true),(10,nB w45),(8,nB w9),(0,nP b0 0),(2,nI i2)]) (by kernel_rfl) ?_
       intro a198 hF197; clear hF173
       refine ev_store (nI i2) #[nI (q40.id),nI 0,nI (q5.to),nI (q40.a),nI (q40.b),nI i2,nI (q40.d),nI (q40.e),nI (q40.f),nI (-1)] hF197 (by kernel_rfl) rfl rfl rfl rfl (by kernel_rfl) hS111 (by kernel_rfl) (by kernel_rfl) (by kernel_rfl) (l':=[(51,nP (w45.heap.size) 5),(50,nP (w45.heap.size) 3),(49,nI i2),(48,nI (q5.reg)),(47,nP (w9.heap.size) 5),(46,.bool true),(10,nB w45),(8,nB w9),(0,nP b0 0),(2,nI i2)]) (by kernel_rfl) ?_
       intro w199 a200 hS201 hF202; clear hF197 hS111
       refine wpList_nil ?_
       have hF203:=hF202.keep [0,8,10]
       clear hF202
       exact thenN ⟨q40.a,q40.b,i2,q40.d,q40.e,q40.f,hF203,hS201,hm196⟩
      have hm204:=ifNot hc195 hm194; clear hm194
      cases hc205:(q5.reg == 3)
      case true =>
       have hm206:=ifYes hc205 hm204; clear hm204
       refine ev_one (nP (w45.heap.size) 6) w109 hF173 (by kernel_rfl) rfl (by kernel_rfl) (run_idxA (q:=3) rfl rfl rfl rfl (congrArg (Value.int .i64) (eq_of_beq hc205)) (by decide) (by decide) (by kernel_rfl) _) (l':=[(51,nP (w45.heap.size) 6),(50,nP (w45.heap.size) 3),(49,nI i2),(48,nI (q5.reg)),(47,nP (w9.heap.size) 5),(46,.bool true),(10,nB w45),(8,nB w9),(0,nP b0 0),(2,nI i2)]) (by kernel_rfl) ?_
       intro a208 hF207; clear hF173
       refine ev_store (nI i2) #[nI (q40.id),nI 0,nI (q5.to),nI (q40.a),nI (q40.b),nI (q40.c),nI i2,nI (q40.e),nI (q40.f),nI (-1)] hF207 (by kernel_rfl) rfl rfl rfl rfl (by kernel_rfl) hS111 (by kernel_rfl) (by kernel_rfl) (by kernel_rfl) (l':=[(51,nP (w45.heap.size) 6),(50,nP (w45.heap.size) 3),(49,nI i2),(48,nI (q5.reg)),(47,nP (w9.heap.size) 5),(46,.bool true),(10,nB w45),(8,nB w9),(0,nP b0 0),(2,nI i2)]) (by kernel_rfl) ?_
       intro w209 a210 hS211 hF212; clear hF207 hS111
       refine wpList_nil ?_
       have hF213:=hF212.keep [0,8,10]
       clear hF212
       exact thenN ⟨q40.a,q40.b,q40.c,i2,q40.e,q40.f,hF213,hS211,hm206⟩
      have hm214:=ifNot hc205 hm204; clear hm204
      cases hc215:(q5.reg == 4)
      case true =>
       have hm216:=ifYes hc215 hm214; clear hm214
       refine ev_one (nP (w45.heap.size) 7) w109 hF173 (by kernel_rfl) rfl (by kernel_rfl) (run_idxA (q:=4) rfl rfl rfl rfl (congrArg (Value.int .i64) (eq_of_beq hc215)) (by decide) (by decide) (by kernel_rfl) _) (l':=[(51,nP (w45.heap.size) 7),(50,nP (w45.heap.size) 3),(49,nI i2),(48,nI (q5.reg)),(47,nP (w9.heap.size) 5),(46,.bool true),(10,nB w45),(8,nB w9),(0,nP b0 0),(2,nI i2)]) (by kernel_rfl) ?_
       intro a218 hF217; clear hF173
       refine ev_store (nI i2) #[nI (q40.id),nI 0,nI (q5.to),nI (q40.a),nI (q40.b),nI (q40.c),nI (q40.d),nI i2,nI (q40.f),nI (-1)] hF217 (by kernel_rfl) rfl rfl rfl rfl (by kernel_rfl) hS111 (by kernel_rfl) (by kernel_rfl) (by kernel_rfl) (l':=[(51,nP (w45.heap.size) 7),(50,nP (w45.heap.size) 3),(49,nI i2),(48,nI (q5.reg)),(47,nP (w9.heap.size) 5),(46,.bool true),(10,nB w45),(8,nB w9),(0,nP b0 0),(2,nI i2)]) (by kernel_rfl) ?_
       intro w219 a220 hS221 hF222; clear hF217 hS111
       refine wpList_nil ?_
       have hF223:=hF222.keep [0,8,10]
       clear hF222
       exact thenN ⟨q40.a,q40.b,q40.c,q40.d,i2,q40.f,hF223,hS221,hm216⟩
      have hm224:=ifNot hc215 hm214; clear hm214
      cases hc225:(q5.reg == 5)
      case true =>
       have hm226:=ifYes hc225 hm224; clear hm224
       refine ev_one (nP (w45.heap.size) 8) w109 hF173 (by kernel_rfl) rfl (by kernel_rfl) (run_idxA (q:=5) rfl rfl rfl rfl (congrArg (Value.int .i64) (eq_of_beq hc225)) (by decide) (by decide) (by kernel_rfl) _) (l':=[(51,nP (w45.heap.size) 8),(50,nP (w45.heap.size) 3),(49,nI i2),(48,nI (q5.reg)),(47,nP (w9.heap.size) 5),(46,.bool true),(10,nB w45),(8,nB w9),(0,nP b0 0),(2,nI i2)]) (by kernel_rfl) ?_
       intro a228 hF227; clear hF173
       refine ev_store (nI i2) #[nI (q40.id),nI 0,nI (q5.to),nI (q40.a),nI (q40.b),nI (q40.c),nI (q40.d),nI (q40.e),nI i2,nI (-1)] hF227 (by kernel_rfl) rfl rfl rfl rfl (by kernel_rfl) hS111 (by kernel_rfl) (by kernel_rfl) (by kernel_rfl) (l':=[(51,nP (w45.heap.size) 8),(50,nP (w45.heap.size) 3),(49,nI i2),(48,nI (q5.reg)),(47,nP (w9.heap.size) 5),(46,.bool true),(10,nB w45),(8,nB w9),(0,nP b0 0),(2,nI i2)]) (by kernel_rfl) ?_
       intro w229 a230 hS231 hF232; clear hF227 hS111
       refine wpList_nil ?_
       have hF233:=hF232.keep [0,8,10]
       clear hF232
       exact thenN ⟨q40.a,q40.b,q40.c,q40.d,q40.e,i2,hF233,hS231,hm226⟩
      have hm234:=ifNot hc225 hm224; clear hm224
      exact absurd hm234 (by simp)
     rw [hc167] at hF110
     have hm235:=ifNot hc167 hm112; clear hm112
     refine ev_condF hF110 rfl rfl ?_
     refine wp_skip ?_
     have hF236:=hF110.keep [0,8,10]
     clear hF110
     exact thenN ⟨q40.a,q40.b,q40.c,q40.d,q40.e,q40.f,hF236,hS111,hm235⟩
 · skip
   refine wp_region_lit ?_
   refine ev_runs 1 hF105 (l':=[(39,nP (w9.heap.size) 5),(10,nB w45),(8,nB w9),(0,nP b0 0),(2,nI i2)]) (w':=w101) (by kernel_rfl) ?_
   intro a238 hF237; clear hF105
   refine ev_one (nI (q5.reg)) w101 hF237 (by kernel_rfl) rfl (by kernel_rfl) (run_loadV rfl rfl (run_loadS rfl rfl (hS103.cell 1 rfl 5 rfl))) (l':=[(40,nI (q5.reg)),(39,nP (w9.heap.size) 5),(10,nB w45),(8,nB w9),(0,nP b0 0),(2,nI i2)]) (by kernel_rfl) ?_
   intro a240 hF239; clear hF237
   refine ev_runs 2 hF239 (l':=[(42,.bool (decide (q5.reg ≥ 0))),(41,.bool (decide (q5.reg ≥ 0))),(40,nI (q5.reg)),(39,nP (w9.heap.size) 5),(10,nB w45),(8,nB w9),(0,nP b0 0),(2,nI i2)]) (w':=w101) (by kernel_rfl) ?_
   intro a242 hF241; clear hF239
   cases hc243:(decide (q5.reg ≥ 0))
   case true =>
    rw [hc243] at hF241
    have hm244:=ifYes hc243 hm78; clear hm78
    refine ev_runs 1 hF241 (l':=[(43,nP (w9.heap.size) 5),(42,.bool true),(41,.bool true),(40,nI (q5.reg)),(39,nP (w9.heap.size) 5),(10,nB w45),(8,nB w9),(0,nP b0 0),(2,nI i2)]) (w':=w101) (by kernel_rfl) ?_
    intro a246 hF245; clear hF241
    refine ev_one (nI (q5.reg)) w101 hF245 (by kernel_rfl) rfl (by kernel_rfl) (run_loadV rfl rfl (run_loadS rfl rfl (hS103.cell 1 rfl 5 rfl))) (l':=[(44,nI (q5.reg)),(43,nP (w9.heap.size) 5),(42,.bool true),(41,.bool true),(40,nI (q5.reg)),(39,nP (w9.heap.size) 5),(10,nB w45),(8,nB w9),(0,nP b0 0),(2,nI i2)]) (by kernel_rfl) ?_
    intro a248 hF247; clear hF245
    refine ev_runK 2 hF247 [0,2,8,10,46] (l':=[(46,.bool (decide (q5.reg<6))),(10,nB w45),(8,nB w9),(0,nP b0 0),(2,nI i2)]) (w':=w101) (by kernel_rfl) ?_
    intro a250 hF249; clear hF247
    refine wpList_nil ?_
    exact thenN ⟨decide (q5.reg<6),hF249,hS103,hm244⟩
   rw [hc243] at hF241
   have hm251:=ifNot hc243 hm78; clear hm78
   refine ev_runK 4 hF241 [0,2,8,10,46] (l':=[(46,.bool false),(10,nB w45),(8,nB w9),(0,nP b0 0),(2,nI i2)]) (w':=w101) (by kernel_rfl) ?_
   intro a253 hF252; clear hF241
   refine wpList_nil ?_
   exact thenN ⟨false,hF252,hS103,hm251⟩
def wake_Park.l2b (i1:Int) (L2:List Int) (q9:Gr) (rec100:HSt→Int→Int→Option (Int×HSt)) (s95:HSt) (x96:Int) (x97:Int):Option (Int×HSt):=(if (decide (x96 ≥ 0)) then (if (inR x96 L2.length) then bind2 (pSudog (atI L2 x96) s95) fun q120 x121=>bind2 (pPutSudog (atI L2 x96) (⟨q120.gor,q120.chan,q120.value,q120.next,q120.to,q120.reg,x97⟩:Su) s95) fun x150 s151=>rec100 s151 (IntKind.i64.wrap (x96 - 1)) (atI L2 x96) else none) else bind2 (pPutGor i1 (⟨q9.id,1,q9.pc,q9.a,q9.b,q9.c,q9.d,q9.e,q9.f,x97⟩:Gr) s95) fun x190 s191=>some (x190,s191))
def wake_Park.l2 (i1:Int) (L2:List Int) (q9:Gr):Nat→HSt→Int→Int→Option (Int×HSt)
  | 0=>fun _ _ _=>none
  | kI+1=>wake_Park.l2b i1 L2 q9 (wake_Park.l2 i1 L2 q9 kI)
def wake_Park.l1b (i1:Int) (L2:List Int) (k:Nat) (q9:Gr) (s11:HSt) (rec44:Int→Option (Int×HSt)) (x41:Int):Option (Int×HSt):=(if (decide (x41<(L2.length:Int))) then (if (inR x41 L2.length) then bind2 (pSudog (atI L2 x41) s11) fun q66 x67=>(if (x67 != 0) then some (x67,s11) else rec44 (IntKind.i64.wrap (x41+1))) else none) else wake_Park.l2 i1 L2 q9 k s11 (IntKind.i64.wrap ((L2.length:Int) - 1)) (-1))
def wake_Park.l1 (i1:Int) (L2:List Int) (k:Nat) (q9:Gr) (s11:HSt):Nat→Int→Option (Int×HSt)
  | 0=>fun _=>none
  | kI+1=>wake_Park.l1b i1 L2 k q9 s11 (wake_Park.l1 i1 L2 k q9 s11 kI)
def wake_Park.m (k:Nat) (s0:HSt) (i1:Int) (L2:List Int):Option (Int×HSt):=bind3 (view_Gor.m k s0 i1) fun q9 x10 s11=>(if (x10 != 0) then some (x10,s11) else wake_Park.l1 i1 L2 k q9 s11 k 0)
set_option maxRecDepth 100000 in
set_option maxHeartbeats 1500000 in
theorem wake_Park.ok {w0 w:World} {F0:List Nat} {ps:List Piece} {k:Nat} {b0 ab0:Nat} {s0:HSt} {i1:Int} {v2:Value} {L2:List Int} {r0:Int} {t0:HSt} (hS:St w0 F0 (HeapP b0 ab0 s0::RowP (v2) L2::ps) w) (hm:wake_Park.m k s0 i1 L2=some (r0,t0)) :
    Calls Tryz.prog 43 #[nP b0 0,nI i1,v2] w fun e w'=>e=.returned (.int .i64 r0)∧St w0 F0 (HeapP b0 ab0 t0::RowP (v2) L2::ps) w':=by
 refine ev_enterL 76 [nP b0 0,nI i1,v2] Tryz.func43 rfl rfl (by simp) ?_
 intro a hF
 have hF0:Fr 76 a [(0,nP b0 0),(1,nI i1),(2,v2)]:=hF; clear hF
 unfold wake_Park.m at hm
 obtain ⟨hl4,p1,c2,rfl,hp3⟩:=St.shape hS 1 rfl
 refine wp_seq (wp_region_lit ?_)
 refine ev_runK 1 hF0 [0,1,2] (l':=[(0,nP b0 0),(1,nI i1),(2,.slice p1 L2.length c2)]) (w':=w) (by kernel_rfl) ?_
 intro a6 hF5; clear hF0
 refine wpList_nil (thenN (wp_seq (wp_region_lit ?_)))
 refine ev_runs 2 hF5 (l':=[(17,nI i1),(16,nP b0 0),(0,nP b0 0),(1,nI i1),(2,.slice p1 L2.length c2)]) (w':=w) (by kernel_rfl) ?_
 intro a8 hF7; clear hF5
 refine ev_call 38 #[nP b0 0,nI i1] hF7 rfl rfl (by kernel_rfl) rfl (by kernel_rfl) (fun w=>by kernel_rfl) ?_
 obtain ⟨q9,x10,s11,hx12,hm13⟩:=bind3E hm; clear hm
 refine (view_Gor.ok hS hx12).mono ?_
 rintro _ w14 ⟨rfl,hS16⟩ a15 hF17; clear hF7 hS
 refine ev_runs 4 hF17 (l':=[(7,nB w14),(20,nI x10),(19,.agg #[nI (q9.id),nI (q9.status),nI (q9.pc),nI (q9.a),nI (q9.b),nI (q9.c),nI (q9.d),nI (q9.e),nI (q9.f),nI (q9.sudogs)]),(15,.tuple #[.agg #[nI (q9.id),nI (q9.status),nI (q9.pc),nI (q9.a),nI (q9.b),nI (q9.c),nI (q9.d),nI (q9.e),nI (q9.f),nI (q9.sudogs)],nI x10]),(18,.tuple #[.agg #[nI (q9.id),nI (q9.status),nI (q9.pc),nI (q9.a),nI (q9.b),nI (q9.c),nI (q9.d),nI (q9.e),nI (q9.f),nI (q9.sudogs)],nI x10]),(17,nI i1),(16,nP b0 0),(0,nP b0 0),(1,nI i1),(2,.slice p1 L2.length c2)]) (w':=w14.alloc (.cells #[nI 0,nI 0,nI 0,nI 0,nI 0,nI 0,nI 0,nI 0,nI 0,nI 0] 70)) (by kernel_rfl) ?_
 intro a19 hF18; clear hF17
 have hS21:St w0 F0 (BlkP (w14.heap.size) 70 #[nI 0,nI 0,nI 0,nI 0,nI 0,nI 0,nI 0,nI 0,nI 0,nI 0]::HeapP b0 ab0 s11::RowP (.slice p1 L2.length c2) L2::ps) (w14.alloc (.cells #[nI 0,nI 0,nI 0,nI 0,nI 0,nI 0,nI 0,nI 0,nI 0,nI 0] 70)):=St.new hS16 #[nI 0,nI 0,nI 0,nI 0,nI 0,nI 0,nI 0,nI 0,nI 0,nI 0] 70
 clear hS16
 refine ev_store (.agg #[nI (q9.id),nI (q9.status),nI (q9.pc),nI (q9.a),nI (q9.b),nI (q9.c),nI (q9.d),nI (q9.e),nI (q9.f),nI (q9.sudogs)]) #[nI (q9.id),nI (q9.status),nI (q9.pc),nI (q9.a),nI (q9.b),nI (q9.c),nI (q9.d),nI (q9.e),nI (q9.f),nI (q9.sudogs)] hF18 (by kernel_rfl) rfl rfl rfl rfl (by kernel_rfl) hS21 (by kernel_rfl) (by kernel_rfl) (by kernel_rfl) (l':=[(7,nB w14),(20,nI x10),(19,.agg #[nI (q9.id),nI (q9.status),nI (q9.pc),nI (q9.a),nI (q9.b),nI (q9.c),nI (q9.d),nI (q9.e),nI (q9.f),nI (q9.sudogs)]),(15,.tuple #[.agg #[nI (q9.id),nI (q9.status),nI (q9.pc),nI (q9.a),nI (q9.b),nI (q9.c),nI (q9.d),nI (q9.e),nI (q9.f),nI (q9.sudogs)],nI x10]),(18,.tuple #[.agg #[nI (q9.id),nI (q9.status),nI (q9.pc),nI (q9.a),nI (q9.b),nI (q9.c),nI (q9.d),nI (q9.e),nI (q9.f),nI (q9.sudogs)],nI x10]),(17,nI i1),(16,nP b0 0),(0,nP b0 0),(1,nI i1),(2,.slice p1 L2.length c2)]) (by kernel_rfl) ?_
 intro w22 a23 hS24 hF25; clear hF18 hS21
 refine ev_runK 1 hF25 [0,1,2,7,8] (l':=[(8,nI x10),(7,nB w14),(0,nP b0 0),(1,nI i1),(2,.slice p1 L2.length c2)]) (w':=w22) (by kernel_rfl) ?_
 intro a27 hF26; clear hF25
 refine wpList_nil (thenN (wp_seq (wp_seq (wp_region_lit ?_))))
 refine ev_runK 2 hF26 [0,1,2,7,8,22] (l':=[(22,.bool (x10 != 0)),(8,nI x10),(7,nB w14),(0,nP b0 0),(1,nI i1),(2,.slice p1 L2.length c2)]) (w':=w22) (by kernel_rfl) ?_
 intro a29 hF28; clear hF26
 refine wpList_nil (thenN ?_)
 cases hc30:(x10 != 0)
 case true =>
  rw [hc30] at hF28
  have hm31:=ifYes hc30 hm13; clear hm13
  refine ev_condT hF28 rfl rfl ?_
  refine wp_seq (wp_region_lit ?_)
  refine ev_runK 2 hF28 [6] (l':=[(6,nI x10)]) (w':=w22) (by kernel_rfl) ?_
  intro a33 hF32; clear hF28
  refine wpList_nil ?_
  have hS34:=hS24.drop
  clear hS24
  refine thenN ?_
  refine wp_ret ?_
  refine thenR ?_
  simp only [Option.some.injEq,Prod.mk.injEq] at hm31
  obtain ⟨rfl,rfl⟩:=hm31
  refine ev_ret hF32 [6] (nI x10) rfl rfl rfl ?_
  exact ⟨rfl,hS34⟩
 rw [hc30] at hF28
 have hm37:=ifNot hc30 hm13; clear hm13
 refine ev_condF hF28 rfl rfl ?_
 refine wp_skip ?_
 have hF38:=hF28.keep [0,1,2,7]
 clear hF28
 refine thenN (wp_seq (wp_seq (wp_region_lit ?_)))
 refine ev_runs 3 hF38 (l':=[(26,nI 0),(25,nI ((L2.length:Int))),(24,.slice p1 L2.length c2),(7,nB w14),(0,nP b0 0),(1,nI i1),(2,.slice p1 L2.length c2)]) (w':=w22) (by kernel_rfl) ?_
 intro a40 hF39; clear hF38
 refine wpList_nil (thenN ?_)
 refine wp_block ?_
 refine wp_loop_ghost (fun kI aI wI=>∃ (x41:Int),Fr 76 aI [(26,nI x41),(25,nI ((L2.length:Int))),(24,.slice p1 L2.length c2),(7,nB w14),(0,nP b0 0),(1,nI i1),(2,.slice p1 L2.length c2)]∧St w0 F0 (BlkP (w14.heap.size) 70 #[nI (q9.id),nI (q9.status),nI (q9.pc),nI (q9.a),nI (q9.b),nI (q9.c),nI (q9.d),nI (q9.e),nI (q9.f),nI (q9.sudogs)]::HeapP b0 ab0 s11::RowP (.slice p1 L2.length c2) L2::ps) wI∧wake_Park.l1 i1 L2 k q9 s11 kI x41=some (r0,t0)) k ⟨0,hF39,hS24,hm37⟩ ?_
 rintro k42 a43 w44 ⟨x41,hF45,hS46,hm47⟩
 clear hF39 hS24 hm37
 rcases k42 with _ | k42
 · cases hm47
 have hm48:wake_Park.l1b i1 L2 k q9 s11 (wake_Park.l1 i1 L2 k q9 s11 k42) x41=some (r0,t0):=hm47
 clear hm47
 unfold wake_Park.l1b at hm48
 refine wp_seq (wp_region_lit ?_)
 refine ev_runs 1 hF45 (l':=[(27,.bool (decide (x41<(L2.length:Int)))),(26,nI x41),(25,nI ((L2.length:Int))),(24,.slice p1 L2.length c2),(7,nB w14),(0,nP b0 0),(1,nI i1),(2,.slice p1 L2.length c2)]) (w':=w44) (by kernel_rfl) ?_
 intro a50 hF49; clear hF45
 refine wpList_nil (thenN (wp_seq ?_))
 cases hc51:(decide (x41<(L2.length:Int)))
 case true =>
  rw [hc51] at hF49
  have hm52:=ifYes hc51 hm48; clear hm48
  refine ev_condT hF49 rfl rfl ?_
  refine wp_skip ?_
  have hF53:=hF49.keep [0,1,2,7,24,25,26]
  clear hF49
  refine thenN (wp_seq ?_)
  refine wp_block ?_
  refine wp_seq (wp_region_lit ?_)
  obtain ⟨hc54,hm55⟩:=ifTE hm52; clear hm52
  obtain ⟨g56,rfl⟩:=hp3.resolve_left (by have:=inR_spec hc54; omega)
  refine ev_one (nP g56 (x41.toNat)) w44 hF53 (by kernel_rfl) rfl (by kernel_rfl) (run_idx rfl rfl rfl rfl rfl (inR_spec hc54).1 (inR_spec hc54).2 _) (l':=[(28,nP g56 (x41.toNat)),(26,nI x41),(25,nI ((L2.length:Int))),(24,nS g56 L2 c2),(7,nB w14),(0,nP b0 0),(1,nI i1),(2,nS g56 L2 c2)]) (by kernel_rfl) ?_
  intro a58 hF57; clear hF53
  refine ev_one (nI (atI L2 x41)) w44 hF57 (by kernel_rfl) rfl (by kernel_rfl) (run_load1 rfl rfl rfl (hS46.atI 2 rfl hc54)) (l':=[(29,nI (atI L2 x41)),(28,nP g56 (x41.toNat)),(26,nI x41),(25,nI ((L2.length:Int))),(24,nS g56 L2 c2),(7,nB w14),(0,nP b0 0),(1,nI i1),(2,nS g56 L2 c2)]) (by kernel_rfl) ?_
  intro a60 hF59; clear hF57
  refine ev_runK 1 hF59 [0,1,2,7,10,24,25,26] (l':=[(10,nI (atI L2 x41)),(26,nI x41),(25,nI ((L2.length:Int))),(24,nS g56 L2 c2),(7,nB w14),(0,nP b0 0),(1,nI i1),(2,nS g56 L2 c2)]) (w':=w44) (by kernel_rfl) ?_
  intro a62 hF61; clear hF59
  refine wpList_nil (thenN (wp_seq (wp_region_lit ?_)))
  refine ev_runs 2 hF61 (l':=[(32,nI (atI L2 x41)),(31,nP b0 0),(10,nI (atI L2 x41)),(26,nI x41),(25,nI ((L2.length:Int))),(24,nS g56 L2 c2),(7,nB w14),(0,nP b0 0),(1,nI i1),(2,nS g56 L2 c2)]) (w':=w44) (by kernel_rfl) ?_
  intro a64 hF63; clear hF61
  have hS65:=hS46.pick1
  clear hS46
  refine ev_call 30 #[nP b0 0,nI (atI L2 x41)] hF63 rfl rfl (by kernel_rfl) rfl (by kernel_rfl) (fun w=>by kernel_rfl) ?_
  obtain ⟨q66,x67,hx68,hm69⟩:=bind2E hm55; clear hm55
  refine (p_Sudog hS65 hx68).mono ?_
  rintro _ w70 ⟨rfl,hS72⟩ a71 hF73; clear hF63 hS65
  refine ev_runK 4 hF73 [0,1,2,7,8,24,25,26] (l':=[(8,nI x67),(26,nI x41),(25,nI ((L2.length:Int))),(24,nS g56 L2 c2),(7,nB w14),(0,nP b0 0),(1,nI i1),(2,nS g56 L2 c2)]) (w':=w70) (by kernel_rfl) ?_
  intro a75 hF74; clear hF73
  refine wpList_nil (thenN (wp_seq (wp_region_lit ?_)))
  refine ev_runK 2 hF74 [0,1,2,7,8,24,25,26,37] (l':=[(37,.bool (x67 != 0)),(8,nI x67),(26,nI x41),(25,nI ((L2.length:Int))),(24,nS g56 L2 c2),(7,nB w14),(0,nP b0 0),(1,nI i1),(2,nS g56 L2 c2)]) (w':=w70) (by kernel_rfl) ?_
  intro a77 hF76; clear hF74
  refine wpList_nil (thenN ?_)
  cases hc78:(x67 != 0)
  case true =>
   rw [hc78] at hF76
   have hm79:=ifYes hc78 hm69; clear hm69
   refine ev_condT hF76 rfl rfl ?_
   refine wp_seq (wp_region_lit ?_)
   refine ev_runK 2 hF76 [6] (l':=[(6,nI x67)]) (w':=w70) (by kernel_rfl) ?_
   intro a81 hF80; clear hF76
   refine wpList_nil ?_
   have hS82:=hS72.pick1.drop
   clear hS72
   refine thenN ?_
   refine wp_ret ?_
   refine blockR ?_
   refine thenR (thenR ?_)
   refine blockR ?_
   refine thenR ?_
   simp only [Option.some.injEq,Prod.mk.injEq] at hm79
   obtain ⟨rfl,rfl⟩:=hm79
   refine ev_ret hF80 [6] (nI x67) rfl rfl rfl ?_
   exact ⟨rfl,hS82⟩
  rw [hc78] at hF76
  have hm85:=ifNot hc78 hm69; clear hm69
  refine ev_condF hF76 rfl rfl ?_
  refine wp_skip ?_
  have hF86:=hF76.keep [0,1,2,7,24,25,26]
  clear hF76
  refine blockN ?_
  refine thenN (wp_region_lit ?_)
  refine ev_runK 2 hF86 [0,1,2,7,24,25,26] (l':=[(26,nI (IntKind.i64.wrap (x41+1))),(25,nI ((L2.length:Int))),(24,nS g56 L2 c2),(7,nB w14),(0,nP b0 0),(1,nI i1),(2,nS g56 L2 c2)]) (w':=w70) (by kernel_rfl) ?_
  intro a88 hF87; clear hF86
  refine wpList_nil ?_
  have hS89:=hS72.pick2.pick1.pick2
  clear hS72
  exact thenN ⟨k42,Nat.lt_succ_self _,IntKind.i64.wrap (x41+1),hF87,hS89,hm85⟩
 rw [hc51] at hF49
 have hm90:=ifNot hc51 hm48; clear hm48
 refine ev_condF hF49 rfl rfl ?_
 refine wp_exit ?_
 refine thenE ?_
 refine thenE ?_
 refine blockE ?_
 refine thenN (wp_seq (wp_region_lit ?_))
 refine ev_runK 1 hF49 [0,1,2,7,11] (l':=[(11,nI (-1)),(7,nB w14),(0,nP b0 0),(1,nI i1),(2,.slice p1 L2.length c2)]) (w':=w44) (by kernel_rfl) ?_
 intro a92 hF91; clear hF49
 refine wpList_nil (thenN (wp_seq (wp_seq (wp_region_lit ?_))))
 refine ev_runK 4 hF91 [0,1,2,7,11,12] (l':=[(12,nI (IntKind.i64.wrap ((L2.length:Int) - 1))),(11,nI (-1)),(7,nB w14),(0,nP b0 0),(1,nI i1),(2,.slice p1 L2.length c2)]) (w':=w44) (by kernel_rfl) ?_
 intro a94 hF93; clear hF91
 refine wpList_nil (thenN ?_)
 refine wp_block ?_
 refine wp_loop_ghost (fun kI aI wI=>∃ (s95:HSt) (x96:Int) (x97:Int),Fr 76 aI [(12,nI x96),(11,nI x97),(7,nB w14),(0,nP b0 0),(1,nI i1),(2,.slice p1 L2.length c2)]∧St w0 F0 (BlkP (w14.heap.size) 70 #[nI (q9.id),nI (q9.status),nI (q9.pc),nI (q9.a),nI (q9.b),nI (q9.c),nI (q9.d),nI (q9.e),nI (q9.f),nI (q9.sudogs)]::HeapP b0 ab0 s95::RowP (.slice p1 L2.length c2) L2::ps) wI∧wake_Park.l2 i1 L2 q9 kI s95 x96 x97=some (r0,t0)) k ⟨s11,IntKind.i64.wrap ((L2.length:Int) - 1),-1,hF93,hS46,hm90⟩ ?_
 rintro k98 a99 w100 ⟨s95,x96,x97,hF101,hS102,hm103⟩
 clear hF93 hS46 hm90
 rcases k98 with _ | k98
 · cases hm103
 have hm104:wake_Park.l2b i1 L2 q9 (wake_Park.l2 i1 L2 q9 k98) s95 x96 x97=some (r0,t0):=hm103
 clear hm103
 unfold wake_Park.l2b at hm104
 refine wp_seq (wp_seq (wp_region_lit ?_))
 refine ev_runK 2 hF101 [0,1,2,7,11,12,44] (l':=[(44,.bool (decide (x96 ≥ 0))),(12,nI x96),(11,nI x97),(7,nB w14),(0,nP b0 0),(1,nI i1),(2,.slice p1 L2.length c2)]) (w':=w100) (by kernel_rfl) ?_
 intro a106 hF105; clear hF101
 refine wpList_nil (thenN ?_)
 cases hc107:(decide (x96 ≥ 0))
 case true =>
  rw [hc107] at hF105
  have hm108:=ifYes hc107 hm104; clear hm104
  refine ev_condT hF105 rfl rfl ?_
  refine wp_skip ?_
  have hF109:=hF105.keep [0,1,2,7,11,12]
  clear hF105
  refine thenN (wp_seq ?_)
  refine wp_block ?_
  refine wp_seq (wp_region_lit ?_)
  refine ev_runs 3 hF109 (l':=[(50,nI x96),(49,.slice p1 L2.length c2),(48,nP b0 0),(12,nI x96),(11,nI x97),(7,nB w14),(0,nP b0 0),(1,nI i1),(2,.slice p1 L2.length c2)]) (w':=w100) (by kernel_rfl) ?_
  intro a111 hF110; clear hF109
  obtain ⟨hc112,hm113⟩:=ifTE hm108; clear hm108
  obtain ⟨g114,rfl⟩:=hp3.resolve_left (by have:=inR_spec hc112; omega)
  refine ev_one (nP g114 (x96.toNat)) w100 hF110 (by kernel_rfl) rfl (by kernel_rfl) (run_idx rfl rfl rfl rfl rfl (inR_spec hc112).1 (inR_spec hc112).2 _) (l':=[(51,nP g114 (x96.toNat)),(50,nI x96),(49,nS g114 L2 c2),(48,nP b0 0),(12,nI x96),(11,nI x97),(7,nB w14),(0,nP b0 0),(1,nI i1),(2,nS g114 L2 c2)]) (by kernel_rfl) ?_
  intro a116 hF115; clear hF110
  refine ev_one (nI (atI L2 x96)) w100 hF115 (by kernel_rfl) rfl (by kernel_rfl) (run_load1 rfl rfl rfl (hS102.atI 2 rfl hc112)) (l':=[(52,nI (atI L2 x96)),(51,nP g114 (x96.toNat)),(50,nI x96),(49,nS g114 L2 c2),(48,nP b0 0),(12,nI x96),(11,nI x97),(7,nB w14),(0,nP b0 0),(1,nI i1),(2,nS g114 L2 c2)]) (by kernel_rfl) ?_
  intro a118 hF117; clear hF115
  have hS119:=hS102.pick1
  clear hS102
  refine ev_call 30 #[nP b0 0,nI (atI L2 x96)] hF117 rfl rfl (by kernel_rfl) rfl (by kernel_rfl) (fun w=>by kernel_rfl) ?_
  obtain ⟨q120,x121,hx122,hm123⟩:=bind2E hm113; clear hm113
  refine (p_Sudog hS119 hx122).mono ?_
  rintro _ w124 ⟨rfl,hS126⟩ a125 hF127; clear hF117 hS119
  refine ev_runs 4 hF127 (l':=[(13,nB w124),(55,nI x121),(54,.agg #[nI (q120.gor),nI (q120.chan),nI (q120.value),nI (q120.next),nI (q120.to),nI (q120.reg),nI (q120.more)]),(47,.tuple #[.agg #[nI (q120.gor),nI (q120.chan),nI (q120.value),nI (q120.next),nI (q120.to),nI (q120.reg),nI (q120.more)],nI x121]),(53,.tuple #[.agg #[nI (q120.gor),nI (q120.chan),nI (q120.value),nI (q120.next),nI (q120.to),nI (q120.reg),nI (q120.more)],nI x121]),(52,nI (atI L2 x96)),(51,nP g114 (x96.toNat)),(50,nI x96),(49,nS g114 L2 c2),(48,nP b0 0),(12,nI x96),(11,nI x97),(7,nB w14),(0,nP b0 0),(1,nI i1),(2,nS g114 L2 c2)]) (w':=w124.alloc (.cells #[nI 0,nI 0,nI 0,nI 0,nI 0,nI 0,nI 0] 54)) (by kernel_rfl) ?_
  intro a129 hF128; clear hF127
  have hS131:St w0 F0 (BlkP (w124.heap.size) 54 #[nI 0,nI 0,nI 0,nI 0,nI 0,nI 0,nI 0]::HeapP b0 ab0 s95::BlkP (w14.heap.size) 70 #[nI (q9.id),nI (q9.status),nI (q9.pc),nI (q9.a),nI (q9.b),nI (q9.c),nI (q9.d),nI (q9.e),nI (q9.f),nI (q9.sudogs)]::RowP (nS g114 L2 c2) L2::ps) (w124.alloc (.cells #[nI 0,nI 0,nI 0,nI 0,nI 0,nI 0,nI 0] 54)):=St.new hS126 #[nI 0,nI 0,nI 0,nI 0,nI 0,nI 0,nI 0] 54
  clear hS126
  refine ev_store (.agg #[nI (q120.gor),nI (q120.chan),nI (q120.value),nI (q120.next),nI (q120.to),nI (q120.reg),nI (q120.more)]) #[nI (q120.gor),nI (q120.chan),nI (q120.value),nI (q120.next),nI (q120.to),nI (q120.reg),nI (q120.more)] hF128 (by kernel_rfl) rfl rfl rfl rfl (by kernel_rfl) hS131 (by kernel_rfl) (by kernel_rfl) (by kernel_rfl) (l':=[(13,nB w124),(55,nI x121),(54,.agg #[nI (q120.gor),nI (q120.chan),nI (q120.value),nI (q120.next),nI (q120.to),nI (q120.reg),nI (q120.more)]),(47,.tuple #[.agg #[nI (q120.gor),nI (q120.chan),nI (q120.value),nI (q120.next),nI (q120.to),nI (q120.reg),nI (q120.more)],nI x121]),(53,.tuple #[.agg #[nI (q120.gor),nI (q120.chan),nI (q120.value),nI (q120.next),nI (q120.to),nI (q120.reg),nI (q120.more)],nI x121]),(52,nI (atI L2 x96)),(51,nP g114 (x96.toNat)),(50,nI x96),(49,nS g114 L2 c2),(48,nP b0 0),(12,nI x96),(11,nI x97),(7,nB w14),(0,nP b0 0),(1,nI i1),(2,nS g114 L2 c2)]) (by kernel_rfl) ?_
  intro w132 a133 hS134 hF135; clear hF128 hS131
  refine ev_runK 1 hF135 [0,1,2,7,11,12,13] (l':=[(13,nB w124),(12,nI x96),(11,nI x97),(7,nB w14),(0,nP b0 0),(1,nI i1),(2,nS g114 L2 c2)]) (w':=w132) (by kernel_rfl) ?_
  intro a137 hF136; clear hF135
  refine wpList_nil (thenN (wp_seq (wp_region_lit ?_)))
  refine ev_runs 2 hF136 (l':=[(57,nP (w124.heap.size) 6),(56,nI x97),(13,nB w124),(12,nI x96),(11,nI x97),(7,nB w14),(0,nP b0 0),(1,nI i1),(2,nS g114 L2 c2)]) (w':=w132) (by kernel_rfl) ?_
  intro a139 hF138; clear hF136
  refine ev_store (nI x97) #[nI (q120.gor),nI (q120.chan),nI (q120.value),nI (q120.next),nI (q120.to),nI (q120.reg),nI x97] hF138 (by kernel_rfl) rfl rfl rfl rfl (by kernel_rfl) hS134 (by kernel_rfl) (by kernel_rfl) (by kernel_rfl) (l':=[(57,nP (w124.heap.size) 6),(56,nI x97),(13,nB w124),(12,nI x96),(11,nI x97),(7,nB w14),(0,nP b0 0),(1,nI i1),(2,nS g114 L2 c2)]) (by kernel_rfl) ?_
  intro w140 a141 hS142 hF143; clear hF138 hS134
  refine wpList_nil ?_
  have hF144:=hF143.keep [0,1,2,7,12,13]
  clear hF143
  refine thenN (wp_seq ?_)
  have hS145:=hS142.pick3
  clear hS142
  have hS146:=hS145.drew; clear hS145
  refine any_start (fun wS=>∃ qs,St w0 F0 (RowP (nS g114 L2 c2) L2::BlkP (w124.heap.size) 54 #[nI (q120.gor),nI (q120.chan),nI (q120.value),nI (q120.next),nI (q120.to),nI (q120.reg),nI x97]::qs) wS) 7 #[false,false,false,false,false,false,false] (by kernel_rfl) (by kernel_rfl) (by kernel_rfl) ?_
  refine any_many 6 [(0,some (nP b0 0)),(1,some (nS g114 L2 c2)),(2,some (nI x96)),(3,some (nP g114 (x96.toNat))),(4,some (nI (atI L2 x96))),(5,some (.agg #[nI (q120.gor),nI (q120.chan),nI (q120.value),nI (q120.next),nI (q120.to),nI (q120.reg),nI x97]))] [0,1,2,7,12,58,62,63] #[true,true,true,true,true,true,false] (by rfl) hF144 (by kernel_rfl) (by kernel_rfl) (by exact ⟨fun wS hw=>by kernel_rfl,fun wS hw=>by kernel_rfl,fun wS hw=>by kernel_rfl,fun wS hw=>run_idx rfl rfl rfl rfl rfl (inR_spec hc112).1 (inR_spec hc112).2 _,fun wS hw=>run_load1 rfl rfl rfl (hw.elim fun qs hw=>hw.atI 0 rfl hc112),fun wS hw=>hw.elim fun qs hw=>run_loadV rfl rfl (run_loadA (cs:=[nI (q120.gor),nI (q120.chan),nI (q120.value),nI (q120.next),nI (q120.to),nI (q120.reg),nI x97]) rfl rfl (by kernel_rfl) (blk_cells hw 1 rfl rfl)),trivial⟩) (fun _ _ _ _ _ h=>h) ⟨_,hS146⟩ (l':=[(63,.agg #[nI (q120.gor),nI (q120.chan),nI (q120.value),nI (q120.next),nI (q120.to),nI (q120.reg),nI x97]),(62,nI (atI L2 x96)),(58,nP b0 0),(12,nI x96),(7,nB w14),(0,nP b0 0),(1,nI i1),(2,nS g114 L2 c2)]) (by kernel_rfl) ?_
  intro a148 hF147; clear hF144
  have hS149:=hS146.pick2
  clear hS146
  refine any_call 6 #[true,true,true,true,true,true,true] 41 #[nP b0 0,nI (atI L2 x96),.agg #[nI (q120.gor),nI (q120.chan),nI (q120.value),nI (q120.next),nI (q120.to),nI (q120.reg),nI x97]] hF147 rfl (by kernel_rfl) rfl rfl (by kernel_rfl) rfl (by kernel_rfl) (fun w=>by kernel_rfl) (by kernel_rfl) ?_
  obtain ⟨x150,s151,hx152,hm153⟩:=bind2E hm123; clear hm123
  refine (p_PutSudog hS149 hx152).mono ?_
  rintro _ w154 ⟨rfl,hS156⟩; clear hS149
  refine ⟨⟨_,hS156.pick2.pick2⟩,?_⟩
  intro a155 hF157; clear hF147
  refine any_done (by kernel_rfl) ?_
  have hF158:=hF157.keep [0,1,2,7,12]
  clear hF157
  have hS159:=hS156.pick2.drop
  clear hS156
  refine thenN (wp_region_lit ?_)
  refine ev_runs 2 hF158 (l':=[(66,nI x96),(65,nS g114 L2 c2),(12,nI x96),(7,nB w14),(0,nP b0 0),(1,nI i1),(2,nS g114 L2 c2)]) (w':=w154) (by kernel_rfl) ?_
  intro a161 hF160; clear hF158
  refine ev_one (nP g114 (x96.toNat)) w154 hF160 (by kernel_rfl) rfl (by kernel_rfl) (run_idx rfl rfl rfl rfl rfl (inR_spec hc112).1 (inR_spec hc112).2 _) (l':=[(67,nP g114 (x96.toNat)),(66,nI x96),(65,nS g114 L2 c2),(12,nI x96),(7,nB w14),(0,nP b0 0),(1,nI i1),(2,nS g114 L2 c2)]) (by kernel_rfl) ?_
  intro a163 hF162; clear hF160
  refine ev_one (nI (atI L2 x96)) w154 hF162 (by kernel_rfl) rfl (by kernel_rfl) (run_load1 rfl rfl rfl (hS159.atI 1 rfl hc112)) (l':=[(68,nI (atI L2 x96)),(67,nP g114 (x96.toNat)),(66,nI x96),(65,nS g114 L2 c2),(12,nI x96),(7,nB w14),(0,nP b0 0),(1,nI i1),(2,nS g114 L2 c2)]) (by kernel_rfl) ?_
  intro a165 hF164; clear hF162
  refine ev_runK 1 hF164 [0,1,2,7,11,12] (l':=[(11,nI (atI L2 x96)),(12,nI x96),(7,nB w14),(0,nP b0 0),(1,nI i1),(2,nS g114 L2 c2)]) (w':=w154) (by kernel_rfl) ?_
  intro a167 hF166; clear hF164
  refine wpList_nil ?_
  refine blockN ?_
  refine thenN (wp_region_lit ?_)
  refine ev_runK 3 hF166 [0,1,2,7,11,12] (l':=[(12,nI (IntKind.i64.wrap (x96 - 1))),(11,nI (atI L2 x96)),(7,nB w14),(0,nP b0 0),(1,nI i1),(2,nS g114 L2 c2)]) (w':=w154) (by kernel_rfl) ?_
  intro a169 hF168; clear hF166
  refine wpList_nil ?_
  have hS170:=hS159.pick1.pick1.pick2
  clear hS159
  exact thenN ⟨k98,Nat.lt_succ_self _,s151,IntKind.i64.wrap (x96 - 1),atI L2 x96,hF168,hS170,hm153⟩
 rw [hc107] at hF105
 have hm171:=ifNot hc107 hm104; clear hm104
 refine ev_condF hF105 rfl rfl ?_
 refine wp_exit ?_
 refine thenE ?_
 refine thenE ?_
 refine blockE ?_
 refine thenN (wp_seq (wp_region_lit ?_))
 refine ev_runs 2 hF105 (l':=[(70,nP (w14.heap.size) 1),(69,nI x97),(44,.bool false),(12,nI x96),(11,nI x97),(7,nB w14),(0,nP b0 0),(1,nI i1),(2,.slice p1 L2.length c2)]) (w':=w100) (by kernel_rfl) ?_
 intro a173 hF172; clear hF105
 refine ev_store (nI 1) #[nI (q9.id),nI 1,nI (q9.pc),nI (q9.a),nI (q9.b),nI (q9.c),nI (q9.d),nI (q9.e),nI (q9.f),nI (q9.sudogs)] hF172 (by kernel_rfl) rfl rfl rfl rfl (by kernel_rfl) hS102 (by kernel_rfl) (by kernel_rfl) (by kernel_rfl) (l':=[(70,nP (w14.heap.size) 1),(69,nI x97),(44,.bool false),(12,nI x96),(11,nI x97),(7,nB w14),(0,nP b0 0),(1,nI i1),(2,.slice p1 L2.length c2)]) (by kernel_rfl) ?_
 intro w174 a175 hS176 hF177; clear hF172 hS102
 refine ev_runs 1 hF177 (l':=[(71,nP (w14.heap.size) 9),(70,nP (w14.heap.size) 1),(69,nI x97),(44,.bool false),(12,nI x96),(11,nI x97),(7,nB w14),(0,nP b0 0),(1,nI i1),(2,.slice p1 L2.length c2)]) (w':=w174) (by kernel_rfl) ?_
 intro a179 hF178; clear hF177
 refine ev_store (nI x97) #[nI (q9.id),nI 1,nI (q9.pc),nI (q9.a),nI (q9.b),nI (q9.c),nI (q9.d),nI (q9.e),nI (q9.f),nI x97] hF178 (by kernel_rfl) rfl rfl rfl rfl (by kernel_rfl) hS176 (by kernel_rfl) (by kernel_rfl) (by kernel_rfl) (l':=[(71,nP (w14.heap.size) 9),(70,nP (w14.heap.size) 1),(69,nI x97),(44,.bool false),(12,nI x96),(11,nI x97),(7,nB w14),(0,nP b0 0),(1,nI i1),(2,.slice p1 L2.length c2)]) (by kernel_rfl) ?_
 intro w180 a181 hS182 hF183; clear hF178 hS176
 refine wpList_nil ?_
 have hF184:=hF183.keep [0,1,7]
 clear hF183
 refine thenN (wp_seq (wp_region_lit ?_))
 refine ev_runs 2 hF184 (l':=[(73,nI i1),(72,nP b0 0),(7,nB w14),(0,nP b0 0),(1,nI i1)]) (w':=w180) (by kernel_rfl) ?_
 intro a186 hF185; clear hF184
 refine ev_one (.agg #[nI (q9.id),nI 1,nI (q9.pc),nI (q9.a),nI (q9.b),nI (q9.c),nI (q9.d),nI (q9.e),nI (q9.f),nI x97]) w180 hF185 (by kernel_rfl) rfl (by kernel_rfl) (run_loadV rfl rfl (run_loadA (cs:=[nI (q9.id),nI 1,nI (q9.pc),nI (q9.a),nI (q9.b),nI (q9.c),nI (q9.d),nI (q9.e),nI (q9.f),nI x97]) rfl rfl (by kernel_rfl) (blk_cells hS182 0 rfl rfl))) (l':=[(74,.agg #[nI (q9.id),nI 1,nI (q9.pc),nI (q9.a),nI (q9.b),nI (q9.c),nI (q9.d),nI (q9.e),nI (q9.f),nI x97]),(73,nI i1),(72,nP b0 0),(7,nB w14),(0,nP b0 0),(1,nI i1)]) (by kernel_rfl) ?_
 intro a188 hF187; clear hF185
 have hS189:=hS182.pick1
 clear hS182
 refine ev_call 63 #[nP b0 0,nI i1,.agg #[nI (q9.id),nI 1,nI (q9.pc),nI (q9.a),nI (q9.b),nI (q9.c),nI (q9.d),nI (q9.e),nI (q9.f),nI x97]] hF187 rfl rfl (by kernel_rfl) rfl (by kernel_rfl) (fun w=>by kernel_rfl) ?_
 obtain ⟨x190,s191,hx192,hm193⟩:=bind2E hm171; clear hm171
 refine (p_PutGor hS189 hx192).mono ?_
 rintro _ w194 ⟨rfl,hS196⟩ a195 hF197; clear hF187 hS189
 refine ev_runK 1 hF197 [6] (l':=[(6,nI x190)]) (w':=w194) (by kernel_rfl) ?_
 intro a199 hF198; clear hF197
 refine wpList_nil ?_
 have hS200:=hS196.pick1.drop
 clear hS196
 refine thenN ?_
 refine wp_ret ?_
 simp only [Option.some.injEq,Prod.mk.injEq] at hm193
 obtain ⟨rfl,rfl⟩:=hm193
 refine ev_ret hF198 [6] (nI x190) rfl rfl rfl ?_
 exact ⟨rfl,hS200⟩
end Go.Proofs.YtaojmbkmicjecaaGreat
