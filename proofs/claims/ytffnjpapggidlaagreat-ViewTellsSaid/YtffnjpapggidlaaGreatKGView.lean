/- GView -/
import Derived.Test.YtffnjpapggidlaaGreatKPrimV
import Derived.Test.YtffnjpapggidlaaGreatKGHelp
import Derived.Deep.LoopGhost
import Derived.KernelRfl
namespace Go.Proofs.YtffnjpapggidlaaGreat
open Go.RowKit
set_option linter.unusedVariables false
def view_Gor.l2b (s0:HSt) (L10:List Int) (x48:Int) (x49:Int) (x50:Int) (rec69:Int→Int→Int→Int→Int→Int→Int→Option (Gr×Int×HSt)) (x60:Int) (x61:Int) (x62:Int) (x63:Int) (x64:Int) (x65:Int) (x66:Int):Option (Gr×Int×HSt):=(if (decide (x66<6)) then (if (inR (IntKind.i64.wrap (3+x66)) L10.length) then (if (x66 == 0) then rec69 (atI L10 (IntKind.i64.wrap (3+x66))) x61 x62 x63 x64 x65 (IntKind.i64.wrap (x66+1)) else (if (x66 == 1) then rec69 x60 (atI L10 (IntKind.i64.wrap (3+x66))) x62 x63 x64 x65 (IntKind.i64.wrap (x66+1)) else (if (x66 == 2) then rec69 x60 x61 (atI L10 (IntKind.i64.wrap (3+x66))) x63 x64 x65 (IntKind.i64.wrap (x66+1)) else (if (x66 == 3) then rec69 x60 x61 x62 (atI L10 (IntKind.i64.wrap (3+x66))) x64 x65 (IntKind.i64.wrap (x66+1)) else (if (x66 == 4) then rec69 x60 x61 x62 x63 (atI L10 (IntKind.i64.wrap (3+x66))) x65 (IntKind.i64.wrap (x66+1)) else (if (x66 == 5) then rec69 x60 x61 x62 x63 x64 (atI L10 (IntKind.i64.wrap (3+x66))) (IntKind.i64.wrap (x66+1)) else none)))))) else none) else (if (inR (9:Int) L10.length) then bind1 (pAt (atI L10 (9:Int))) fun x174=>some ((⟨x48,x49,x50,x60,x61,x62,x63,x64,x65,x174⟩:Gr),0,s0) else none))
def view_Gor.l2 (s0:HSt) (L10:List Int) (x48:Int) (x49:Int) (x50:Int):Nat→Int→Int→Int→Int→Int→Int→Int→Option (Gr×Int×HSt)
  | 0=>fun _ _ _ _ _ _ _=>none
  | kI+1=>view_Gor.l2b s0 L10 x48 x49 x50 (view_Gor.l2 s0 L10 x48 x49 x50 kI)
def view_Gor.j1 (s0:HSt) (k:Nat) (L10:List Int) (x48:Int) (x49:Int) (x50:Int):Option (Gr×Int×HSt):=view_Gor.l2 s0 L10 x48 x49 x50 k 0 0 0 0 0 0 0
def view_Gor.m (k:Nat) (s0:HSt) (i1:Int):Option (Gr×Int×HSt):=bind2 (pSeen4 i1 s0) fun L10 x11=>(if (x11 != 0) then some ((⟨0,0,0,0,0,0,0,0,0,0⟩:Gr),x11,s0) else (if (inR (0:Int) L10.length) then (if (inR (1:Int) L10.length) then (if (inR (2:Int) L10.length) then bind1 (pNum (atI L10 (0:Int))) fun x215=>bind1 (pNum (atI L10 (1:Int))) fun x222=>bind1 (pNum (atI L10 (2:Int))) fun x229=>view_Gor.j1 s0 k L10 x215 x222 x229 else none) else none) else none))
set_option maxRecDepth 100000 in
set_option maxHeartbeats 1500000 in
theorem view_Gor.ok {w0 w:World} {F0:List Nat} {ps:List Piece} {k:Nat} {b0 ab0:Nat} {s0:HSt} {i1:Int} {r0:Gr} {r1:Int} {t0:HSt} (hS:St w0 F0 (HeapP b0 ab0 s0::ps) w) (hm:view_Gor.m k s0 i1=some (r0,r1,t0)) :
    Calls Tryz.prog 29 #[nP b0 0,nI i1] w fun e w'=>e=.returned (.tuple #[.agg #[nI (r0.id),nI (r0.status),nI (r0.pc),nI (r0.a),nI (r0.b),nI (r0.c),nI (r0.d),nI (r0.e),nI (r0.f),nI (r0.sudogs)],.int .i64 r1])∧St w0 F0 (HeapP b0 ab0 t0::ps) w':=by
 refine ev_enterL 51 [nP b0 0,nI i1] Tryz.func29 rfl rfl (by simp) ?_
 intro a hF
 have hF0:Fr 51 a [(0,nP b0 0),(1,nI i1)]:=hF; clear hF
 unfold view_Gor.m at hm
 refine wp_seq (wp_region_lit ?_)
 refine ev_runs 1 hF0 (l':=[(4,nB w),(0,nP b0 0),(1,nI i1)]) (w':=w.alloc (.cells #[nI 0,nI 0,nI 0,nI 0,nI 0,nI 0,nI 0,nI 0,nI 0,nI 0] 28)) (by kernel_rfl) ?_
 intro a2 hF1; clear hF0
 have hS4:St w0 F0 (BlkP (w.heap.size) 28 #[nI 0,nI 0,nI 0,nI 0,nI 0,nI 0,nI 0,nI 0,nI 0,nI 0]::HeapP b0 ab0 s0::ps) (w.alloc (.cells #[nI 0,nI 0,nI 0,nI 0,nI 0,nI 0,nI 0,nI 0,nI 0,nI 0] 28)):=St.new hS #[nI 0,nI 0,nI 0,nI 0,nI 0,nI 0,nI 0,nI 0,nI 0,nI 0] 28
 refine ev_runK 1 hF1 [0,1,4] (l':=[(4,nB w),(0,nP b0 0),(1,nI i1)]) (w':=w.alloc (.cells #[nI 0,nI 0,nI 0,nI 0,nI 0,nI 0,nI 0,nI 0,nI 0,nI 0] 28)) (by kernel_rfl) ?_
 intro a6 hF5; clear hF1
 refine wpList_nil (thenN (wp_seq (wp_region_lit ?_)))
 refine ev_runs 2 hF5 (l':=[(12,nI i1),(11,nP b0 0),(4,nB w),(0,nP b0 0),(1,nI i1)]) (w':=w.alloc (.cells #[nI 0,nI 0,nI 0,nI 0,nI 0,nI 0,nI 0,nI 0,nI 0,nI 0] 28)) (by kernel_rfl) ?_
 intro a8 hF7; clear hF5
 have hS9:=hS4.pick1
 clear hS4
 refine ev_call 118 #[nP b0 0,nI i1,nI 4] hF7 rfl rfl (by kernel_rfl) rfl (by kernel_rfl) (fun w=>by kernel_rfl) ?_
 obtain ⟨L10,x11,hx12,hm13⟩:=bind2E hm; clear hm
 refine (p_seen4 hS9 hx12).mono ?_
 rintro _ w14 ⟨z18,rfl,hS16⟩ a15 hF17; clear hF7 hS9
 obtain ⟨hl23,p20,c21,rfl,hp22⟩:=St.shape hS16 1 rfl
 refine ev_runK 5 hF17 [4,6,7] (l':=[(7,nI x11),(6,.slice p20 L10.length c21),(4,nB w)]) (w':=w14) (by kernel_rfl) ?_
 intro a25 hF24; clear hF17
 refine wpList_nil (thenN (wp_seq (wp_seq (wp_region_lit ?_))))
 refine ev_runK 2 hF24 [4,6,7,17] (l':=[(17,.bool (x11 != 0)),(7,nI x11),(6,.slice p20 L10.length c21),(4,nB w)]) (w':=w14) (by kernel_rfl) ?_
 intro a27 hF26; clear hF24
 refine wpList_nil (thenN ?_)
 cases hc28:(x11 != 0)
 case true =>
  rw [hc28] at hF26
  have hm29:=ifYes hc28 hm13; clear hm13
  refine ev_condT hF26 rfl rfl ?_
  refine wp_seq (wp_region_lit ?_)
  refine ev_runs 2 hF26 (l':=[(19,nI x11),(18,.agg #[nI 0,nI 0,nI 0,nI 0,nI 0,nI 0,nI 0,nI 0,nI 0,nI 0]),(17,.bool true),(7,nI x11),(6,.slice p20 L10.length c21),(4,nB w)]) (w':=w14) (by kernel_rfl) ?_
  intro a31 hF30; clear hF26
  have hS32:=hS16.pick2
  clear hS16
  refine ev_store (.agg #[nI 0,nI 0,nI 0,nI 0,nI 0,nI 0,nI 0,nI 0,nI 0,nI 0]) #[nI 0,nI 0,nI 0,nI 0,nI 0,nI 0,nI 0,nI 0,nI 0,nI 0] hF30 (by kernel_rfl) rfl rfl rfl rfl (by kernel_rfl) hS32 (by kernel_rfl) (by kernel_rfl) (by kernel_rfl) (l':=[(19,nI x11),(18,.agg #[nI 0,nI 0,nI 0,nI 0,nI 0,nI 0,nI 0,nI 0,nI 0,nI 0]),(17,.bool true),(7,nI x11),(6,.slice p20 L10.length c21),(4,nB w)]) (by kernel_rfl) ?_
  intro w33 a34 hS35 hF36; clear hF30 hS32
  refine ev_runK 1 hF36 [4,5] (l':=[(5,nI x11),(4,nB w)]) (w':=w33) (by kernel_rfl) ?_
  intro a38 hF37; clear hF36
  refine wpList_nil ?_
  have hS39:=hS35.pick2.drop
  clear hS35
  refine thenN ?_
  refine wp_ret ?_
  refine thenR ?_
  have hS40:=hS39.pick1
  clear hS39
  simp only [Option.some.injEq,Prod.mk.injEq] at hm29
  obtain ⟨rfl,rfl,rfl⟩:=hm29
  refine ev_retC hF37 _ [.agg #[nI 0,nI 0,nI 0,nI 0,nI 0,nI 0,nI 0,nI 0,nI 0,nI 0],nI x11] (.tuple #[.agg #[nI 0,nI 0,nI 0,nI 0,nI 0,nI 0,nI 0,nI 0,nI 0,nI 0],nI x11]) rfl ⟨⟨rfl,_,rfl,(run_loadA (cs:=[nI 0,nI 0,nI 0,nI 0,nI 0,nI 0,nI 0,nI 0,nI 0,nI 0]) rfl rfl (by kernel_rfl) (blk_cells hS40 1 rfl rfl))⟩,⟨rfl,rfl⟩,trivial⟩ rfl ?_
  have hS44:=hS40.pick1.drop
  clear hS40
  exact ⟨rfl,hS44⟩
 rw [hc28] at hF26
 have hm45:=ifNot hc28 hm13; clear hm13
 refine ev_condF hF26 rfl rfl ?_
 refine wp_skip ?_
 have hF46:=hF26.keep [4,6]
 clear hF26
 refine thenN (wp_seq ?_)
 refine joinQ (fun aI wI=>∃ (g47:Nat) (x48:Int) (x49:Int) (x50:Int),Fr 51 aI [(8,nP g47 0),(6,.slice p20 L10.length c21),(4,nB w)]∧St w0 F0 (BlkP g47 28 #[nI x48,nI x49,nI x50,nI 0,nI 0,nI 0,nI 0,nI 0,nI 0,nI (-1)]::RowP (.slice p20 L10.length c21) L10::HeapP b0 ab0 s0::BlkP (w.heap.size) 28 #[nI 0,nI 0,nI 0,nI 0,nI 0,nI 0,nI 0,nI 0,nI 0,nI 0]::ps) wI∧view_Gor.j1 s0 k L10 x48 x49 x50=some (r0,r1,t0)) ?_ ?_
 rotate_left
 · rintro a52 w53 ⟨g47,x48,x49,x50,hF54,hS55,hm56⟩
   clear hF46 hS16 hm45
   unfold view_Gor.j1 at hm56
   refine thenN (wp_seq (wp_seq (wp_region_lit ?_)))
   refine ev_runs 1 hF54 (l':=[(33,nI 0),(8,nP g47 0),(6,.slice p20 L10.length c21),(4,nB w)]) (w':=w53) (by kernel_rfl) ?_
   intro a59 hF58; clear hF54
   refine wpList_nil (thenN ?_)
   refine wp_block ?_
   refine wp_loop_ghost (fun kI aI wI=>∃ (x60:Int) (x61:Int) (x62:Int) (x63:Int) (x64:Int) (x65:Int) (x66:Int),Fr 51 aI [(33,nI x66),(8,nP g47 0),(6,.slice p20 L10.length c21),(4,nB w)]∧St w0 F0 (BlkP g47 28 #[nI x48,nI x49,nI x50,nI x60,nI x61,nI x62,nI x63,nI x64,nI x65,nI (-1)]::RowP (.slice p20 L10.length c21) L10::HeapP b0 ab0 s0::BlkP (w.heap.size) 28 #[nI 0,nI 0,nI 0,nI 0,nI 0,nI 0,nI 0,nI 0,nI 0,nI 0]::ps) wI∧view_Gor.l2 s0 L10 x48 x49 x50 kI x60 x61 x62 x63 x64 x65 x66=some (r0,r1,t0)) k ⟨0,0,0,0,0,0,0,hF58,hS55,hm56⟩ ?_
   rintro k67 a68 w69 ⟨x60,x61,x62,x63,x64,x65,x66,hF70,hS71,hm72⟩
   clear hF58 hS55 hm56
   rcases k67 with _ | k67
   · cases hm72
   have hm73:view_Gor.l2b s0 L10 x48 x49 x50 (view_Gor.l2 s0 L10 x48 x49 x50 k67) x60 x61 x62 x63 x64 x65 x66=some (r0,r1,t0):=hm72
   clear hm72
   unfold view_Gor.l2b at hm73
   refine wp_seq (wp_region_lit ?_)
   refine ev_runs 1 hF70 (l':=[(34,.bool (decide (x66<6))),(33,nI x66),(8,nP g47 0),(6,.slice p20 L10.length c21),(4,nB w)]) (w':=w69) (by kernel_rfl) ?_
   intro a75 hF74; clear hF70
   refine wpList_nil (thenN (wp_seq ?_))
   cases hc76:(decide (x66<6))
   case true =>
    rw [hc76] at hF74
    have hm77:=ifYes hc76 hm73; clear hm73
    refine ev_condT hF74 rfl rfl ?_
    refine wp_skip ?_
    have hF78:=hF74.keep [4,6,8,33]
    clear hF74
    refine thenN (wp_seq ?_)
    refine wp_block ?_
    refine wp_seq (wp_region_lit ?_)
    refine ev_runK 2 hF78 [4,6,8,9,33] (l':=[(9,nI x66),(33,nI x66),(8,nP g47 0),(6,.slice p20 L10.length c21),(4,nB w)]) (w':=w69) (by kernel_rfl) ?_
    intro a80 hF79; clear hF78
    refine wpList_nil (thenN (wp_region_lit ?_))
    refine ev_runs 4 hF79 (l':=[(39,nI (IntKind.i64.wrap (3+x66))),(38,nI x66),(37,.slice p20 L10.length c21),(36,nI x66),(9,nI x66),(33,nI x66),(8,nP g47 0),(6,.slice p20 L10.length c21),(4,nB w)]) (w':=w69) (by kernel_rfl) ?_
    intro a82 hF81; clear hF79
    obtain ⟨hc83,hm84⟩:=ifTE hm77; clear hm77
    obtain ⟨g85,rfl⟩:=hp22.resolve_left (by have:=inR_spec hc83; omega)
    refine ev_one (nP g85 ((IntKind.i64.wrap (3+x66)).toNat)) w69 hF81 (by kernel_rfl) rfl (by kernel_rfl) (run_idx rfl rfl rfl rfl rfl (inR_spec hc83).1 (inR_spec hc83).2 _) (l':=[(40,nP g85 ((IntKind.i64.wrap (3+x66)).toNat)),(39,nI (IntKind.i64.wrap (3+x66))),(38,nI x66),(37,nS g85 L10 c21),(36,nI x66),(9,nI x66),(33,nI x66),(8,nP g47 0),(6,nS g85 L10 c21),(4,nB w)]) (by kernel_rfl) ?_
    intro a87 hF86; clear hF81
    refine ev_one (nI (atI L10 (IntKind.i64.wrap (3+x66)))) w69 hF86 (by kernel_rfl) rfl (by kernel_rfl) (run_load1 rfl rfl rfl (hS71.atI 1 rfl hc83)) (l':=[(41,nI (atI L10 (IntKind.i64.wrap (3+x66)))),(40,nP g85 ((IntKind.i64.wrap (3+x66)).toNat)),(39,nI (IntKind.i64.wrap (3+x66))),(38,nI x66),(37,nS g85 L10 c21),(36,nI x66),(9,nI x66),(33,nI x66),(8,nP g47 0),(6,nS g85 L10 c21),(4,nB w)]) (by kernel_rfl) ?_
    intro a89 hF88; clear hF86
    refine ev_runs 1 hF88 (l':=[(42,nP g47 3),(41,nI (atI L10 (IntKind.i64.wrap (3+x66)))),(40,nP g85 ((IntKind.i64.wrap (3+x66)).toNat)),(39,nI (IntKind.i64.wrap (3+x66))),(38,nI x66),(37,nS g85 L10 c21),(36,nI x66),(9,nI x66),(33,nI x66),(8,nP g47 0),(6,nS g85 L10 c21),(4,nB w)]) (w':=w69) (by kernel_rfl) ?_
    intro a91 hF90; clear hF88
    cases hc92:(x66 == 0)
    case true =>
     have hm93:=ifYes hc92 hm84; clear hm84
     refine ev_one (nP g47 3) w69 hF90 (by kernel_rfl) rfl (by kernel_rfl) (run_idxA (q:=0) rfl rfl rfl rfl (congrArg (Value.int .i64) (eq_of_beq hc92)) (by decide) (by decide) (by kernel_rfl) _) (l':=[(43,nP g47 3),(42,nP g47 3),(41,nI (atI L10 (IntKind.i64.wrap (3+x66)))),(40,nP g85 ((IntKind.i64.wrap (3+x66)).toNat)),(39,nI (IntKind.i64.wrap (3+x66))),(38,nI x66),(37,nS g85 L10 c21),(36,nI x66),(9,nI x66),(33,nI x66),(8,nP g47 0),(6,nS g85 L10 c21),(4,nB w)]) (by kernel_rfl) ?_
     intro a95 hF94; clear hF90
     refine ev_store (nI (atI L10 (IntKind.i64.wrap (3+x66)))) #[nI x48,nI x49,nI x50,nI (atI L10 (IntKind.i64.wrap (3+x66))),nI x61,nI x62,nI x63,nI x64,nI x65,nI (-1)] hF94 (by kernel_rfl) rfl rfl rfl rfl (by kernel_rfl) hS71 (by kernel_rfl) (by kernel_rfl) (by kernel_rfl) (l':=[(43,nP g47 3),(42,nP g47 3),(41,nI (atI L10 (IntKind.i64.wrap (3+x66)))),(40,nP g85 ((IntKind.i64.wrap (3+x66)).toNat)),(39,nI (IntKind.i64.wrap (3+x66))),(38,nI x66),(37,nS g85 L10 c21),(36,nI x66),(9,nI x66),(33,nI x66),(8,nP g47 0),(6,nS g85 L10 c21),(4,nB w)]) (by kernel_rfl) ?_
     intro w96 a97 hS98 hF99; clear hF94 hS71
     refine wpList_nil ?_
     have hF100:=hF99.keep [4,6,8,33]
     clear hF99
     refine blockN ?_
     refine thenN (wp_region_lit ?_)
     refine ev_runK 2 hF100 [4,6,8,33] (l':=[(33,nI (IntKind.i64.wrap (x66+1))),(8,nP g47 0),(6,nS g85 L10 c21),(4,nB w)]) (w':=w96) (by kernel_rfl) ?_
     intro a102 hF101; clear hF100
     refine wpList_nil ?_
     exact thenN ⟨k67,Nat.lt_succ_self _,atI L10 (IntKind.i64.wrap (3+x66)),x61,x62,x63,x64,x65,IntKind.i64.wrap (x66+1),hF101,hS98,hm93⟩
    have hm103:=ifNot hc92 hm84; clear hm84
    cases hc104:(x66 == 1)
    case true =>
     have hm105:=ifYes hc104 hm103; clear hm103
     refine ev_one (nP g47 4) w69 hF90 (by kernel_rfl) rfl (by kernel_rfl) (run_idxA (q:=1) rfl rfl rfl rfl (congrArg (Value.int .i64) (eq_of_beq hc104)) (by decide) (by decide) (by kernel_rfl) _) (l':=[(43,nP g47 4),(42,nP g47 3),(41,nI (atI L10 (IntKind.i64.wrap (3+x66)))),(40,nP g85 ((IntKind.i64.wrap (3+x66)).toNat)),(39,nI (IntKind.i64.wrap (3+x66))),(38,nI x66),(37,nS g85 L10 c21),(36,nI x66),(9,nI x66),(33,nI x66),(8,nP g47 0),(6,nS g85 L10 c21),(4,nB w)]) (by kernel_rfl) ?_
     intro a107 hF106; clear hF90
     refine ev_store (nI (atI L10 (IntKind.i64.wrap (3+x66)))) #[nI x48,nI x49,nI x50,nI x60,nI (atI L10 (IntKind.i64.wrap (3+x66))),nI x62,nI x63,nI x64,nI x65,nI (-1)] hF106 (by kernel_rfl) rfl rfl rfl rfl (by kernel_rfl) hS71 (by kernel_rfl) (by kernel_rfl) (by kernel_rfl) (l':=[(43,nP g47 4),(42,nP g47 3),(41,nI (atI L10 (IntKind.i64.wrap (3+x66)))),(40,nP g85 ((IntKind.i64.wrap (3+x66)).toNat)),(39,nI (IntKind.i64.wrap (3+x66))),(38,nI x66),(37,nS g85 L10 c21),(36,nI x66),(9,nI x66),(33,nI x66),(8,nP g47 0),(6,nS g85 L10 c21),(4,nB w)]) (by kernel_rfl) ?_
     intro w108 a109 hS110 hF111; clear hF106 hS71
     refine wpList_nil ?_
     have hF112:=hF111.keep [4,6,8,33]
     clear hF111
     refine blockN ?_
     refine thenN (wp_region_lit ?_)
     refine ev_runK 2 hF112 [4,6,8,33] (l':=[(33,nI (IntKind.i64.wrap (x66+1))),(8,nP g47 0),(6,nS g85 L10 c21),(4,nB w)]) (w':=w108) (by kernel_rfl) ?_
     intro a114 hF113; clear hF112
     refine wpList_nil ?_
     exact thenN ⟨k67,Nat.lt_succ_self _,x60,atI L10 (IntKind.i64.wrap (3+x66)),x62,x63,x64,x65,IntKind.i64.wrap (x66+1),hF113,hS110,hm105⟩
    have hm115:=ifNot hc104 hm103; clear hm103
    cases hc116:(x66 == 2)
    case true =>
     have hm117:=ifYes hc116 hm115; clear hm115
     refine ev_one (nP g47 5) w69 hF90 (by kernel_rfl) rfl (by kernel_rfl) (run_idxA (q:=2) rfl rfl rfl rfl (congrArg (Value.int .i64) (eq_of_beq hc116)) (by decide) (by decide) (by kernel_rfl) _) (l':=[(43,nP g47 5),(42,nP g47 3),(41,nI (atI L10 (IntKind.i64.wrap (3+x66)))),(40,nP g85 ((IntKind.i64.wrap (3+x66)).toNat)),(39,nI (IntKind.i64.wrap (3+x66))),(38,nI x66),(37,nS g85 L10 c21),(36,nI x66),(9,nI x66),(33,nI x66),(8,nP g47 0),(6,nS g85 L10 c21),(4,nB w)]) (by kernel_rfl) ?_
     intro a119 hF118; clear hF90
     refine ev_store (nI (atI L10 (IntKind.i64.wrap (3+x66)))) #[nI x48,nI x49,nI x50,nI x60,nI x61,nI (atI L10 (IntKind.i64.wrap (3+x66))),nI x63,nI x64,nI x65,nI (-1)] hF118 (by kernel_rfl) rfl rfl rfl rfl (by kernel_rfl) hS71 (by kernel_rfl) (by kernel_rfl) (by kernel_rfl) (l':=[(43,nP g47 5),(42,nP g47 3),(41,nI (atI L10 (IntKind.i64.wrap (3+x66)))),(40,nP g85 ((IntKind.i64.wrap (3+x66)).toNat)),(39,nI (IntKind.i64.wrap (3+x66))),(38,nI x66),(37,nS g85 L10 c21),(36,nI x66),(9,nI x66),(33,nI x66),(8,nP g47 0),(6,nS g85 L10 c21),(4,nB w)]) (by kernel_rfl) ?_
     intro w120 a121 hS122 hF123; clear hF118 hS71
     refine wpList_nil ?_
     have hF124:=hF123.keep [4,6,8,33]
     clear hF123
     refine blockN ?_
     refine thenN (wp_region_lit ?_)
     refine ev_runK 2 hF124 [4,6,8,33] (l':=[(33,nI (IntKind.i64.wrap (x66+1))),(8,nP g47 0),(6,nS g85 L10 c21),(4,nB w)]) (w':=w120) (by kernel_rfl) ?_
     intro a126 hF125; clear hF124
     refine wpList_nil ?_
     exact thenN ⟨k67,Nat.lt_succ_self _,x60,x61,atI L10 (IntKind.i64.wrap (3+x66)),x63,x64,x65,IntKind.i64.wrap (x66+1),hF125,hS122,hm117⟩
    have hm127:=ifNot hc116 hm115; clear hm115
    cases hc128:(x66 == 3)
    case true =>
     have hm129:=ifYes hc128 hm127; clear hm127
     refine ev_one (nP g47 6) w69 hF90 (by kernel_rfl) rfl (by kernel_rfl) (run_idxA (q:=3) rfl rfl rfl rfl (congrArg (Value.int .i64) (eq_of_beq hc128)) (by decide) (by decide) (by kernel_rfl) _) (l':=[(43,nP g47 6),(42,nP g47 3),(41,nI (atI L10 (IntKind.i64.wrap (3+x66)))),(40,nP g85 ((IntKind.i64.wrap (3+x66)).toNat)),(39,nI (IntKind.i64.wrap (3+x66))),(38,nI x66),(37,nS g85 L10 c21),(36,nI x66),(9,nI x66),(33,nI x66),(8,nP g47 0),(6,nS g85 L10 c21),(4,nB w)]) (by kernel_rfl) ?_
     intro a131 hF130; clear hF90
     refine ev_store (nI (atI L10 (IntKind.i64.wrap (3+x66)))) #[nI x48,nI x49,nI x50,nI x60,nI x61,nI x62,nI (atI L10 (IntKind.i64.wrap (3+x66))),nI x64,nI x65,nI (-1)] hF130 (by kernel_rfl) rfl rfl rfl rfl (by kernel_rfl) hS71 (by kernel_rfl) (by kernel_rfl) (by kernel_rfl) (l':=[(43,nP g47 6),(42,nP g47 3),(41,nI (atI L10 (IntKind.i64.wrap (3+x66)))),(40,nP g85 ((IntKind.i64.wrap (3+x66)).toNat)),(39,nI (IntKind.i64.wrap (3+x66))),(38,nI x66),(37,nS g85 L10 c21),(36,nI x66),(9,nI x66),(33,nI x66),(8,nP g47 0),(6,nS g85 L10 c21),(4,nB w)]) (by kernel_rfl) ?_
     intro w132 a133 hS134 hF135; clear hF130 hS71
     refine wpList_nil ?_
     have hF136:=hF135.keep [4,6,8,33]
     clear hF135
     refine blockN ?_
     refine thenN (wp_region_lit ?_)
     refine ev_runK 2 hF136 [4,6,8,33] (l':=[(33,nI (IntKind.i64.wrap (x66+1))),(8,nP g47 0),(6,nS g85 L10 c21),(4,nB w)]) (w':=w132) (by kernel_rfl) ?_
     intro a138 hF137; clear hF136
     refine wpList_nil ?_
     exact thenN ⟨k67,Nat.lt_succ_self _,x60,x61,x62,atI L10 (IntKind.i64.wrap (3+x66)),x64,x65,IntKind.i64.wrap (x66+1),hF137,hS134,hm129⟩
    have hm139:=ifNot hc128 hm127; clear hm127
    cases hc140:(x66 == 4)
    case true =>
     have hm141:=ifYes hc140 hm139; clear hm139
     refine ev_one (nP g47 7) w69 hF90 (by kernel_rfl) rfl (by kernel_rfl) (run_idxA (q:=4) rfl rfl rfl rfl (congrArg (Value.int .i64) (eq_of_beq hc140)) (by decide) (by decide) (by kernel_rfl) _) (l':=[(43,nP g47 7),(42,nP g47 3),(41,nI (atI L10 (IntKind.i64.wrap (3+x66)))),(40,nP g85 ((IntKind.i64.wrap (3+x66)).toNat)),(39,nI (IntKind.i64.wrap (3+x66))),(38,nI x66),(37,nS g85 L10 c21),(36,nI x66),(9,nI x66),(33,nI x66),(8,nP g47 0),(6,nS g85 L10 c21),(4,nB w)]) (by kernel_rfl) ?_
     intro a143 hF142; clear hF90
     refine ev_store (nI (atI L10 (IntKind.i64.wrap (3+x66)))) #[nI x48,nI x49,nI x50,nI x60,nI x61,nI x62,nI x63,nI (atI L10 (IntKind.i64.wrap (3+x66))),nI x65,nI (-1)] hF142 (by kernel_rfl) rfl rfl rfl rfl (by kernel_rfl) hS71 (by kernel_rfl) (by kernel_rfl) (by kernel_rfl) (l':=[(43,nP g47 7),(42,nP g47 3),(41,nI (atI L10 (IntKind.i64.wrap (3+x66)))),(40,nP g85 ((IntKind.i64.wrap (3+x66)).toNat)),(39,nI (IntKind.i64.wrap (3+x66))),(38,nI x66),(37,nS g85 L10 c21),(36,nI x66),(9,nI x66),(33,nI x66),(8,nP g47 0),(6,nS g85 L10 c21),(4,nB w)]) (by kernel_rfl) ?_
     intro w144 a145 hS146 hF147; clear hF142 hS71
     refine wpList_nil ?_
     have hF148:=hF147.keep [4,6,8,33]
     clear hF147
     refine blockN ?_
     refine thenN (wp_region_lit ?_)
     refine ev_runK 2 hF148 [4,6,8,33] (l':=[(33,nI (IntKind.i64.wrap (x66+1))),(8,nP g47 0),(6,nS g85 L10 c21),(4,nB w)]) (w':=w144) (by kernel_rfl) ?_
     intro a150 hF149; clear hF148
     refine wpList_nil ?_
     exact thenN ⟨k67,Nat.lt_succ_self _,x60,x61,x62,x63,atI L10 (IntKind.i64.wrap (3+x66)),x65,IntKind.i64.wrap (x66+1),hF149,hS146,hm141⟩
    have hm151:=ifNot hc140 hm139; clear hm139
    cases hc152:(x66 == 5)
    case true =>
     have hm153:=ifYes hc152 hm151; clear hm151
     refine ev_one (nP g47 8) w69 hF90 (by kernel_rfl) rfl (by kernel_rfl) (run_idxA (q:=5) rfl rfl rfl rfl (congrArg (Value.int .i64) (eq_of_beq hc152)) (by decide) (by decide) (by kernel_rfl) _) (l':=[(43,nP g47 8),(42,nP g47 3),(41,nI (atI L10 (IntKind.i64.wrap (3+x66)))),(40,nP g85 ((IntKind.i64.wrap (3+x66)).toNat)),(39,nI (IntKind.i64.wrap (3+x66))),(38,nI x66),(37,nS g85 L10 c21),(36,nI x66),(9,nI x66),(33,nI x66),(8,nP g47 0),(6,nS g85 L10 c21),(4,nB w)]) (by kernel_rfl) ?_
     intro a155 hF154; clear hF90
     refine ev_store (nI (atI L10 (IntKind.i64.wrap (3+x66)))) #[nI x48,nI x49,nI x50,nI x60,nI x61,nI x62,nI x63,nI x64,nI (atI L10 (IntKind.i64.wrap (3+x66))),nI (-1)] hF154 (by kernel_rfl) rfl rfl rfl rfl (by kernel_rfl) hS71 (by kernel_rfl) (by kernel_rfl) (by kernel_rfl) (l':=[(43,nP g47 8),(42,nP g47 3),(41,nI (atI L10 (IntKind.i64.wrap (3+x66)))),(40,nP g85 ((IntKind.i64.wrap (3+x66)).toNat)),(39,nI (IntKind.i64.wrap (3+x66))),(38,nI x66),(37,nS g85 L10 c21),(36,nI x66),(9,nI x66),(33,nI x66),(8,nP g47 0),(6,nS g85 L10 c21),(4,nB w)]) (by kernel_rfl) ?_
     intro w156 a157 hS158 hF159; clear hF154 hS71
     refine wpList_nil ?_
     have hF160:=hF159.keep [4,6,8,33]
     clear hF159
     refine blockN ?_
     refine thenN (wp_region_lit ?_)
     refine ev_runK 2 hF160 [4,6,8,33] (l':=[(33,nI (IntKind.i64.wrap (x66+1))),(8,nP g47 0),(6,nS g85 L10 c21),(4,nB w)]) (w':=w156) (by kernel_rfl) ?_
     intro a162 hF161; clear hF160
     refine wpList_nil ?_
     exact thenN ⟨k67,Nat.lt_succ_self _,x60,x61,x62,x63,x64,atI L10 (IntKind.i64.wrap (3+x66)),IntKind.i64.wrap (x66+1),hF161,hS158,hm153⟩
    have hm163:=ifNot hc152 hm151; clear hm151
    exact absurd hm163 (by simp)
   rw [hc76] at hF74
   have hm164:=ifNot hc76 hm73; clear hm73
   refine ev_condF hF74 rfl rfl ?_
   refine wp_exit ?_
   refine thenE ?_
   refine thenE ?_
   refine blockE ?_
   refine thenN (wp_seq (wp_region_lit ?_))
   refine ev_runs 1 hF74 (l':=[(45,.slice p20 L10.length c21),(34,.bool false),(33,nI x66),(8,nP g47 0),(6,.slice p20 L10.length c21),(4,nB w)]) (w':=w69) (by kernel_rfl) ?_
   intro a166 hF165; clear hF74
   obtain ⟨hc167,hm168⟩:=ifTE hm164; clear hm164
   obtain ⟨g169,rfl⟩:=hp22.resolve_left (by have:=inR_spec hc167; omega)
   refine ev_one (nP g169 ((9:Int).toNat)) w69 hF165 (by kernel_rfl) rfl (by kernel_rfl) (run_idx rfl rfl rfl rfl rfl (inR_spec hc167).1 (inR_spec hc167).2 _) (l':=[(46,nP g169 ((9:Int).toNat)),(45,nS g169 L10 c21),(34,.bool false),(33,nI x66),(8,nP g47 0),(6,nS g169 L10 c21),(4,nB w)]) (by kernel_rfl) ?_
   intro a171 hF170; clear hF165
   refine ev_one (nI (atI L10 (9:Int))) w69 hF170 (by kernel_rfl) rfl (by kernel_rfl) (run_load1 rfl rfl rfl (hS71.atI 1 rfl hc167)) (l':=[(47,nI (atI L10 (9:Int))),(46,nP g169 ((9:Int).toNat)),(45,nS g169 L10 c21),(34,.bool false),(33,nI x66),(8,nP g47 0),(6,nS g169 L10 c21),(4,nB w)]) (by kernel_rfl) ?_
   intro a173 hF172; clear hF170
   refine ev_call 114 #[nI (atI L10 (9:Int))] hF172 rfl rfl (by kernel_rfl) rfl (by kernel_rfl) (fun w=>by kernel_rfl) ?_
   obtain ⟨x174,hx175,hm176⟩:=bind1E hm168; clear hm168
   refine (p_vAt hS71 hx175).mono ?_
   rintro _ w177 ⟨rfl,hS179⟩ a178 hF180; clear hF172 hS71
   refine ev_runs 1 hF180 (l':=[(49,nP g47 9),(48,nI x174),(47,nI (atI L10 (9:Int))),(46,nP g169 ((9:Int).toNat)),(45,nS g169 L10 c21),(34,.bool false),(33,nI x66),(8,nP g47 0),(6,nS g169 L10 c21),(4,nB w)]) (w':=w177) (by kernel_rfl) ?_
   intro a182 hF181; clear hF180
   refine ev_store (nI x174) #[nI x48,nI x49,nI x50,nI x60,nI x61,nI x62,nI x63,nI x64,nI x65,nI x174] hF181 (by kernel_rfl) rfl rfl rfl rfl (by kernel_rfl) hS179 (by kernel_rfl) (by kernel_rfl) (by kernel_rfl) (l':=[(49,nP g47 9),(48,nI x174),(47,nI (atI L10 (9:Int))),(46,nP g169 ((9:Int).toNat)),(45,nS g169 L10 c21),(34,.bool false),(33,nI x66),(8,nP g47 0),(6,nS g169 L10 c21),(4,nB w)]) (by kernel_rfl) ?_
   intro w183 a184 hS185 hF186; clear hF181 hS179
   refine wpList_nil ?_
   have hF187:=hF186.keep [4,8]
   clear hF186
   have hS188:=hS185.pick1.drop
   clear hS185
   refine thenN (wp_seq (wp_region_lit ?_))
   refine ev_one (.agg #[nI x48,nI x49,nI x50,nI x60,nI x61,nI x62,nI x63,nI x64,nI x65,nI x174]) w183 hF187 (by kernel_rfl) rfl (by kernel_rfl) (run_loadV rfl rfl (run_loadA (cs:=[nI x48,nI x49,nI x50,nI x60,nI x61,nI x62,nI x63,nI x64,nI x65,nI x174]) rfl rfl (by kernel_rfl) (blk_cells hS188 0 rfl rfl))) (l':=[(50,.agg #[nI x48,nI x49,nI x50,nI x60,nI x61,nI x62,nI x63,nI x64,nI x65,nI x174]),(8,nP g47 0),(4,nB w)]) (by kernel_rfl) ?_
   intro a190 hF189; clear hF187
   have hS191:=hS188.pick2
   clear hS188
   refine ev_store (.agg #[nI x48,nI x49,nI x50,nI x60,nI x61,nI x62,nI x63,nI x64,nI x65,nI x174]) #[nI x48,nI x49,nI x50,nI x60,nI x61,nI x62,nI x63,nI x64,nI x65,nI x174] hF189 (by kernel_rfl) rfl rfl rfl rfl (by kernel_rfl) hS191 (by kernel_rfl) (by kernel_rfl) (by kernel_rfl) (l':=[(50,.agg #[nI x48,nI x49,nI x50,nI x60,nI x61,nI x62,nI x63,nI x64,nI x65,nI x174]),(8,nP g47 0),(4,nB w)]) (by kernel_rfl) ?_
   intro w192 a193 hS194 hF195; clear hF189 hS191
   refine ev_runK 1 hF195 [4,5] (l':=[(5,nI 0),(4,nB w)]) (w':=w192) (by kernel_rfl) ?_
   intro a197 hF196; clear hF195
   refine wpList_nil ?_
   have hS198:=hS194.pick1.drop
   clear hS194
   refine thenN ?_
   refine wp_ret ?_
   have hS199:=hS198.pick1
   clear hS198
   simp only [Option.some.injEq,Prod.mk.injEq] at hm176
   obtain ⟨rfl,rfl,rfl⟩:=hm176
   refine ev_retC hF196 _ [.agg #[nI x48,nI x49,nI x50,nI x60,nI x61,nI x62,nI x63,nI x64,nI x65,nI x174],nI 0] (.tuple #[.agg #[nI x48,nI x49,nI x50,nI x60,nI x61,nI x62,nI x63,nI x64,nI x65,nI x174],nI 0]) rfl ⟨⟨rfl,_,rfl,(run_loadA (cs:=[nI x48,nI x49,nI x50,nI x60,nI x61,nI x62,nI x63,nI x64,nI x65,nI x174]) rfl rfl (by kernel_rfl) (blk_cells hS199 1 rfl rfl))⟩,⟨rfl,rfl⟩,trivial⟩ rfl ?_
   have hS203:=hS199.pick1.drop
   clear hS199
   exact ⟨rfl,hS203⟩
 · skip
   obtain ⟨hc204,hm205⟩:=ifTE hm45; clear hm45
   obtain ⟨g206,rfl⟩:=hp22.resolve_left (by have:=inR_spec hc204; omega)
   obtain ⟨hc207,hm208⟩:=ifTE hm205; clear hm205
   obtain ⟨hc209,hm210⟩:=ifTE hm208; clear hm208
   have hS211:=hS16.pick1
   clear hS16
   have hS212:=hS211.drew; clear hS211
   refine any_start (fun wS=>∃ qs,St w0 F0 (RowP (nS g206 L10 c21) L10::qs) wS) 15 #[false,false,false,false,false,false,false,false,false,false,false,false,false,false,false] (by kernel_rfl) (by kernel_rfl) (by kernel_rfl) ?_
   refine any_many 9 [(0,some (nS g206 L10 c21)),(1,some (nP g206 ((0:Int).toNat))),(2,some (nI (atI L10 (0:Int)))),(4,some (nS g206 L10 c21)),(5,some (nP g206 ((1:Int).toNat))),(6,some (nI (atI L10 (1:Int)))),(8,some (nS g206 L10 c21)),(9,some (nP g206 ((2:Int).toNat))),(10,some (nI (atI L10 (2:Int))))] [4,6,8,22,23,26,27,30,31,32] #[true,true,true,false,true,true,true,false,true,true,true,false,false,false,false] (by rfl) hF46 (by kernel_rfl) (by kernel_rfl) (by exact ⟨fun wS hw=>by kernel_rfl,fun wS hw=>run_idx rfl rfl rfl rfl rfl (inR_spec hc204).1 (inR_spec hc204).2 _,fun wS hw=>run_load1 rfl rfl rfl (hw.elim fun qs hw=>hw.atI 0 rfl hc204),fun wS hw=>by kernel_rfl,fun wS hw=>run_idx rfl rfl rfl rfl rfl (inR_spec hc207).1 (inR_spec hc207).2 _,fun wS hw=>run_load1 rfl rfl rfl (hw.elim fun qs hw=>hw.atI 0 rfl hc207),fun wS hw=>by kernel_rfl,fun wS hw=>run_idx rfl rfl rfl rfl rfl (inR_spec hc209).1 (inR_spec hc209).2 _,fun wS hw=>run_load1 rfl rfl rfl (hw.elim fun qs hw=>hw.atI 0 rfl hc209),trivial⟩) (fun _ _ _ _ _ h=>h) ⟨_,hS212⟩ (l':=[(30,nI (atI L10 (2:Int))),(26,nI (atI L10 (1:Int))),(22,nI (atI L10 (0:Int))),(6,nS g206 L10 c21),(4,nB w)]) (by kernel_rfl) ?_
   intro a214 hF213; clear hF46
   refine any_two 3 13 (by kernel_rfl) ?_ ?_
   · skip
     refine op_call 3 #[true,true,true,true,true,true,true,false,true,true,true,false,false,false,false] 119 #[nI (atI L10 (0:Int))] hF213 rfl rfl rfl (by kernel_rfl) rfl (by kernel_rfl) (fun w=>by kernel_rfl) (by kernel_rfl) ?_
     obtain ⟨x215,hx216,hm217⟩:=bind1E hm210; clear hm210
     refine (p_vNum hS212 hx216).mono ?_
     rintro _ w218 ⟨rfl,hS220⟩; clear hS212
     refine ⟨⟨_,hS220⟩,?_⟩
     intro a219 hF221; clear hF213
     refine any_two 7 13 (by kernel_rfl) ?_ ?_
     · skip
       refine op_call 7 #[true,true,true,true,true,true,true,true,true,true,true,false,false,false,false] 119 #[nI (atI L10 (1:Int))] hF221 rfl rfl rfl (by kernel_rfl) rfl (by kernel_rfl) (fun w=>by kernel_rfl) (by kernel_rfl) ?_
       obtain ⟨x222,hx223,hm224⟩:=bind1E hm217; clear hm217
       refine (p_vNum hS220 hx223).mono ?_
       rintro _ w225 ⟨rfl,hS227⟩; clear hS220
       refine ⟨⟨_,hS227⟩,?_⟩
       intro a226 hF228; clear hF221
       refine any_two 11 13 (by kernel_rfl) ?_ ?_
       · skip
         refine op_call 11 #[true,true,true,true,true,true,true,true,true,true,true,true,false,false,false] 119 #[nI (atI L10 (2:Int))] hF228 rfl rfl rfl (by kernel_rfl) rfl (by kernel_rfl) (fun w=>by kernel_rfl) (by kernel_rfl) ?_
         obtain ⟨x229,hx230,hm231⟩:=bind1E hm224; clear hm224
         refine (p_vNum hS227 hx230).mono ?_
         rintro _ w232 ⟨rfl,hS234⟩; clear hS227
         refine ⟨⟨_,hS234⟩,?_⟩
         intro a233 hF235; clear hF228
         refine any_many 1 [(12,some (.agg #[nI x215,nI x222,nI x229,nI 0,nI 0,nI 0,nI 0,nI 0,nI 0,nI (-1)]))] [4,6,8,32] #[true,true,true,true,true,true,true,true,true,true,true,true,true,false,false] (by rfl) hF235 (by kernel_rfl) (by kernel_rfl) (by exact ⟨fun wS hw=>by kernel_rfl,trivial⟩) (fun _ _ _ _ _ h=>h) ⟨_,hS234⟩ (l':=[(32,.agg #[nI x215,nI x222,nI x229,nI 0,nI 0,nI 0,nI 0,nI 0,nI 0,nI (-1)]),(6,nS g206 L10 c21),(4,nB w)]) (by kernel_rfl) ?_
         intro a237 hF236; clear hF235
         refine any_one 13 (by kernel_rfl) ?_
         have hS238:St w0 F0 (BlkP (w232.heap.size) 28 #[nI 0,nI 0,nI 0,nI 0,nI 0,nI 0,nI 0,nI 0,nI 0,nI 0]::RowP (nS g206 L10 c21) L10::HeapP b0 ab0 s0::BlkP (w.heap.size) 28 #[nI 0,nI 0,nI 0,nI 0,nI 0,nI 0,nI 0,nI 0,nI 0,nI 0]::ps) (w232.alloc (.cells #[nI 0,nI 0,nI 0,nI 0,nI 0,nI 0,nI 0,nI 0,nI 0,nI 0] 28)):=St.new hS234 #[nI 0,nI 0,nI 0,nI 0,nI 0,nI 0,nI 0,nI 0,nI 0,nI 0] 28
         clear hS234
         refine op_step 13 #[true,true,true,true,true,true,true,true,true,true,true,true,true,true,false] (nB w232) (w232.alloc (.cells #[nI 0,nI 0,nI 0,nI 0,nI 0,nI 0,nI 0,nI 0,nI 0,nI 0] 28)) hF236 rfl (by kernel_rfl) rfl (by kernel_rfl) (by kernel_rfl) (l':=[(8,nB w232),(32,.agg #[nI x215,nI x222,nI x229,nI 0,nI 0,nI 0,nI 0,nI 0,nI 0,nI (-1)]),(6,nS g206 L10 c21),(4,nB w)]) (by kernel_rfl) ⟨_,hS238.pick1⟩ (by kernel_rfl) ?_
         intro a240 hF239; clear hF236
         refine any_one 14 (by kernel_rfl) ?_
         refine op_store 14 #[true,true,true,true,true,true,true,true,true,true,true,true,true,true,true] (.agg #[nI x215,nI x222,nI x229,nI 0,nI 0,nI 0,nI 0,nI 0,nI 0,nI (-1)]) #[nI x215,nI x222,nI x229,nI 0,nI 0,nI 0,nI 0,nI 0,nI 0,nI (-1)] hF239 rfl (by kernel_rfl) rfl rfl rfl rfl (by kernel_rfl) hS238 (by kernel_rfl) (by kernel_rfl) (by kernel_rfl) (l':=[(8,nB w232),(32,.agg #[nI x215,nI x222,nI x229,nI 0,nI 0,nI 0,nI 0,nI 0,nI 0,nI (-1)]),(6,nS g206 L10 c21),(4,nB w)]) (by kernel_rfl) (by kernel_rfl) ?_
         intro w241 a242 hS243 hF244; clear hF239 hS238
         refine ⟨⟨_,hS243.pick1⟩,?_⟩
         refine any_done (by kernel_rfl) ?_
         have hF245:=hF244.keep [4,6,8]
         clear hF244
         exact thenN ⟨(w232.heap.size),x215,x222,x229,hF245,hS243,hm231⟩
       · skip
         have hS246:St w0 F0 (BlkP (w225.heap.size) 28 #[nI 0,nI 0,nI 0,nI 0,nI 0,nI 0,nI 0,nI 0,nI 0,nI 0]::RowP (nS g206 L10 c21) L10::HeapP b0 ab0 s0::BlkP (w.heap.size) 28 #[nI 0,nI 0,nI 0,nI 0,nI 0,nI 0,nI 0,nI 0,nI 0,nI 0]::ps) (w225.alloc (.cells #[nI 0,nI 0,nI 0,nI 0,nI 0,nI 0,nI 0,nI 0,nI 0,nI 0] 28)):=St.new hS227 #[nI 0,nI 0,nI 0,nI 0,nI 0,nI 0,nI 0,nI 0,nI 0,nI 0] 28
         clear hS227
         refine op_step 13 #[true,true,true,true,true,true,true,true,true,true,true,false,false,true,false] (nB w225) (w225.alloc (.cells #[nI 0,nI 0,nI 0,nI 0,nI 0,nI 0,nI 0,nI 0,nI 0,nI 0] 28)) hF228 rfl (by kernel_rfl) rfl (by kernel_rfl) (by kernel_rfl) (l':=[(8,nB w225),(27,nI x222),(23,nI x215),(30,nI (atI L10 (2:Int))),(26,nI (atI L10 (1:Int))),(22,nI (atI L10 (0:Int))),(6,nS g206 L10 c21),(4,nB w)]) (by kernel_rfl) ⟨_,hS246.pick1⟩ (by kernel_rfl) ?_
         intro a248 hF247; clear hF228
         refine any_call 11 #[true,true,true,true,true,true,true,true,true,true,true,true,false,true,false] 119 #[nI (atI L10 (2:Int))] hF247 rfl (by kernel_rfl) rfl rfl (by kernel_rfl) rfl (by kernel_rfl) (fun w=>by kernel_rfl) (by kernel_rfl) ?_
         obtain ⟨x249,hx250,hm251⟩:=bind1E hm224; clear hm224
         refine (p_vNum hS246 hx250).mono ?_
         rintro _ w252 ⟨rfl,hS254⟩; clear hS246
         refine ⟨⟨_,hS254.pick1⟩,?_⟩
         intro a253 hF255; clear hF247
         refine any_many 1 [(12,some (.agg #[nI x215,nI x222,nI x249,nI 0,nI 0,nI 0,nI 0,nI 0,nI 0,nI (-1)]))] [4,6,8,32] #[true,true,true,true,true,true,true,true,true,true,true,true,true,true,false] (by rfl) hF255 (by kernel_rfl) (by kernel_rfl) (by exact ⟨fun wS hw=>by kernel_rfl,trivial⟩) (fun _ _ _ _ _ h=>h) ⟨_,hS254.pick1⟩ (l':=[(32,.agg #[nI x215,nI x222,nI x249,nI 0,nI 0,nI 0,nI 0,nI 0,nI 0,nI (-1)]),(8,nB w225),(6,nS g206 L10 c21),(4,nB w)]) (by kernel_rfl) ?_
         intro a257 hF256; clear hF255
         refine any_one 14 (by kernel_rfl) ?_
         refine op_store 14 #[true,true,true,true,true,true,true,true,true,true,true,true,true,true,true] (.agg #[nI x215,nI x222,nI x249,nI 0,nI 0,nI 0,nI 0,nI 0,nI 0,nI (-1)]) #[nI x215,nI x222,nI x249,nI 0,nI 0,nI 0,nI 0,nI 0,nI 0,nI (-1)] hF256 rfl (by kernel_rfl) rfl rfl rfl rfl (by kernel_rfl) hS254 (by kernel_rfl) (by kernel_rfl) (by kernel_rfl) (l':=[(32,.agg #[nI x215,nI x222,nI x249,nI 0,nI 0,nI 0,nI 0,nI 0,nI 0,nI (-1)]),(8,nB w225),(6,nS g206 L10 c21),(4,nB w)]) (by kernel_rfl) (by kernel_rfl) ?_
         intro w258 a259 hS260 hF261; clear hF256 hS254
         refine ⟨⟨_,hS260.pick1⟩,?_⟩
         refine any_done (by kernel_rfl) ?_
         have hF262:=hF261.keep [4,6,8]
         clear hF261
         exact thenN ⟨(w225.heap.size),x215,x222,x249,hF262,hS260,hm251⟩
     · skip
       have hS263:St w0 F0 (BlkP (w218.heap.size) 28 #[nI 0,nI 0,nI 0,nI 0,nI 0,nI 0,nI 0,nI 0,nI 0,nI 0]::RowP (nS g206 L10 c21) L10::HeapP b0 ab0 s0::BlkP (w.heap.size) 28 #[nI 0,nI 0,nI 0,nI 0,nI 0,nI 0,nI 0,nI 0,nI 0,nI 0]::ps) (w218.alloc (.cells #[nI 0,nI 0,nI 0,nI 0,nI 0,nI 0,nI 0,nI 0,nI 0,nI 0] 28)):=St.new hS220 #[nI 0,nI 0,nI 0,nI 0,nI 0,nI 0,nI 0,nI 0,nI 0,nI 0] 28
       clear hS220
       refine op_step 13 #[true,true,true,true,true,true,true,false,true,true,true,false,false,true,false] (nB w218) (w218.alloc (.cells #[nI 0,nI 0,nI 0,nI 0,nI 0,nI 0,nI 0,nI 0,nI 0,nI 0] 28)) hF221 rfl (by kernel_rfl) rfl (by kernel_rfl) (by kernel_rfl) (l':=[(8,nB w218),(23,nI x215),(30,nI (atI L10 (2:Int))),(26,nI (atI L10 (1:Int))),(22,nI (atI L10 (0:Int))),(6,nS g206 L10 c21),(4,nB w)]) (by kernel_rfl) ⟨_,hS263.pick1⟩ (by kernel_rfl) ?_
       intro a265 hF264; clear hF221
       refine any_call 7 #[true,true,true,true,true,true,true,true,true,true,true,false,false,true,false] 119 #[nI (atI L10 (1:Int))] hF264 rfl (by kernel_rfl) rfl rfl (by kernel_rfl) rfl (by kernel_rfl) (fun w=>by kernel_rfl) (by kernel_rfl) ?_
       obtain ⟨x266,hx267,hm268⟩:=bind1E hm217; clear hm217
       refine (p_vNum hS263 hx267).mono ?_
       rintro _ w269 ⟨rfl,hS271⟩; clear hS263
       refine ⟨⟨_,hS271.pick1⟩,?_⟩
       intro a270 hF272; clear hF264
       refine any_call 11 #[true,true,true,true,true,true,true,true,true,true,true,true,false,true,false] 119 #[nI (atI L10 (2:Int))] hF272 rfl (by kernel_rfl) rfl rfl (by kernel_rfl) rfl (by kernel_rfl) (fun w=>by kernel_rfl) (by kernel_rfl) ?_
       obtain ⟨x273,hx274,hm275⟩:=bind1E hm268; clear hm268
       refine (p_vNum hS271 hx274).mono ?_
       rintro _ w276 ⟨rfl,hS278⟩; clear hS271
       refine ⟨⟨_,hS278.pick1⟩,?_⟩
       intro a277 hF279; clear hF272
       refine any_many 1 [(12,some (.agg #[nI x215,nI x266,nI x273,nI 0,nI 0,nI 0,nI 0,nI 0,nI 0,nI (-1)]))] [4,6,8,32] #[true,true,true,true,true,true,true,true,true,true,true,true,true,true,false] (by rfl) hF279 (by kernel_rfl) (by kernel_rfl) (by exact ⟨fun wS hw=>by kernel_rfl,trivial⟩) (fun _ _ _ _ _ h=>h) ⟨_,hS278.pick1⟩ (l':=[(32,.agg #[nI x215,nI x266,nI x273,nI 0,nI 0,nI 0,nI 0,nI 0,nI 0,nI (-1)]),(8,nB w218),(6,nS g206 L10 c21),(4,nB w)]) (by kernel_rfl) ?_
       intro a281 hF280; clear hF279
       refine any_one 14 (by kernel_rfl) ?_
       refine op_store 14 #[true,true,true,true,true,true,true,true,true,true,true,true,true,true,true] (.agg #[nI x215,nI x266,nI x273,nI 0,nI 0,nI 0,nI 0,nI 0,nI 0,nI (-1)]) #[nI x215,nI x266,nI x273,nI 0,nI 0,nI 0,nI 0,nI 0,nI 0,nI (-1)] hF280 rfl (by kernel_rfl) rfl rfl rfl rfl (by kernel_rfl) hS278 (by kernel_rfl) (by kernel_rfl) (by kernel_rfl) (l':=[(32,.agg #[nI x215,nI x266,nI x273,nI 0,nI 0,nI 0,nI 0,nI 0,nI 0,nI (-1)]),(8,nB w218),(6,nS g206 L10 c21),(4,nB w)]) (by kernel_rfl) (by kernel_rfl) ?_
       intro w282 a283 hS284 hF285; clear hF280 hS278
       refine ⟨⟨_,hS284.pick1⟩,?_⟩
       refine any_done (by kernel_rfl) ?_
       have hF286:=hF285.keep [4,6,8]
       clear hF285
       exact thenN ⟨(w218.heap.size),x215,x266,x273,hF286,hS284,hm275⟩
   · skip
     have hS287:St w0 F0 (BlkP ((w14.drew).heap.size) 28 #[nI 0,nI 0,nI 0,nI 0,nI 0,nI 0,nI 0,nI 0,nI 0,nI 0]::RowP (nS g206 L10 c21) L10::HeapP b0 ab0 s0::BlkP (w.heap.size) 28 #[nI 0,nI 0,nI 0,nI 0,nI 0,nI 0,nI 0,nI 0,nI 0,nI 0]::ps) ((w14.drew).alloc (.cells #[nI 0,nI 0,nI 0,nI 0,nI 0,nI 0,nI 0,nI 0,nI 0,nI 0] 28)):=St.new hS212 #[nI 0,nI 0,nI 0,nI 0,nI 0,nI 0,nI 0,nI 0,nI 0,nI 0] 28
     clear hS212
     refine op_step 13 #[true,true,true,false,true,true,true,false,true,true,true,false,false,true,false] (nB (w14.drew)) ((w14.drew).alloc (.cells #[nI 0,nI 0,nI 0,nI 0,nI 0,nI 0,nI 0,nI 0,nI 0,nI 0] 28)) hF213 rfl (by kernel_rfl) rfl (by kernel_rfl) (by kernel_rfl) (l':=[(8,nB (w14.drew)),(30,nI (atI L10 (2:Int))),(26,nI (atI L10 (1:Int))),(22,nI (atI L10 (0:Int))),(6,nS g206 L10 c21),(4,nB w)]) (by kernel_rfl) ⟨_,hS287.pick1⟩ (by kernel_rfl) ?_
     intro a289 hF288; clear hF213
     refine any_call 3 #[true,true,true,true,true,true,true,false,true,true,true,false,false,true,false] 119 #[nI (atI L10 (0:Int))] hF288 rfl (by kernel_rfl) rfl rfl (by kernel_rfl) rfl (by kernel_rfl) (fun w=>by kernel_rfl) (by kernel_rfl) ?_
     obtain ⟨x290,hx291,hm292⟩:=bind1E hm210; clear hm210
     refine (p_vNum hS287 hx291).mono ?_
     rintro _ w293 ⟨rfl,hS295⟩; clear hS287
     refine ⟨⟨_,hS295.pick1⟩,?_⟩
     intro a294 hF296; clear hF288
     refine any_call 7 #[true,true,true,true,true,true,true,true,true,true,true,false,false,true,false] 119 #[nI (atI L10 (1:Int))] hF296 rfl (by kernel_rfl) rfl rfl (by kernel_rfl) rfl (by kernel_rfl) (fun w=>by kernel_rfl) (by kernel_rfl) ?_
     obtain ⟨x297,hx298,hm299⟩:=bind1E hm292; clear hm292
     refine (p_vNum hS295 hx298).mono ?_
     rintro _ w300 ⟨rfl,hS302⟩; clear hS295
     refine ⟨⟨_,hS302.pick1⟩,?_⟩
     intro a301 hF303; clear hF296
     refine any_call 11 #[true,true,true,true,true,true,true,true,true,true,true,true,false,true,false] 119 #[nI (atI L10 (2:Int))] hF303 rfl (by kernel_rfl) rfl rfl (by kernel_rfl) rfl (by kernel_rfl) (fun w=>by kernel_rfl) (by kernel_rfl) ?_
     obtain ⟨x304,hx305,hm306⟩:=bind1E hm299; clear hm299
     refine (p_vNum hS302 hx305).mono ?_
     rintro _ w307 ⟨rfl,hS309⟩; clear hS302
     refine ⟨⟨_,hS309.pick1⟩,?_⟩
     intro a308 hF310; clear hF303
     refine any_many 1 [(12,some (.agg #[nI x290,nI x297,nI x304,nI 0,nI 0,nI 0,nI 0,nI 0,nI 0,nI (-1)]))] [4,6,8,32] #[true,true,true,true,true,true,true,true,true,true,true,true,true,true,false] (by rfl) hF310 (by kernel_rfl) (by kernel_rfl) (by exact ⟨fun wS hw=>by kernel_rfl,trivial⟩) (fun _ _ _ _ _ h=>h) ⟨_,hS309.pick1⟩ (l':=[(32,.agg #[nI x290,nI x297,nI x304,nI 0,nI 0,nI 0,nI 0,nI 0,nI 0,nI (-1)]),(8,nB (w14.drew)),(6,nS g206 L10 c21),(4,nB w)]) (by kernel_rfl) ?_
     intro a312 hF311; clear hF310
     refine any_one 14 (by kernel_rfl) ?_
     refine op_store 14 #[true,true,true,true,true,true,true,true,true,true,true,true,true,true,true] (.agg #[nI x290,nI x297,nI x304,nI 0,nI 0,nI 0,nI 0,nI 0,nI 0,nI (-1)]) #[nI x290,nI x297,nI x304,nI 0,nI 0,nI 0,nI 0,nI 0,nI 0,nI (-1)] hF311 rfl (by kernel_rfl) rfl rfl rfl rfl (by kernel_rfl) hS309 (by kernel_rfl) (by kernel_rfl) (by kernel_rfl) (l':=[(32,.agg #[nI x290,nI x297,nI x304,nI 0,nI 0,nI 0,nI 0,nI 0,nI 0,nI (-1)]),(8,nB (w14.drew)),(6,nS g206 L10 c21),(4,nB w)]) (by kernel_rfl) (by kernel_rfl) ?_
     intro w313 a314 hS315 hF316; clear hF311 hS309
     refine ⟨⟨_,hS315.pick1⟩,?_⟩
     refine any_done (by kernel_rfl) ?_
     have hF317:=hF316.keep [4,6,8]
     clear hF316
     exact thenN ⟨((w14.drew).heap.size),x290,x297,x304,hF317,hS315,hm306⟩
end Go.Proofs.YtffnjpapggidlaaGreat
