/- GTake -/
import Derived.Test.YtjdlnmbfomojdaaGreatKGView
import Derived.Test.YtjdlnmbfomojdaaGreatKGRing
import Derived.Test.YtjdlnmbfomojdaaGreatKGList
import Derived.Deep.LoopGhost
import Derived.KernelRfl
namespace Go.Proofs.YtjdlnmbfomojdaaGreat
open Go.RowKit
set_option linter.unusedVariables false
def take_Ready.j1 (s104:HSt) (y105:Bool):Option (Bool×HSt):=some (y105,s104)
def take_Ready.m (k:Nat) (s0:HSt) (i1:Int):Option (Bool×HSt):=bind2 (mouth_Of.m k s0 i1) fun o5 s6=>optE o5 (some (true,s6)) fun q38=>sumE q38 (fun q40=>some (false,s6)) fun q41=>bind2 (pChan q41 s6) fun q86 x87=>(if (q86.closed != 0) then take_Ready.j1 s6 true else bind2 (ring_All.m k s6 q41) fun L130 s131=>(if (decide ((L130.length:Int) > 0)) then take_Ready.j1 s131 true else bind2 (list_All.m k s131 q41 (true)) fun L154 s155=>take_Ready.j1 s155 (decide ((L154.length:Int) > 0))))
set_option maxRecDepth 100000 in
set_option maxHeartbeats 1500000 in
theorem take_Ready.ok {w0 w:World} {F0:List Nat} {ps:List Piece} {k:Nat} {b0 ab0:Nat} {s0:HSt} {i1:Int} {r0:Bool} {t0:HSt} (hS:St w0 F0 (HeapP b0 ab0 s0::ps) w) (hm:take_Ready.m k s0 i1=some (r0,t0)) :
    Calls Tryz.prog 37 #[nP b0 0,nI i1] w fun e w'=>e=.returned (.bool r0)∧St w0 F0 (HeapP b0 ab0 t0::ps) w':=by
 refine ev_enterL 51 [nP b0 0,nI i1] Tryz.func37 rfl rfl (by simp) ?_
 intro a hF
 have hF0:Fr 51 a [(0,nP b0 0),(1,nI i1)]:=hF; clear hF
 unfold take_Ready.m at hm
 refine wp_seq (wp_region_lit ?_)
 refine ev_runK 1 hF0 [0,1] (l':=[(0,nP b0 0),(1,nI i1)]) (w':=w) (by kernel_rfl) ?_
 intro a2 hF1; clear hF0
 refine wpList_nil (thenN (wp_seq (wp_region_lit ?_)))
 refine ev_runs 2 hF1 (l':=[(13,nI i1),(12,nP b0 0),(0,nP b0 0),(1,nI i1)]) (w':=w) (by kernel_rfl) ?_
 intro a4 hF3; clear hF1
 refine ev_call 49 #[nP b0 0,nI i1] hF3 rfl rfl (by kernel_rfl) rfl (by kernel_rfl) (fun w=>by kernel_rfl) ?_
 obtain ⟨o5,s6,hx7,hm8⟩:=bind2E hm; clear hm
 refine (mouth_Of.ok hS hx7).mono ?_
 rintro _ w9 ⟨rfl,hS11⟩ a10 hF12; clear hF3 hS
 cases o5 with
 | none =>
  have hm13:=optN hm8; clear hm8
  refine ev_runK 1 hF12 [0,5] (l':=[(5,.nilIface),(0,nP b0 0)]) (w':=w9) (by kernel_rfl) ?_
  intro a15 hF14; clear hF12
  refine wpList_nil (thenN (wp_seq (wp_seq (wp_region_lit ?_))))
  refine ev_runs 6 hF14 (l':=[(6,nB w9),(19,.bool false),(18,.agg #[]),(15,.tuple #[.agg #[],.bool false]),(17,.tuple #[.agg #[],.bool false]),(16,.nilIface),(5,.nilIface),(0,nP b0 0)]) (w':=w9.alloc (.cells #[] 112)) (by kernel_rfl) ?_
  intro a17 hF16; clear hF14
  have hS19:St w0 F0 (BlkP (w9.heap.size) 112 #[]::HeapP b0 ab0 s6::ps) (w9.alloc (.cells #[] 112)):=St.new hS11 #[] 112
  clear hS11
  refine ev_store (.agg #[]) #[] hF16 (by kernel_rfl) rfl rfl rfl rfl (by kernel_rfl) hS19 (by kernel_rfl) (by kernel_rfl) (by kernel_rfl) (l':=[(6,nB w9),(19,.bool false),(18,.agg #[]),(15,.tuple #[.agg #[],.bool false]),(17,.tuple #[.agg #[],.bool false]),(16,.nilIface),(5,.nilIface),(0,nP b0 0)]) (by kernel_rfl) ?_
  intro w20 a21 hS22 hF23; clear hF16 hS19
  refine ev_runK 1 hF23 [0,5,7] (l':=[(7,.bool false),(5,.nilIface),(0,nP b0 0)]) (w':=w20) (by kernel_rfl) ?_
  intro a25 hF24; clear hF23
  refine wpList_nil ?_
  have hS26:=hS22.drop
  clear hS22
  refine thenN (wp_seq (wp_region_lit ?_))
  refine ev_runK 1 hF24 [0,5,20] (l':=[(20,.bool false),(5,.nilIface),(0,nP b0 0)]) (w':=w20) (by kernel_rfl) ?_
  intro a28 hF27; clear hF24
  refine wpList_nil (thenN ?_)
  refine ev_condF hF27 rfl rfl ?_
  refine wp_skip ?_
  have hF29:=hF27.keep [0,5]
  clear hF27
  refine thenN (wp_seq (wp_region_lit ?_))
  refine ev_runK 7 hF29 [0,8,9] (l':=[(9,.bool false),(8,nI 0),(0,nP b0 0)]) (w':=w20) (by kernel_rfl) ?_
  intro a31 hF30; clear hF29
  refine wpList_nil (thenN (wp_seq (wp_seq (wp_region_lit ?_))))
  refine ev_runK 2 hF30 [0,8,27] (l':=[(27,.bool true),(8,nI 0),(0,nP b0 0)]) (w':=w20) (by kernel_rfl) ?_
  intro a33 hF32; clear hF30
  refine wpList_nil (thenN ?_)
  refine ev_condT hF32 rfl rfl ?_
  refine wp_seq (wp_region_lit ?_)
  refine ev_runK 1 hF32 [4] (l':=[(4,.bool true)]) (w':=w20) (by kernel_rfl) ?_
  intro a35 hF34; clear hF32
  refine wpList_nil (thenN ?_)
  refine wp_ret ?_
  refine thenR ?_
  simp only [Option.some.injEq,Prod.mk.injEq] at hm13
  obtain ⟨rfl,rfl⟩:=hm13
  refine ev_ret hF34 [4] (.bool true) rfl rfl rfl ?_
  exact ⟨rfl,hS26⟩
 | some q38 =>
  have hm39:=optS hm8; clear hm8
  cases q38 with
  | inl q40 =>
   have hm42:=sumL hm39; clear hm39
   refine ev_runK 1 hF12 [0,5] (l':=[(5,.iface 112 (.agg #[])),(0,nP b0 0)]) (w':=w9) (by kernel_rfl) ?_
   intro a44 hF43; clear hF12
   refine wpList_nil (thenN (wp_seq (wp_seq (wp_region_lit ?_))))
   refine ev_runs 6 hF43 (l':=[(6,nB w9),(19,.bool true),(18,.agg #[]),(15,.tuple #[.agg #[],.bool true]),(17,.tuple #[.agg #[],.bool true]),(16,.iface 112 (.agg #[])),(5,.iface 112 (.agg #[])),(0,nP b0 0)]) (w':=w9.alloc (.cells #[] 112)) (by kernel_rfl) ?_
   intro a46 hF45; clear hF43
   have hS48:St w0 F0 (BlkP (w9.heap.size) 112 #[]::HeapP b0 ab0 s6::ps) (w9.alloc (.cells #[] 112)):=St.new hS11 #[] 112
   clear hS11
   refine ev_store (.agg #[]) #[] hF45 (by kernel_rfl) rfl rfl rfl rfl (by kernel_rfl) hS48 (by kernel_rfl) (by kernel_rfl) (by kernel_rfl) (l':=[(6,nB w9),(19,.bool true),(18,.agg #[]),(15,.tuple #[.agg #[],.bool true]),(17,.tuple #[.agg #[],.bool true]),(16,.iface 112 (.agg #[])),(5,.iface 112 (.agg #[])),(0,nP b0 0)]) (by kernel_rfl) ?_
   intro w49 a50 hS51 hF52; clear hF45 hS48
   refine ev_runK 1 hF52 [0,5,7] (l':=[(7,.bool true),(5,.iface 112 (.agg #[])),(0,nP b0 0)]) (w':=w49) (by kernel_rfl) ?_
   intro a54 hF53; clear hF52
   refine wpList_nil ?_
   have hS55:=hS51.drop
   clear hS51
   refine thenN (wp_seq (wp_region_lit ?_))
   refine ev_runK 1 hF53 [0,5,20] (l':=[(20,.bool true),(5,.iface 112 (.agg #[])),(0,nP b0 0)]) (w':=w49) (by kernel_rfl) ?_
   intro a57 hF56; clear hF53
   refine wpList_nil (thenN ?_)
   refine ev_condT hF56 rfl rfl ?_
   refine wp_seq (wp_region_lit ?_)
   refine ev_runK 1 hF56 [4] (l':=[(4,.bool false)]) (w':=w49) (by kernel_rfl) ?_
   intro a59 hF58; clear hF56
   refine wpList_nil (thenN ?_)
   refine wp_ret ?_
   refine thenR ?_
   simp only [Option.some.injEq,Prod.mk.injEq] at hm42
   obtain ⟨rfl,rfl⟩:=hm42
   refine ev_ret hF58 [4] (.bool false) rfl rfl rfl ?_
   exact ⟨rfl,hS55⟩
  | inr q41 =>
   have hm62:=sumR hm39; clear hm39
   refine ev_runK 1 hF12 [0,5] (l':=[(5,.iface 114 (nI q41)),(0,nP b0 0)]) (w':=w9) (by kernel_rfl) ?_
   intro a64 hF63; clear hF12
   refine wpList_nil (thenN (wp_seq (wp_seq (wp_region_lit ?_))))
   refine ev_runs 6 hF63 (l':=[(6,nB w9),(19,.bool false),(18,.agg #[]),(15,.tuple #[.agg #[],.bool false]),(17,.tuple #[.agg #[],.bool false]),(16,.iface 114 (nI q41)),(5,.iface 114 (nI q41)),(0,nP b0 0)]) (w':=w9.alloc (.cells #[] 112)) (by kernel_rfl) ?_
   intro a66 hF65; clear hF63
   have hS68:St w0 F0 (BlkP (w9.heap.size) 112 #[]::HeapP b0 ab0 s6::ps) (w9.alloc (.cells #[] 112)):=St.new hS11 #[] 112
   clear hS11
   refine ev_store (.agg #[]) #[] hF65 (by kernel_rfl) rfl rfl rfl rfl (by kernel_rfl) hS68 (by kernel_rfl) (by kernel_rfl) (by kernel_rfl) (l':=[(6,nB w9),(19,.bool false),(18,.agg #[]),(15,.tuple #[.agg #[],.bool false]),(17,.tuple #[.agg #[],.bool false]),(16,.iface 114 (nI q41)),(5,.iface 114 (nI q41)),(0,nP b0 0)]) (by kernel_rfl) ?_
   intro w69 a70 hS71 hF72; clear hF65 hS68
   refine ev_runK 1 hF72 [0,5,7] (l':=[(7,.bool false),(5,.iface 114 (nI q41)),(0,nP b0 0)]) (w':=w69) (by kernel_rfl) ?_
   intro a74 hF73; clear hF72
   refine wpList_nil ?_
   have hS75:=hS71.drop
   clear hS71
   refine thenN (wp_seq (wp_region_lit ?_))
   refine ev_runK 1 hF73 [0,5,20] (l':=[(20,.bool false),(5,.iface 114 (nI q41)),(0,nP b0 0)]) (w':=w69) (by kernel_rfl) ?_
   intro a77 hF76; clear hF73
   refine wpList_nil (thenN ?_)
   refine ev_condF hF76 rfl rfl ?_
   refine wp_skip ?_
   have hF78:=hF76.keep [0,5]
   clear hF76
   refine thenN (wp_seq (wp_region_lit ?_))
   refine ev_runK 7 hF78 [0,8,9] (l':=[(9,.bool true),(8,nI q41),(0,nP b0 0)]) (w':=w69) (by kernel_rfl) ?_
   intro a80 hF79; clear hF78
   refine wpList_nil (thenN (wp_seq (wp_seq (wp_region_lit ?_))))
   refine ev_runK 2 hF79 [0,8,27] (l':=[(27,.bool false),(8,nI q41),(0,nP b0 0)]) (w':=w69) (by kernel_rfl) ?_
   intro a82 hF81; clear hF79
   refine wpList_nil (thenN ?_)
   refine ev_condF hF81 rfl rfl ?_
   refine wp_skip ?_
   have hF83:=hF81.keep [0,8]
   clear hF81
   refine thenN (wp_seq (wp_region_lit ?_))
   refine ev_runs 2 hF83 (l':=[(30,nI q41),(29,nP b0 0),(8,nI q41),(0,nP b0 0)]) (w':=w69) (by kernel_rfl) ?_
   intro a85 hF84; clear hF83
   refine ev_call 50 #[nP b0 0,nI q41] hF84 rfl rfl (by kernel_rfl) rfl (by kernel_rfl) (fun w=>by kernel_rfl) ?_
   obtain ⟨q86,x87,hx88,hm89⟩:=bind2E hm62; clear hm62
   refine (p_Chan hS75 hx88).mono ?_
   rintro _ w90 ⟨rfl,hS92⟩ a91 hF93; clear hF84 hS75
   refine ev_runs 4 hF93 (l':=[(10,nB w90),(33,nI x87),(32,.agg #[nI (q86.cap),nI (q86.closed),nI (q86.count),nI (q86.start),nI (q86.buf),nI (q86.th),nI (q86.tt),nI (q86.sh),nI (q86.st)]),(28,.tuple #[.agg #[nI (q86.cap),nI (q86.closed),nI (q86.count),nI (q86.start),nI (q86.buf),nI (q86.th),nI (q86.tt),nI (q86.sh),nI (q86.st)],nI x87]),(31,.tuple #[.agg #[nI (q86.cap),nI (q86.closed),nI (q86.count),nI (q86.start),nI (q86.buf),nI (q86.th),nI (q86.tt),nI (q86.sh),nI (q86.st)],nI x87]),(30,nI q41),(29,nP b0 0),(8,nI q41),(0,nP b0 0)]) (w':=w90.alloc (.cells #[nI 0,nI 0,nI 0,nI 0,nI 0,nI 0,nI 0,nI 0,nI 0] 49)) (by kernel_rfl) ?_
   intro a95 hF94; clear hF93
   have hS97:St w0 F0 (BlkP (w90.heap.size) 49 #[nI 0,nI 0,nI 0,nI 0,nI 0,nI 0,nI 0,nI 0,nI 0]::HeapP b0 ab0 s6::ps) (w90.alloc (.cells #[nI 0,nI 0,nI 0,nI 0,nI 0,nI 0,nI 0,nI 0,nI 0] 49)):=St.new hS92 #[nI 0,nI 0,nI 0,nI 0,nI 0,nI 0,nI 0,nI 0,nI 0] 49
   clear hS92
   refine ev_store (.agg #[nI (q86.cap),nI (q86.closed),nI (q86.count),nI (q86.start),nI (q86.buf),nI (q86.th),nI (q86.tt),nI (q86.sh),nI (q86.st)]) #[nI (q86.cap),nI (q86.closed),nI (q86.count),nI (q86.start),nI (q86.buf),nI (q86.th),nI (q86.tt),nI (q86.sh),nI (q86.st)] hF94 (by kernel_rfl) rfl rfl rfl rfl (by kernel_rfl) hS97 (by kernel_rfl) (by kernel_rfl) (by kernel_rfl) (l':=[(10,nB w90),(33,nI x87),(32,.agg #[nI (q86.cap),nI (q86.closed),nI (q86.count),nI (q86.start),nI (q86.buf),nI (q86.th),nI (q86.tt),nI (q86.sh),nI (q86.st)]),(28,.tuple #[.agg #[nI (q86.cap),nI (q86.closed),nI (q86.count),nI (q86.start),nI (q86.buf),nI (q86.th),nI (q86.tt),nI (q86.sh),nI (q86.st)],nI x87]),(31,.tuple #[.agg #[nI (q86.cap),nI (q86.closed),nI (q86.count),nI (q86.start),nI (q86.buf),nI (q86.th),nI (q86.tt),nI (q86.sh),nI (q86.st)],nI x87]),(30,nI q41),(29,nP b0 0),(8,nI q41),(0,nP b0 0)]) (by kernel_rfl) ?_
   intro w98 a99 hS100 hF101; clear hF94 hS97
   refine ev_runK 1 hF101 [0,8,10] (l':=[(10,nB w90),(8,nI q41),(0,nP b0 0)]) (w':=w98) (by kernel_rfl) ?_
   intro a103 hF102; clear hF101
   refine wpList_nil (thenN (wp_seq ?_))
   refine joinQ (fun aI wI=>∃ (s104:HSt) (y105:Bool),Fr 51 aI [(4,.bool (y105))]∧St w0 F0 (HeapP b0 ab0 s104::ps) wI∧take_Ready.j1 s104 y105=some (r0,t0)) ?_ ?_
   rotate_left
   · rintro a107 w108 ⟨s104,y105,hF109,hS110,hm111⟩
     clear hF102 hS100 hm89
     unfold take_Ready.j1 at hm111
     refine thenN ?_
     refine wp_ret ?_
     simp only [Option.some.injEq,Prod.mk.injEq] at hm111
     obtain ⟨rfl,rfl⟩:=hm111
     refine ev_ret hF109 [4] (.bool (y105)) rfl rfl rfl ?_
     exact ⟨rfl,hS110⟩
   · skip
     refine wp_region_lit ?_
     refine ev_runs 1 hF102 (l':=[(34,nP (w90.heap.size) 1),(10,nB w90),(8,nI q41),(0,nP b0 0)]) (w':=w98) (by kernel_rfl) ?_
     intro a116 hF115; clear hF102
     refine ev_one (nI (q86.closed)) w98 hF115 (by kernel_rfl) rfl (by kernel_rfl) (run_loadV rfl rfl (run_loadS rfl rfl (hS100.cell 0 rfl 1 rfl))) (l':=[(35,nI (q86.closed)),(34,nP (w90.heap.size) 1),(10,nB w90),(8,nI q41),(0,nP b0 0)]) (by kernel_rfl) ?_
     intro a118 hF117; clear hF115
     refine ev_runs 2 hF117 (l':=[(37,.bool (q86.closed != 0)),(36,.bool (q86.closed != 0)),(35,nI (q86.closed)),(34,nP (w90.heap.size) 1),(10,nB w90),(8,nI q41),(0,nP b0 0)]) (w':=w98) (by kernel_rfl) ?_
     intro a120 hF119; clear hF117
     cases hc121:(q86.closed != 0)
     case true =>
      rw [hc121] at hF119
      have hm122:=ifYes hc121 hm89; clear hm89
      refine ev_runK 14 hF119 [4] (l':=[(4,.bool true)]) (w':=w98) (by kernel_rfl) ?_
      intro a124 hF123; clear hF119
      refine wpList_nil ?_
      have hS125:=hS100.drop
      clear hS100
      exact thenN ⟨s6,true,hF123,hS125,hm122⟩
     rw [hc121] at hF119
     have hm126:=ifNot hc121 hm89; clear hm89
     refine ev_runs 2 hF119 (l':=[(39,nI q41),(38,nP b0 0),(37,.bool false),(36,.bool false),(35,nI (q86.closed)),(34,nP (w90.heap.size) 1),(10,nB w90),(8,nI q41),(0,nP b0 0)]) (w':=w98) (by kernel_rfl) ?_
     intro a128 hF127; clear hF119
     have hS129:=hS100.pick1
     clear hS100
     refine ev_call 54 #[nP b0 0,nI q41] hF127 rfl rfl (by kernel_rfl) rfl (by kernel_rfl) (fun w=>by kernel_rfl) ?_
     obtain ⟨L130,s131,hx132,hm133⟩:=bind2E hm126; clear hm126
     refine (ring_All.ok hS129 hx132).mono ?_
     rintro _ w134 ⟨z138,rfl,hS136⟩ a135 hF137; clear hF127 hS129
     obtain ⟨hl143,p140,c141,rfl,hp142⟩:=St.shape hS136 1 rfl
     refine ev_runs 4 hF137 (l':=[(44,.bool (decide ((L130.length:Int) > 0))),(43,.bool (decide ((L130.length:Int) > 0))),(42,.bool (decide ((L130.length:Int) > 0))),(41,nI ((L130.length:Int))),(40,.slice p140 L130.length c141),(39,nI q41),(38,nP b0 0),(37,.bool false),(36,.bool false),(35,nI (q86.closed)),(34,nP (w90.heap.size) 1),(10,nB w90),(8,nI q41),(0,nP b0 0)]) (w':=w134) (by kernel_rfl) ?_
     intro a145 hF144; clear hF137
     cases hc146:(decide ((L130.length:Int) > 0))
     case true =>
      rw [hc146] at hF144
      have hm147:=ifYes hc146 hm133; clear hm133
      refine ev_runK 7 hF144 [4] (l':=[(4,.bool true)]) (w':=w134) (by kernel_rfl) ?_
      intro a149 hF148; clear hF144
      refine wpList_nil ?_
      have hS150:=hS136.pick1.drop.pick1.drop
      clear hS136
      exact thenN ⟨s131,true,hF148,hS150,hm147⟩
     rw [hc146] at hF144
     have hm151:=ifNot hc146 hm133; clear hm133
     refine ev_runs 2 hF144 (l':=[(46,nI q41),(45,nP b0 0),(44,.bool false),(43,.bool false),(42,.bool false),(41,nI ((L130.length:Int))),(40,.slice p140 L130.length c141),(39,nI q41),(38,nP b0 0),(37,.bool false),(36,.bool false),(35,nI (q86.closed)),(34,nP (w90.heap.size) 1),(10,nB w90),(8,nI q41),(0,nP b0 0)]) (w':=w134) (by kernel_rfl) ?_
     intro a153 hF152; clear hF144
     refine ev_call 53 #[nP b0 0,nI q41,.bool true] hF152 rfl rfl (by kernel_rfl) rfl (by kernel_rfl) (fun w=>by kernel_rfl) ?_
     obtain ⟨L154,s155,hx156,hm157⟩:=bind2E hm151; clear hm151
     refine (list_All.ok hS136 hx156).mono ?_
     rintro _ w158 ⟨z162,rfl,hS160⟩ a159 hF161; clear hF152 hS136
     obtain ⟨hl167,p164,c165,rfl,hp166⟩:=St.shape hS160 1 rfl
     refine ev_runK 4 hF161 [4] (l':=[(4,.bool (decide ((L154.length:Int) > 0)))]) (w':=w158) (by kernel_rfl) ?_
     intro a169 hF168; clear hF161
     refine wpList_nil ?_
     have hS170:=hS160.pick1.drop.pick1.drop.pick1.drop
     clear hS160
     exact thenN ⟨s155,decide ((L154.length:Int) > 0),hF168,hS170,hm157⟩
def take_ReadyN.m (k:Nat) (i1:Int):Option (Bool):=some (true)
set_option maxRecDepth 100000 in
set_option maxHeartbeats 1500000 in
theorem take_ReadyN.ok {w0 w:World} {F0:List Nat} {ps:List Piece} {k:Nat} {i1:Int} {r0:Bool} (hS:St w0 F0 (ps) w) (hm:take_ReadyN.m k i1=some r0) :
    Calls Tryz.prog 37 #[.pointer none,nI i1] w fun e w'=>e=.returned (.bool r0)∧St w0 F0 (ps) w':=by
 refine ev_enterL 51 [.pointer none,nI i1] Tryz.func37 rfl rfl (by simp) ?_
 intro a hF
 have hF0:Fr 51 a [(0,.pointer none),(1,nI i1)]:=hF; clear hF
 unfold take_ReadyN.m at hm
 refine wp_seq (wp_region_lit ?_)
 refine ev_runK 1 hF0 [0,1] (l':=[(0,.pointer none),(1,nI i1)]) (w':=w) (by kernel_rfl) ?_
 intro a2 hF1; clear hF0
 refine wpList_nil (thenN (wp_seq (wp_region_lit ?_)))
 refine ev_runs 2 hF1 (l':=[(13,nI i1),(12,.pointer none),(0,.pointer none),(1,nI i1)]) (w':=w) (by kernel_rfl) ?_
 intro a4 hF3; clear hF1
 refine ev_call 49 #[.pointer none,nI i1] hF3 rfl rfl (by kernel_rfl) rfl (by kernel_rfl) (fun w=>by kernel_rfl) ?_
 refine (mouth_OfN.okc hS).mono ?_
 rintro _ w5 ⟨rfl,hS7⟩ a6 hF8; clear hF3 hS
 refine ev_runK 1 hF8 [0,5] (l':=[(5,.nilIface),(0,.pointer none)]) (w':=w5) (by kernel_rfl) ?_
 intro a10 hF9; clear hF8
 refine wpList_nil (thenN (wp_seq (wp_seq (wp_region_lit ?_))))
 refine ev_runs 6 hF9 (l':=[(6,nB w5),(19,.bool false),(18,.agg #[]),(15,.tuple #[.agg #[],.bool false]),(17,.tuple #[.agg #[],.bool false]),(16,.nilIface),(5,.nilIface),(0,.pointer none)]) (w':=w5.alloc (.cells #[] 112)) (by kernel_rfl) ?_
 intro a12 hF11; clear hF9
 have hS14:St w0 F0 (BlkP (w5.heap.size) 112 #[]::ps) (w5.alloc (.cells #[] 112)):=St.new hS7 #[] 112
 clear hS7
 refine ev_store (.agg #[]) #[] hF11 (by kernel_rfl) rfl rfl rfl rfl (by kernel_rfl) hS14 (by kernel_rfl) (by kernel_rfl) (by kernel_rfl) (l':=[(6,nB w5),(19,.bool false),(18,.agg #[]),(15,.tuple #[.agg #[],.bool false]),(17,.tuple #[.agg #[],.bool false]),(16,.nilIface),(5,.nilIface),(0,.pointer none)]) (by kernel_rfl) ?_
 intro w15 a16 hS17 hF18; clear hF11 hS14
 refine ev_runK 1 hF18 [0,5,7] (l':=[(7,.bool false),(5,.nilIface),(0,.pointer none)]) (w':=w15) (by kernel_rfl) ?_
 intro a20 hF19; clear hF18
 refine wpList_nil ?_
 have hS21:=hS17.drop
 clear hS17
 refine thenN (wp_seq (wp_region_lit ?_))
 refine ev_runK 1 hF19 [0,5,20] (l':=[(20,.bool false),(5,.nilIface),(0,.pointer none)]) (w':=w15) (by kernel_rfl) ?_
 intro a23 hF22; clear hF19
 refine wpList_nil (thenN ?_)
 refine ev_condF hF22 rfl rfl ?_
 refine wp_skip ?_
 have hF24:=hF22.keep [0,5]
 clear hF22
 refine thenN (wp_seq (wp_region_lit ?_))
 refine ev_runK 7 hF24 [0,8,9] (l':=[(9,.bool false),(8,nI 0),(0,.pointer none)]) (w':=w15) (by kernel_rfl) ?_
 intro a26 hF25; clear hF24
 refine wpList_nil (thenN (wp_seq (wp_seq (wp_region_lit ?_))))
 refine ev_runK 2 hF25 [0,8,27] (l':=[(27,.bool true),(8,nI 0),(0,.pointer none)]) (w':=w15) (by kernel_rfl) ?_
 intro a28 hF27; clear hF25
 refine wpList_nil (thenN ?_)
 refine ev_condT hF27 rfl rfl ?_
 refine wp_seq (wp_region_lit ?_)
 refine ev_runK 1 hF27 [4] (l':=[(4,.bool true)]) (w':=w15) (by kernel_rfl) ?_
 intro a30 hF29; clear hF27
 refine wpList_nil (thenN ?_)
 refine wp_ret ?_
 refine thenR ?_
 obtain rfl:=Option.some.inj hm
 refine ev_ret hF29 [4] (.bool true) rfl rfl rfl ?_
 exact ⟨rfl,hS21⟩
end Go.Proofs.YtjdlnmbfomojdaaGreat
