/- GSend -/
import Derived.Test.YtjdlnmbfomojdaaGreatKGView
import Derived.Test.YtjdlnmbfomojdaaGreatKGRing
import Derived.Test.YtjdlnmbfomojdaaGreatKGList
import Derived.Deep.LoopGhost
import Derived.KernelRfl
namespace Go.Proofs.YtjdlnmbfomojdaaGreat
open Go.RowKit
set_option linter.unusedVariables false
def send_Ready.j2 (s121:HSt) (y122:Bool):Option (Bool×HSt):=some (y122,s121)
def send_Ready.j1 (k:Nat) (s6:HSt) (q41:Int) (q86:Ch) (y113:Bool):Option (Bool×HSt):=(if (q86.closed != 0) then send_Ready.j2 s6 true else (if (y113) then send_Ready.j2 s6 true else bind2 (list_All.m k s6 q41 (false)) fun L154 s155=>send_Ready.j2 s155 (decide ((L154.length:Int) > 0))))
def send_Ready.m (k:Nat) (s0:HSt) (i1:Int):Option (Bool×HSt):=bind2 (mouth_Of.m k s0 i1) fun o5 s6=>optE o5 (some (true,s6)) fun q38=>sumE q38 (fun q40=>some (false,s6)) fun q41=>bind2 (pChan q41 s6) fun q86 x87=>(if (decide ((if 0 > q86.count then 0 else q86.count)<q86.cap)) then (if ((aKind s6.a.c q86.buf) == 2) then send_Ready.j1 k s6 q41 q86 ((aLen s6.a.c q86.buf) == q86.cap) else send_Ready.j1 k s6 q41 q86 false) else send_Ready.j1 k s6 q41 q86 false)
set_option maxRecDepth 100000 in
set_option maxHeartbeats 1500000 in
theorem send_Ready.ok {w0 w:World} {F0:List Nat} {ps:List Piece} {k:Nat} {b0 ab0:Nat} {s0:HSt} {i1:Int} {r0:Bool} {t0:HSt} (hS:St w0 F0 (HeapP b0 ab0 s0::ps) w) (hm:send_Ready.m k s0 i1=some (r0,t0)) :
    Calls Tryz.prog 36 #[nP b0 0,nI i1] w fun e w'=>e=.returned (.bool r0)∧St w0 F0 (HeapP b0 ab0 t0::ps) w':=by
 refine ev_enterL 73 [nP b0 0,nI i1] Tryz.func36 rfl rfl (by simp) ?_
 intro a hF
 have hF0:Fr 73 a [(0,nP b0 0),(1,nI i1)]:=hF; clear hF
 unfold send_Ready.m at hm
 refine wp_seq (wp_region_lit ?_)
 refine ev_runK 1 hF0 [0,1] (l':=[(0,nP b0 0),(1,nI i1)]) (w':=w) (by kernel_rfl) ?_
 intro a2 hF1; clear hF0
 refine wpList_nil (thenN (wp_seq (wp_region_lit ?_)))
 refine ev_runs 2 hF1 (l':=[(15,nI i1),(14,nP b0 0),(0,nP b0 0),(1,nI i1)]) (w':=w) (by kernel_rfl) ?_
 intro a4 hF3; clear hF1
 refine ev_call 49 #[nP b0 0,nI i1] hF3 rfl rfl (by kernel_rfl) rfl (by kernel_rfl) (fun w=>by kernel_rfl) ?_
 obtain ⟨o5,s6,hx7,hm8⟩:=bind2E hm; clear hm
 refine (mouth_Of.ok hS hx7).mono ?_
 rintro _ w9 ⟨rfl,hS11⟩ a10 hF12; clear hF3 hS
 cases o5 with
 | none =>
  have hm13:=optN hm8; clear hm8
  refine ev_runK 1 hF12 [0,5] (l':=[(5,.nilIface),(0,nP b0 0)]) (w':=w9) (by kernel_rfl) ?_
  intro a15 hF14; clear hF12
  refine wpList_nil (thenN (wp_seq (wp_seq (wp_region_lit ?_))))
  refine ev_runs 6 hF14 (l':=[(6,nB w9),(21,.bool false),(20,.agg #[]),(17,.tuple #[.agg #[],.bool false]),(19,.tuple #[.agg #[],.bool false]),(18,.nilIface),(5,.nilIface),(0,nP b0 0)]) (w':=w9.alloc (.cells #[] 112)) (by kernel_rfl) ?_
  intro a17 hF16; clear hF14
  have hS19:St w0 F0 (BlkP (w9.heap.size) 112 #[]::HeapP b0 ab0 s6::ps) (w9.alloc (.cells #[] 112)):=St.new hS11 #[] 112
  clear hS11
  refine ev_store (.agg #[]) #[] hF16 (by kernel_rfl) rfl rfl rfl rfl (by kernel_rfl) hS19 (by kernel_rfl) (by kernel_rfl) (by kernel_rfl) (l':=[(6,nB w9),(21,.bool false),(20,.agg #[]),(17,.tuple #[.agg #[],.bool false]),(19,.tuple #[.agg #[],.bool false]),(18,.nilIface),(5,.nilIface),(0,nP b0 0)]) (by kernel_rfl) ?_
  intro w20 a21 hS22 hF23; clear hF16 hS19
  refine ev_runK 1 hF23 [0,5,7] (l':=[(7,.bool false),(5,.nilIface),(0,nP b0 0)]) (w':=w20) (by kernel_rfl) ?_
  intro a25 hF24; clear hF23
  refine wpList_nil ?_
  have hS26:=hS22.drop
  clear hS22
  refine thenN (wp_seq (wp_region_lit ?_))
  refine ev_runK 1 hF24 [0,5,22] (l':=[(22,.bool false),(5,.nilIface),(0,nP b0 0)]) (w':=w20) (by kernel_rfl) ?_
  intro a28 hF27; clear hF24
  refine wpList_nil (thenN ?_)
  refine ev_condF hF27 rfl rfl ?_
  refine wp_skip ?_
  have hF29:=hF27.keep [0,5]
  clear hF27
  refine thenN (wp_seq (wp_region_lit ?_))
  refine ev_runK 7 hF29 [0,8,9] (l':=[(9,.bool false),(8,nI 0),(0,nP b0 0)]) (w':=w20) (by kernel_rfl) ?_
  intro a31 hF30; clear hF29
  refine wpList_nil (thenN (wp_seq (wp_seq (wp_region_lit ?_))))
  refine ev_runK 2 hF30 [0,8,29] (l':=[(29,.bool true),(8,nI 0),(0,nP b0 0)]) (w':=w20) (by kernel_rfl) ?_
  intro a33 hF32; clear hF30
  refine wpList_nil (thenN ?_)
  refine ev_condT hF32 rfl rfl ?_
  refine wp_seq (wp_region_lit ?_)
  refine ev_runK 1 hF32 [4] (l':=[(4,.bool true)]) (w':=w20) (by kernel_rfl) ?_
  intro a35 hF34; clear hF32
  refine wpList_nil (thenN ?_)
  refine wp_ret ?_
  refine thenR ?_
  simp only [Option.some.injEq,Prod.mk.injEq] at hm13
  obtain ⟨rfl,rfl⟩:=hm13
  refine ev_ret hF34 [4] (.bool true) rfl rfl rfl ?_
  exact ⟨rfl,hS26⟩
 | some q38 =>
  have hm39:=optS hm8; clear hm8
  cases q38 with
  | inl q40 =>
   have hm42:=sumL hm39; clear hm39
   refine ev_runK 1 hF12 [0,5] (l':=[(5,.iface 112 (.agg #[])),(0,nP b0 0)]) (w':=w9) (by kernel_rfl) ?_
   intro a44 hF43; clear hF12
   refine wpList_nil (thenN (wp_seq (wp_seq (wp_region_lit ?_))))
   refine ev_runs 6 hF43 (l':=[(6,nB w9),(21,.bool true),(20,.agg #[]),(17,.tuple #[.agg #[],.bool true]),(19,.tuple #[.agg #[],.bool true]),(18,.iface 112 (.agg #[])),(5,.iface 112 (.agg #[])),(0,nP b0 0)]) (w':=w9.alloc (.cells #[] 112)) (by kernel_rfl) ?_
   intro a46 hF45; clear hF43
   have hS48:St w0 F0 (BlkP (w9.heap.size) 112 #[]::HeapP b0 ab0 s6::ps) (w9.alloc (.cells #[] 112)):=St.new hS11 #[] 112
   clear hS11
   refine ev_store (.agg #[]) #[] hF45 (by kernel_rfl) rfl rfl rfl rfl (by kernel_rfl) hS48 (by kernel_rfl) (by kernel_rfl) (by kernel_rfl) (l':=[(6,nB w9),(21,.bool true),(20,.agg #[]),(17,.tuple #[.agg #[],.bool true]),(19,.tuple #[.agg #[],.bool true]),(18,.iface 112 (.agg #[])),(5,.iface 112 (.agg #[])),(0,nP b0 0)]) (by kernel_rfl) ?_
   intro w49 a50 hS51 hF52; clear hF45 hS48
   refine ev_runK 1 hF52 [0,5,7] (l':=[(7,.bool true),(5,.iface 112 (.agg #[])),(0,nP b0 0)]) (w':=w49) (by kernel_rfl) ?_
   intro a54 hF53; clear hF52
   refine wpList_nil ?_
   have hS55:=hS51.drop
   clear hS51
   refine thenN (wp_seq (wp_region_lit ?_))
   refine ev_runK 1 hF53 [0,5,22] (l':=[(22,.bool true),(5,.iface 112 (.agg #[])),(0,nP b0 0)]) (w':=w49) (by kernel_rfl) ?_
   intro a57 hF56; clear hF53
   refine wpList_nil (thenN ?_)
   refine ev_condT hF56 rfl rfl ?_
   refine wp_seq (wp_region_lit ?_)
   refine ev_runK 1 hF56 [4] (l':=[(4,.bool false)]) (w':=w49) (by kernel_rfl) ?_
   intro a59 hF58; clear hF56
   refine wpList_nil (thenN ?_)
   refine wp_ret ?_
   refine thenR ?_
   simp only [Option.some.injEq,Prod.mk.injEq] at hm42
   obtain ⟨rfl,rfl⟩:=hm42
   refine ev_ret hF58 [4] (.bool false) rfl rfl rfl ?_
   exact ⟨rfl,hS55⟩
  | inr q41 =>
   have hm62:=sumR hm39; clear hm39
   refine ev_runK 1 hF12 [0,5] (l':=[(5,.iface 114 (nI q41)),(0,nP b0 0)]) (w':=w9) (by kernel_rfl) ?_
   intro a64 hF63; clear hF12
   refine wpList_nil (thenN (wp_seq (wp_seq (wp_region_lit ?_))))
   refine ev_runs 6 hF63 (l':=[(6,nB w9),(21,.bool false),(20,.agg #[]),(17,.tuple #[.agg #[],.bool false]),(19,.tuple #[.agg #[],.bool false]),(18,.iface 114 (nI q41)),(5,.iface 114 (nI q41)),(0,nP b0 0)]) (w':=w9.alloc (.cells #[] 112)) (by kernel_rfl) ?_
   intro a66 hF65; clear hF63
   have hS68:St w0 F0 (BlkP (w9.heap.size) 112 #[]::HeapP b0 ab0 s6::ps) (w9.alloc (.cells #[] 112)):=St.new hS11 #[] 112
   clear hS11
   refine ev_store (.agg #[]) #[] hF65 (by kernel_rfl) rfl rfl rfl rfl (by kernel_rfl) hS68 (by kernel_rfl) (by kernel_rfl) (by kernel_rfl) (l':=[(6,nB w9),(21,.bool false),(20,.agg #[]),(17,.tuple #[.agg #[],.bool false]),(19,.tuple #[.agg #[],.bool false]),(18,.iface 114 (nI q41)),(5,.iface 114 (nI q41)),(0,nP b0 0)]) (by kernel_rfl) ?_
   intro w69 a70 hS71 hF72; clear hF65 hS68
   refine ev_runK 1 hF72 [0,5,7] (l':=[(7,.bool false),(5,.iface 114 (nI q41)),(0,nP b0 0)]) (w':=w69) (by kernel_rfl) ?_
   intro a74 hF73; clear hF72
   refine wpList_nil ?_
   have hS75:=hS71.drop
   clear hS71
   refine thenN (wp_seq (wp_region_lit ?_))
   refine ev_runK 1 hF73 [0,5,22] (l':=[(22,.bool false),(5,.iface 114 (nI q41)),(0,nP b0 0)]) (w':=w69) (by kernel_rfl) ?_
   intro a77 hF76; clear hF73
   refine wpList_nil (thenN ?_)
   refine ev_condF hF76 rfl rfl ?_
   refine wp_skip ?_
   have hF78:=hF76.keep [0,5]
   clear hF76
   refine thenN (wp_seq (wp_region_lit ?_))
   refine ev_runK 7 hF78 [0,8,9] (l':=[(9,.bool true),(8,nI q41),(0,nP b0 0)]) (w':=w69) (by kernel_rfl) ?_
   intro a80 hF79; clear hF78
   refine wpList_nil (thenN (wp_seq (wp_seq (wp_region_lit ?_))))
   refine ev_runK 2 hF79 [0,8,29] (l':=[(29,.bool false),(8,nI q41),(0,nP b0 0)]) (w':=w69) (by kernel_rfl) ?_
   intro a82 hF81; clear hF79
   refine wpList_nil (thenN ?_)
   refine ev_condF hF81 rfl rfl ?_
   refine wp_skip ?_
   have hF83:=hF81.keep [0,8]
   clear hF81
   refine thenN (wp_seq (wp_region_lit ?_))
   refine ev_runs 2 hF83 (l':=[(32,nI q41),(31,nP b0 0),(8,nI q41),(0,nP b0 0)]) (w':=w69) (by kernel_rfl) ?_
   intro a85 hF84; clear hF83
   refine ev_call 50 #[nP b0 0,nI q41] hF84 rfl rfl (by kernel_rfl) rfl (by kernel_rfl) (fun w=>by kernel_rfl) ?_
   obtain ⟨q86,x87,hx88,hm89⟩:=bind2E hm62; clear hm62
   refine (p_Chan hS75 hx88).mono ?_
   rintro _ w90 ⟨rfl,hS92⟩ a91 hF93; clear hF84 hS75
   refine ev_runs 4 hF93 (l':=[(10,nB w90),(35,nI x87),(34,.agg #[nI (q86.cap),nI (q86.closed),nI (q86.count),nI (q86.start),nI (q86.buf),nI (q86.th),nI (q86.tt),nI (q86.sh),nI (q86.st)]),(30,.tuple #[.agg #[nI (q86.cap),nI (q86.closed),nI (q86.count),nI (q86.start),nI (q86.buf),nI (q86.th),nI (q86.tt),nI (q86.sh),nI (q86.st)],nI x87]),(33,.tuple #[.agg #[nI (q86.cap),nI (q86.closed),nI (q86.count),nI (q86.start),nI (q86.buf),nI (q86.th),nI (q86.tt),nI (q86.sh),nI (q86.st)],nI x87]),(32,nI q41),(31,nP b0 0),(8,nI q41),(0,nP b0 0)]) (w':=w90.alloc (.cells #[nI 0,nI 0,nI 0,nI 0,nI 0,nI 0,nI 0,nI 0,nI 0] 49)) (by kernel_rfl) ?_
   intro a95 hF94; clear hF93
   have hS97:St w0 F0 (BlkP (w90.heap.size) 49 #[nI 0,nI 0,nI 0,nI 0,nI 0,nI 0,nI 0,nI 0,nI 0]::HeapP b0 ab0 s6::ps) (w90.alloc (.cells #[nI 0,nI 0,nI 0,nI 0,nI 0,nI 0,nI 0,nI 0,nI 0] 49)):=St.new hS92 #[nI 0,nI 0,nI 0,nI 0,nI 0,nI 0,nI 0,nI 0,nI 0] 49
   clear hS92
   refine ev_store (.agg #[nI (q86.cap),nI (q86.closed),nI (q86.count),nI (q86.start),nI (q86.buf),nI (q86.th),nI (q86.tt),nI (q86.sh),nI (q86.st)]) #[nI (q86.cap),nI (q86.closed),nI (q86.count),nI (q86.start),nI (q86.buf),nI (q86.th),nI (q86.tt),nI (q86.sh),nI (q86.st)] hF94 (by kernel_rfl) rfl rfl rfl rfl (by kernel_rfl) hS97 (by kernel_rfl) (by kernel_rfl) (by kernel_rfl) (l':=[(10,nB w90),(35,nI x87),(34,.agg #[nI (q86.cap),nI (q86.closed),nI (q86.count),nI (q86.start),nI (q86.buf),nI (q86.th),nI (q86.tt),nI (q86.sh),nI (q86.st)]),(30,.tuple #[.agg #[nI (q86.cap),nI (q86.closed),nI (q86.count),nI (q86.start),nI (q86.buf),nI (q86.th),nI (q86.tt),nI (q86.sh),nI (q86.st)],nI x87]),(33,.tuple #[.agg #[nI (q86.cap),nI (q86.closed),nI (q86.count),nI (q86.start),nI (q86.buf),nI (q86.th),nI (q86.tt),nI (q86.sh),nI (q86.st)],nI x87]),(32,nI q41),(31,nP b0 0),(8,nI q41),(0,nP b0 0)]) (by kernel_rfl) ?_
   intro w98 a99 hS100 hF101; clear hF94 hS97
   refine ev_runK 1 hF101 [0,8,10] (l':=[(10,nB w90),(8,nI q41),(0,nP b0 0)]) (w':=w98) (by kernel_rfl) ?_
   intro a103 hF102; clear hF101
   refine wpList_nil (thenN (wp_seq (wp_region_lit ?_)))
   refine ev_runs 1 hF102 (l':=[(36,nP b0 0),(10,nB w90),(8,nI q41),(0,nP b0 0)]) (w':=w98) (by kernel_rfl) ?_
   intro a105 hF104; clear hF102
   have hS106:=hS100.pick1
   clear hS100
   refine ev_call 12 #[nP b0 0] hF104 rfl rfl (by kernel_rfl) rfl (by kernel_rfl) (fun w=>by kernel_rfl) ?_
   refine (p_Arena hS106).mono ?_
   rintro _ w107 ⟨rfl,hS109⟩ a108 hF110; clear hF104 hS106
   refine ev_runK 1 hF110 [0,8,10,12] (l':=[(12,nP ab0 0),(10,nB w90),(8,nI q41),(0,nP b0 0)]) (w':=w107) (by kernel_rfl) ?_
   intro a112 hF111; clear hF110
   refine wpList_nil (thenN (wp_seq ?_))
   refine joinQ (fun aI wI=>∃ (y113:Bool),Fr 73 aI [(13,.bool (y113)),(10,nB w90),(8,nI q41),(0,nP b0 0)]∧St w0 F0 (HeapP b0 ab0 s6::BlkP (w90.heap.size) 49 #[nI (q86.cap),nI (q86.closed),nI (q86.count),nI (q86.start),nI (q86.buf),nI (q86.th),nI (q86.tt),nI (q86.sh),nI (q86.st)]::ps) wI∧send_Ready.j1 k s6 q41 q86 y113=some (r0,t0)) ?_ ?_
   rotate_left
   · rintro a115 w116 ⟨y113,hF117,hS118,hm119⟩
     clear hF111 hS109 hm89
     unfold send_Ready.j1 at hm119
     refine thenN (wp_seq ?_)
     refine joinQ (fun aI wI=>∃ (s121:HSt) (y122:Bool),Fr 73 aI [(4,.bool (y122))]∧St w0 F0 (HeapP b0 ab0 s121::ps) wI∧send_Ready.j2 s121 y122=some (r0,t0)) ?_ ?_
     rotate_left
     · rintro a124 w125 ⟨s121,y122,hF126,hS127,hm128⟩
       clear hF117 hS118 hm119
       unfold send_Ready.j2 at hm128
       refine thenN ?_
       refine wp_ret ?_
       simp only [Option.some.injEq,Prod.mk.injEq] at hm128
       obtain ⟨rfl,rfl⟩:=hm128
       refine ev_ret hF126 [4] (.bool (y122)) rfl rfl rfl ?_
       exact ⟨rfl,hS127⟩
     · skip
       refine wp_region_lit ?_
       refine ev_runs 1 hF117 (l':=[(60,nP (w90.heap.size) 1),(13,.bool (y113)),(10,nB w90),(8,nI q41),(0,nP b0 0)]) (w':=w116) (by kernel_rfl) ?_
       intro a133 hF132; clear hF117
       refine ev_one (nI (q86.closed)) w116 hF132 (by kernel_rfl) rfl (by kernel_rfl) (run_loadV rfl rfl (run_loadS rfl rfl (hS118.cell 1 rfl 1 rfl))) (l':=[(61,nI (q86.closed)),(60,nP (w90.heap.size) 1),(13,.bool (y113)),(10,nB w90),(8,nI q41),(0,nP b0 0)]) (by kernel_rfl) ?_
       intro a135 hF134; clear hF132
       refine ev_runs 2 hF134 (l':=[(63,.bool (q86.closed != 0)),(62,.bool (q86.closed != 0)),(61,nI (q86.closed)),(60,nP (w90.heap.size) 1),(13,.bool (y113)),(10,nB w90),(8,nI q41),(0,nP b0 0)]) (w':=w116) (by kernel_rfl) ?_
       intro a137 hF136; clear hF134
       cases hc138:(q86.closed != 0)
       case true =>
        rw [hc138] at hF136
        have hm139:=ifYes hc138 hm119; clear hm119
        refine ev_runK 10 hF136 [4] (l':=[(4,.bool true)]) (w':=w116) (by kernel_rfl) ?_
        intro a141 hF140; clear hF136
        refine wpList_nil ?_
        have hS142:=hS118.pick1.drop
        clear hS118
        exact thenN ⟨s6,true,hF140,hS142,hm139⟩
       rw [hc138] at hF136
       have hm143:=ifNot hc138 hm119; clear hm119
       refine ev_runs 3 hF136 (l':=[(66,.bool (y113)),(65,.bool (y113)),(64,.bool (y113)),(63,.bool false),(62,.bool false),(61,nI (q86.closed)),(60,nP (w90.heap.size) 1),(13,.bool (y113)),(10,nB w90),(8,nI q41),(0,nP b0 0)]) (w':=w116) (by kernel_rfl) ?_
       intro a145 hF144; clear hF136
       cases hc146:(y113)
       case true =>
        rw [hc146] at hF144
        have hm147:=ifYes hc146 hm143; clear hm143
        refine ev_runK 7 hF144 [4] (l':=[(4,.bool true)]) (w':=w116) (by kernel_rfl) ?_
        intro a149 hF148; clear hF144
        refine wpList_nil ?_
        have hS150:=hS118.pick1.drop
        clear hS118
        exact thenN ⟨s6,true,hF148,hS150,hm147⟩
       rw [hc146] at hF144
       have hm151:=ifNot hc146 hm143; clear hm143
       refine ev_runs 2 hF144 (l':=[(68,nI q41),(67,nP b0 0),(66,.bool false),(65,.bool false),(64,.bool false),(63,.bool false),(62,.bool false),(61,nI (q86.closed)),(60,nP (w90.heap.size) 1),(13,.bool false),(10,nB w90),(8,nI q41),(0,nP b0 0)]) (w':=w116) (by kernel_rfl) ?_
       intro a153 hF152; clear hF144
       refine ev_call 53 #[nP b0 0,nI q41,.bool false] hF152 rfl rfl (by kernel_rfl) rfl (by kernel_rfl) (fun w=>by kernel_rfl) ?_
       obtain ⟨L154,s155,hx156,hm157⟩:=bind2E hm151; clear hm151
       refine (list_All.ok hS118 hx156).mono ?_
       rintro _ w158 ⟨z162,rfl,hS160⟩ a159 hF161; clear hF152 hS118
       obtain ⟨hl167,p164,c165,rfl,hp166⟩:=St.shape hS160 1 rfl
       refine ev_runK 4 hF161 [4] (l':=[(4,.bool (decide ((L154.length:Int) > 0)))]) (w':=w158) (by kernel_rfl) ?_
       intro a169 hF168; clear hF161
       refine wpList_nil ?_
       have hS170:=hS160.pick1.drop.pick1.drop
       clear hS160
       exact thenN ⟨s155,decide ((L154.length:Int) > 0),hF168,hS170,hm157⟩
   · skip
     have hS171:=hS109.pick1
     clear hS109
     have hS172:=hS171.drew; clear hS171
     refine any_start (fun wS=>∃ qs,St w0 F0 (BlkP (w90.heap.size) 49 #[nI (q86.cap),nI (q86.closed),nI (q86.count),nI (q86.start),nI (q86.buf),nI (q86.th),nI (q86.tt),nI (q86.sh),nI (q86.st)]::qs) wS) 23 #[false,false,false,false,false,false,false,false,false,false,false,false,false,false,false,false,false,false,false,false,false,false,false] (by kernel_rfl) (by kernel_rfl) (by kernel_rfl) ?_
     refine any_many 7 [(0,some (nP (w90.heap.size) 2)),(1,some (nI (q86.count))),(2,some (nI (if 0 > q86.count then 0 else q86.count))),(3,some (nB w90)),(4,some (nI (q86.cap))),(5,some (.bool (decide ((if 0 > q86.count then 0 else q86.count)<q86.cap)))),(6,some (.bool (decide ((if 0 > q86.count then 0 else q86.count)<q86.cap))))] [0,8,10,12,13,44,45,46,47,48,49,50,51,52,53,54,55,56,57,58,59] #[true,true,true,true,true,true,true,false,false,false,false,false,false,false,false,false,false,false,false,false,false,false,false] (by rfl) hF111 (by kernel_rfl) (by kernel_rfl) (by exact ⟨fun wS hw=>by kernel_rfl,fun wS hw=>hw.elim fun qs hw=>run_loadV rfl rfl (run_loadS rfl rfl (hw.cell 0 rfl 2 rfl)),fun wS hw=>by kernel_rfl,fun wS hw=>by kernel_rfl,fun wS hw=>hw.elim fun qs hw=>run_loadV rfl rfl (run_loadS rfl rfl (hw.cell 0 rfl 0 rfl)),fun wS hw=>by kernel_rfl,fun wS hw=>by kernel_rfl,trivial⟩) (fun _ _ _ _ _ h=>h) ⟨_,hS172⟩ (l':=[(44,.bool (decide ((if 0 > q86.count then 0 else q86.count)<q86.cap))),(12,nP ab0 0),(10,nB w90),(8,nI q41),(0,nP b0 0)]) (by kernel_rfl) ?_
     intro a174 hF173; clear hF111
     cases hc175:(decide ((if 0 > q86.count then 0 else q86.count)<q86.cap))
     case true =>
      rw [hc175] at hF173
      have hm176:=ifYes hc175 hm89; clear hm89
      refine any_many 3 [(7,some (nP ab0 0)),(8,some (nP (w90.heap.size) 4)),(9,some (nI (q86.buf)))] [0,8,10,12,13,44,45,47,48,49,50,51,52,53,54,55,56,57,58,59] #[true,true,true,true,true,true,true,true,true,true,false,false,false,false,false,false,false,false,false,false,false,false,false] (by rfl) hF173 (by kernel_rfl) (by kernel_rfl) (by exact ⟨fun wS hw=>by kernel_rfl,fun wS hw=>by kernel_rfl,fun wS hw=>hw.elim fun qs hw=>run_loadV rfl rfl (run_loadS rfl rfl (hw.cell 0 rfl 4 rfl)),trivial⟩) (fun _ _ _ _ _ h=>h) ⟨_,hS172⟩ (l':=[(47,nI (q86.buf)),(45,nP ab0 0),(44,.bool true),(12,nP ab0 0),(10,nB w90),(8,nI q41),(0,nP b0 0)]) (by kernel_rfl) ?_
      intro a178 hF177; clear hF173
      have hS179:=hS172.pick1
      clear hS172
      refine any_call 10 #[true,true,true,true,true,true,true,true,true,true,true,false,false,false,false,false,false,false,false,false,false,false,false] 51 #[nP ab0 0,nI (q86.buf)] hF177 rfl (by kernel_rfl) rfl rfl (by kernel_rfl) rfl (by kernel_rfl) (fun w=>by kernel_rfl) (by kernel_rfl) ?_
      refine (p_Kind hS179).mono ?_
      rintro _ w180 ⟨rfl,hS182⟩; clear hS179
      refine ⟨⟨_,hS182.pick1⟩,?_⟩
      intro a181 hF183; clear hF177
      refine any_many 3 [(11,some (.bool ((aKind s6.a.c q86.buf) == 2))),(12,some (.bool ((aKind s6.a.c q86.buf) == 2))),(13,some (.bool ((aKind s6.a.c q86.buf) == 2)))] [0,8,10,12,13,51,52,53,54,55,56,57,58,59] #[true,true,true,true,true,true,true,true,true,true,true,true,true,true,false,false,false,false,false,false,false,false,false] (by rfl) hF183 (by kernel_rfl) (by kernel_rfl) (by exact ⟨fun wS hw=>by kernel_rfl,fun wS hw=>by kernel_rfl,fun wS hw=>by kernel_rfl,trivial⟩) (fun _ _ _ _ _ h=>h) ⟨_,hS182.pick1⟩ (l':=[(51,.bool ((aKind s6.a.c q86.buf) == 2)),(12,nP ab0 0),(10,nB w90),(8,nI q41),(0,nP b0 0)]) (by kernel_rfl) ?_
      intro a185 hF184; clear hF183
      cases hc186:((aKind s6.a.c q86.buf) == 2)
      case true =>
       rw [hc186] at hF184
       have hm187:=ifYes hc186 hm176; clear hm176
       refine any_many 5 [(14,some (nP ab0 0)),(15,some (nP (w90.heap.size) 4)),(16,some (nI (q86.buf))),(18,some (nB w90)),(19,some (nI (q86.cap)))] [0,8,10,13,51,52,54,55,57,58,59] #[true,true,true,true,true,true,true,true,true,true,true,true,true,true,true,true,true,false,true,true,false,false,false] (by rfl) hF184 (by kernel_rfl) (by kernel_rfl) (by exact ⟨fun wS hw=>by kernel_rfl,fun wS hw=>by kernel_rfl,fun wS hw=>hw.elim fun qs hw=>run_loadV rfl rfl (run_loadS rfl rfl (hw.cell 0 rfl 4 rfl)),fun wS hw=>by kernel_rfl,fun wS hw=>hw.elim fun qs hw=>run_loadV rfl rfl (run_loadS rfl rfl (hw.cell 0 rfl 0 rfl)),trivial⟩) (fun _ _ _ _ _ h=>h) ⟨_,hS182.pick1⟩ (l':=[(57,nI (q86.cap)),(54,nI (q86.buf)),(52,nP ab0 0),(51,.bool true),(10,nB w90),(8,nI q41),(0,nP b0 0)]) (by kernel_rfl) ?_
       intro a189 hF188; clear hF184
       refine any_call 17 #[true,true,true,true,true,true,true,true,true,true,true,true,true,true,true,true,true,true,true,true,false,false,false] 52 #[nP ab0 0,nI (q86.buf)] hF188 rfl (by kernel_rfl) rfl rfl (by kernel_rfl) rfl (by kernel_rfl) (fun w=>by kernel_rfl) (by kernel_rfl) ?_
       refine (p_Len hS182).mono ?_
       rintro _ w190 ⟨rfl,hS192⟩; clear hS182
       refine ⟨⟨_,hS192.pick1⟩,?_⟩
       intro a191 hF193; clear hF188
       refine any_many 3 [(20,some (.bool ((aLen s6.a.c q86.buf) == q86.cap))),(21,some (.bool ((aLen s6.a.c q86.buf) == q86.cap))),(22,some (.bool ((aLen s6.a.c q86.buf) == q86.cap)))] [0,8,10,13] #[true,true,true,true,true,true,true,true,true,true,true,true,true,true,true,true,true,true,true,true,true,true,true] (by rfl) hF193 (by kernel_rfl) (by kernel_rfl) (by exact ⟨fun wS hw=>by kernel_rfl,fun wS hw=>by kernel_rfl,fun wS hw=>by kernel_rfl,trivial⟩) (fun _ _ _ _ _ h=>h) ⟨_,hS192.pick1⟩ (l':=[(13,.bool ((aLen s6.a.c q86.buf) == q86.cap)),(10,nB w90),(8,nI q41),(0,nP b0 0)]) (by kernel_rfl) ?_
       intro a195 hF194; clear hF193
       refine any_done (by kernel_rfl) ?_
       exact thenN ⟨(aLen s6.a.c q86.buf) == q86.cap,hF194,hS192,hm187⟩
      rw [hc186] at hF184
      have hm196:=ifNot hc186 hm176; clear hm176
      refine any_many 9 [(14,none),(15,none),(16,none),(17,none),(18,none),(19,none),(20,none),(21,some (.bool false)),(22,some (.bool false))] [0,8,10,13] #[true,true,true,true,true,true,true,true,true,true,true,true,true,true,true,true,true,true,true,true,true,true,true] (by rfl) hF184 (by kernel_rfl) (by kernel_rfl) (by exact (And.intro trivial (And.intro trivial (And.intro trivial (And.intro trivial (And.intro trivial (And.intro trivial (And.intro trivial (And.intro (fun wS hw=>by kernel_rfl) (And.intro (fun wS hw=>by kernel_rfl) trivial)))))))))) (fun _ _ _ _ _ h=>h) ⟨_,hS182.pick1⟩ (l':=[(13,.bool false),(10,nB w90),(8,nI q41),(0,nP b0 0)]) (by kernel_rfl) ?_
      intro a198 hF197; clear hF184
      refine any_done (by kernel_rfl) ?_
      exact thenN ⟨false,hF197,hS182,hm196⟩
     rw [hc175] at hF173
     have hm199:=ifNot hc175 hm89; clear hm89
     refine any_many 16 [(7,none),(8,none),(9,none),(10,none),(11,none),(12,some (.bool false)),(13,some (.bool false)),(14,none),(15,none),(16,none),(17,none),(18,none),(19,none),(20,none),(21,some (.bool false)),(22,some (.bool false))] [0,8,10,13] #[true,true,true,true,true,true,true,true,true,true,true,true,true,true,true,true,true,true,true,true,true,true,true] (by rfl) hF173 (by kernel_rfl) (by kernel_rfl) (by exact (And.intro trivial (And.intro trivial (And.intro trivial (And.intro trivial (And.intro trivial (And.intro (fun wS hw=>by kernel_rfl) (And.intro (fun wS hw=>by kernel_rfl) (And.intro trivial (And.intro trivial (And.intro trivial (And.intro trivial (And.intro trivial (And.intro trivial (And.intro trivial (And.intro (fun wS hw=>by kernel_rfl) (And.intro (fun wS hw=>by kernel_rfl) trivial))))))))))))))))) (fun _ _ _ _ _ h=>h) ⟨_,hS172⟩ (l':=[(13,.bool false),(10,nB w90),(8,nI q41),(0,nP b0 0)]) (by kernel_rfl) ?_
     intro a201 hF200; clear hF173
     refine any_done (by kernel_rfl) ?_
     have hS202:=hS172.pick1
     clear hS172
     exact thenN ⟨false,hF200,hS202,hm199⟩
def send_ReadyN.m (k:Nat) (i1:Int):Option (Bool):=some (true)
set_option maxRecDepth 100000 in
set_option maxHeartbeats 1500000 in
theorem send_ReadyN.ok {w0 w:World} {F0:List Nat} {ps:List Piece} {k:Nat} {i1:Int} {r0:Bool} (hS:St w0 F0 (ps) w) (hm:send_ReadyN.m k i1=some r0) :
    Calls Tryz.prog 36 #[.pointer none,nI i1] w fun e w'=>e=.returned (.bool r0)∧St w0 F0 (ps) w':=by
 refine ev_enterL 73 [.pointer none,nI i1] Tryz.func36 rfl rfl (by simp) ?_
 intro a hF
 have hF0:Fr 73 a [(0,.pointer none),(1,nI i1)]:=hF; clear hF
 unfold send_ReadyN.m at hm
 refine wp_seq (wp_region_lit ?_)
 refine ev_runK 1 hF0 [0,1] (l':=[(0,.pointer none),(1,nI i1)]) (w':=w) (by kernel_rfl) ?_
 intro a2 hF1; clear hF0
 refine wpList_nil (thenN (wp_seq (wp_region_lit ?_)))
 refine ev_runs 2 hF1 (l':=[(15,nI i1),(14,.pointer none),(0,.pointer none),(1,nI i1)]) (w':=w) (by kernel_rfl) ?_
 intro a4 hF3; clear hF1
 refine ev_call 49 #[.pointer none,nI i1] hF3 rfl rfl (by kernel_rfl) rfl (by kernel_rfl) (fun w=>by kernel_rfl) ?_
 refine (mouth_OfN.okc hS).mono ?_
 rintro _ w5 ⟨rfl,hS7⟩ a6 hF8; clear hF3 hS
 refine ev_runK 1 hF8 [0,5] (l':=[(5,.nilIface),(0,.pointer none)]) (w':=w5) (by kernel_rfl) ?_
 intro a10 hF9; clear hF8
 refine wpList_nil (thenN (wp_seq (wp_seq (wp_region_lit ?_))))
 refine ev_runs 6 hF9 (l':=[(6,nB w5),(21,.bool false),(20,.agg #[]),(17,.tuple #[.agg #[],.bool false]),(19,.tuple #[.agg #[],.bool false]),(18,.nilIface),(5,.nilIface),(0,.pointer none)]) (w':=w5.alloc (.cells #[] 112)) (by kernel_rfl) ?_
 intro a12 hF11; clear hF9
 have hS14:St w0 F0 (BlkP (w5.heap.size) 112 #[]::ps) (w5.alloc (.cells #[] 112)):=St.new hS7 #[] 112
 clear hS7
 refine ev_store (.agg #[]) #[] hF11 (by kernel_rfl) rfl rfl rfl rfl (by kernel_rfl) hS14 (by kernel_rfl) (by kernel_rfl) (by kernel_rfl) (l':=[(6,nB w5),(21,.bool false),(20,.agg #[]),(17,.tuple #[.agg #[],.bool false]),(19,.tuple #[.agg #[],.bool false]),(18,.nilIface),(5,.nilIface),(0,.pointer none)]) (by kernel_rfl) ?_
 intro w15 a16 hS17 hF18; clear hF11 hS14
 refine ev_runK 1 hF18 [0,5,7] (l':=[(7,.bool false),(5,.nilIface),(0,.pointer none)]) (w':=w15) (by kernel_rfl) ?_
 intro a20 hF19; clear hF18
 refine wpList_nil ?_
 have hS21:=hS17.drop
 clear hS17
 refine thenN (wp_seq (wp_region_lit ?_))
 refine ev_runK 1 hF19 [0,5,22] (l':=[(22,.bool false),(5,.nilIface),(0,.pointer none)]) (w':=w15) (by kernel_rfl) ?_
 intro a23 hF22; clear hF19
 refine wpList_nil (thenN ?_)
 refine ev_condF hF22 rfl rfl ?_
 refine wp_skip ?_
 have hF24:=hF22.keep [0,5]
 clear hF22
 refine thenN (wp_seq (wp_region_lit ?_))
 refine ev_runK 7 hF24 [0,8,9] (l':=[(9,.bool false),(8,nI 0),(0,.pointer none)]) (w':=w15) (by kernel_rfl) ?_
 intro a26 hF25; clear hF24
 refine wpList_nil (thenN (wp_seq (wp_seq (wp_region_lit ?_))))
 refine ev_runK 2 hF25 [0,8,29] (l':=[(29,.bool true),(8,nI 0),(0,.pointer none)]) (w':=w15) (by kernel_rfl) ?_
 intro a28 hF27; clear hF25
 refine wpList_nil (thenN ?_)
 refine ev_condT hF27 rfl rfl ?_
 refine wp_seq (wp_region_lit ?_)
 refine ev_runK 1 hF27 [4] (l':=[(4,.bool true)]) (w':=w15) (by kernel_rfl) ?_
 intro a30 hF29; clear hF27
 refine wpList_nil (thenN ?_)
 refine wp_ret ?_
 refine thenR ?_
 obtain rfl:=Option.some.inj hm
 refine ev_ret hF29 [4] (.bool true) rfl rfl rfl ?_
 exact ⟨rfl,hS21⟩
end Go.Proofs.YtjdlnmbfomojdaaGreat
