/- GSend -/
import Derived.Test.YtgejcjcpchofiaaGreatKGMouth
import Derived.Test.YtgejcjcpchofiaaGreatKGRing
import Derived.Test.YtgejcjcpchofiaaGreatKGView
import Derived.Deep.LoopGhost
import Derived.KernelRfl
namespace Go.Proofs.YtgejcjcpchofiaaGreat
open Go.RowKit
set_option linter.unusedVariables false
def send_Try.j1 (s145:HSt) (x156:Int):Option (Int×Int×HSt):=some (x156,1,s145)
def send_Try.m (k:Nat) (s0:HSt) (i1:Int) (i2:Int):Option (Int×Int×HSt):=bind2 (mouth_Of.m k s0 i1) fun o5 s6=>optE o5 (some (-1,6,s6)) fun q39=>sumE q39 (fun q41=>some (-1,0,s6)) fun q42=>bind2 (pChan q42 s6) fun q90 x91=>(if (q90.closed != 0) then some (-1,3,s6) else bind3 (list_Pop.m k s6 q42 (false)) fun x126 y127 s128=>(if (y127) then bind3 (wake_Wake.m k s128 x126 i2) fun x143 x144 s145=>(if (x144 != 0) then send_Try.j1 s145 (-1) else send_Try.j1 s145 x143) else bind2 (ring_Put.m k s128 q42 i2) fun x179 s180=>(if (x179 == 0) then some (-1,1,s180) else some (-1,0,s180))))
set_option maxRecDepth 100000 in
set_option maxHeartbeats 1500000 in
theorem send_Try.ok {w0 w:World} {F0:List Nat} {ps:List Piece} {k:Nat} {b0 ab0:Nat} {s0:HSt} {i1:Int} {i2:Int} {r0:Int} {r1:Int} {t0:HSt} (hS:St w0 F0 (HeapP b0 ab0 s0::ps) w) (hm:send_Try.m k s0 i1 i2=some (r0,r1,t0)) :
    Calls Tryz.prog 28 #[nP b0 0,nI i1,nI i2] w fun e w'=>e=.returned (.tuple #[.int .i64 r0,.int .i64 r1])∧St w0 F0 (HeapP b0 ab0 t0::ps) w':=by
 refine ev_enterL 68 [nP b0 0,nI i1,nI i2] Tryz.func28 rfl rfl (by simp) ?_
 intro a hF
 have hF0:Fr 68 a [(0,nP b0 0),(1,nI i1),(2,nI i2)]:=hF; clear hF
 unfold send_Try.m at hm
 refine wp_seq (wp_region_lit ?_)
 refine ev_runK 2 hF0 [0,1,2] (l':=[(0,nP b0 0),(1,nI i1),(2,nI i2)]) (w':=w) (by kernel_rfl) ?_
 intro a2 hF1; clear hF0
 refine wpList_nil (thenN (wp_seq (wp_region_lit ?_)))
 refine ev_runs 2 hF1 (l':=[(21,nI i1),(20,nP b0 0),(0,nP b0 0),(1,nI i1),(2,nI i2)]) (w':=w) (by kernel_rfl) ?_
 intro a4 hF3; clear hF1
 refine ev_call 64 #[nP b0 0,nI i1] hF3 rfl rfl (by kernel_rfl) rfl (by kernel_rfl) (fun w=>by kernel_rfl) ?_
 obtain ⟨o5,s6,hx7,hm8⟩:=bind2E hm; clear hm
 refine (mouth_Of.ok hS hx7).mono ?_
 rintro _ w9 ⟨rfl,hS11⟩ a10 hF12; clear hF3 hS
 cases o5 with
 | none =>
  have hm13:=optN hm8; clear hm8
  refine ev_runK 1 hF12 [0,2,8] (l':=[(8,.nilIface),(0,nP b0 0),(2,nI i2)]) (w':=w9) (by kernel_rfl) ?_
  intro a15 hF14; clear hF12
  refine wpList_nil (thenN (wp_seq (wp_seq (wp_region_lit ?_))))
  refine ev_runs 6 hF14 (l':=[(9,nB w9),(27,.bool false),(26,.agg #[]),(23,.tuple #[.agg #[],.bool false]),(25,.tuple #[.agg #[],.bool false]),(24,.nilIface),(8,.nilIface),(0,nP b0 0),(2,nI i2)]) (w':=w9.alloc (.cells #[] 104)) (by kernel_rfl) ?_
  intro a17 hF16; clear hF14
  have hS19:St w0 F0 (BlkP (w9.heap.size) 104 #[]::HeapP b0 ab0 s6::ps) (w9.alloc (.cells #[] 104)):=St.new hS11 #[] 104
  clear hS11
  refine ev_store (.agg #[]) #[] hF16 (by kernel_rfl) rfl rfl rfl rfl (by kernel_rfl) hS19 (by kernel_rfl) (by kernel_rfl) (by kernel_rfl) (l':=[(9,nB w9),(27,.bool false),(26,.agg #[]),(23,.tuple #[.agg #[],.bool false]),(25,.tuple #[.agg #[],.bool false]),(24,.nilIface),(8,.nilIface),(0,nP b0 0),(2,nI i2)]) (by kernel_rfl) ?_
  intro w20 a21 hS22 hF23; clear hF16 hS19
  refine ev_runK 1 hF23 [0,2,8,10] (l':=[(10,.bool false),(8,.nilIface),(0,nP b0 0),(2,nI i2)]) (w':=w20) (by kernel_rfl) ?_
  intro a25 hF24; clear hF23
  refine wpList_nil ?_
  have hS26:=hS22.drop
  clear hS22
  refine thenN (wp_seq (wp_region_lit ?_))
  refine ev_runK 1 hF24 [0,2,8,28] (l':=[(28,.bool false),(8,.nilIface),(0,nP b0 0),(2,nI i2)]) (w':=w20) (by kernel_rfl) ?_
  intro a28 hF27; clear hF24
  refine wpList_nil (thenN ?_)
  refine ev_condF hF27 rfl rfl ?_
  refine wp_skip ?_
  have hF29:=hF27.keep [0,2,8]
  clear hF27
  refine thenN (wp_seq (wp_region_lit ?_))
  refine ev_runK 7 hF29 [0,2,11,12] (l':=[(12,.bool false),(11,nI 0),(0,nP b0 0),(2,nI i2)]) (w':=w20) (by kernel_rfl) ?_
  intro a31 hF30; clear hF29
  refine wpList_nil (thenN (wp_seq (wp_seq (wp_region_lit ?_))))
  refine ev_runK 2 hF30 [0,2,11,35] (l':=[(35,.bool true),(11,nI 0),(0,nP b0 0),(2,nI i2)]) (w':=w20) (by kernel_rfl) ?_
  intro a33 hF32; clear hF30
  refine wpList_nil (thenN ?_)
  refine ev_condT hF32 rfl rfl ?_
  refine wp_seq (wp_region_lit ?_)
  refine ev_runK 2 hF32 [6,7] (l':=[(7,nI 6),(6,nI (-1))]) (w':=w20) (by kernel_rfl) ?_
  intro a35 hF34; clear hF32
  refine wpList_nil (thenN ?_)
  refine wp_ret ?_
  refine thenR ?_
  simp only [Option.some.injEq,Prod.mk.injEq] at hm13
  obtain ⟨rfl,rfl,rfl⟩:=hm13
  refine ev_ret hF34 [6,7] (.tuple #[nI (-1),nI 6]) rfl rfl rfl ?_
  exact ⟨rfl,hS26⟩
 | some q39 =>
  have hm40:=optS hm8; clear hm8
  cases q39 with
  | inl q41 =>
   have hm43:=sumL hm40; clear hm40
   refine ev_runK 1 hF12 [0,2,8] (l':=[(8,.iface 104 (.agg #[])),(0,nP b0 0),(2,nI i2)]) (w':=w9) (by kernel_rfl) ?_
   intro a45 hF44; clear hF12
   refine wpList_nil (thenN (wp_seq (wp_seq (wp_region_lit ?_))))
   refine ev_runs 6 hF44 (l':=[(9,nB w9),(27,.bool true),(26,.agg #[]),(23,.tuple #[.agg #[],.bool true]),(25,.tuple #[.agg #[],.bool true]),(24,.iface 104 (.agg #[])),(8,.iface 104 (.agg #[])),(0,nP b0 0),(2,nI i2)]) (w':=w9.alloc (.cells #[] 104)) (by kernel_rfl) ?_
   intro a47 hF46; clear hF44
   have hS49:St w0 F0 (BlkP (w9.heap.size) 104 #[]::HeapP b0 ab0 s6::ps) (w9.alloc (.cells #[] 104)):=St.new hS11 #[] 104
   clear hS11
   refine ev_store (.agg #[]) #[] hF46 (by kernel_rfl) rfl rfl rfl rfl (by kernel_rfl) hS49 (by kernel_rfl) (by kernel_rfl) (by kernel_rfl) (l':=[(9,nB w9),(27,.bool true),(26,.agg #[]),(23,.tuple #[.agg #[],.bool true]),(25,.tuple #[.agg #[],.bool true]),(24,.iface 104 (.agg #[])),(8,.iface 104 (.agg #[])),(0,nP b0 0),(2,nI i2)]) (by kernel_rfl) ?_
   intro w50 a51 hS52 hF53; clear hF46 hS49
   refine ev_runK 1 hF53 [0,2,8,10] (l':=[(10,.bool true),(8,.iface 104 (.agg #[])),(0,nP b0 0),(2,nI i2)]) (w':=w50) (by kernel_rfl) ?_
   intro a55 hF54; clear hF53
   refine wpList_nil ?_
   have hS56:=hS52.drop
   clear hS52
   refine thenN (wp_seq (wp_region_lit ?_))
   refine ev_runK 1 hF54 [0,2,8,28] (l':=[(28,.bool true),(8,.iface 104 (.agg #[])),(0,nP b0 0),(2,nI i2)]) (w':=w50) (by kernel_rfl) ?_
   intro a58 hF57; clear hF54
   refine wpList_nil (thenN ?_)
   refine ev_condT hF57 rfl rfl ?_
   refine wp_seq (wp_region_lit ?_)
   refine ev_runK 2 hF57 [6,7] (l':=[(7,nI 0),(6,nI (-1))]) (w':=w50) (by kernel_rfl) ?_
   intro a60 hF59; clear hF57
   refine wpList_nil (thenN ?_)
   refine wp_ret ?_
   refine thenR ?_
   simp only [Option.some.injEq,Prod.mk.injEq] at hm43
   obtain ⟨rfl,rfl,rfl⟩:=hm43
   refine ev_ret hF59 [6,7] (.tuple #[nI (-1),nI 0]) rfl rfl rfl ?_
   exact ⟨rfl,hS56⟩
  | inr q42 =>
   have hm64:=sumR hm40; clear hm40
   refine ev_runK 1 hF12 [0,2,8] (l':=[(8,.iface 106 (nI q42)),(0,nP b0 0),(2,nI i2)]) (w':=w9) (by kernel_rfl) ?_
   intro a66 hF65; clear hF12
   refine wpList_nil (thenN (wp_seq (wp_seq (wp_region_lit ?_))))
   refine ev_runs 6 hF65 (l':=[(9,nB w9),(27,.bool false),(26,.agg #[]),(23,.tuple #[.agg #[],.bool false]),(25,.tuple #[.agg #[],.bool false]),(24,.iface 106 (nI q42)),(8,.iface 106 (nI q42)),(0,nP b0 0),(2,nI i2)]) (w':=w9.alloc (.cells #[] 104)) (by kernel_rfl) ?_
   intro a68 hF67; clear hF65
   have hS70:St w0 F0 (BlkP (w9.heap.size) 104 #[]::HeapP b0 ab0 s6::ps) (w9.alloc (.cells #[] 104)):=St.new hS11 #[] 104
   clear hS11
   refine ev_store (.agg #[]) #[] hF67 (by kernel_rfl) rfl rfl rfl rfl (by kernel_rfl) hS70 (by kernel_rfl) (by kernel_rfl) (by kernel_rfl) (l':=[(9,nB w9),(27,.bool false),(26,.agg #[]),(23,.tuple #[.agg #[],.bool false]),(25,.tuple #[.agg #[],.bool false]),(24,.iface 106 (nI q42)),(8,.iface 106 (nI q42)),(0,nP b0 0),(2,nI i2)]) (by kernel_rfl) ?_
   intro w71 a72 hS73 hF74; clear hF67 hS70
   refine ev_runK 1 hF74 [0,2,8,10] (l':=[(10,.bool false),(8,.iface 106 (nI q42)),(0,nP b0 0),(2,nI i2)]) (w':=w71) (by kernel_rfl) ?_
   intro a76 hF75; clear hF74
   refine wpList_nil ?_
   have hS77:=hS73.drop
   clear hS73
   refine thenN (wp_seq (wp_region_lit ?_))
   refine ev_runK 1 hF75 [0,2,8,28] (l':=[(28,.bool false),(8,.iface 106 (nI q42)),(0,nP b0 0),(2,nI i2)]) (w':=w71) (by kernel_rfl) ?_
   intro a79 hF78; clear hF75
   refine wpList_nil (thenN ?_)
   refine ev_condF hF78 rfl rfl ?_
   refine wp_skip ?_
   have hF80:=hF78.keep [0,2,8]
   clear hF78
   refine thenN (wp_seq (wp_region_lit ?_))
   refine ev_runK 7 hF80 [0,2,11,12] (l':=[(12,.bool true),(11,nI q42),(0,nP b0 0),(2,nI i2)]) (w':=w71) (by kernel_rfl) ?_
   intro a82 hF81; clear hF80
   refine wpList_nil (thenN (wp_seq (wp_seq (wp_region_lit ?_))))
   refine ev_runK 2 hF81 [0,2,11,35] (l':=[(35,.bool false),(11,nI q42),(0,nP b0 0),(2,nI i2)]) (w':=w71) (by kernel_rfl) ?_
   intro a84 hF83; clear hF81
   refine wpList_nil (thenN ?_)
   refine ev_condF hF83 rfl rfl ?_
   refine wp_skip ?_
   have hF85:=hF83.keep [0,2,11]
   clear hF83
   refine thenN (wp_seq (wp_region_lit ?_))
   refine ev_runK 2 hF85 [0,2,13] (l':=[(13,nI q42),(0,nP b0 0),(2,nI i2)]) (w':=w71) (by kernel_rfl) ?_
   intro a87 hF86; clear hF85
   refine wpList_nil (thenN (wp_seq (wp_seq (wp_region_lit ?_))))
   refine ev_runs 2 hF86 (l':=[(39,nI q42),(38,nP b0 0),(13,nI q42),(0,nP b0 0),(2,nI i2)]) (w':=w71) (by kernel_rfl) ?_
   intro a89 hF88; clear hF86
   refine ev_call 30 #[nP b0 0,nI q42] hF88 rfl rfl (by kernel_rfl) rfl (by kernel_rfl) (fun w=>by kernel_rfl) ?_
   obtain ⟨q90,x91,hx92,hm93⟩:=bind2E hm64; clear hm64
   refine (p_Chan hS77 hx92).mono ?_
   rintro _ w94 ⟨rfl,hS96⟩ a95 hF97; clear hF88 hS77
   refine ev_runs 4 hF97 (l':=[(14,nB w94),(42,nI x91),(41,.agg #[nI (q90.cap),nI (q90.closed),nI (q90.count),nI (q90.start),nI (q90.buf),nI (q90.th),nI (q90.tt),nI (q90.sh),nI (q90.st)]),(37,.tuple #[.agg #[nI (q90.cap),nI (q90.closed),nI (q90.count),nI (q90.start),nI (q90.buf),nI (q90.th),nI (q90.tt),nI (q90.sh),nI (q90.st)],nI x91]),(40,.tuple #[.agg #[nI (q90.cap),nI (q90.closed),nI (q90.count),nI (q90.start),nI (q90.buf),nI (q90.th),nI (q90.tt),nI (q90.sh),nI (q90.st)],nI x91]),(39,nI q42),(38,nP b0 0),(13,nI q42),(0,nP b0 0),(2,nI i2)]) (w':=w94.alloc (.cells #[nI 0,nI 0,nI 0,nI 0,nI 0,nI 0,nI 0,nI 0,nI 0] 57)) (by kernel_rfl) ?_
   intro a99 hF98; clear hF97
   have hS101:St w0 F0 (BlkP (w94.heap.size) 57 #[nI 0,nI 0,nI 0,nI 0,nI 0,nI 0,nI 0,nI 0,nI 0]::HeapP b0 ab0 s6::ps) (w94.alloc (.cells #[nI 0,nI 0,nI 0,nI 0,nI 0,nI 0,nI 0,nI 0,nI 0] 57)):=St.new hS96 #[nI 0,nI 0,nI 0,nI 0,nI 0,nI 0,nI 0,nI 0,nI 0] 57
   clear hS96
   refine ev_store (.agg #[nI (q90.cap),nI (q90.closed),nI (q90.count),nI (q90.start),nI (q90.buf),nI (q90.th),nI (q90.tt),nI (q90.sh),nI (q90.st)]) #[nI (q90.cap),nI (q90.closed),nI (q90.count),nI (q90.start),nI (q90.buf),nI (q90.th),nI (q90.tt),nI (q90.sh),nI (q90.st)] hF98 (by kernel_rfl) rfl rfl rfl rfl (by kernel_rfl) hS101 (by kernel_rfl) (by kernel_rfl) (by kernel_rfl) (l':=[(14,nB w94),(42,nI x91),(41,.agg #[nI (q90.cap),nI (q90.closed),nI (q90.count),nI (q90.start),nI (q90.buf),nI (q90.th),nI (q90.tt),nI (q90.sh),nI (q90.st)]),(37,.tuple #[.agg #[nI (q90.cap),nI (q90.closed),nI (q90.count),nI (q90.start),nI (q90.buf),nI (q90.th),nI (q90.tt),nI (q90.sh),nI (q90.st)],nI x91]),(40,.tuple #[.agg #[nI (q90.cap),nI (q90.closed),nI (q90.count),nI (q90.start),nI (q90.buf),nI (q90.th),nI (q90.tt),nI (q90.sh),nI (q90.st)],nI x91]),(39,nI q42),(38,nP b0 0),(13,nI q42),(0,nP b0 0),(2,nI i2)]) (by kernel_rfl) ?_
   intro w102 a103 hS104 hF105; clear hF98 hS101
   refine ev_runK 1 hF105 [0,2,13,14] (l':=[(14,nB w94),(13,nI q42),(0,nP b0 0),(2,nI i2)]) (w':=w102) (by kernel_rfl) ?_
   intro a107 hF106; clear hF105
   refine wpList_nil (thenN (wp_seq (wp_region_lit ?_)))
   refine ev_runs 1 hF106 (l':=[(43,nP (w94.heap.size) 1),(14,nB w94),(13,nI q42),(0,nP b0 0),(2,nI i2)]) (w':=w102) (by kernel_rfl) ?_
   intro a109 hF108; clear hF106
   refine ev_one (nI (q90.closed)) w102 hF108 (by kernel_rfl) rfl (by kernel_rfl) (run_loadV rfl rfl (run_loadS rfl rfl (hS104.cell 0 rfl 1 rfl))) (l':=[(44,nI (q90.closed)),(43,nP (w94.heap.size) 1),(14,nB w94),(13,nI q42),(0,nP b0 0),(2,nI i2)]) (by kernel_rfl) ?_
   intro a111 hF110; clear hF108
   refine ev_runK 1 hF110 [0,2,13,45] (l':=[(45,.bool (q90.closed != 0)),(13,nI q42),(0,nP b0 0),(2,nI i2)]) (w':=w102) (by kernel_rfl) ?_
   intro a113 hF112; clear hF110
   refine wpList_nil ?_
   have hS114:=hS104.drop
   clear hS104
   refine thenN ?_
   cases hc115:(q90.closed != 0)
   case true =>
    rw [hc115] at hF112
    have hm116:=ifYes hc115 hm93; clear hm93
    refine ev_condT hF112 rfl rfl ?_
    refine wp_seq (wp_region_lit ?_)
    refine ev_runK 2 hF112 [6,7] (l':=[(7,nI 3),(6,nI (-1))]) (w':=w102) (by kernel_rfl) ?_
    intro a118 hF117; clear hF112
    refine wpList_nil (thenN ?_)
    refine wp_ret ?_
    refine thenR ?_
    simp only [Option.some.injEq,Prod.mk.injEq] at hm116
    obtain ⟨rfl,rfl,rfl⟩:=hm116
    refine ev_ret hF117 [6,7] (.tuple #[nI (-1),nI 3]) rfl rfl rfl ?_
    exact ⟨rfl,hS114⟩
   rw [hc115] at hF112
   have hm122:=ifNot hc115 hm93; clear hm93
   refine ev_condF hF112 rfl rfl ?_
   refine wp_skip ?_
   have hF123:=hF112.keep [0,2,13]
   clear hF112
   refine thenN (wp_seq (wp_seq (wp_region_lit ?_)))
   refine ev_runs 2 hF123 (l':=[(48,nI q42),(47,nP b0 0),(13,nI q42),(0,nP b0 0),(2,nI i2)]) (w':=w102) (by kernel_rfl) ?_
   intro a125 hF124; clear hF123
   refine ev_call 65 #[nP b0 0,nI q42,.bool false] hF124 rfl rfl (by kernel_rfl) rfl (by kernel_rfl) (fun w=>by kernel_rfl) ?_
   obtain ⟨x126,y127,s128,hx129,hm130⟩:=bind3E hm122; clear hm122
   refine (list_Pop.ok hS114 hx129).mono ?_
   rintro _ w131 ⟨rfl,hS133⟩ a132 hF134; clear hF124 hS114
   refine ev_runK 5 hF134 [0,2,13,16,17] (l':=[(17,.bool (y127)),(16,nI x126),(13,nI q42),(0,nP b0 0),(2,nI i2)]) (w':=w131) (by kernel_rfl) ?_
   intro a136 hF135; clear hF134
   refine wpList_nil (thenN (wp_seq (wp_region_lit ?_)))
   refine ev_runK 1 hF135 [0,2,13,16,52] (l':=[(52,.bool (y127)),(16,nI x126),(13,nI q42),(0,nP b0 0),(2,nI i2)]) (w':=w131) (by kernel_rfl) ?_
   intro a138 hF137; clear hF135
   refine wpList_nil (thenN ?_)
   cases hc139:(y127)
   case true =>
    rw [hc139] at hF137
    have hm140:=ifYes hc139 hm130; clear hm130
    refine ev_condT hF137 rfl rfl ?_
    refine wp_seq (wp_region_lit ?_)
    refine ev_runs 3 hF137 (l':=[(56,nI i2),(55,nI x126),(54,nP b0 0),(52,.bool true),(16,nI x126),(13,nI q42),(0,nP b0 0),(2,nI i2)]) (w':=w131) (by kernel_rfl) ?_
    intro a142 hF141; clear hF137
    refine ev_call 66 #[nP b0 0,nI x126,nI i2] hF141 rfl rfl (by kernel_rfl) rfl (by kernel_rfl) (fun w=>by kernel_rfl) ?_
    obtain ⟨x143,x144,s145,hx146,hm147⟩:=bind3E hm140; clear hm140
    refine (wake_Wake.ok hS133 hx146).mono ?_
    rintro _ w148 ⟨rfl,hS150⟩ a149 hF151; clear hF141 hS133
    refine ev_runK 5 hF151 [18,19] (l':=[(19,nI x144),(18,nI x143)]) (w':=w148) (by kernel_rfl) ?_
    intro a153 hF152; clear hF151
    refine wpList_nil (thenN (wp_seq (wp_seq (wp_region_lit ?_))))
    refine ev_runK 2 hF152 [18,61] (l':=[(61,.bool (x144 != 0)),(18,nI x143)]) (w':=w148) (by kernel_rfl) ?_
    intro a155 hF154; clear hF152
    refine wpList_nil (thenN ?_)
    refine joinQ (fun aI wI=>∃ (x156:Int),Fr 68 aI [(18,nI x156)]∧St w0 F0 (HeapP b0 ab0 s145::ps) wI∧send_Try.j1 s145 x156=some (r0,r1,t0)) ?_ ?_
    rotate_left
    · rintro a158 w159 ⟨x156,hF160,hS161,hm162⟩
      clear hF154 hS150 hm147
      unfold send_Try.j1 at hm162
      refine thenN (wp_seq (wp_region_lit ?_))
      refine ev_runK 3 hF160 [6,7] (l':=[(7,nI 1),(6,nI x156)]) (w':=w159) (by kernel_rfl) ?_
      intro a165 hF164; clear hF160
      refine wpList_nil (thenN ?_)
      refine wp_ret ?_
      refine thenR ?_
      simp only [Option.some.injEq,Prod.mk.injEq] at hm162
      obtain ⟨rfl,rfl,rfl⟩:=hm162
      refine ev_ret hF164 [6,7] (.tuple #[nI x156,nI 1]) rfl rfl rfl ?_
      exact ⟨rfl,hS161⟩
    · skip
      cases hc169:(x144 != 0)
      case true =>
       rw [hc169] at hF154
       have hm170:=ifYes hc169 hm147; clear hm147
       refine ev_condT hF154 rfl rfl ?_
       refine wp_region_lit ?_
       refine ev_runK 1 hF154 [18] (l':=[(18,nI (-1))]) (w':=w148) (by kernel_rfl) ?_
       intro a172 hF171; clear hF154
       refine wpList_nil ?_
       exact thenN ⟨-1,hF171,hS150,hm170⟩
      rw [hc169] at hF154
      have hm173:=ifNot hc169 hm147; clear hm147
      refine ev_condF hF154 rfl rfl ?_
      refine wp_skip ?_
      have hF174:=hF154.keep [18]
      clear hF154
      exact thenN ⟨x143,hF174,hS150,hm173⟩
   rw [hc139] at hF137
   have hm175:=ifNot hc139 hm130; clear hm130
   refine ev_condF hF137 rfl rfl ?_
   refine wp_skip ?_
   have hF176:=hF137.keep [0,2,13]
   clear hF137
   refine thenN (wp_seq (wp_seq (wp_region_lit ?_)))
   refine ev_runs 3 hF176 (l':=[(65,nI i2),(64,nI q42),(63,nP b0 0),(13,nI q42),(0,nP b0 0),(2,nI i2)]) (w':=w131) (by kernel_rfl) ?_
   intro a178 hF177; clear hF176
   refine ev_call 71 #[nP b0 0,nI q42,nI i2] hF177 rfl rfl (by kernel_rfl) rfl (by kernel_rfl) (fun w=>by kernel_rfl) ?_
   obtain ⟨x179,s180,hx181,hm182⟩:=bind2E hm175; clear hm175
   refine (ring_Put.ok hS133 hx181).mono ?_
   rintro _ w183 ⟨rfl,hS185⟩ a184 hF186; clear hF177 hS133
   refine ev_runK 1 hF186 [67] (l':=[(67,.bool (x179 == 0))]) (w':=w183) (by kernel_rfl) ?_
   intro a188 hF187; clear hF186
   refine wpList_nil (thenN ?_)
   cases hc189:(x179 == 0)
   case true =>
    rw [hc189] at hF187
    have hm190:=ifYes hc189 hm182; clear hm182
    refine ev_condT hF187 rfl rfl ?_
    refine wp_seq (wp_region_lit ?_)
    refine ev_runK 2 hF187 [6,7] (l':=[(7,nI 1),(6,nI (-1))]) (w':=w183) (by kernel_rfl) ?_
    intro a192 hF191; clear hF187
    refine wpList_nil (thenN ?_)
    refine wp_ret ?_
    refine thenR ?_
    simp only [Option.some.injEq,Prod.mk.injEq] at hm190
    obtain ⟨rfl,rfl,rfl⟩:=hm190
    refine ev_ret hF191 [6,7] (.tuple #[nI (-1),nI 1]) rfl rfl rfl ?_
    exact ⟨rfl,hS185⟩
   rw [hc189] at hF187
   have hm196:=ifNot hc189 hm182; clear hm182
   refine ev_condF hF187 rfl rfl ?_
   refine wp_skip ?_
   have hF197:=hF187.keep []
   clear hF187
   refine thenN (wp_seq (wp_region_lit ?_))
   refine ev_runs 2 hF197 (l':=[(7,nI 0),(6,nI (-1))]) (w':=w183) (by kernel_rfl) ?_
   intro a199 hF198; clear hF197
   refine wpList_nil (thenN ?_)
   refine wp_ret ?_
   simp only [Option.some.injEq,Prod.mk.injEq] at hm196
   obtain ⟨rfl,rfl,rfl⟩:=hm196
   refine ev_ret hF198 [6,7] (.tuple #[nI (-1),nI 0]) rfl rfl rfl ?_
   exact ⟨rfl,hS185⟩
def send_Ready.j2 (s121:HSt) (y122:Bool):Option (Bool×HSt):=some (y122,s121)
def send_Ready.j1 (k:Nat) (s6:HSt) (q41:Int) (q86:Ch) (y113:Bool):Option (Bool×HSt):=(if (q86.closed != 0) then send_Ready.j2 s6 true else (if (y113) then send_Ready.j2 s6 true else bind2 (list_All.m k s6 q41 (false)) fun L154 s155=>send_Ready.j2 s155 (decide ((L154.length:Int) > 0))))
def send_Ready.m (k:Nat) (s0:HSt) (i1:Int):Option (Bool×HSt):=bind2 (mouth_Of.m k s0 i1) fun o5 s6=>optE o5 (some (true,s6)) fun q38=>sumE q38 (fun q40=>some (false,s6)) fun q41=>bind2 (pChan q41 s6) fun q86 x87=>(if (decide ((if 0 > q86.count then 0 else q86.count)<q86.cap)) then (if ((aKind s6.a.c q86.buf) == 2) then send_Ready.j1 k s6 q41 q86 ((aLen s6.a.c q86.buf) == q86.cap) else send_Ready.j1 k s6 q41 q86 false) else send_Ready.j1 k s6 q41 q86 false)
set_option maxRecDepth 100000 in
set_option maxHeartbeats 1500000 in
theorem send_Ready.ok {w0 w:World} {F0:List Nat} {ps:List Piece} {k:Nat} {b0 ab0:Nat} {s0:HSt} {i1:Int} {r0:Bool} {t0:HSt} (hS:St w0 F0 (HeapP b0 ab0 s0::ps) w) (hm:send_Ready.m k s0 i1=some (r0,t0)) :
    Calls Tryz.prog 33 #[nP b0 0,nI i1] w fun e w'=>e=.returned (.bool r0)∧St w0 F0 (HeapP b0 ab0 t0::ps) w':=by
 refine ev_enterL 73 [nP b0 0,nI i1] Tryz.func33 rfl rfl (by simp) ?_
 intro a hF
 have hF0:Fr 73 a [(0,nP b0 0),(1,nI i1)]:=hF; clear hF
 unfold send_Ready.m at hm
 refine wp_seq (wp_region_lit ?_)
 refine ev_runK 1 hF0 [0,1] (l':=[(0,nP b0 0),(1,nI i1)]) (w':=w) (by kernel_rfl) ?_
 intro a2 hF1; clear hF0
 refine wpList_nil (thenN (wp_seq (wp_region_lit ?_)))
 refine ev_runs 2 hF1 (l':=[(15,nI i1),(14,nP b0 0),(0,nP b0 0),(1,nI i1)]) (w':=w) (by kernel_rfl) ?_
 intro a4 hF3; clear hF1
 refine ev_call 64 #[nP b0 0,nI i1] hF3 rfl rfl (by kernel_rfl) rfl (by kernel_rfl) (fun w=>by kernel_rfl) ?_
 obtain ⟨o5,s6,hx7,hm8⟩:=bind2E hm; clear hm
 refine (mouth_Of.ok hS hx7).mono ?_
 rintro _ w9 ⟨rfl,hS11⟩ a10 hF12; clear hF3 hS
 cases o5 with
 | none =>
  have hm13:=optN hm8; clear hm8
  refine ev_runK 1 hF12 [0,5] (l':=[(5,.nilIface),(0,nP b0 0)]) (w':=w9) (by kernel_rfl) ?_
  intro a15 hF14; clear hF12
  refine wpList_nil (thenN (wp_seq (wp_seq (wp_region_lit ?_))))
  refine ev_runs 6 hF14 (l':=[(6,nB w9),(21,.bool false),(20,.agg #[]),(17,.tuple #[.agg #[],.bool false]),(19,.tuple #[.agg #[],.bool false]),(18,.nilIface),(5,.nilIface),(0,nP b0 0)]) (w':=w9.alloc (.cells #[] 104)) (by kernel_rfl) ?_
  intro a17 hF16; clear hF14
  have hS19:St w0 F0 (BlkP (w9.heap.size) 104 #[]::HeapP b0 ab0 s6::ps) (w9.alloc (.cells #[] 104)):=St.new hS11 #[] 104
  clear hS11
  refine ev_store (.agg #[]) #[] hF16 (by kernel_rfl) rfl rfl rfl rfl (by kernel_rfl) hS19 (by kernel_rfl) (by kernel_rfl) (by kernel_rfl) (l':=[(6,nB w9),(21,.bool false),(20,.agg #[]),(17,.tuple #[.agg #[],.bool false]),(19,.tuple #[.agg #[],.bool false]),(18,.nilIface),(5,.nilIface),(0,nP b0 0)]) (by kernel_rfl) ?_
  intro w20 a21 hS22 hF23; clear hF16 hS19
  refine ev_runK 1 hF23 [0,5,7] (l':=[(7,.bool false),(5,.nilIface),(0,nP b0 0)]) (w':=w20) (by kernel_rfl) ?_
  intro a25 hF24; clear hF23
  refine wpList_nil ?_
  have hS26:=hS22.drop
  clear hS22
  refine thenN (wp_seq (wp_region_lit ?_))
  refine ev_runK 1 hF24 [0,5,22] (l':=[(22,.bool false),(5,.nilIface),(0,nP b0 0)]) (w':=w20) (by kernel_rfl) ?_
  intro a28 hF27; clear hF24
  refine wpList_nil (thenN ?_)
  refine ev_condF hF27 rfl rfl ?_
  refine wp_skip ?_
  have hF29:=hF27.keep [0,5]
  clear hF27
  refine thenN (wp_seq (wp_region_lit ?_))
  refine ev_runK 7 hF29 [0,8,9] (l':=[(9,.bool false),(8,nI 0),(0,nP b0 0)]) (w':=w20) (by kernel_rfl) ?_
  intro a31 hF30; clear hF29
  refine wpList_nil (thenN (wp_seq (wp_seq (wp_region_lit ?_))))
  refine ev_runK 2 hF30 [0,8,29] (l':=[(29,.bool true),(8,nI 0),(0,nP b0 0)]) (w':=w20) (by kernel_rfl) ?_
  intro a33 hF32; clear hF30
  refine wpList_nil (thenN ?_)
  refine ev_condT hF32 rfl rfl ?_
  refine wp_seq (wp_region_lit ?_)
  refine ev_runK 1 hF32 [4] (l':=[(4,.bool true)]) (w':=w20) (by kernel_rfl) ?_
  intro a35 hF34; clear hF32
  refine wpList_nil (thenN ?_)
  refine wp_ret ?_
  refine thenR ?_
  simp only [Option.some.injEq,Prod.mk.injEq] at hm13
  obtain ⟨rfl,rfl⟩:=hm13
  refine ev_ret hF34 [4] (.bool true) rfl rfl rfl ?_
  exact ⟨rfl,hS26⟩
 | some q38 =>
  have hm39:=optS hm8; clear hm8
  cases q38 with
  | inl q40 =>
   have hm42:=sumL hm39; clear hm39
   refine ev_runK 1 hF12 [0,5] (l':=[(5,.iface 104 (.agg #[])),(0,nP b0 0)]) (w':=w9) (by kernel_rfl) ?_
   intro a44 hF43; clear hF12
   refine wpList_nil (thenN (wp_seq (wp_seq (wp_region_lit ?_))))
   refine ev_runs 6 hF43 (l':=[(6,nB w9),(21,.bool true),(20,.agg #[]),(17,.tuple #[.agg #[],.bool true]),(19,.tuple #[.agg #[],.bool true]),(18,.iface 104 (.agg #[])),(5,.iface 104 (.agg #[])),(0,nP b0 0)]) (w':=w9.alloc (.cells #[] 104)) (by kernel_rfl) ?_
   intro a46 hF45; clear hF43
   have hS48:St w0 F0 (BlkP (w9.heap.size) 104 #[]::HeapP b0 ab0 s6::ps) (w9.alloc (.cells #[] 104)):=St.new hS11 #[] 104
   clear hS11
   refine ev_store (.agg #[]) #[] hF45 (by kernel_rfl) rfl rfl rfl rfl (by kernel_rfl) hS48 (by kernel_rfl) (by kernel_rfl) (by kernel_rfl) (l':=[(6,nB w9),(21,.bool true),(20,.agg #[]),(17,.tuple #[.agg #[],.bool true]),(19,.tuple #[.agg #[],.bool true]),(18,.iface 104 (.agg #[])),(5,.iface 104 (.agg #[])),(0,nP b0 0)]) (by kernel_rfl) ?_
   intro w49 a50 hS51 hF52; clear hF45 hS48
   refine ev_runK 1 hF52 [0,5,7] (l':=[(7,.bool true),(5,.iface 104 (.agg #[])),(0,nP b0 0)]) (w':=w49) (by kernel_rfl) ?_
   intro a54 hF53; clear hF52
   refine wpList_nil ?_
   have hS55:=hS51.drop
   clear hS51
   refine thenN (wp_seq (wp_region_lit ?_))
   refine ev_runK 1 hF53 [0,5,22] (l':=[(22,.bool true),(5,.iface 104 (.agg #[])),(0,nP b0 0)]) (w':=w49) (by kernel_rfl) ?_
   intro a57 hF56; clear hF53
   refine wpList_nil (thenN ?_)
   refine ev_condT hF56 rfl rfl ?_
   refine wp_seq (wp_region_lit ?_)
   refine ev_runK 1 hF56 [4] (l':=[(4,.bool false)]) (w':=w49) (by kernel_rfl) ?_
   intro a59 hF58; clear hF56
   refine wpList_nil (thenN ?_)
   refine wp_ret ?_
   refine thenR ?_
   simp only [Option.some.injEq,Prod.mk.injEq] at hm42
   obtain ⟨rfl,rfl⟩:=hm42
   refine ev_ret hF58 [4] (.bool false) rfl rfl rfl ?_
   exact ⟨rfl,hS55⟩
  | inr q41 =>
   have hm62:=sumR hm39; clear hm39
   refine ev_runK 1 hF12 [0,5] (l':=[(5,.iface 106 (nI q41)),(0,nP b0 0)]) (w':=w9) (by kernel_rfl) ?_
   intro a64 hF63; clear hF12
   refine wpList_nil (thenN (wp_seq (wp_seq (wp_region_lit ?_))))
   refine ev_runs 6 hF63 (l':=[(6,nB w9),(21,.bool false),(20,.agg #[]),(17,.tuple #[.agg #[],.bool false]),(19,.tuple #[.agg #[],.bool false]),(18,.iface 106 (nI q41)),(5,.iface 106 (nI q41)),(0,nP b0 0)]) (w':=w9.alloc (.cells #[] 104)) (by kernel_rfl) ?_
   intro a66 hF65; clear hF63
   have hS68:St w0 F0 (BlkP (w9.heap.size) 104 #[]::HeapP b0 ab0 s6::ps) (w9.alloc (.cells #[] 104)):=St.new hS11 #[] 104
   clear hS11
   refine ev_store (.agg #[]) #[] hF65 (by kernel_rfl) rfl rfl rfl rfl (by kernel_rfl) hS68 (by kernel_rfl) (by kernel_rfl) (by kernel_rfl) (l':=[(6,nB w9),(21,.bool false),(20,.agg #[]),(17,.tuple #[.agg #[],.bool false]),(19,.tuple #[.agg #[],.bool false]),(18,.iface 106 (nI q41)),(5,.iface 106 (nI q41)),(0,nP b0 0)]) (by kernel_rfl) ?_
   intro w69 a70 hS71 hF72; clear hF65 hS68
   refine ev_runK 1 hF72 [0,5,7] (l':=[(7,.bool false),(5,.iface 106 (nI q41)),(0,nP b0 0)]) (w':=w69) (by kernel_rfl) ?_
   intro a74 hF73; clear hF72
   refine wpList_nil ?_
   have hS75:=hS71.drop
   clear hS71
   refine thenN (wp_seq (wp_region_lit ?_))
   refine ev_runK 1 hF73 [0,5,22] (l':=[(22,.bool false),(5,.iface 106 (nI q41)),(0,nP b0 0)]) (w':=w69) (by kernel_rfl) ?_
   intro a77 hF76; clear hF73
   refine wpList_nil (thenN ?_)
   refine ev_condF hF76 rfl rfl ?_
   refine wp_skip ?_
   have hF78:=hF76.keep [0,5]
   clear hF76
   refine thenN (wp_seq (wp_region_lit ?_))
   refine ev_runK 7 hF78 [0,8,9] (l':=[(9,.bool true),(8,nI q41),(0,nP b0 0)]) (w':=w69) (by kernel_rfl) ?_
   intro a80 hF79; clear hF78
   refine wpList_nil (thenN (wp_seq (wp_seq (wp_region_lit ?_))))
   refine ev_runK 2 hF79 [0,8,29] (l':=[(29,.bool false),(8,nI q41),(0,nP b0 0)]) (w':=w69) (by kernel_rfl) ?_
   intro a82 hF81; clear hF79
   refine wpList_nil (thenN ?_)
   refine ev_condF hF81 rfl rfl ?_
   refine wp_skip ?_
   have hF83:=hF81.keep [0,8]
   clear hF81
   refine thenN (wp_seq (wp_region_lit ?_))
   refine ev_runs 2 hF83 (l':=[(32,nI q41),(31,nP b0 0),(8,nI q41),(0,nP b0 0)]) (w':=w69) (by kernel_rfl) ?_
   intro a85 hF84; clear hF83
   refine ev_call 30 #[nP b0 0,nI q41] hF84 rfl rfl (by kernel_rfl) rfl (by kernel_rfl) (fun w=>by kernel_rfl) ?_
   obtain ⟨q86,x87,hx88,hm89⟩:=bind2E hm62; clear hm62
   refine (p_Chan hS75 hx88).mono ?_
   rintro _ w90 ⟨rfl,hS92⟩ a91 hF93; clear hF84 hS75
   refine ev_runs 4 hF93 (l':=[(10,nB w90),(35,nI x87),(34,.agg #[nI (q86.cap),nI (q86.closed),nI (q86.count),nI (q86.start),nI (q86.buf),nI (q86.th),nI (q86.tt),nI (q86.sh),nI (q86.st)]),(30,.tuple #[.agg #[nI (q86.cap),nI (q86.closed),nI (q86.count),nI (q86.start),nI (q86.buf),nI (q86.th),nI (q86.tt),nI (q86.sh),nI (q86.st)],nI x87]),(33,.tuple #[.agg #[nI (q86.cap),nI (q86.closed),nI (q86.count),nI (q86.start),nI (q86.buf),nI (q86.th),nI (q86.tt),nI (q86.sh),nI (q86.st)],nI x87]),(32,nI q41),(31,nP b0 0),(8,nI q41),(0,nP b0 0)]) (w':=w90.alloc (.cells #[nI 0,nI 0,nI 0,nI 0,nI 0,nI 0,nI 0,nI 0,nI 0] 57)) (by kernel_rfl) ?_
   intro a95 hF94; clear hF93
   have hS97:St w0 F0 (BlkP (w90.heap.size) 57 #[nI 0,nI 0,nI 0,nI 0,nI 0,nI 0,nI 0,nI 0,nI 0]::HeapP b0 ab0 s6::ps) (w90.alloc (.cells #[nI 0,nI 0,nI 0,nI 0,nI 0,nI 0,nI 0,nI 0,nI 0] 57)):=St.new hS92 #[nI 0,nI 0,nI 0,nI 0,nI 0,nI 0,nI 0,nI 0,nI 0] 57
   clear hS92
   refine ev_store (.agg #[nI (q86.cap),nI (q86.closed),nI (q86.count),nI (q86.start),nI (q86.buf),nI (q86.th),nI (q86.tt),nI (q86.sh),nI (q86.st)]) #[nI (q86.cap),nI (q86.closed),nI (q86.count),nI (q86.start),nI (q86.buf),nI (q86.th),nI (q86.tt),nI (q86.sh),nI (q86.st)] hF94 (by kernel_rfl) rfl rfl rfl rfl (by kernel_rfl) hS97 (by kernel_rfl) (by kernel_rfl) (by kernel_rfl) (l':=[(10,nB w90),(35,nI x87),(34,.agg #[nI (q86.cap),nI (q86.closed),nI (q86.count),nI (q86.start),nI (q86.buf),nI (q86.th),nI (q86.tt),nI (q86.sh),nI (q86.st)]),(30,.tuple #[.agg #[nI (q86.cap),nI (q86.closed),nI (q86.count),nI (q86.start),nI (q86.buf),nI (q86.th),nI (q86.tt),nI (q86.sh),nI (q86.st)],nI x87]),(33,.tuple #[.agg #[nI (q86.cap),nI (q86.closed),nI (q86.count),nI (q86.start),nI (q86.buf),nI (q86.th),nI (q86.tt),nI (q86.sh),nI (q86.st)],nI x87]),(32,nI q41),(31,nP b0 0),(8,nI q41),(0,nP b0 0)]) (by kernel_rfl) ?_
   intro w98 a99 hS100 hF101; clear hF94 hS97
   refine ev_runK 1 hF101 [0,8,10] (l':=[(10,nB w90),(8,nI q41),(0,nP b0 0)]) (w':=w98) (by kernel_rfl) ?_
   intro a103 hF102; clear hF101
   refine wpList_nil (thenN (wp_seq (wp_region_lit ?_)))
   refine ev_runs 1 hF102 (l':=[(36,nP b0 0),(10,nB w90),(8,nI q41),(0,nP b0 0)]) (w':=w98) (by kernel_rfl) ?_
   intro a105 hF104; clear hF102
   have hS106:=hS100.pick1
   clear hS100
   refine ev_call 53 #[nP b0 0] hF104 rfl rfl (by kernel_rfl) rfl (by kernel_rfl) (fun w=>by kernel_rfl) ?_
   refine (p_Arena hS106).mono ?_
   rintro _ w107 ⟨rfl,hS109⟩ a108 hF110; clear hF104 hS106
   refine ev_runK 1 hF110 [0,8,10,12] (l':=[(12,nP ab0 0),(10,nB w90),(8,nI q41),(0,nP b0 0)]) (w':=w107) (by kernel_rfl) ?_
   intro a112 hF111; clear hF110
   refine wpList_nil (thenN (wp_seq ?_))
   refine joinQ (fun aI wI=>∃ (y113:Bool),Fr 73 aI [(13,.bool (y113)),(10,nB w90),(8,nI q41),(0,nP b0 0)]∧St w0 F0 (HeapP b0 ab0 s6::BlkP (w90.heap.size) 57 #[nI (q86.cap),nI (q86.closed),nI (q86.count),nI (q86.start),nI (q86.buf),nI (q86.th),nI (q86.tt),nI (q86.sh),nI (q86.st)]::ps) wI∧send_Ready.j1 k s6 q41 q86 y113=some (r0,t0)) ?_ ?_
   rotate_left
   · rintro a115 w116 ⟨y113,hF117,hS118,hm119⟩
     clear hF111 hS109 hm89
     unfold send_Ready.j1 at hm119
     refine thenN (wp_seq ?_)
     refine joinQ (fun aI wI=>∃ (s121:HSt) (y122:Bool),Fr 73 aI [(4,.bool (y122))]∧St w0 F0 (HeapP b0 ab0 s121::ps) wI∧send_Ready.j2 s121 y122=some (r0,t0)) ?_ ?_
     rotate_left
     · rintro a124 w125 ⟨s121,y122,hF126,hS127,hm128⟩
       clear hF117 hS118 hm119
       unfold send_Ready.j2 at hm128
       refine thenN ?_
       refine wp_ret ?_
       simp only [Option.some.injEq,Prod.mk.injEq] at hm128
       obtain ⟨rfl,rfl⟩:=hm128
       refine ev_ret hF126 [4] (.bool (y122)) rfl rfl rfl ?_
       exact ⟨rfl,hS127⟩
     · skip
       refine wp_region_lit ?_
       refine ev_runs 1 hF117 (l':=[(60,nP (w90.heap.size) 1),(13,.bool (y113)),(10,nB w90),(8,nI q41),(0,nP b0 0)]) (w':=w116) (by kernel_rfl) ?_
       intro a133 hF132; clear hF117
       refine ev_one (nI (q86.closed)) w116 hF132 (by kernel_rfl) rfl (by kernel_rfl) (run_loadV rfl rfl (run_loadS rfl rfl (hS118.cell 1 rfl 1 rfl))) (l':=[(61,nI (q86.closed)),(60,nP (w90.heap.size) 1),(13,.bool (y113)),(10,nB w90),(8,nI q41),(0,nP b0 0)]) (by kernel_rfl) ?_
       intro a135 hF134; clear hF132
       refine ev_runs 2 hF134 (l':=[(63,.bool (q86.closed != 0)),(62,.bool (q86.closed != 0)),(61,nI (q86.closed)),(60,nP (w90.heap.size) 1),(13,.bool (y113)),(10,nB w90),(8,nI q41),(0,nP b0 0)]) (w':=w116) (by kernel_rfl) ?_
       intro a137 hF136; clear hF134
       cases hc138:(q86.closed != 0)
       case true =>
        rw [hc138] at hF136
        have hm139:=ifYes hc138 hm119; clear hm119
        refine ev_runK 10 hF136 [4] (l':=[(4,.bool true)]) (w':=w116) (by kernel_rfl) ?_
        intro a141 hF140; clear hF136
        refine wpList_nil ?_
        have hS142:=hS118.pick1.drop
        clear hS118
        exact thenN ⟨s6,true,hF140,hS142,hm139⟩
       rw [hc138] at hF136
       have hm143:=ifNot hc138 hm119; clear hm119
       refine ev_runs 3 hF136 (l':=[(66,.bool (y113)),(65,.bool (y113)),(64,.bool (y113)),(63,.bool false),(62,.bool false),(61,nI (q86.closed)),(60,nP (w90.heap.size) 1),(13,.bool (y113)),(10,nB w90),(8,nI q41),(0,nP b0 0)]) (w':=w116) (by kernel_rfl) ?_
       intro a145 hF144; clear hF136
       cases hc146:(y113)
       case true =>
        rw [hc146] at hF144
        have hm147:=ifYes hc146 hm143; clear hm143
        refine ev_runK 7 hF144 [4] (l':=[(4,.bool true)]) (w':=w116) (by kernel_rfl) ?_
        intro a149 hF148; clear hF144
        refine wpList_nil ?_
        have hS150:=hS118.pick1.drop
        clear hS118
        exact thenN ⟨s6,true,hF148,hS150,hm147⟩
       rw [hc146] at hF144
       have hm151:=ifNot hc146 hm143; clear hm143
       refine ev_runs 2 hF144 (l':=[(68,nI q41),(67,nP b0 0),(66,.bool false),(65,.bool false),(64,.bool false),(63,.bool false),(62,.bool false),(61,nI (q86.closed)),(60,nP (w90.heap.size) 1),(13,.bool false),(10,nB w90),(8,nI q41),(0,nP b0 0)]) (w':=w116) (by kernel_rfl) ?_
       intro a153 hF152; clear hF144
       refine ev_call 35 #[nP b0 0,nI q41,.bool false] hF152 rfl rfl (by kernel_rfl) rfl (by kernel_rfl) (fun w=>by kernel_rfl) ?_
       obtain ⟨L154,s155,hx156,hm157⟩:=bind2E hm151; clear hm151
       refine (list_All.ok hS118 hx156).mono ?_
       rintro _ w158 ⟨z162,rfl,hS160⟩ a159 hF161; clear hF152 hS118
       obtain ⟨hl167,p164,c165,rfl,hp166⟩:=St.shape hS160 1 rfl
       refine ev_runK 4 hF161 [4] (l':=[(4,.bool (decide ((L154.length:Int) > 0)))]) (w':=w158) (by kernel_rfl) ?_
       intro a169 hF168; clear hF161
       refine wpList_nil ?_
       have hS170:=hS160.pick1.drop.pick1.drop
       clear hS160
       exact thenN ⟨s155,decide ((L154.length:Int) > 0),hF168,hS170,hm157⟩
   · skip
     have hS171:=hS109.pick1
     clear hS109
     have hS172:=hS171.drew; clear hS171
     refine any_start (fun wS=>∃ qs,St w0 F0 (BlkP (w90.heap.size) 57 #[nI (q86.cap),nI (q86.closed),nI (q86.count),nI (q86.start),nI (q86.buf),nI (q86.th),nI (q86.tt),nI (q86.sh),nI (q86.st)]::qs) wS) 23 #[false,false,false,false,false,false,false,false,false,false,false,false,false,false,false,false,false,false,false,false,false,false,false] (by kernel_rfl) (by kernel_rfl) (by kernel_rfl) ?_
     refine any_many 7 [(0,some (nP (w90.heap.size) 2)),(1,some (nI (q86.count))),(2,some (nI (if 0 > q86.count then 0 else q86.count))),(3,some (nB w90)),(4,some (nI (q86.cap))),(5,some (.bool (decide ((if 0 > q86.count then 0 else q86.count)<q86.cap)))),(6,some (.bool (decide ((if 0 > q86.count then 0 else q86.count)<q86.cap))))] [0,8,10,12,13,44,45,46,47,48,49,50,51,52,53,54,55,56,57,58,59] #[true,true,true,true,true,true,true,false,false,false,false,false,false,false,false,false,false,false,false,false,false,false,false] (by rfl) hF111 (by kernel_rfl) (by kernel_rfl) (by exact ⟨fun wS hw=>by kernel_rfl,fun wS hw=>hw.elim fun qs hw=>run_loadV rfl rfl (run_loadS rfl rfl (hw.cell 0 rfl 2 rfl)),fun wS hw=>by kernel_rfl,fun wS hw=>by kernel_rfl,fun wS hw=>hw.elim fun qs hw=>run_loadV rfl rfl (run_loadS rfl rfl (hw.cell 0 rfl 0 rfl)),fun wS hw=>by kernel_rfl,fun wS hw=>by kernel_rfl,trivial⟩) (fun _ _ _ _ _ h=>h) ⟨_,hS172⟩ (l':=[(44,.bool (decide ((if 0 > q86.count then 0 else q86.count)<q86.cap))),(12,nP ab0 0),(10,nB w90),(8,nI q41),(0,nP b0 0)]) (by kernel_rfl) ?_
     intro a174 hF173; clear hF111
     cases hc175:(decide ((if 0 > q86.count then 0 else q86.count)<q86.cap))
     case true =>
      rw [hc175] at hF173
      have hm176:=ifYes hc175 hm89; clear hm89
      refine any_many 3 [(7,some (nP ab0 0)),(8,some (nP (w90.heap.size) 4)),(9,some (nI (q86.buf)))] [0,8,10,12,13,44,45,47,48,49,50,51,52,53,54,55,56,57,58,59] #[true,true,true,true,true,true,true,true,true,true,false,false,false,false,false,false,false,false,false,false,false,false,false] (by rfl) hF173 (by kernel_rfl) (by kernel_rfl) (by exact ⟨fun wS hw=>by kernel_rfl,fun wS hw=>by kernel_rfl,fun wS hw=>hw.elim fun qs hw=>run_loadV rfl rfl (run_loadS rfl rfl (hw.cell 0 rfl 4 rfl)),trivial⟩) (fun _ _ _ _ _ h=>h) ⟨_,hS172⟩ (l':=[(47,nI (q86.buf)),(45,nP ab0 0),(44,.bool true),(12,nP ab0 0),(10,nB w90),(8,nI q41),(0,nP b0 0)]) (by kernel_rfl) ?_
      intro a178 hF177; clear hF173
      have hS179:=hS172.pick1
      clear hS172
      refine any_call 10 #[true,true,true,true,true,true,true,true,true,true,true,false,false,false,false,false,false,false,false,false,false,false,false] 77 #[nP ab0 0,nI (q86.buf)] hF177 rfl (by kernel_rfl) rfl rfl (by kernel_rfl) rfl (by kernel_rfl) (fun w=>by kernel_rfl) (by kernel_rfl) ?_
      refine (p_Kind hS179).mono ?_
      rintro _ w180 ⟨rfl,hS182⟩; clear hS179
      refine ⟨⟨_,hS182.pick1⟩,?_⟩
      intro a181 hF183; clear hF177
      refine any_many 3 [(11,some (.bool ((aKind s6.a.c q86.buf) == 2))),(12,some (.bool ((aKind s6.a.c q86.buf) == 2))),(13,some (.bool ((aKind s6.a.c q86.buf) == 2)))] [0,8,10,12,13,51,52,53,54,55,56,57,58,59] #[true,true,true,true,true,true,true,true,true,true,true,true,true,true,false,false,false,false,false,false,false,false,false] (by rfl) hF183 (by kernel_rfl) (by kernel_rfl) (by exact ⟨fun wS hw=>by kernel_rfl,fun wS hw=>by kernel_rfl,fun wS hw=>by kernel_rfl,trivial⟩) (fun _ _ _ _ _ h=>h) ⟨_,hS182.pick1⟩ (l':=[(51,.bool ((aKind s6.a.c q86.buf) == 2)),(12,nP ab0 0),(10,nB w90),(8,nI q41),(0,nP b0 0)]) (by kernel_rfl) ?_
      intro a185 hF184; clear hF183
      cases hc186:((aKind s6.a.c q86.buf) == 2)
      case true =>
       rw [hc186] at hF184
       have hm187:=ifYes hc186 hm176; clear hm176
       refine any_many 5 [(14,some (nP ab0 0)),(15,some (nP (w90.heap.size) 4)),(16,some (nI (q86.buf))),(18,some (nB w90)),(19,some (nI (q86.cap)))] [0,8,10,13,51,52,54,55,57,58,59] #[true,true,true,true,true,true,true,true,true,true,true,true,true,true,true,true,true,false,true,true,false,false,false] (by rfl) hF184 (by kernel_rfl) (by kernel_rfl) (by exact ⟨fun wS hw=>by kernel_rfl,fun wS hw=>by kernel_rfl,fun wS hw=>hw.elim fun qs hw=>run_loadV rfl rfl (run_loadS rfl rfl (hw.cell 0 rfl 4 rfl)),fun wS hw=>by kernel_rfl,fun wS hw=>hw.elim fun qs hw=>run_loadV rfl rfl (run_loadS rfl rfl (hw.cell 0 rfl 0 rfl)),trivial⟩) (fun _ _ _ _ _ h=>h) ⟨_,hS182.pick1⟩ (l':=[(57,nI (q86.cap)),(54,nI (q86.buf)),(52,nP ab0 0),(51,.bool true),(10,nB w90),(8,nI q41),(0,nP b0 0)]) (by kernel_rfl) ?_
       intro a189 hF188; clear hF184
       refine any_call 17 #[true,true,true,true,true,true,true,true,true,true,true,true,true,true,true,true,true,true,true,true,false,false,false] 78 #[nP ab0 0,nI (q86.buf)] hF188 rfl (by kernel_rfl) rfl rfl (by kernel_rfl) rfl (by kernel_rfl) (fun w=>by kernel_rfl) (by kernel_rfl) ?_
       refine (p_Len hS182).mono ?_
       rintro _ w190 ⟨rfl,hS192⟩; clear hS182
       refine ⟨⟨_,hS192.pick1⟩,?_⟩
       intro a191 hF193; clear hF188
       refine any_many 3 [(20,some (.bool ((aLen s6.a.c q86.buf) == q86.cap))),(21,some (.bool ((aLen s6.a.c q86.buf) == q86.cap))),(22,some (.bool ((aLen s6.a.c q86.buf) == q86.cap)))] [0,8,10,13] #[true,true,true,true,true,true,true,true,true,true,true,true,true,true,true,true,true,true,true,true,true,true,true] (by rfl) hF193 (by kernel_rfl) (by kernel_rfl) (by exact ⟨fun wS hw=>by kernel_rfl,fun wS hw=>by kernel_rfl,fun wS hw=>by kernel_rfl,trivial⟩) (fun _ _ _ _ _ h=>h) ⟨_,hS192.pick1⟩ (l':=[(13,.bool ((aLen s6.a.c q86.buf) == q86.cap)),(10,nB w90),(8,nI q41),(0,nP b0 0)]) (by kernel_rfl) ?_
       intro a195 hF194; clear hF193
       refine any_done (by kernel_rfl) ?_
       exact thenN ⟨(aLen s6.a.c q86.buf) == q86.cap,hF194,hS192,hm187⟩
      rw [hc186] at hF184
      have hm196:=ifNot hc186 hm176; clear hm176
      refine any_many 9 [(14,none),(15,none),(16,none),(17,none),(18,none),(19,none),(20,none),(21,some (.bool false)),(22,some (.bool false))] [0,8,10,13] #[true,true,true,true,true,true,true,true,true,true,true,true,true,true,true,true,true,true,true,true,true,true,true] (by rfl) hF184 (by kernel_rfl) (by kernel_rfl) (by exact (And.intro trivial (And.intro trivial (And.intro trivial (And.intro trivial (And.intro trivial (And.intro trivial (And.intro trivial (And.intro (fun wS hw=>by kernel_rfl) (And.intro (fun wS hw=>by kernel_rfl) trivial)))))))))) (fun _ _ _ _ _ h=>h) ⟨_,hS182.pick1⟩ (l':=[(13,.bool false),(10,nB w90),(8,nI q41),(0,nP b0 0)]) (by kernel_rfl) ?_
      intro a198 hF197; clear hF184
      refine any_done (by kernel_rfl) ?_
      exact thenN ⟨false,hF197,hS182,hm196⟩
     rw [hc175] at hF173
     have hm199:=ifNot hc175 hm89; clear hm89
     refine any_many 16 [(7,none),(8,none),(9,none),(10,none),(11,none),(12,some (.bool false)),(13,some (.bool false)),(14,none),(15,none),(16,none),(17,none),(18,none),(19,none),(20,none),(21,some (.bool false)),(22,some (.bool false))] [0,8,10,13] #[true,true,true,true,true,true,true,true,true,true,true,true,true,true,true,true,true,true,true,true,true,true,true] (by rfl) hF173 (by kernel_rfl) (by kernel_rfl) (by exact (And.intro trivial (And.intro trivial (And.intro trivial (And.intro trivial (And.intro trivial (And.intro (fun wS hw=>by kernel_rfl) (And.intro (fun wS hw=>by kernel_rfl) (And.intro trivial (And.intro trivial (And.intro trivial (And.intro trivial (And.intro trivial (And.intro trivial (And.intro trivial (And.intro (fun wS hw=>by kernel_rfl) (And.intro (fun wS hw=>by kernel_rfl) trivial))))))))))))))))) (fun _ _ _ _ _ h=>h) ⟨_,hS172⟩ (l':=[(13,.bool false),(10,nB w90),(8,nI q41),(0,nP b0 0)]) (by kernel_rfl) ?_
     intro a201 hF200; clear hF173
     refine any_done (by kernel_rfl) ?_
     have hS202:=hS172.pick1
     clear hS172
     exact thenN ⟨false,hF200,hS202,hm199⟩
end Go.Proofs.YtgejcjcpchofiaaGreat
