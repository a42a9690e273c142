/- GSend -/
import Derived.Test.YtgejcjcpchofiaaGreatKGMouth
import Derived.Test.YtgejcjcpchofiaaGreatKGRing
import Derived.Test.YtgejcjcpchofiaaGreatKGView
import Derived.Deep.LoopGhost
import Derived.KernelRfl
namespace Go.Proofs.YtgejcjcpchofiaaGreat
open Go.RowKit
set_option linter.unusedVariables false
def send_Try.j1 (s145:HSt) (x156:Int):Option (Int×Int×HSt):=some (x156,1,s145)
def send_Try.m (k:Nat) (s0:HSt) (i1:Int) (i2:Int):Option (Int×Int×HSt):=bind2 (mouth_Of.m k s0 i1) fun o5 s6=>optE o5 (some (-1,6,s6)) fun q39=>sumE q39 (fun q41=>some (-1,0,s6)) fun q42=>bind2 (pChan q42 s6) fun q90 x91=>(if (q90.closed != 0) then some (-1,3,s6) else bind3 (list_Pop.m k s6 q42 (false)) fun x126 y127 s128=>(if (y127) then bind3 (wake_Wake.m k s128 x126 i2) fun x143 x144 s145=>(if (x144 != 0) then send_Try.j1 s145 (-1) else send_Try.j1 s145 x143) else bind2 (ring_Put.m k s128 q42 i2) fun x179 s180=>(if (x179 == 0) then some (-1,1,s180) else some (-1,0,s180))))
set_option maxRecDepth 100000 in
set_option maxHeartbeats 1500000 in
theorem send_Try.ok {w0 w:World} {F0:List Nat} {ps:List Piece} {k:Nat} {b0 ab0:Nat} {s0:HSt} {i1:Int} {i2:Int} {r0:Int} {r1:Int} {t0:HSt} (hS:St w0 F0 (HeapP b0 ab0 s0::ps) w) (hm:send_Try.m k s0 i1 i2=some (r0,r1,t0)) :
    Calls Tryz.prog 28 #[nP b0 0,nI i1,nI i2] w fun e w'=>e=.returned (.tuple #[.int .i64 r0,.int .i64 r1])∧St w0 F0 (HeapP b0 ab0 t0::ps) w':=by
 refine ev_enterL 68 [nP b0 0,nI i1,nI i2] Tryz.func28 rfl rfl (by simp) ?_
 intro a hF
 have hF0:Fr 68 a [(0,nP b0 0),(1,nI i1),(2,nI i2)]:=hF; clear hF
 unfold send_Try.m at hm
 refine wp_seq (wp_region_lit ?_)
 refine ev_runK 2 hF0 [0,1,2] (l':=[(0,nP b0 0),(1,nI i1),(2,nI i2)]) (w':=w) (by kernel_rfl) ?_
 intro a2 hF1; clear hF0
 refine wpList_nil (thenN (wp_seq (wp_region_lit ?_)))
 refine ev_runs 2 hF1 (l':=[(21,nI i1),(20,nP b0 0),(0,nP b0 0),(1,nI i1),(2,nI i2)]) (w':=w) (by kernel_rfl) ?_
 intro a4 hF3; clear hF1
 refine ev_call 64 #[nP b0 0,nI i1] hF3 rfl rfl (by kernel_rfl) rfl (by kernel_rfl) (fun w=>by kernel_rfl) ?_
 obtain ⟨o5,s6,hx7,hm8⟩:=bind2E hm; clear hm
 refine (mouth_Of.ok hS hx7).mono ?_
 rintro _ w9 ⟨rfl,hS11⟩ a10 hF12; clear hF3 hS
 cases o5 with
 | none =>
  have hm13:=optN hm8; clear hm8
  refine ev_runK 1 hF12 [0,2,8] (l':=[(8,.nilIface),(0,nP b0 0),(2,nI i2)]) (w':=w9) (by kernel_rfl) ?_
  intro a15 hF14; clear hF12
  refine wpList_nil (thenN (wp_seq (wp_seq (wp_region_lit ?_))))
  refine ev_runs 6 hF14 (l':=[(9,nB w9),(27,.bool false),(26,.agg #[]),(23,.tuple #[.agg #[],.bool false]),(25,.tuple #[.agg #[],.bool false]),(24,.nilIface),(8,.nilIface),(0,nP b0 0),(2,nI i2)]) (w':=w9.alloc (.cells #[] 104)) (by kernel_rfl) ?_
  intro a17 hF16; clear hF14
  have hS19:St w0 F0 (BlkP (w9.heap.size) 104 #[]::HeapP b0 ab0 s6::ps) (w9.alloc (.cells #[] 104)):=St.new hS11 #[] 104
  clear hS11
  refine ev_store (.agg #[]) #[] hF16 (by kernel_rfl) rfl rfl rfl rfl (by kernel_rfl) hS19 (by kernel_rfl) (by kernel_rfl) (by kernel_rfl) (l':=[(9,nB w9),(27,.bool false),(26,.agg #[]),(23,.tuple #[.agg #[],.bool false]),(25,.tuple #[.agg #[],.bool false]),(24,.nilIface),(8,.nilIface),(0,nP b0 0),(2,nI i2)]) (by kernel_rfl) ?_
  intro w20 a21 hS22 hF23; clear hF16 hS19
  refine ev_runK 1 hF23 [0,2,8,10] (l':=[(10,.bool false),(8,.nilIface),(0,nP b0 0),(2,nI i2)]) (w':=w20) (by kernel_rfl) ?_
  intro a25 hF24; clear hF23
  refine wpList_nil ?_
  have hS26:=hS22.drop
  clear hS22
  refine thenN (wp_seq (wp_region_lit ?_))
  refine ev_runK 1 hF24 [0,2,8,28] (l':=[(28,.bool false),(8,.nilIface),(0,nP b0 0),(2,nI i2)]) (w':=w20) (by kernel_rfl) ?_
  intro a28 hF27; clear hF24
  refine wpList_nil (thenN ?_)
  refine ev_condF hF27 rfl rfl ?_
  refine wp_skip ?_
  have hF29:=hF27.keep [0,2,8]
  clear hF27
  refine thenN (wp_seq (wp_region_lit ?_))
  refine ev_runK 7 hF29 [0,2,11,12] (l':=[(12,.bool false),(11,nI 0),(0,nP b0 0),(2,nI i2)]) (w':=w20) (by kernel_rfl) ?_
  intro a31 hF30; clear hF29
  refine wpList_nil (thenN (wp_seq (wp_seq (wp_region_lit ?_))))
  refine ev_runK 2 hF30 [0,2,11,35] (l':=[(35,.bool true),(11,nI 0),(0,nP b0 0),(2,nI i2)]) (w':=w20) (by kernel_rfl) ?_
  intro a33 hF32; clear hF30
  refine wpList_nil (thenN ?_)
  refine ev_condT hF32 rfl rfl ?_
  refine wp_seq (wp_region_lit ?_)
  refine ev_runK 2 hF32 [6,7] (l':=[(7,nI 6),(6,nI (-1))]) (w':=w20) (by kernel_rfl) ?_
  intro a35 hF34; clear hF32
  refine wpList_nil (thenN ?_)
  refine wp_ret ?_
  refine thenR ?_
  simp only [Option.some.injEq,Prod.mk.injEq] at hm13
  obtain ⟨rfl,rfl,rfl⟩:=hm13
  refine ev_ret hF34 [6,7] (.tuple #[nI (-1),nI 6]) rfl rfl rfl ?_
  exact ⟨rfl,hS26⟩
 | some q39 =>
  have hm40:=optS hm8; clear hm8
  cases q39 with
  | inl q41 =>
   have hm43:=sumL hm40; clear hm40
   refine ev_runK 1 hF12 [0,2,8] (l':=[(8,.iface 104 (.agg #[])),(0,nP b0 0),(2,nI i2)]) (w':=w9) (by kernel_rfl) ?_
   intro a45 hF44; clear hF12
   refine wpList_nil (thenN (wp_seq (wp_seq (wp_region_lit ?_))))
   refine ev_runs 6 hF44 (l':=[(9,nB w9),(27,.bool true),(26,.agg #[]),(23,.tuple #[.agg #[],.bool true]),(25,.tuple #[.agg #[],.bool true]),(24,.iface 104 (.agg #[])),(8,.iface 104 (.agg #[])),(0,nP b0 0),(2,nI i2)]) (w':=w9.alloc (.cells #[] 104)) (by kernel_rfl) ?_
   intro a47 hF46; clear hF44
   have hS49:St w0 F0 (BlkP (w9.heap.size) 104 #[]::HeapP b0 ab0 s6::ps) (w9.alloc (.cells #[] 104)):=St.new hS11 #[] 104
   clear hS11
   refine ev_store (.agg #[]) #[] hF46 (by kernel_rfl) rfl rfl rfl rfl (by kernel_rfl) hS49 (by kernel_rfl) (by kernel_rfl) (by kernel_rfl) (l':=[(9,nB w9),(27,.bool true),(26,.agg #[]),(23,.tuple #[.agg #[],.bool true]),(25,.tuple #[.agg #[],.bool true]),(24,.iface 104 (.agg #[])),(8,.iface 104 (.agg #[])),(0,nP b0 0),(2,nI i2)]) (by kernel_rfl) ?_
   intro w50 a51 hS52 hF53; clear hF46 hS49
   refine ev_runK 1 hF53 [0,2,8,10] (l':=[(10,.bool true),(8,.iface 104 (.agg #[])),(0,nP b0 0),(2,nI i2)]) (w':=w50) (by kernel_rfl) ?_
   intro a55 hF54; clear hF53
   refine wpList_nil ?_
   have hS56:=hS52.drop
   clear hS52
   refine thenN (wp_seq (wp_region_lit ?_))
   refine ev_runK 1 hF54 [0,2,8,28] (l':=[(28,.bool true),(8,.iface 104 (.agg #[])),(0,nP b0 0),(2,nI i2)]) (w':=w50) (by kernel_rfl) ?_
   intro a58 hF57; clear hF54
   refine wpList_nil (thenN ?_)
   refine ev_condT hF57 rfl rfl ?_
   refine wp_seq (wp_region_lit ?_)
   refine ev_runK 2 hF57 [6,7] (l':=[(7,nI 0),(6,nI (-1))]) (w':=w50) (by kernel_rfl) ?_
   intro a60 hF59; clear hF57
   refine wpList_nil (thenN ?_)
   refine wp_ret ?_
   refine thenR ?_
   simp only [Option.some.injEq,Prod.mk.injEq] at hm43
   obtain ⟨rfl,rfl,rfl⟩:=hm43
   refine ev_ret hF59 [6,7] (.tuple #[nI (-1),nI 0]) rfl rfl rfl ?_
   exact ⟨rfl,hS56⟩
  | inr q42 =>
   have hm64:=sumR hm40; clear hm40
   refine ev_runK 1 hF12 [0,2,8] (l':=[(8,.iface 106 (nI q42)),(0,nP b0 0),(2,nI i2)]) (w':=w9) (by kernel_rfl) ?_
   intro a66 hF65; clear hF12
   refine wpList_nil (thenN (wp_seq (wp_seq (wp_region_lit ?_))))
   refine ev_runs 6 hF65 (l':=[(9,nB w9),(27,.bool false),(26,.agg #[]),(23,.tuple #[.agg #[],.bool false]),(25,.tuple #[.agg #[],.bool false]),(24,.iface 106 (nI q42)),(8,.iface 106 (nI q42)),(0,nP b0 0),(2,nI i2)]) (w':=w9.alloc (.cells #[] 104)) (by kernel_rfl) ?_
   intro a68 hF67; clear hF65
   have hS70:St w0 F0 (BlkP (w9.heap.size) 104 #[]::HeapP b0 ab0 s6::ps) (w9.alloc (.cells #[] 104)):=St.new hS11 #[] 104
   clear hS11
   refine ev_store (.agg #[]) #[] hF67 (by kernel_rfl) rfl rfl rfl rfl (by kernel_rfl) hS70 (by kernel_rfl) (by kernel_rfl) (by kernel_rfl) (l':=[(9,nB w9),(27,.bool false),(26,.agg #[]),(23,.tuple #[.agg #[],.bool false]),(25,.tuple #[.agg #[],.bool false]),(24,.iface 106 (nI q42)),(8,.iface 106 (nI q42)),(0,nP b0 0),(2,nI i2)]) (by kernel_rfl) ?_
   intro w71 a72 hS73 hF74; clear hF67 hS70
   refine ev_runK 1 hF74 [0,2,8,10] (l':=[(10,.bool false),(8,.iface 106 (nI q42)),(0,nP b0 0),(2,nI i2)]) (w':=w71) (by kernel_rfl) ?_
   intro a76 hF75; clear hF74
   refine wpList_nil ?_
   have hS77:=hS73.drop
   clear hS73
   refine thenN (wp_seq (wp_region_lit ?_))
   refine ev_runK 1 hF75 [0,2,8,28] (l':=[(28,.bool false),(8,.iface 106 (nI q42)),(0,nP b0 0),(2,nI i2)]) (w':=w71) (by kernel_rfl) ?_
   intro a79 hF78; clear hF75
   refine wpList_nil (thenN ?_)
   refine ev_condF hF78 rfl rfl ?_
   refine wp_skip ?_
   have hF80:=hF78.keep [0,2,8]
   clear hF78
   refine thenN (wp_seq (wp_region_lit ?_))
   refine ev_runK 7 hF80 [0,2,11,12] (l':=[(12,.bool true),(11,nI q42),(0,nP b0 0),(2,nI i2)]) (w':=w71) (by kernel_rfl) ?_
   intro a82 hF81; clear hF80
   refine wpList_nil (thenN (wp_seq (wp_seq (wp_region_lit ?_))))
   refine ev_runK 2 hF81 [0,2,11,35] (l':=[(35,.bool false),(11,nI q42),(0,nP b0 0),(2,nI i2)]) (w':=w71) (by kernel_rfl) ?_
   intro a84 hF83; clear hF81
   refine wpList_nil (thenN ?_)
   refine ev_condF hF83 rfl rfl ?_
   refine wp_skip ?_
   have hF85:=hF83.keep [0,2,11]
   clear hF83
   refine thenN (wp_seq (wp_region_lit ?_))
   refine ev_runK 2 hF85 [0,2,13] (l':=[(13,nI q42),(0,nP b0 0),(2,nI i2)]) (w':=w71) (by kernel_rfl) ?_
   intro a87 hF86; clear hF85
   refine wpList_nil (thenN (wp_seq (wp_seq (wp_region_lit ?_))))
   refine ev_runs 2 hF86 (l':=[(39,nI q42),(38,nP b0 0),(13,nI q42),(0,nP b0 0),(2,nI i2)]) (w':=w71) (by kernel_rfl) ?_
   intro a89 hF88; clear hF86
   refine ev_call 30 #[nP b0 0,nI q42] hF88 rfl rfl (by kernel_rfl) rfl (by kernel_rfl) (fun w=>by kernel_rfl) ?_
   obtain ⟨q90,x91,hx92,hm93⟩:=bind2E hm64; clear hm64
   refine (p_Chan hS77 hx92).mono ?_
   rintro _ w94 ⟨rfl,hS96⟩ a95 hF97; clear hF88 hS77
   refine ev_runs 4 hF97 (l':=[(14,nB w94),(42,nI x91),(41,.agg #[nI (q90.cap),nI (q90.closed),nI (q90.count),nI (q90.start),nI (q90.buf),nI (q90.th),nI (q90.tt),nI (q90.sh),nI (q90.st)]),(37,.tuple #[.agg #[nI (q90.cap),nI (q90.closed),nI (q90.count),nI (q90.start),nI (q90.buf),nI (q90.th),nI (q90.tt),nI (q90.sh),nI (q90.st)],nI x91]),(40,.tuple #[.agg #[nI (q90.cap),nI (q90.closed),nI (q90.count),nI (q90.start),nI (q90.buf),nI (q90.th),nI (q90.tt),nI (q90.sh),nI (q90.st)],nI x91]),(39,nI q42),(38,nP b0 0),(13,nI q42),(0,nP b0 0),(2,nI i2)]) (w':=w94.alloc (.cells #[nI 0,nI 0,nI 0,nI 0,nI 0,nI 0,nI 0,nI 0,nI 0] 57)) (by kernel_rfl) ?_
   intro a99 hF98; clear hF97
   have hS101:St w0 F0 (BlkP (w94.heap.size) 57 #[nI 0,nI 0,nI 0,nI 0,nI 0,nI 0,nI 0,nI 0,nI 0]::HeapP b0 ab0 s6::ps) (w94.alloc (.cells #[nI 0,nI 0,nI 0,nI 0,nI 0,nI 0,nI 0,nI 0,nI 0] 57)):=St.new hS96 #[nI 0,nI 0,nI 0,nI 0,nI 0,nI 0,nI 0,nI 0,nI 0] 57
   clear hS96
   refine ev_store (.agg #[nI (q90.cap),nI (q90.closed),nI (q90.count),nI (q90.start),nI (q90.buf),nI (q90.th),nI (q90.tt),nI (q90.sh),nI (q90.st)]) #[nI (q90.cap),nI (q90.closed),nI (q90.count),nI (q90.start),nI (q90.buf),nI (q90.th),nI (q90.tt),nI (q90.sh),nI (q90.st)] hF98 (by kernel_rfl) rfl rfl rfl rfl (by kernel_rfl) hS101 (by kernel_rfl) (by kernel_rfl) (by kernel_rfl) (l':=[(14,nB w94),(42,nI x91),(41,.agg #[nI (q90.cap),nI (q90.closed),nI (q90.count),nI (q90.start),nI (q90.buf),nI (q90.th),nI (q90.tt),nI (q90.sh),nI (q90.st)]),(37,.tuple #[.agg #[nI (q90.cap),nI (q90.closed),nI (q90.count),nI (q90.start),nI (q90.buf),nI (q90.th),nI (q90.tt),nI (q90.sh),nI (q90.st)],nI x91]),(40,.tuple #[.agg #[nI (q90.cap),nI (q90.closed),nI (q90.count),nI (q90.start),nI (q90.buf),nI (q90.th),nI (q90.tt),nI (q90.sh),nI (q90.st)],nI x91]),(39,nI q42),(38,nP b0 0),(13,nI q42),(0,nP b0 0),(2,nI i2)]) (by kernel_rfl) ?_
   intro w102 a103 hS104 hF105; clear hF98 hS101
   refine ev_runK 1 hF105 [0,2,13,14] (l':=[(14,nB w94),(13,nI q42),(0,nP b0 0),(2,nI i2)]) (w':=w102) (by kernel_rfl) ?_
   intro a107 hF106; clear hF105
   refine wpList_nil (thenN (wp_seq (wp_region_lit ?_)))
   refine ev_runs 1 hF106 (l':=[(43,nP (w94.heap.size) 1),(14,nB w94),(13,nI q42),(0,nP b0 0),(2,nI i2)]) (w':=w102) (by kernel_rfl) ?_
   intro a109 hF108; clear hF106
   refine ev_one (nI (q90.closed)) w102 hF108 (by kernel_rfl) rfl (by kernel_rfl) (run_loadV rfl rfl (run_loadS rfl rfl (hS104.cell 0 rfl 1 rfl))) (l':=[(44,nI (q90.closed)),(43,nP (w94.heap.size) 1),(14,nB w94),(13,nI q42),(0,nP b0 0),(2,nI i2)]) (by kernel_rfl) ?_
   intro a111 hF110; clear hF108
   refine ev_runK 1 hF110 [0,2,13,45] (l':=[(45,.bool (q90.closed != 0)),(13,nI q42),(0,nP b0 0),(2,nI i2)]) (w':=w102) (by kernel_rfl) ?_
   intro a113 hF112; clear hF110
   refine wpList_nil ?_
   have hS114:=hS104.drop
   clear hS104
   refine thenN ?_
   cases hc115:(q90.closed != 0)
   case true =>
    rw [hc115] at hF112
    have hm116:=ifYes hc115 hm93; clear hm93
    refine ev_condT hF112 rfl rfl ?_
    refine wp_seq (wp_region_lit ?_)
    refine ev_runK 2 hF112 [6,7] (l':=[(7,nI 3),(6,nI (-1))]) (w':=w102) (by kernel_rfl) ?_
    intro a118 hF117; clear hF112
    refine wpList_nil (thenN ?_)
    refine wp_ret ?_
    refine thenR ?_
    simp only [Option.some.injEq,Prod.mk.injEq] at hm116
    obtain ⟨rfl,rfl,rfl⟩:=hm116
    refine ev_ret hF117 [6,7] (.tuple #[nI (-1),nI 3]) rfl rfl rfl ?_
    exact ⟨rfl,hS114⟩
   rw [hc115] at hF112
   have hm122:=ifNot hc115 hm93; clear hm93
   refine ev_condF hF112 rfl rfl ?_
   refine wp_skip ?_
   have hF123:=hF112.keep [0,2,13]
   clear hF112
   refine thenN (wp_seq (wp_seq (wp_region_lit ?_)))
   refine ev_runs 2 hF123 (l':=[(48,nI q42),(47,nP b0 0),(13,nI q42),(0,nP b0 0),(2,nI i2)]) (w':=w102) (by kernel_rfl) ?_
   intro a125 hF124; clear hF123
   refine ev_call 65 #[nP b0 0,nI q42,.bool false] hF124 rfl rfl (by kernel_rfl) rfl (by kernel_rfl) (fun w=>by kernel_rfl) ?_
   obtain ⟨x126,y127,s128,hx129,hm130⟩:=bind3E hm122; clear hm122
   refine (list_Pop.ok hS114 hx129).mono ?_
   rintro _ w131 ⟨rfl,hS133⟩ a132 hF134; clear hF124 hS114
   refine ev_runK 5 hF134 [0,2,13,16,17] (l':=[(17,.bool (y127)),(16,nI x126),(13,nI q42),(0,nP b0 0),(2,nI i2)]) (w':=w131) (by kernel_rfl) ?_
   intro a136 hF135; clear hF134
   refine wpList_nil (thenN (wp_seq (wp_region_lit ?_)))
   refine ev_runK 1 hF135 [0,2,13,16,52] (l':=[(52,.bool (y127)),(16,nI x126),(13,nI q42),(0,nP b0 0),(2,nI i2)]) (w':=w131) (by kernel_rfl) ?_
   intro a138 hF137; clear hF135
   refine wpList_nil (thenN ?_)
   cases hc139:(y127)
   case true =>
    rw [hc139] at hF137
    have hm140:=ifYes hc139 hm130; clear hm130
    refine ev_condT hF137 rfl rfl ?_
    refine wp_seq (wp_region_lit ?_)
    refine ev_runs 3 hF137 (l':=[(56,nI i2),(55,nI x126),(54,nP b0 0),(52,.bool true),(16,nI x126),(13,nI q42),(0,nP b0 0),(2,nI i2)]) (w':=w131) (by kernel_rfl) ?_
    intro a142 hF141; clear hF137
    refine ev_call 66 #[nP b0 0,nI x126,nI i2] hF141 rfl rfl (by kernel_rfl) rfl (by kernel_rfl) (fun w=>by kernel_rfl) ?_
    obtain ⟨x143,x144,s145,hx146,hm147⟩:=bind3E hm140; clear hm140
    refine (wake_Wake.ok hS133 hx146).mono ?_
    rintro _ w148 ⟨rfl,hS150⟩ a149 hF151; clear hF141 hS133
    refine ev_runK 5 hF151 [18,19] (l':=[(19,nI x144),(18,nI x143)]) (w':=w148) (by kernel_rfl) ?_
    intro a153 hF152; clear hF151
    refine wpList_nil (thenN (wp_seq (wp_seq (wp_region_lit ?_))))
    refine ev_runK 2 hF152 [18,61] (l':=[(61,.bool (x144 != 0)),(18,nI x143)]) (w':=w148) (by kernel_rfl) ?_
    intro a155 hF154; clear hF152
    refine wpList_nil (thenN ?_)
    refine joinQ (fun aI wI=>∃ (x156:Int),Fr 68 aI [(18,nI x156)]∧St w0 F0 (HeapP b0 ab0 s145::ps) wI∧send_Try.j1 s145 x156=some (r0,r1,t0)) ?_ ?_
    rotate_left
    · rintro a158 w159 ⟨x156,hF160,hS161,hm162⟩
      clear hF154 hS150 hm147
      unfold send_Try.j1 at hm162
      refine thenN (wp_seq (wp_region_lit ?_))
      refine ev_runK 3 hF160 [6,7] (l':=[(7,nI 1),(6,nI x156)]) (w':=w159) (by kernel_rfl) ?_
      intro a165 hF164; clear hF160
      refine wpList_nil (thenN ?_)
      refine wp_ret ?_
      refine thenR ?_
      simp only [Option.some.injEq,Prod.mk.injEq] at hm162
      obtain ⟨rfl,rfl,rfl⟩:=hm162
      refine ev_ret hF164 [6,7] (.tuple #[nI x156,nI 1]) rfl rfl rfl ?_
      exact ⟨rfl,hS161⟩
    · skip
      cases hc169:(x144 != 0)
      case true =>
       rw [hc169] at hF154
       have hm170:=ifYes hc169 hm147; clear hm147
       refine ev_condT hF154 rfl rfl ?_
       refine wp_region_lit ?_
       refine ev_runK 1 hF154 [18] (l':=[(18,nI (-1))]) (w':=w148) (by kernel_rfl) ?_
       intro a172 hF171; clear hF154
       refine wpList_nil ?_
       exact thenN ⟨-1,hF171,hS150,hm170⟩
      rw [hc169] at hF154
      have hm173:=ifNot hc169 hm147; clear hm147
      refine ev_condF hF154 rfl rfl ?_
      refine wp_skip ?_
      have hF174:=hF154.keep [18]
      clear hF154
      exact thenN ⟨x143,hF174,hS150,hm173⟩
   rw [hc139] at hF137
   have hm175:=ifNot hc139 hm130; clear hm130
   refine ev_condF hF137 rfl rfl ?_
   refine wp_skip ?_
   have hF176:=hF137.keep [0,2,13]
   clear hF137
   refine thenN (wp_seq (wp_seq (wp_region_lit ?_)))
   refine ev_runs 3 hF176 (l':=[(65,nI i2),(64,nI q42),(63,nP b0 0),(13,nI q42),(0,nP b0 0),(2,nI i2)]) (w':=w131) (by kernel_rfl) ?_
   intro a178 hF177; clear hF176
   refine ev_call 71 #[nP b0 0,nI q42,nI i2] hF177 rfl rfl (by kernel_rfl) rfl (by kernel_rfl) (fun w=>by kernel_rfl) ?_
   obtain ⟨x179,s180,hx181,hm182⟩:=bind2E hm175; clear hm175
   refine (ring_Put.ok hS133 hx181).mono ?_
   rintro _ w183 ⟨rfl,hS185⟩ a184 hF186; clear hF177 hS133
   refine ev_runK 1 hF186 [67] (l':=[(67,.bool (x179 == 0))]) (w':=w183) (by kernel_rfl) ?_
   intro a188 hF187; clear hF186
   refine wpList_nil (thenN ?_)
   cases hc189:(x179 == 0)
   case true =>
    rw [hc189] at hF187
    have hm190:=ifYes hc189 hm182; clear hm182
    refine ev_condT hF187 rfl rfl ?_
    refine wp_seq (wp_region_lit ?_)
    refine ev_runK 2 hF187 [6,7] (l':=[(7,nI 1),(6,nI (-1))]) (w':=w183) (by kernel_rfl) ?_
    intro a192 hF191; clear hF187
    refine wpList_nil (thenN ?_)
    refine wp_ret ?_
    refine thenR ?_
    simp only [Option.some.injEq,Prod.mk.injEq] at hm190
    obtain ⟨rfl,rfl,rfl⟩:=hm190
    refine ev_ret hF191 [6,7] (.tuple #[nI (-1),nI 1]) rfl rfl rfl ?_
    exact ⟨rfl,hS185⟩
   rw [hc189] at hF187
   have hm196:=ifNot hc189 hm182; clear hm182
   refine ev_condF hF187 rfl rfl ?_
   refine wp_skip ?_
   have hF197:=hF187.keep []
   clear hF187
   refine thenN (wp_seq (wp_region_lit ?_))
   refine ev_runs 2 hF197 (l':=[(7,nI 0),(6,nI (-1))]) (w':=w183) (by kernel_rfl) ?_
   intro a199 hF198; clear hF197
   refine wpList_nil (thenN ?_)
   refine wp_ret ?_
   simp only [Option.some.injEq,Prod.mk.injEq] at hm196
   obtain ⟨rfl,rfl,rfl⟩:=hm196
   refine ev_ret hF198 [6,7] (.tuple #[nI (-1),nI 0]) rfl rfl rfl ?_
   exact ⟨rfl,hS185⟩
end Go.Proofs.YtgejcjcpchofiaaGreat
