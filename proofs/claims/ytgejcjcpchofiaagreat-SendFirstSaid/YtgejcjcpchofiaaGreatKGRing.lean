/- GRing -/
import Derived.Test.YtgejcjcpchofiaaGreatKGView
import Derived.Deep.LoopGhost
import Derived.KernelRfl
namespace Go.Proofs.YtgejcjcpchofiaaGreat
open Go.RowKit
set_option linter.unusedVariables false
def ring_of.j1 (s0:HSt) (i1:Ch) (y16:Bool):Option (Option Rm×HSt):=(if (y16) then some (none,s0) else some ((some (⟨i1.buf,i1.cap,if 0 > i1.count then 0 else i1.count,if 0 > i1.start then 0 else i1.start⟩:Rm)),s0))
def ring_of.m (k:Nat) (s0:HSt) (i1:Ch):Option (Option Rm×HSt):=(if ((aKind s0.a.c i1.buf) != 2) then ring_of.j1 s0 i1 true else (if ((aLen s0.a.c i1.buf) != i1.cap) then ring_of.j1 s0 i1 true else ring_of.j1 s0 i1 (decide (i1.cap<1))))
set_option maxRecDepth 100000 in
set_option maxHeartbeats 1500000 in
theorem ring_of.ok {w0 w:World} {F0:List Nat} {ps:List Piece} {k:Nat} {b0 ab0:Nat} {s0:HSt} {i1:Ch} {r0:Option Rm} {t0:HSt} (hS:St w0 F0 (HeapP b0 ab0 s0::ps) w) (hm:ring_of.m k s0 i1=some (r0,t0)) :
    Calls Tryz.prog 115 #[nP b0 0,.agg #[nI (i1.cap),nI (i1.closed),nI (i1.count),nI (i1.start),nI (i1.buf),nI (i1.th),nI (i1.tt),nI (i1.sh),nI (i1.st)]] w fun e w'=>e=.returned (oRmV 176 r0)∧St w0 F0 (HeapP b0 ab0 t0::ps) w':=by
 refine ev_enterL 39 [nP b0 0,.agg #[nI (i1.cap),nI (i1.closed),nI (i1.count),nI (i1.start),nI (i1.buf),nI (i1.th),nI (i1.tt),nI (i1.sh),nI (i1.st)]] Tryz.func115 rfl rfl (by simp) ?_
 intro a hF
 have hF0:Fr 39 a [(0,nP b0 0),(1,.agg #[nI (i1.cap),nI (i1.closed),nI (i1.count),nI (i1.start),nI (i1.buf),nI (i1.th),nI (i1.tt),nI (i1.sh),nI (i1.st)])]:=hF; clear hF
 unfold ring_of.m at hm
 refine wp_seq (wp_region_lit ?_)
 refine ev_runs 1 hF0 (l':=[(3,nB w),(0,nP b0 0),(1,.agg #[nI (i1.cap),nI (i1.closed),nI (i1.count),nI (i1.start),nI (i1.buf),nI (i1.th),nI (i1.tt),nI (i1.sh),nI (i1.st)])]) (w':=w.alloc (.cells #[nI (i1.cap),nI (i1.closed),nI (i1.count),nI (i1.start),nI (i1.buf),nI (i1.th),nI (i1.tt),nI (i1.sh),nI (i1.st)] 57)) (by kernel_rfl) ?_
 intro a2 hF1; clear hF0
 have hS4:St w0 F0 (BlkP (w.heap.size) 57 #[nI (i1.cap),nI (i1.closed),nI (i1.count),nI (i1.start),nI (i1.buf),nI (i1.th),nI (i1.tt),nI (i1.sh),nI (i1.st)]::HeapP b0 ab0 s0::ps) (w.alloc (.cells #[nI (i1.cap),nI (i1.closed),nI (i1.count),nI (i1.start),nI (i1.buf),nI (i1.th),nI (i1.tt),nI (i1.sh),nI (i1.st)] 57)):=St.new hS #[nI (i1.cap),nI (i1.closed),nI (i1.count),nI (i1.start),nI (i1.buf),nI (i1.th),nI (i1.tt),nI (i1.sh),nI (i1.st)] 57
 refine ev_runK 1 hF1 [0,3] (l':=[(3,nB w),(0,nP b0 0)]) (w':=w.alloc (.cells #[nI (i1.cap),nI (i1.closed),nI (i1.count),nI (i1.start),nI (i1.buf),nI (i1.th),nI (i1.tt),nI (i1.sh),nI (i1.st)] 57)) (by kernel_rfl) ?_
 intro a6 hF5; clear hF1
 refine wpList_nil (thenN (wp_seq (wp_region_lit ?_)))
 refine ev_runs 1 hF5 (l':=[(6,nP b0 0),(3,nB w),(0,nP b0 0)]) (w':=w.alloc (.cells #[nI (i1.cap),nI (i1.closed),nI (i1.count),nI (i1.start),nI (i1.buf),nI (i1.th),nI (i1.tt),nI (i1.sh),nI (i1.st)] 57)) (by kernel_rfl) ?_
 intro a8 hF7; clear hF5
 have hS9:=hS4.pick1
 clear hS4
 refine ev_call 53 #[nP b0 0] hF7 rfl rfl (by kernel_rfl) rfl (by kernel_rfl) (fun w=>by kernel_rfl) ?_
 refine (p_Arena hS9).mono ?_
 rintro _ w10 ⟨rfl,hS12⟩ a11 hF13; clear hF7 hS9
 refine ev_runK 1 hF13 [3,5] (l':=[(5,nP ab0 0),(3,nB w)]) (w':=w10) (by kernel_rfl) ?_
 intro a15 hF14; clear hF13
 refine wpList_nil (thenN (wp_seq (wp_seq ?_)))
 refine joinQ (fun aI wI=>∃ (y16:Bool),Fr 39 aI [(26,.bool (y16)),(3,nB w)]∧St w0 F0 (HeapP b0 ab0 s0::BlkP (w.heap.size) 57 #[nI (i1.cap),nI (i1.closed),nI (i1.count),nI (i1.start),nI (i1.buf),nI (i1.th),nI (i1.tt),nI (i1.sh),nI (i1.st)]::ps) wI∧ring_of.j1 s0 i1 y16=some (r0,t0)) ?_ ?_
 rotate_left
 · rintro a18 w19 ⟨y16,hF20,hS21,hm22⟩
   clear hF14 hS12 hm
   unfold ring_of.j1 at hm22
   refine thenN ?_
   cases hc24:(y16)
   case true =>
    rw [hc24] at hF20
    have hm25:=ifYes hc24 hm22; clear hm22
    refine ev_condT hF20 rfl rfl ?_
    refine wp_seq (wp_region_lit ?_)
    refine ev_runK 1 hF20 [4] (l':=[(4,.nilIface)]) (w':=w19) (by kernel_rfl) ?_
    intro a27 hF26; clear hF20
    refine wpList_nil ?_
    have hS28:=hS21.pick1.drop
    clear hS21
    refine thenN ?_
    refine wp_ret ?_
    refine thenR ?_
    simp only [Option.some.injEq,Prod.mk.injEq] at hm25
    obtain ⟨rfl,rfl⟩:=hm25
    refine ev_ret hF26 [4] (.nilIface) rfl rfl rfl ?_
    exact ⟨rfl,hS28⟩
   rw [hc24] at hF20
   have hm31:=ifNot hc24 hm22; clear hm22
   refine ev_condF hF20 rfl rfl ?_
   refine wp_skip ?_
   have hF32:=hF20.keep [3]
   clear hF20
   refine thenN (wp_seq (wp_region_lit ?_))
   refine ev_runs 1 hF32 (l':=[(27,nP (w.heap.size) 4),(3,nB w)]) (w':=w19) (by kernel_rfl) ?_
   intro a34 hF33; clear hF32
   refine ev_one (nI (i1.buf)) w19 hF33 (by kernel_rfl) rfl (by kernel_rfl) (run_loadV rfl rfl (run_loadS rfl rfl (hS21.cell 1 rfl 4 rfl))) (l':=[(28,nI (i1.buf)),(27,nP (w.heap.size) 4),(3,nB w)]) (by kernel_rfl) ?_
   intro a36 hF35; clear hF33
   refine ev_runs 1 hF35 (l':=[(29,nB w),(28,nI (i1.buf)),(27,nP (w.heap.size) 4),(3,nB w)]) (w':=w19) (by kernel_rfl) ?_
   intro a38 hF37; clear hF35
   refine ev_one (nI (i1.cap)) w19 hF37 (by kernel_rfl) rfl (by kernel_rfl) (run_loadV rfl rfl (run_loadS rfl rfl (hS21.cell 1 rfl 0 rfl))) (l':=[(30,nI (i1.cap)),(29,nB w),(28,nI (i1.buf)),(27,nP (w.heap.size) 4),(3,nB w)]) (by kernel_rfl) ?_
   intro a40 hF39; clear hF37
   refine ev_runs 1 hF39 (l':=[(31,nP (w.heap.size) 2),(30,nI (i1.cap)),(29,nB w),(28,nI (i1.buf)),(27,nP (w.heap.size) 4),(3,nB w)]) (w':=w19) (by kernel_rfl) ?_
   intro a42 hF41; clear hF39
   refine ev_one (nI (i1.count)) w19 hF41 (by kernel_rfl) rfl (by kernel_rfl) (run_loadV rfl rfl (run_loadS rfl rfl (hS21.cell 1 rfl 2 rfl))) (l':=[(32,nI (i1.count)),(31,nP (w.heap.size) 2),(30,nI (i1.cap)),(29,nB w),(28,nI (i1.buf)),(27,nP (w.heap.size) 4),(3,nB w)]) (by kernel_rfl) ?_
   intro a44 hF43; clear hF41
   refine ev_runs 2 hF43 (l':=[(34,nP (w.heap.size) 3),(33,nI (if 0 > i1.count then 0 else i1.count)),(32,nI (i1.count)),(31,nP (w.heap.size) 2),(30,nI (i1.cap)),(29,nB w),(28,nI (i1.buf)),(27,nP (w.heap.size) 4),(3,nB w)]) (w':=w19) (by kernel_rfl) ?_
   intro a46 hF45; clear hF43
   refine ev_one (nI (i1.start)) w19 hF45 (by kernel_rfl) rfl (by kernel_rfl) (run_loadV rfl rfl (run_loadS rfl rfl (hS21.cell 1 rfl 3 rfl))) (l':=[(35,nI (i1.start)),(34,nP (w.heap.size) 3),(33,nI (if 0 > i1.count then 0 else i1.count)),(32,nI (i1.count)),(31,nP (w.heap.size) 2),(30,nI (i1.cap)),(29,nB w),(28,nI (i1.buf)),(27,nP (w.heap.size) 4),(3,nB w)]) (by kernel_rfl) ?_
   intro a48 hF47; clear hF45
   refine ev_runK 4 hF47 [4] (l':=[(4,.iface 176 (.agg #[nI (i1.buf),nI (i1.cap),nI (if 0 > i1.count then 0 else i1.count),nI (if 0 > i1.start then 0 else i1.start)]))]) (w':=w19) (by kernel_rfl) ?_
   intro a50 hF49; clear hF47
   refine wpList_nil ?_
   have hS51:=hS21.pick1.drop
   clear hS21
   refine thenN ?_
   refine wp_ret ?_
   simp only [Option.some.injEq,Prod.mk.injEq] at hm31
   obtain ⟨rfl,rfl⟩:=hm31
   refine ev_ret hF49 [4] (.iface 176 (.agg #[nI (i1.buf),nI (i1.cap),nI (if 0 > i1.count then 0 else i1.count),nI (if 0 > i1.start then 0 else i1.start)])) rfl rfl rfl ?_
   exact ⟨rfl,hS51⟩
 · skip
   have hS54:=hS12.pick1
   clear hS12
   have hS55:=hS54.drew; clear hS54
   refine any_start (fun wS=>∃ qs,St w0 F0 (BlkP (w.heap.size) 57 #[nI (i1.cap),nI (i1.closed),nI (i1.count),nI (i1.start),nI (i1.buf),nI (i1.th),nI (i1.tt),nI (i1.sh),nI (i1.st)]::qs) wS) 19 #[false,false,false,false,false,false,false,false,false,false,false,false,false,false,false,false,false,false,false] (by kernel_rfl) (by kernel_rfl) (by kernel_rfl) ?_
   refine any_many 3 [(0,some (nP ab0 0)),(1,some (nP (w.heap.size) 4)),(2,some (nI (i1.buf)))] [3,5,8,10,11,12,13,14,15,16,17,18,19,20,21,22,23,24,25,26] #[true,true,true,false,false,false,false,false,false,false,false,false,false,false,false,false,false,false,false] (by rfl) hF14 (by kernel_rfl) (by kernel_rfl) (by exact ⟨fun wS hw=>by kernel_rfl,fun wS hw=>by kernel_rfl,fun wS hw=>hw.elim fun qs hw=>run_loadV rfl rfl (run_loadS rfl rfl (hw.cell 0 rfl 4 rfl)),trivial⟩) (fun _ _ _ _ _ h=>h) ⟨_,hS55⟩ (l':=[(10,nI (i1.buf)),(8,nP ab0 0),(5,nP ab0 0),(3,nB w)]) (by kernel_rfl) ?_
   intro a57 hF56; clear hF14
   have hS58:=hS55.pick1
   clear hS55
   refine any_call 3 #[true,true,true,true,false,false,false,false,false,false,false,false,false,false,false,false,false,false,false] 77 #[nP ab0 0,nI (i1.buf)] hF56 rfl (by kernel_rfl) rfl rfl (by kernel_rfl) rfl (by kernel_rfl) (fun w=>by kernel_rfl) (by kernel_rfl) ?_
   refine (p_Kind hS58).mono ?_
   rintro _ w59 ⟨rfl,hS61⟩; clear hS58
   refine ⟨⟨_,hS61.pick1⟩,?_⟩
   intro a60 hF62; clear hF56
   refine any_many 2 [(4,some (.bool ((aKind s0.a.c i1.buf) != 2))),(5,some (.bool ((aKind s0.a.c i1.buf) != 2)))] [3,5,13,14,15,16,17,18,19,20,21,22,23,24,25,26] #[true,true,true,true,true,true,false,false,false,false,false,false,false,false,false,false,false,false,false] (by rfl) hF62 (by kernel_rfl) (by kernel_rfl) (by exact ⟨fun wS hw=>by kernel_rfl,fun wS hw=>by kernel_rfl,trivial⟩) (fun _ _ _ _ _ h=>h) ⟨_,hS61.pick1⟩ (l':=[(13,.bool ((aKind s0.a.c i1.buf) != 2)),(5,nP ab0 0),(3,nB w)]) (by kernel_rfl) ?_
   intro a64 hF63; clear hF62
   cases hc65:((aKind s0.a.c i1.buf) != 2)
   case true =>
    rw [hc65] at hF63
    have hm66:=ifYes hc65 hm; clear hm
    refine any_many 13 [(6,none),(7,none),(8,none),(9,none),(10,none),(11,none),(12,none),(13,some (.bool true)),(14,some (.bool true)),(15,none),(16,none),(17,none),(18,some (.bool true))] [3,26] #[true,true,true,true,true,true,true,true,true,true,true,true,true,true,true,true,true,true,true] (by rfl) hF63 (by kernel_rfl) (by kernel_rfl) (by exact (And.intro trivial (And.intro trivial (And.intro trivial (And.intro trivial (And.intro trivial (And.intro trivial (And.intro trivial (And.intro (fun wS hw=>by kernel_rfl) (And.intro (fun wS hw=>by kernel_rfl) (And.intro trivial (And.intro trivial (And.intro trivial (And.intro (fun wS hw=>by kernel_rfl) trivial)))))))))))))) (fun _ _ _ _ _ h=>h) ⟨_,hS61.pick1⟩ (l':=[(26,.bool true),(3,nB w)]) (by kernel_rfl) ?_
    intro a68 hF67; clear hF63
    refine any_done (by kernel_rfl) ?_
    exact thenN ⟨true,hF67,hS61,hm66⟩
   rw [hc65] at hF63
   have hm69:=ifNot hc65 hm; clear hm
   refine any_many 5 [(6,some (nP ab0 0)),(7,some (nP (w.heap.size) 4)),(8,some (nI (i1.buf))),(10,some (nB w)),(11,some (nI (i1.cap)))] [3,13,14,16,17,19,20,21,22,23,24,25,26] #[true,true,true,true,true,true,true,true,true,false,true,true,false,false,false,false,false,false,false] (by rfl) hF63 (by kernel_rfl) (by kernel_rfl) (by exact ⟨fun wS hw=>by kernel_rfl,fun wS hw=>by kernel_rfl,fun wS hw=>hw.elim fun qs hw=>run_loadV rfl rfl (run_loadS rfl rfl (hw.cell 0 rfl 4 rfl)),fun wS hw=>by kernel_rfl,fun wS hw=>hw.elim fun qs hw=>run_loadV rfl rfl (run_loadS rfl rfl (hw.cell 0 rfl 0 rfl)),trivial⟩) (fun _ _ _ _ _ h=>h) ⟨_,hS61.pick1⟩ (l':=[(19,nI (i1.cap)),(16,nI (i1.buf)),(14,nP ab0 0),(13,.bool false),(3,nB w)]) (by kernel_rfl) ?_
   intro a71 hF70; clear hF63
   refine any_call 9 #[true,true,true,true,true,true,true,true,true,true,true,true,false,false,false,false,false,false,false] 78 #[nP ab0 0,nI (i1.buf)] hF70 rfl (by kernel_rfl) rfl rfl (by kernel_rfl) rfl (by kernel_rfl) (fun w=>by kernel_rfl) (by kernel_rfl) ?_
   refine (p_Len hS61).mono ?_
   rintro _ w72 ⟨rfl,hS74⟩; clear hS61
   refine ⟨⟨_,hS74.pick1⟩,?_⟩
   intro a73 hF75; clear hF70
   refine any_many 3 [(12,some (.bool ((aLen s0.a.c i1.buf) != i1.cap))),(13,some (.bool ((aLen s0.a.c i1.buf) != i1.cap))),(14,some (.bool ((aLen s0.a.c i1.buf) != i1.cap)))] [3,22,23,24,25,26] #[true,true,true,true,true,true,true,true,true,true,true,true,true,true,true,false,false,false,false] (by rfl) hF75 (by kernel_rfl) (by kernel_rfl) (by exact ⟨fun wS hw=>by kernel_rfl,fun wS hw=>by kernel_rfl,fun wS hw=>by kernel_rfl,trivial⟩) (fun _ _ _ _ _ h=>h) ⟨_,hS74.pick1⟩ (l':=[(22,.bool ((aLen s0.a.c i1.buf) != i1.cap)),(3,nB w)]) (by kernel_rfl) ?_
   intro a77 hF76; clear hF75
   cases hc78:((aLen s0.a.c i1.buf) != i1.cap)
   case true =>
    rw [hc78] at hF76
    have hm79:=ifYes hc78 hm69; clear hm69
    refine any_many 4 [(15,none),(16,none),(17,none),(18,some (.bool true))] [3,26] #[true,true,true,true,true,true,true,true,true,true,true,true,true,true,true,true,true,true,true] (by rfl) hF76 (by kernel_rfl) (by kernel_rfl) (by exact (And.intro trivial (And.intro trivial (And.intro trivial (And.intro (fun wS hw=>by kernel_rfl) trivial))))) (fun _ _ _ _ _ h=>h) ⟨_,hS74.pick1⟩ (l':=[(26,.bool true),(3,nB w)]) (by kernel_rfl) ?_
    intro a81 hF80; clear hF76
    refine any_done (by kernel_rfl) ?_
    exact thenN ⟨true,hF80,hS74,hm79⟩
   rw [hc78] at hF76
   have hm82:=ifNot hc78 hm69; clear hm69
   refine any_many 4 [(15,some (nB w)),(16,some (nI (i1.cap))),(17,some (.bool (decide (i1.cap<1)))),(18,some (.bool (decide (i1.cap<1))))] [3,26] #[true,true,true,true,true,true,true,true,true,true,true,true,true,true,true,true,true,true,true] (by rfl) hF76 (by kernel_rfl) (by kernel_rfl) (by exact ⟨fun wS hw=>by kernel_rfl,fun wS hw=>hw.elim fun qs hw=>run_loadV rfl rfl (run_loadS rfl rfl (hw.cell 0 rfl 0 rfl)),fun wS hw=>by kernel_rfl,fun wS hw=>by kernel_rfl,trivial⟩) (fun _ _ _ _ _ h=>h) ⟨_,hS74.pick1⟩ (l':=[(26,.bool (decide (i1.cap<1))),(3,nB w)]) (by kernel_rfl) ?_
   intro a84 hF83; clear hF76
   refine any_done (by kernel_rfl) ?_
   exact thenN ⟨decide (i1.cap<1),hF83,hS74,hm82⟩
def ring_Put.m (k:Nat) (s0:HSt) (i1:Int) (i2:Int):Option (Int×HSt):=bind2 (pChan i1 s0) fun q5 x6=>(if (x6 != 0) then some (x6,s0) else bind2 (ring_of.m k s0 (⟨q5.cap,q5.closed,q5.count,q5.start,q5.buf,q5.th,q5.tt,q5.sh,q5.st⟩:Ch)) fun o39 s40=>optE o39 (some (9,s40)) fun q65=>(if (decide (q65.count ≥ q65.cap)) then some (9,s40) else (if (q65.cap == 0) then none else bind2 (pStore q65.buf (Int.tmod (IntKind.i64.wrap (q65.start+q65.count)) q65.cap) i2 s40) fun x102 s103=>bind2 (pPutChan i1 (⟨q5.cap,q5.closed,IntKind.i64.wrap (q65.count+1),q5.start,q5.buf,q5.th,q5.tt,q5.sh,q5.st⟩:Ch) s103) fun x129 s130=>some (x129,s130))))
set_option maxRecDepth 100000 in
set_option maxHeartbeats 1500000 in
theorem ring_Put.ok {w0 w:World} {F0:List Nat} {ps:List Piece} {k:Nat} {b0 ab0:Nat} {s0:HSt} {i1:Int} {i2:Int} {r0:Int} {t0:HSt} (hS:St w0 F0 (HeapP b0 ab0 s0::ps) w) (hm:ring_Put.m k s0 i1 i2=some (r0,t0)) :
    Calls Tryz.prog 71 #[nP b0 0,nI i1,nI i2] w fun e w'=>e=.returned (.int .i64 r0)∧St w0 F0 (HeapP b0 ab0 t0::ps) w':=by
 refine ev_enterL 57 [nP b0 0,nI i1,nI i2] Tryz.func71 rfl rfl (by simp) ?_
 intro a hF
 have hF0:Fr 57 a [(0,nP b0 0),(1,nI i1),(2,nI i2)]:=hF; clear hF
 unfold ring_Put.m at hm
 refine wp_seq (wp_region_lit ?_)
 refine ev_runK 1 hF0 [0,1,2] (l':=[(0,nP b0 0),(1,nI i1),(2,nI i2)]) (w':=w) (by kernel_rfl) ?_
 intro a2 hF1; clear hF0
 refine wpList_nil (thenN (wp_seq (wp_region_lit ?_)))
 refine ev_runs 2 hF1 (l':=[(13,nI i1),(12,nP b0 0),(0,nP b0 0),(1,nI i1),(2,nI i2)]) (w':=w) (by kernel_rfl) ?_
 intro a4 hF3; clear hF1
 refine ev_call 30 #[nP b0 0,nI i1] hF3 rfl rfl (by kernel_rfl) rfl (by kernel_rfl) (fun w=>by kernel_rfl) ?_
 obtain ⟨q5,x6,hx7,hm8⟩:=bind2E hm; clear hm
 refine (p_Chan hS hx7).mono ?_
 rintro _ w9 ⟨rfl,hS11⟩ a10 hF12; clear hF3 hS
 refine ev_runs 4 hF12 (l':=[(7,nB w9),(16,nI x6),(15,.agg #[nI (q5.cap),nI (q5.closed),nI (q5.count),nI (q5.start),nI (q5.buf),nI (q5.th),nI (q5.tt),nI (q5.sh),nI (q5.st)]),(11,.tuple #[.agg #[nI (q5.cap),nI (q5.closed),nI (q5.count),nI (q5.start),nI (q5.buf),nI (q5.th),nI (q5.tt),nI (q5.sh),nI (q5.st)],nI x6]),(14,.tuple #[.agg #[nI (q5.cap),nI (q5.closed),nI (q5.count),nI (q5.start),nI (q5.buf),nI (q5.th),nI (q5.tt),nI (q5.sh),nI (q5.st)],nI x6]),(13,nI i1),(12,nP b0 0),(0,nP b0 0),(1,nI i1),(2,nI i2)]) (w':=w9.alloc (.cells #[nI 0,nI 0,nI 0,nI 0,nI 0,nI 0,nI 0,nI 0,nI 0] 57)) (by kernel_rfl) ?_
 intro a14 hF13; clear hF12
 have hS16:St w0 F0 (BlkP (w9.heap.size) 57 #[nI 0,nI 0,nI 0,nI 0,nI 0,nI 0,nI 0,nI 0,nI 0]::HeapP b0 ab0 s0::ps) (w9.alloc (.cells #[nI 0,nI 0,nI 0,nI 0,nI 0,nI 0,nI 0,nI 0,nI 0] 57)):=St.new hS11 #[nI 0,nI 0,nI 0,nI 0,nI 0,nI 0,nI 0,nI 0,nI 0] 57
 clear hS11
 refine ev_store (.agg #[nI (q5.cap),nI (q5.closed),nI (q5.count),nI (q5.start),nI (q5.buf),nI (q5.th),nI (q5.tt),nI (q5.sh),nI (q5.st)]) #[nI (q5.cap),nI (q5.closed),nI (q5.count),nI (q5.start),nI (q5.buf),nI (q5.th),nI (q5.tt),nI (q5.sh),nI (q5.st)] hF13 (by kernel_rfl) rfl rfl rfl rfl (by kernel_rfl) hS16 (by kernel_rfl) (by kernel_rfl) (by kernel_rfl) (l':=[(7,nB w9),(16,nI x6),(15,.agg #[nI (q5.cap),nI (q5.closed),nI (q5.count),nI (q5.start),nI (q5.buf),nI (q5.th),nI (q5.tt),nI (q5.sh),nI (q5.st)]),(11,.tuple #[.agg #[nI (q5.cap),nI (q5.closed),nI (q5.count),nI (q5.start),nI (q5.buf),nI (q5.th),nI (q5.tt),nI (q5.sh),nI (q5.st)],nI x6]),(14,.tuple #[.agg #[nI (q5.cap),nI (q5.closed),nI (q5.count),nI (q5.start),nI (q5.buf),nI (q5.th),nI (q5.tt),nI (q5.sh),nI (q5.st)],nI x6]),(13,nI i1),(12,nP b0 0),(0,nP b0 0),(1,nI i1),(2,nI i2)]) (by kernel_rfl) ?_
 intro w17 a18 hS19 hF20; clear hF13 hS16
 refine ev_runK 1 hF20 [0,1,2,7,8] (l':=[(8,nI x6),(7,nB w9),(0,nP b0 0),(1,nI i1),(2,nI i2)]) (w':=w17) (by kernel_rfl) ?_
 intro a22 hF21; clear hF20
 refine wpList_nil (thenN (wp_seq (wp_seq (wp_region_lit ?_))))
 refine ev_runK 2 hF21 [0,1,2,7,8,18] (l':=[(18,.bool (x6 != 0)),(8,nI x6),(7,nB w9),(0,nP b0 0),(1,nI i1),(2,nI i2)]) (w':=w17) (by kernel_rfl) ?_
 intro a24 hF23; clear hF21
 refine wpList_nil (thenN ?_)
 cases hc25:(x6 != 0)
 case true =>
  rw [hc25] at hF23
  have hm26:=ifYes hc25 hm8; clear hm8
  refine ev_condT hF23 rfl rfl ?_
  refine wp_seq (wp_region_lit ?_)
  refine ev_runK 2 hF23 [6] (l':=[(6,nI x6)]) (w':=w17) (by kernel_rfl) ?_
  intro a28 hF27; clear hF23
  refine wpList_nil ?_
  have hS29:=hS19.drop
  clear hS19
  refine thenN ?_
  refine wp_ret ?_
  refine thenR ?_
  simp only [Option.some.injEq,Prod.mk.injEq] at hm26
  obtain ⟨rfl,rfl⟩:=hm26
  refine ev_ret hF27 [6] (nI x6) rfl rfl rfl ?_
  exact ⟨rfl,hS29⟩
 rw [hc25] at hF23
 have hm32:=ifNot hc25 hm8; clear hm8
 refine ev_condF hF23 rfl rfl ?_
 refine wp_skip ?_
 have hF33:=hF23.keep [0,1,2,7]
 clear hF23
 refine thenN (wp_seq (wp_region_lit ?_))
 refine ev_runs 1 hF33 (l':=[(21,nP b0 0),(7,nB w9),(0,nP b0 0),(1,nI i1),(2,nI i2)]) (w':=w17) (by kernel_rfl) ?_
 intro a35 hF34; clear hF33
 refine ev_one (.agg #[nI (q5.cap),nI (q5.closed),nI (q5.count),nI (q5.start),nI (q5.buf),nI (q5.th),nI (q5.tt),nI (q5.sh),nI (q5.st)]) w17 hF34 (by kernel_rfl) rfl (by kernel_rfl) (run_loadV rfl rfl (run_loadA (cs:=[nI (q5.cap),nI (q5.closed),nI (q5.count),nI (q5.start),nI (q5.buf),nI (q5.th),nI (q5.tt),nI (q5.sh),nI (q5.st)]) rfl rfl (by kernel_rfl) (blk_cells hS19 0 rfl rfl))) (l':=[(22,.agg #[nI (q5.cap),nI (q5.closed),nI (q5.count),nI (q5.start),nI (q5.buf),nI (q5.th),nI (q5.tt),nI (q5.sh),nI (q5.st)]),(21,nP b0 0),(7,nB w9),(0,nP b0 0),(1,nI i1),(2,nI i2)]) (by kernel_rfl) ?_
 intro a37 hF36; clear hF34
 have hS38:=hS19.pick1
 clear hS19
 refine ev_call 115 #[nP b0 0,.agg #[nI (q5.cap),nI (q5.closed),nI (q5.count),nI (q5.start),nI (q5.buf),nI (q5.th),nI (q5.tt),nI (q5.sh),nI (q5.st)]] hF36 rfl rfl (by kernel_rfl) rfl (by kernel_rfl) (fun w=>by kernel_rfl) ?_
 obtain ⟨o39,s40,hx41,hm42⟩:=bind2E hm32; clear hm32
 refine (ring_of.ok hS38 hx41).mono ?_
 rintro _ w43 ⟨rfl,hS45⟩ a44 hF46; clear hF36 hS38
 cases o39 with
 | none =>
  have hm47:=optN hm42; clear hm42
  refine ev_runs 5 hF46 (l':=[(9,nB w43),(26,.bool false),(25,.agg #[nI 0,nI 0,nI 0,nI 0]),(20,.tuple #[.agg #[nI 0,nI 0,nI 0,nI 0],.bool false]),(24,.tuple #[.agg #[nI 0,nI 0,nI 0,nI 0],.bool false]),(23,.nilIface),(22,.agg #[nI (q5.cap),nI (q5.closed),nI (q5.count),nI (q5.start),nI (q5.buf),nI (q5.th),nI (q5.tt),nI (q5.sh),nI (q5.st)]),(21,nP b0 0),(7,nB w9),(0,nP b0 0),(1,nI i1),(2,nI i2)]) (w':=w43.alloc (.cells #[nI 0,nI 0,nI 0,nI 0] 176)) (by kernel_rfl) ?_
  intro a49 hF48; clear hF46
  have hS51:St w0 F0 (BlkP (w43.heap.size) 176 #[nI 0,nI 0,nI 0,nI 0]::HeapP b0 ab0 s40::BlkP (w9.heap.size) 57 #[nI (q5.cap),nI (q5.closed),nI (q5.count),nI (q5.start),nI (q5.buf),nI (q5.th),nI (q5.tt),nI (q5.sh),nI (q5.st)]::ps) (w43.alloc (.cells #[nI 0,nI 0,nI 0,nI 0] 176)):=St.new hS45 #[nI 0,nI 0,nI 0,nI 0] 176
  clear hS45
  refine ev_store (.agg #[nI 0,nI 0,nI 0,nI 0]) #[nI 0,nI 0,nI 0,nI 0] hF48 (by kernel_rfl) rfl rfl rfl rfl (by kernel_rfl) hS51 (by kernel_rfl) (by kernel_rfl) (by kernel_rfl) (l':=[(9,nB w43),(26,.bool false),(25,.agg #[nI 0,nI 0,nI 0,nI 0]),(20,.tuple #[.agg #[nI 0,nI 0,nI 0,nI 0],.bool false]),(24,.tuple #[.agg #[nI 0,nI 0,nI 0,nI 0],.bool false]),(23,.nilIface),(22,.agg #[nI (q5.cap),nI (q5.closed),nI (q5.count),nI (q5.start),nI (q5.buf),nI (q5.th),nI (q5.tt),nI (q5.sh),nI (q5.st)]),(21,nP b0 0),(7,nB w9),(0,nP b0 0),(1,nI i1),(2,nI i2)]) (by kernel_rfl) ?_
  intro w52 a53 hS54 hF55; clear hF48 hS51
  refine ev_runK 1 hF55 [0,1,2,7,9,10] (l':=[(10,.bool false),(9,nB w43),(7,nB w9),(0,nP b0 0),(1,nI i1),(2,nI i2)]) (w':=w52) (by kernel_rfl) ?_
  intro a57 hF56; clear hF55
  refine wpList_nil (thenN (wp_seq (wp_seq (wp_region_lit ?_))))
  refine ev_runK 9 hF56 [0,1,2,7,9,35] (l':=[(35,.bool true),(9,nB w43),(7,nB w9),(0,nP b0 0),(1,nI i1),(2,nI i2)]) (w':=w52) (by kernel_rfl) ?_
  intro a59 hF58; clear hF56
  refine wpList_nil (thenN ?_)
  refine ev_condT hF58 rfl rfl ?_
  refine wp_seq (wp_region_lit ?_)
  refine ev_runK 1 hF58 [6] (l':=[(6,nI 9)]) (w':=w52) (by kernel_rfl) ?_
  intro a61 hF60; clear hF58
  refine wpList_nil ?_
  have hS62:=hS54.drop.pick1.drop
  clear hS54
  refine thenN ?_
  refine wp_ret ?_
  refine thenR ?_
  simp only [Option.some.injEq,Prod.mk.injEq] at hm47
  obtain ⟨rfl,rfl⟩:=hm47
  refine ev_ret hF60 [6] (nI 9) rfl rfl rfl ?_
  exact ⟨rfl,hS62⟩
 | some q65 =>
  have hm66:=optS hm42; clear hm42
  refine ev_runs 5 hF46 (l':=[(9,nB w43),(26,.bool true),(25,.agg #[nI (q65.buf),nI (q65.cap),nI (q65.count),nI (q65.start)]),(20,.tuple #[.agg #[nI (q65.buf),nI (q65.cap),nI (q65.count),nI (q65.start)],.bool true]),(24,.tuple #[.agg #[nI (q65.buf),nI (q65.cap),nI (q65.count),nI (q65.start)],.bool true]),(23,.iface 176 (.agg #[nI (q65.buf),nI (q65.cap),nI (q65.count),nI (q65.start)])),(22,.agg #[nI (q5.cap),nI (q5.closed),nI (q5.count),nI (q5.start),nI (q5.buf),nI (q5.th),nI (q5.tt),nI (q5.sh),nI (q5.st)]),(21,nP b0 0),(7,nB w9),(0,nP b0 0),(1,nI i1),(2,nI i2)]) (w':=w43.alloc (.cells #[nI 0,nI 0,nI 0,nI 0] 176)) (by kernel_rfl) ?_
  intro a68 hF67; clear hF46
  have hS70:St w0 F0 (BlkP (w43.heap.size) 176 #[nI 0,nI 0,nI 0,nI 0]::HeapP b0 ab0 s40::BlkP (w9.heap.size) 57 #[nI (q5.cap),nI (q5.closed),nI (q5.count),nI (q5.start),nI (q5.buf),nI (q5.th),nI (q5.tt),nI (q5.sh),nI (q5.st)]::ps) (w43.alloc (.cells #[nI 0,nI 0,nI 0,nI 0] 176)):=St.new hS45 #[nI 0,nI 0,nI 0,nI 0] 176
  clear hS45
  refine ev_store (.agg #[nI (q65.buf),nI (q65.cap),nI (q65.count),nI (q65.start)]) #[nI (q65.buf),nI (q65.cap),nI (q65.count),nI (q65.start)] hF67 (by kernel_rfl) rfl rfl rfl rfl (by kernel_rfl) hS70 (by kernel_rfl) (by kernel_rfl) (by kernel_rfl) (l':=[(9,nB w43),(26,.bool true),(25,.agg #[nI (q65.buf),nI (q65.cap),nI (q65.count),nI (q65.start)]),(20,.tuple #[.agg #[nI (q65.buf),nI (q65.cap),nI (q65.count),nI (q65.start)],.bool true]),(24,.tuple #[.agg #[nI (q65.buf),nI (q65.cap),nI (q65.count),nI (q65.start)],.bool true]),(23,.iface 176 (.agg #[nI (q65.buf),nI (q65.cap),nI (q65.count),nI (q65.start)])),(22,.agg #[nI (q5.cap),nI (q5.closed),nI (q5.count),nI (q5.start),nI (q5.buf),nI (q5.th),nI (q5.tt),nI (q5.sh),nI (q5.st)]),(21,nP b0 0),(7,nB w9),(0,nP b0 0),(1,nI i1),(2,nI i2)]) (by kernel_rfl) ?_
  intro w71 a72 hS73 hF74; clear hF67 hS70
  refine ev_runK 1 hF74 [0,1,2,7,9,10] (l':=[(10,.bool true),(9,nB w43),(7,nB w9),(0,nP b0 0),(1,nI i1),(2,nI i2)]) (w':=w71) (by kernel_rfl) ?_
  intro a76 hF75; clear hF74
  refine wpList_nil (thenN (wp_seq (wp_seq (wp_region_lit ?_))))
  refine ev_runs 4 hF75 (l':=[(30,nP (w43.heap.size) 2),(29,.bool false),(28,.bool false),(27,.bool true),(10,.bool true),(9,nB w43),(7,nB w9),(0,nP b0 0),(1,nI i1),(2,nI i2)]) (w':=w71) (by kernel_rfl) ?_
  intro a78 hF77; clear hF75
  refine ev_one (nI (q65.count)) w71 hF77 (by kernel_rfl) rfl (by kernel_rfl) (run_loadV rfl rfl (run_loadS rfl rfl (hS73.cell 0 rfl 2 rfl))) (l':=[(31,nI (q65.count)),(30,nP (w43.heap.size) 2),(29,.bool false),(28,.bool false),(27,.bool true),(10,.bool true),(9,nB w43),(7,nB w9),(0,nP b0 0),(1,nI i1),(2,nI i2)]) (by kernel_rfl) ?_
  intro a80 hF79; clear hF77
  refine ev_runs 1 hF79 (l':=[(32,nP (w43.heap.size) 1),(31,nI (q65.count)),(30,nP (w43.heap.size) 2),(29,.bool false),(28,.bool false),(27,.bool true),(10,.bool true),(9,nB w43),(7,nB w9),(0,nP b0 0),(1,nI i1),(2,nI i2)]) (w':=w71) (by kernel_rfl) ?_
  intro a82 hF81; clear hF79
  refine ev_one (nI (q65.cap)) w71 hF81 (by kernel_rfl) rfl (by kernel_rfl) (run_loadV rfl rfl (run_loadS rfl rfl (hS73.cell 0 rfl 1 rfl))) (l':=[(33,nI (q65.cap)),(32,nP (w43.heap.size) 1),(31,nI (q65.count)),(30,nP (w43.heap.size) 2),(29,.bool false),(28,.bool false),(27,.bool true),(10,.bool true),(9,nB w43),(7,nB w9),(0,nP b0 0),(1,nI i1),(2,nI i2)]) (by kernel_rfl) ?_
  intro a84 hF83; clear hF81
  refine ev_runK 2 hF83 [0,1,2,7,9,35] (l':=[(35,.bool (decide (q65.count ≥ q65.cap))),(9,nB w43),(7,nB w9),(0,nP b0 0),(1,nI i1),(2,nI i2)]) (w':=w71) (by kernel_rfl) ?_
  intro a86 hF85; clear hF83
  refine wpList_nil (thenN ?_)
  cases hc87:(decide (q65.count ≥ q65.cap))
  case true =>
   rw [hc87] at hF85
   have hm88:=ifYes hc87 hm66; clear hm66
   refine ev_condT hF85 rfl rfl ?_
   refine wp_seq (wp_region_lit ?_)
   refine ev_runK 1 hF85 [6] (l':=[(6,nI 9)]) (w':=w71) (by kernel_rfl) ?_
   intro a90 hF89; clear hF85
   refine wpList_nil ?_
   have hS91:=hS73.drop.pick1.drop
   clear hS73
   refine thenN ?_
   refine wp_ret ?_
   refine thenR ?_
   simp only [Option.some.injEq,Prod.mk.injEq] at hm88
   obtain ⟨rfl,rfl⟩:=hm88
   refine ev_ret hF89 [6] (nI 9) rfl rfl rfl ?_
   exact ⟨rfl,hS91⟩
  rw [hc87] at hF85
  have hm94:=ifNot hc87 hm66; clear hm66
  refine ev_condF hF85 rfl rfl ?_
  refine wp_skip ?_
  have hF95:=hF85.keep [0,1,2,7,9]
  clear hF85
  refine thenN (wp_seq ?_)
  obtain ⟨hc96,hm97⟩:=ifFE hm94; clear hm94
  have hS98:=hS73.drew; clear hS73
  refine any_start (fun wS=>∃ qs,St w0 F0 (BlkP (w43.heap.size) 176 #[nI (q65.buf),nI (q65.cap),nI (q65.count),nI (q65.start)]::qs) wS) 13 #[false,false,false,false,false,false,false,false,false,false,false,false,false] (by kernel_rfl) (by kernel_rfl) (by kernel_rfl) ?_
  refine any_many 12 [(0,some (nP b0 0)),(1,some (nB w43)),(2,some (nI (q65.buf))),(3,some (nP (w43.heap.size) 3)),(4,some (nI (q65.start))),(5,some (nP (w43.heap.size) 2)),(6,some (nI (q65.count))),(7,some (nI (IntKind.i64.wrap (q65.start+q65.count)))),(8,some (nP (w43.heap.size) 1)),(9,some (nI (q65.cap))),(10,some (nI (Int.tmod (IntKind.i64.wrap (q65.start+q65.count)) q65.cap))),(11,some (nI i2))] [0,1,7,9,36,38,46,47] #[true,true,true,true,true,true,true,true,true,true,true,true,false] (by rfl) hF95 (by kernel_rfl) (by kernel_rfl) (by exact ⟨fun wS hw=>by kernel_rfl,fun wS hw=>by kernel_rfl,fun wS hw=>hw.elim fun qs hw=>run_loadV rfl rfl (run_loadS rfl rfl (hw.cell 0 rfl 0 rfl)),fun wS hw=>by kernel_rfl,fun wS hw=>hw.elim fun qs hw=>run_loadV rfl rfl (run_loadS rfl rfl (hw.cell 0 rfl 3 rfl)),fun wS hw=>by kernel_rfl,fun wS hw=>hw.elim fun qs hw=>run_loadV rfl rfl (run_loadS rfl rfl (hw.cell 0 rfl 2 rfl)),fun wS hw=>by kernel_rfl,fun wS hw=>by kernel_rfl,fun wS hw=>hw.elim fun qs hw=>run_loadV rfl rfl (run_loadS rfl rfl (hw.cell 0 rfl 1 rfl)),fun wS hw=>run_rem rfl rfl rfl hc96 _,fun wS hw=>by kernel_rfl,trivial⟩) (fun _ _ _ _ _ h=>h) ⟨_,hS98⟩ (l':=[(47,nI i2),(46,nI (Int.tmod (IntKind.i64.wrap (q65.start+q65.count)) q65.cap)),(38,nI (q65.buf)),(36,nP b0 0),(9,nB w43),(7,nB w9),(0,nP b0 0),(1,nI i1)]) (by kernel_rfl) ?_
  intro a100 hF99; clear hF95
  have hS101:=hS98.pick1
  clear hS98
  refine any_call 12 #[true,true,true,true,true,true,true,true,true,true,true,true,true] 40 #[nP b0 0,nI (q65.buf),nI (Int.tmod (IntKind.i64.wrap (q65.start+q65.count)) q65.cap),nI i2] hF99 rfl (by kernel_rfl) rfl rfl (by kernel_rfl) rfl (by kernel_rfl) (fun w=>by kernel_rfl) (by kernel_rfl) ?_
  obtain ⟨x102,s103,hx104,hm105⟩:=bind2E hm97; clear hm97
  refine (p_Store hS101 hx104).mono ?_
  rintro _ w106 ⟨rfl,hS108⟩; clear hS101
  refine ⟨⟨_,hS108.pick1⟩,?_⟩
  intro a107 hF109; clear hF99
  refine any_done (by kernel_rfl) ?_
  have hF110:=hF109.keep [0,1,7,9]
  clear hF109
  refine thenN (wp_seq (wp_region_lit ?_))
  refine ev_runs 1 hF110 (l':=[(49,nP (w43.heap.size) 2),(9,nB w43),(7,nB w9),(0,nP b0 0),(1,nI i1)]) (w':=w106) (by kernel_rfl) ?_
  intro a112 hF111; clear hF110
  refine ev_one (nI (q65.count)) w106 hF111 (by kernel_rfl) rfl (by kernel_rfl) (run_loadV rfl rfl (run_loadS rfl rfl (hS108.cell 1 rfl 2 rfl))) (l':=[(50,nI (q65.count)),(49,nP (w43.heap.size) 2),(9,nB w43),(7,nB w9),(0,nP b0 0),(1,nI i1)]) (by kernel_rfl) ?_
  intro a114 hF113; clear hF111
  refine ev_runs 2 hF113 (l':=[(52,nP (w9.heap.size) 2),(51,nI (IntKind.i64.wrap (q65.count+1))),(50,nI (q65.count)),(49,nP (w43.heap.size) 2),(9,nB w43),(7,nB w9),(0,nP b0 0),(1,nI i1)]) (w':=w106) (by kernel_rfl) ?_
  intro a116 hF115; clear hF113
  have hS117:=hS108.pick2
  clear hS108
  refine ev_store (nI (IntKind.i64.wrap (q65.count+1))) #[nI (q5.cap),nI (q5.closed),nI (IntKind.i64.wrap (q65.count+1)),nI (q5.start),nI (q5.buf),nI (q5.th),nI (q5.tt),nI (q5.sh),nI (q5.st)] hF115 (by kernel_rfl) rfl rfl rfl rfl (by kernel_rfl) hS117 (by kernel_rfl) (by kernel_rfl) (by kernel_rfl) (l':=[(52,nP (w9.heap.size) 2),(51,nI (IntKind.i64.wrap (q65.count+1))),(50,nI (q65.count)),(49,nP (w43.heap.size) 2),(9,nB w43),(7,nB w9),(0,nP b0 0),(1,nI i1)]) (by kernel_rfl) ?_
  intro w118 a119 hS120 hF121; clear hF115 hS117
  refine wpList_nil ?_
  have hF122:=hF121.keep [0,1,7]
  clear hF121
  have hS123:=hS120.pick2.drop
  clear hS120
  refine thenN (wp_seq (wp_region_lit ?_))
  refine ev_runs 2 hF122 (l':=[(54,nI i1),(53,nP b0 0),(7,nB w9),(0,nP b0 0),(1,nI i1)]) (w':=w118) (by kernel_rfl) ?_
  intro a125 hF124; clear hF122
  refine ev_one (.agg #[nI (q5.cap),nI (q5.closed),nI (IntKind.i64.wrap (q65.count+1)),nI (q5.start),nI (q5.buf),nI (q5.th),nI (q5.tt),nI (q5.sh),nI (q5.st)]) w118 hF124 (by kernel_rfl) rfl (by kernel_rfl) (run_loadV rfl rfl (run_loadA (cs:=[nI (q5.cap),nI (q5.closed),nI (IntKind.i64.wrap (q65.count+1)),nI (q5.start),nI (q5.buf),nI (q5.th),nI (q5.tt),nI (q5.sh),nI (q5.st)]) rfl rfl (by kernel_rfl) (blk_cells hS123 0 rfl rfl))) (l':=[(55,.agg #[nI (q5.cap),nI (q5.closed),nI (IntKind.i64.wrap (q65.count+1)),nI (q5.start),nI (q5.buf),nI (q5.th),nI (q5.tt),nI (q5.sh),nI (q5.st)]),(54,nI i1),(53,nP b0 0),(7,nB w9),(0,nP b0 0),(1,nI i1)]) (by kernel_rfl) ?_
  intro a127 hF126; clear hF124
  have hS128:=hS123.pick1
  clear hS123
  refine ev_call 32 #[nP b0 0,nI i1,.agg #[nI (q5.cap),nI (q5.closed),nI (IntKind.i64.wrap (q65.count+1)),nI (q5.start),nI (q5.buf),nI (q5.th),nI (q5.tt),nI (q5.sh),nI (q5.st)]] hF126 rfl rfl (by kernel_rfl) rfl (by kernel_rfl) (fun w=>by kernel_rfl) ?_
  obtain ⟨x129,s130,hx131,hm132⟩:=bind2E hm105; clear hm105
  refine (p_PutChan hS128 hx131).mono ?_
  rintro _ w133 ⟨rfl,hS135⟩ a134 hF136; clear hF126 hS128
  refine ev_runK 1 hF136 [6] (l':=[(6,nI x129)]) (w':=w133) (by kernel_rfl) ?_
  intro a138 hF137; clear hF136
  refine wpList_nil ?_
  have hS139:=hS135.pick1.drop
  clear hS135
  refine thenN ?_
  refine wp_ret ?_
  simp only [Option.some.injEq,Prod.mk.injEq] at hm132
  obtain ⟨rfl,rfl⟩:=hm132
  refine ev_ret hF137 [6] (nI x129) rfl rfl rfl ?_
  exact ⟨rfl,hS139⟩
end Go.Proofs.YtgejcjcpchofiaaGreat
