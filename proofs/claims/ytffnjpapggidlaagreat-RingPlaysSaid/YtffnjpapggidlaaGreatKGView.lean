/- GView GRing -/
import Derived.Test.YtffnjpapggidlaaGreatKPrimV
import Derived.Test.YtffnjpapggidlaaGreatKGHelp
import Derived.Deep.LoopGhost
import Derived.KernelRfl
namespace Go.Proofs.YtffnjpapggidlaaGreat
open Go.RowKit
set_option linter.unusedVariables false
end Go.Proofs.YtffnjpapggidlaaGreat
namespace Go.Proofs.YtffnjpapggidlaaGreat
open Go.RowKit
set_option linter.unusedVariables false
def ring_of.j1 (s0:HSt) (i1:Ch) (y16:Bool):Option (Option Rm×HSt):=(if (y16) then some (none,s0) else some ((some (⟨i1.buf,i1.cap,if 0 > i1.count then 0 else i1.count,if 0 > i1.start then 0 else i1.start⟩:Rm)),s0))
def ring_of.m (k:Nat) (s0:HSt) (i1:Ch):Option (Option Rm×HSt):=(if ((aKind s0.a.c i1.buf) != 2) then ring_of.j1 s0 i1 true else (if ((aLen s0.a.c i1.buf) != i1.cap) then ring_of.j1 s0 i1 true else ring_of.j1 s0 i1 (decide (i1.cap<1))))
set_option maxRecDepth 100000 in
set_option maxHeartbeats 1500000 in
theorem ring_of.ok {w0 w:World} {F0:List Nat} {ps:List Piece} {k:Nat} {b0 ab0:Nat} {s0:HSt} {i1:Ch} {r0:Option Rm} {t0:HSt} (hS:St w0 F0 (HeapP b0 ab0 s0::ps) w) (hm:ring_of.m k s0 i1=some (r0,t0)) :
    Calls Tryz.prog 137 #[nP b0 0,.agg #[nI (i1.cap),nI (i1.closed),nI (i1.count),nI (i1.start),nI (i1.buf),nI (i1.th),nI (i1.tt),nI (i1.sh),nI (i1.st)]] w fun e w'=>e=.returned (oRmV 188 r0)∧St w0 F0 (HeapP b0 ab0 t0::ps) w':=by
 refine ev_enterL 39 [nP b0 0,.agg #[nI (i1.cap),nI (i1.closed),nI (i1.count),nI (i1.start),nI (i1.buf),nI (i1.th),nI (i1.tt),nI (i1.sh),nI (i1.st)]] Tryz.func137 rfl rfl (by simp) ?_
 intro a hF
 have hF0:Fr 39 a [(0,nP b0 0),(1,.agg #[nI (i1.cap),nI (i1.closed),nI (i1.count),nI (i1.start),nI (i1.buf),nI (i1.th),nI (i1.tt),nI (i1.sh),nI (i1.st)])]:=hF; clear hF
 unfold ring_of.m at hm
 refine wp_seq (wp_region_lit ?_)
 refine ev_runs 1 hF0 (l':=[(3,nB w),(0,nP b0 0),(1,.agg #[nI (i1.cap),nI (i1.closed),nI (i1.count),nI (i1.start),nI (i1.buf),nI (i1.th),nI (i1.tt),nI (i1.sh),nI (i1.st)])]) (w':=w.alloc (.cells #[nI (i1.cap),nI (i1.closed),nI (i1.count),nI (i1.start),nI (i1.buf),nI (i1.th),nI (i1.tt),nI (i1.sh),nI (i1.st)] 23)) (by kernel_rfl) ?_
 intro a2 hF1; clear hF0
 have hS4:St w0 F0 (BlkP (w.heap.size) 23 #[nI (i1.cap),nI (i1.closed),nI (i1.count),nI (i1.start),nI (i1.buf),nI (i1.th),nI (i1.tt),nI (i1.sh),nI (i1.st)]::HeapP b0 ab0 s0::ps) (w.alloc (.cells #[nI (i1.cap),nI (i1.closed),nI (i1.count),nI (i1.start),nI (i1.buf),nI (i1.th),nI (i1.tt),nI (i1.sh),nI (i1.st)] 23)):=St.new hS #[nI (i1.cap),nI (i1.closed),nI (i1.count),nI (i1.start),nI (i1.buf),nI (i1.th),nI (i1.tt),nI (i1.sh),nI (i1.st)] 23
 refine ev_runK 1 hF1 [0,3] (l':=[(3,nB w),(0,nP b0 0)]) (w':=w.alloc (.cells #[nI (i1.cap),nI (i1.closed),nI (i1.count),nI (i1.start),nI (i1.buf),nI (i1.th),nI (i1.tt),nI (i1.sh),nI (i1.st)] 23)) (by kernel_rfl) ?_
 intro a6 hF5; clear hF1
 refine wpList_nil (thenN (wp_seq (wp_region_lit ?_)))
 refine ev_runs 1 hF5 (l':=[(6,nP b0 0),(3,nB w),(0,nP b0 0)]) (w':=w.alloc (.cells #[nI (i1.cap),nI (i1.closed),nI (i1.count),nI (i1.start),nI (i1.buf),nI (i1.th),nI (i1.tt),nI (i1.sh),nI (i1.st)] 23)) (by kernel_rfl) ?_
 intro a8 hF7; clear hF5
 have hS9:=hS4.pick1
 clear hS4
 refine ev_call 34 #[nP b0 0] hF7 rfl rfl (by kernel_rfl) rfl (by kernel_rfl) (fun w=>by kernel_rfl) ?_
 refine (p_Arena hS9).mono ?_
 rintro _ w10 ⟨rfl,hS12⟩ a11 hF13; clear hF7 hS9
 refine ev_runK 1 hF13 [3,5] (l':=[(5,nP ab0 0),(3,nB w)]) (w':=w10) (by kernel_rfl) ?_
 intro a15 hF14; clear hF13
 refine wpList_nil (thenN (wp_seq (wp_seq ?_)))
 refine joinQ (fun aI wI=>∃ (y16:Bool),Fr 39 aI [(26,.bool (y16)),(3,nB w)]∧St w0 F0 (HeapP b0 ab0 s0::BlkP (w.heap.size) 23 #[nI (i1.cap),nI (i1.closed),nI (i1.count),nI (i1.start),nI (i1.buf),nI (i1.th),nI (i1.tt),nI (i1.sh),nI (i1.st)]::ps) wI∧ring_of.j1 s0 i1 y16=some (r0,t0)) ?_ ?_
 rotate_left
 · rintro a18 w19 ⟨y16,hF20,hS21,hm22⟩
   clear hF14 hS12 hm
   unfold ring_of.j1 at hm22
   refine thenN ?_
   cases hc24:(y16)
   case true =>
    rw [hc24] at hF20
    have hm25:=ifYes hc24 hm22; clear hm22
    refine ev_condT hF20 rfl rfl ?_
    refine wp_seq (wp_region_lit ?_)
    refine ev_runK 1 hF20 [4] (l':=[(4,.nilIface)]) (w':=w19) (by kernel_rfl) ?_
    intro a27 hF26; clear hF20
    refine wpList_nil ?_
    have hS28:=hS21.pick1.drop
    clear hS21
    refine thenN ?_
    refine wp_ret ?_
    refine thenR ?_
    simp only [Option.some.injEq,Prod.mk.injEq] at hm25
    obtain ⟨rfl,rfl⟩:=hm25
    refine ev_ret hF26 [4] (.nilIface) rfl rfl rfl ?_
    exact ⟨rfl,hS28⟩
   rw [hc24] at hF20
   have hm31:=ifNot hc24 hm22; clear hm22
   refine ev_condF hF20 rfl rfl ?_
   refine wp_skip ?_
   have hF32:=hF20.keep [3]
   clear hF20
   refine thenN (wp_seq (wp_region_lit ?_))
   refine ev_runs 1 hF32 (l':=[(27,nP (w.heap.size) 4),(3,nB w)]) (w':=w19) (by kernel_rfl) ?_
   intro a34 hF33; clear hF32
   refine ev_one (nI (i1.buf)) w19 hF33 (by kernel_rfl) rfl (by kernel_rfl) (run_loadV rfl rfl (run_loadS rfl rfl (hS21.cell 1 rfl 4 rfl))) (l':=[(28,nI (i1.buf)),(27,nP (w.heap.size) 4),(3,nB w)]) (by kernel_rfl) ?_
   intro a36 hF35; clear hF33
   refine ev_runs 1 hF35 (l':=[(29,nB w),(28,nI (i1.buf)),(27,nP (w.heap.size) 4),(3,nB w)]) (w':=w19) (by kernel_rfl) ?_
   intro a38 hF37; clear hF35
   refine ev_one (nI (i1.cap)) w19 hF37 (by kernel_rfl) rfl (by kernel_rfl) (run_loadV rfl rfl (run_loadS rfl rfl (hS21.cell 1 rfl 0 rfl))) (l':=[(30,nI (i1.cap)),(29,nB w),(28,nI (i1.buf)),(27,nP (w.heap.size) 4),(3,nB w)]) (by kernel_rfl) ?_
   intro a40 hF39; clear hF37
   refine ev_runs 1 hF39 (l':=[(31,nP (w.heap.size) 2),(30,nI (i1.cap)),(29,nB w),(28,nI (i1.buf)),(27,nP (w.heap.size) 4),(3,nB w)]) (w':=w19) (by kernel_rfl) ?_
   intro a42 hF41; clear hF39
   refine ev_one (nI (i1.count)) w19 hF41 (by kernel_rfl) rfl (by kernel_rfl) (run_loadV rfl rfl (run_loadS rfl rfl (hS21.cell 1 rfl 2 rfl))) (l':=[(32,nI (i1.count)),(31,nP (w.heap.size) 2),(30,nI (i1.cap)),(29,nB w),(28,nI (i1.buf)),(27,nP (w.heap.size) 4),(3,nB w)]) (by kernel_rfl) ?_
   intro a44 hF43; clear hF41
   refine ev_runs 2 hF43 (l':=[(34,nP (w.heap.size) 3),(33,nI (if 0 > i1.count then 0 else i1.count)),(32,nI (i1.count)),(31,nP (w.heap.size) 2),(30,nI (i1.cap)),(29,nB w),(28,nI (i1.buf)),(27,nP (w.heap.size) 4),(3,nB w)]) (w':=w19) (by kernel_rfl) ?_
   intro a46 hF45; clear hF43
   refine ev_one (nI (i1.start)) w19 hF45 (by kernel_rfl) rfl (by kernel_rfl) (run_loadV rfl rfl (run_loadS rfl rfl (hS21.cell 1 rfl 3 rfl))) (l':=[(35,nI (i1.start)),(34,nP (w.heap.size) 3),(33,nI (if 0 > i1.count then 0 else i1.count)),(32,nI (i1.count)),(31,nP (w.heap.size) 2),(30,nI (i1.cap)),(29,nB w),(28,nI (i1.buf)),(27,nP (w.heap.size) 4),(3,nB w)]) (by kernel_rfl) ?_
   intro a48 hF47; clear hF45
   refine ev_runK 4 hF47 [4] (l':=[(4,.iface 188 (.agg #[nI (i1.buf),nI (i1.cap),nI (if 0 > i1.count then 0 else i1.count),nI (if 0 > i1.start then 0 else i1.start)]))]) (w':=w19) (by kernel_rfl) ?_
   intro a50 hF49; clear hF47
   refine wpList_nil ?_
   have hS51:=hS21.pick1.drop
   clear hS21
   refine thenN ?_
   refine wp_ret ?_
   simp only [Option.some.injEq,Prod.mk.injEq] at hm31
   obtain ⟨rfl,rfl⟩:=hm31
   refine ev_ret hF49 [4] (.iface 188 (.agg #[nI (i1.buf),nI (i1.cap),nI (if 0 > i1.count then 0 else i1.count),nI (if 0 > i1.start then 0 else i1.start)])) rfl rfl rfl ?_
   exact ⟨rfl,hS51⟩
 · skip
   have hS54:=hS12.pick1
   clear hS12
   have hS55:=hS54.drew; clear hS54
   refine any_start (fun wS=>∃ qs,St w0 F0 (BlkP (w.heap.size) 23 #[nI (i1.cap),nI (i1.closed),nI (i1.count),nI (i1.start),nI (i1.buf),nI (i1.th),nI (i1.tt),nI (i1.sh),nI (i1.st)]::qs) wS) 19 #[false,false,false,false,false,false,false,false,false,false,false,false,false,false,false,false,false,false,false] (by kernel_rfl) (by kernel_rfl) (by kernel_rfl) ?_
   refine any_many 3 [(0,some (nP ab0 0)),(1,some (nP (w.heap.size) 4)),(2,some (nI (i1.buf)))] [3,5,8,10,11,12,13,14,15,16,17,18,19,20,21,22,23,24,25,26] #[true,true,true,false,false,false,false,false,false,false,false,false,false,false,false,false,false,false,false] (by rfl) hF14 (by kernel_rfl) (by kernel_rfl) (by exact ⟨fun wS hw=>by kernel_rfl,fun wS hw=>by kernel_rfl,fun wS hw=>hw.elim fun qs hw=>run_loadV rfl rfl (run_loadS rfl rfl (hw.cell 0 rfl 4 rfl)),trivial⟩) (fun _ _ _ _ _ h=>h) ⟨_,hS55⟩ (l':=[(10,nI (i1.buf)),(8,nP ab0 0),(5,nP ab0 0),(3,nB w)]) (by kernel_rfl) ?_
   intro a57 hF56; clear hF14
   have hS58:=hS55.pick1
   clear hS55
   refine any_call 3 #[true,true,true,true,false,false,false,false,false,false,false,false,false,false,false,false,false,false,false] 43 #[nP ab0 0,nI (i1.buf)] hF56 rfl (by kernel_rfl) rfl rfl (by kernel_rfl) rfl (by kernel_rfl) (fun w=>by kernel_rfl) (by kernel_rfl) ?_
   refine (p_Kind hS58).mono ?_
   rintro _ w59 ⟨rfl,hS61⟩; clear hS58
   refine ⟨⟨_,hS61.pick1⟩,?_⟩
   intro a60 hF62; clear hF56
   refine any_many 2 [(4,some (.bool ((aKind s0.a.c i1.buf) != 2))),(5,some (.bool ((aKind s0.a.c i1.buf) != 2)))] [3,5,13,14,15,16,17,18,19,20,21,22,23,24,25,26] #[true,true,true,true,true,true,false,false,false,false,false,false,false,false,false,false,false,false,false] (by rfl) hF62 (by kernel_rfl) (by kernel_rfl) (by exact ⟨fun wS hw=>by kernel_rfl,fun wS hw=>by kernel_rfl,trivial⟩) (fun _ _ _ _ _ h=>h) ⟨_,hS61.pick1⟩ (l':=[(13,.bool ((aKind s0.a.c i1.buf) != 2)),(5,nP ab0 0),(3,nB w)]) (by kernel_rfl) ?_
   intro a64 hF63; clear hF62
   cases hc65:((aKind s0.a.c i1.buf) != 2)
   case true =>
    rw [hc65] at hF63
    have hm66:=ifYes hc65 hm; clear hm
    refine any_many 13 [(6,none),(7,none),(8,none),(9,none),(10,none),(11,none),(12,none),(13,some (.bool true)),(14,some (.bool true)),(15,none),(16,none),(17,none),(18,some (.bool true))] [3,26] #[true,true,true,true,true,true,true,true,true,true,true,true,true,true,true,true,true,true,true] (by rfl) hF63 (by kernel_rfl) (by kernel_rfl) (by exact (And.intro trivial (And.intro trivial (And.intro trivial (And.intro trivial (And.intro trivial (And.intro trivial (And.intro trivial (And.intro (fun wS hw=>by kernel_rfl) (And.intro (fun wS hw=>by kernel_rfl) (And.intro trivial (And.intro trivial (And.intro trivial (And.intro (fun wS hw=>by kernel_rfl) trivial)))))))))))))) (fun _ _ _ _ _ h=>h) ⟨_,hS61.pick1⟩ (l':=[(26,.bool true),(3,nB w)]) (by kernel_rfl) ?_
    intro a68 hF67; clear hF63
    refine any_done (by kernel_rfl) ?_
    exact thenN ⟨true,hF67,hS61,hm66⟩
   rw [hc65] at hF63
   have hm69:=ifNot hc65 hm; clear hm
   refine any_many 5 [(6,some (nP ab0 0)),(7,some (nP (w.heap.size) 4)),(8,some (nI (i1.buf))),(10,some (nB w)),(11,some (nI (i1.cap)))] [3,13,14,16,17,19,20,21,22,23,24,25,26] #[true,true,true,true,true,true,true,true,true,false,true,true,false,false,false,false,false,false,false] (by rfl) hF63 (by kernel_rfl) (by kernel_rfl) (by exact ⟨fun wS hw=>by kernel_rfl,fun wS hw=>by kernel_rfl,fun wS hw=>hw.elim fun qs hw=>run_loadV rfl rfl (run_loadS rfl rfl (hw.cell 0 rfl 4 rfl)),fun wS hw=>by kernel_rfl,fun wS hw=>hw.elim fun qs hw=>run_loadV rfl rfl (run_loadS rfl rfl (hw.cell 0 rfl 0 rfl)),trivial⟩) (fun _ _ _ _ _ h=>h) ⟨_,hS61.pick1⟩ (l':=[(19,nI (i1.cap)),(16,nI (i1.buf)),(14,nP ab0 0),(13,.bool false),(3,nB w)]) (by kernel_rfl) ?_
   intro a71 hF70; clear hF63
   refine any_call 9 #[true,true,true,true,true,true,true,true,true,true,true,true,false,false,false,false,false,false,false] 38 #[nP ab0 0,nI (i1.buf)] hF70 rfl (by kernel_rfl) rfl rfl (by kernel_rfl) rfl (by kernel_rfl) (fun w=>by kernel_rfl) (by kernel_rfl) ?_
   refine (p_Len hS61).mono ?_
   rintro _ w72 ⟨rfl,hS74⟩; clear hS61
   refine ⟨⟨_,hS74.pick1⟩,?_⟩
   intro a73 hF75; clear hF70
   refine any_many 3 [(12,some (.bool ((aLen s0.a.c i1.buf) != i1.cap))),(13,some (.bool ((aLen s0.a.c i1.buf) != i1.cap))),(14,some (.bool ((aLen s0.a.c i1.buf) != i1.cap)))] [3,22,23,24,25,26] #[true,true,true,true,true,true,true,true,true,true,true,true,true,true,true,false,false,false,false] (by rfl) hF75 (by kernel_rfl) (by kernel_rfl) (by exact ⟨fun wS hw=>by kernel_rfl,fun wS hw=>by kernel_rfl,fun wS hw=>by kernel_rfl,trivial⟩) (fun _ _ _ _ _ h=>h) ⟨_,hS74.pick1⟩ (l':=[(22,.bool ((aLen s0.a.c i1.buf) != i1.cap)),(3,nB w)]) (by kernel_rfl) ?_
   intro a77 hF76; clear hF75
   cases hc78:((aLen s0.a.c i1.buf) != i1.cap)
   case true =>
    rw [hc78] at hF76
    have hm79:=ifYes hc78 hm69; clear hm69
    refine any_many 4 [(15,none),(16,none),(17,none),(18,some (.bool true))] [3,26] #[true,true,true,true,true,true,true,true,true,true,true,true,true,true,true,true,true,true,true] (by rfl) hF76 (by kernel_rfl) (by kernel_rfl) (by exact (And.intro trivial (And.intro trivial (And.intro trivial (And.intro (fun wS hw=>by kernel_rfl) trivial))))) (fun _ _ _ _ _ h=>h) ⟨_,hS74.pick1⟩ (l':=[(26,.bool true),(3,nB w)]) (by kernel_rfl) ?_
    intro a81 hF80; clear hF76
    refine any_done (by kernel_rfl) ?_
    exact thenN ⟨true,hF80,hS74,hm79⟩
   rw [hc78] at hF76
   have hm82:=ifNot hc78 hm69; clear hm69
   refine any_many 4 [(15,some (nB w)),(16,some (nI (i1.cap))),(17,some (.bool (decide (i1.cap<1)))),(18,some (.bool (decide (i1.cap<1))))] [3,26] #[true,true,true,true,true,true,true,true,true,true,true,true,true,true,true,true,true,true,true] (by rfl) hF76 (by kernel_rfl) (by kernel_rfl) (by exact ⟨fun wS hw=>by kernel_rfl,fun wS hw=>hw.elim fun qs hw=>run_loadV rfl rfl (run_loadS rfl rfl (hw.cell 0 rfl 0 rfl)),fun wS hw=>by kernel_rfl,fun wS hw=>by kernel_rfl,trivial⟩) (fun _ _ _ _ _ h=>h) ⟨_,hS74.pick1⟩ (l':=[(26,.bool (decide (i1.cap<1))),(3,nB w)]) (by kernel_rfl) ?_
   intro a84 hF83; clear hF76
   refine any_done (by kernel_rfl) ?_
   exact thenN ⟨decide (i1.cap<1),hF83,hS74,hm82⟩
def ring_Put.m (k:Nat) (s0:HSt) (i1:Int) (i2:Int):Option (Int×HSt):=bind2 (pChan i1 s0) fun q5 x6=>(if (x6 != 0) then some (x6,s0) else bind2 (ring_of.m k s0 (⟨q5.cap,q5.closed,q5.count,q5.start,q5.buf,q5.th,q5.tt,q5.sh,q5.st⟩:Ch)) fun o39 s40=>optE o39 (some (9,s40)) fun q65=>(if (decide (q65.count ≥ q65.cap)) then some (9,s40) else (if (q65.cap == 0) then none else bind2 (pStore q65.buf (Int.tmod (IntKind.i64.wrap (q65.start+q65.count)) q65.cap) i2 s40) fun x102 s103=>bind2 (pPutChan i1 (⟨q5.cap,q5.closed,IntKind.i64.wrap (q65.count+1),q5.start,q5.buf,q5.th,q5.tt,q5.sh,q5.st⟩:Ch) s103) fun x129 s130=>some (x129,s130))))
set_option maxRecDepth 100000 in
set_option maxHeartbeats 1500000 in
theorem ring_Put.ok {w0 w:World} {F0:List Nat} {ps:List Piece} {k:Nat} {b0 ab0:Nat} {s0:HSt} {i1:Int} {i2:Int} {r0:Int} {t0:HSt} (hS:St w0 F0 (HeapP b0 ab0 s0::ps) w) (hm:ring_Put.m k s0 i1 i2=some (r0,t0)) :
    Calls Tryz.prog 61 #[nP b0 0,nI i1,nI i2] w fun e w'=>e=.returned (.int .i64 r0)∧St w0 F0 (HeapP b0 ab0 t0::ps) w':=by
 refine ev_enterL 57 [nP b0 0,nI i1,nI i2] Tryz.func61 rfl rfl (by simp) ?_
 intro a hF
 have hF0:Fr 57 a [(0,nP b0 0),(1,nI i1),(2,nI i2)]:=hF; clear hF
 unfold ring_Put.m at hm
 refine wp_seq (wp_region_lit ?_)
 refine ev_runK 1 hF0 [0,1,2] (l':=[(0,nP b0 0),(1,nI i1),(2,nI i2)]) (w':=w) (by kernel_rfl) ?_
 intro a2 hF1; clear hF0
 refine wpList_nil (thenN (wp_seq (wp_region_lit ?_)))
 refine ev_runs 2 hF1 (l':=[(13,nI i1),(12,nP b0 0),(0,nP b0 0),(1,nI i1),(2,nI i2)]) (w':=w) (by kernel_rfl) ?_
 intro a4 hF3; clear hF1
 refine ev_call 25 #[nP b0 0,nI i1] hF3 rfl rfl (by kernel_rfl) rfl (by kernel_rfl) (fun w=>by kernel_rfl) ?_
 obtain ⟨q5,x6,hx7,hm8⟩:=bind2E hm; clear hm
 refine (p_Chan hS hx7).mono ?_
 rintro _ w9 ⟨rfl,hS11⟩ a10 hF12; clear hF3 hS
 refine ev_runs 4 hF12 (l':=[(7,nB w9),(16,nI x6),(15,.agg #[nI (q5.cap),nI (q5.closed),nI (q5.count),nI (q5.start),nI (q5.buf),nI (q5.th),nI (q5.tt),nI (q5.sh),nI (q5.st)]),(11,.tuple #[.agg #[nI (q5.cap),nI (q5.closed),nI (q5.count),nI (q5.start),nI (q5.buf),nI (q5.th),nI (q5.tt),nI (q5.sh),nI (q5.st)],nI x6]),(14,.tuple #[.agg #[nI (q5.cap),nI (q5.closed),nI (q5.count),nI (q5.start),nI (q5.buf),nI (q5.th),nI (q5.tt),nI (q5.sh),nI (q5.st)],nI x6]),(13,nI i1),(12,nP b0 0),(0,nP b0 0),(1,nI i1),(2,nI i2)]) (w':=w9.alloc (.cells #[nI 0,nI 0,nI 0,nI 0,nI 0,nI 0,nI 0,nI 0,nI 0] 23)) (by kernel_rfl) ?_
 intro a14 hF13; clear hF12
 have hS16:St w0 F0 (BlkP (w9.heap.size) 23 #[nI 0,nI 0,nI 0,nI 0,nI 0,nI 0,nI 0,nI 0,nI 0]::HeapP b0 ab0 s0::ps) (w9.alloc (.cells #[nI 0,nI 0,nI 0,nI 0,nI 0,nI 0,nI 0,nI 0,nI 0] 23)):=St.new hS11 #[nI 0,nI 0,nI 0,nI 0,nI 0,nI 0,nI 0,nI 0,nI 0] 23
 clear hS11
 refine ev_store (.agg #[nI (q5.cap),nI (q5.closed),nI (q5.count),nI (q5.start),nI (q5.buf),nI (q5.th),nI (q5.tt),nI (q5.sh),nI (q5.st)]) #[nI (q5.cap),nI (q5.closed),nI (q5.count),nI (q5.start),nI (q5.buf),nI (q5.th),nI (q5.tt),nI (q5.sh),nI (q5.st)] hF13 (by kernel_rfl) rfl rfl rfl rfl (by kernel_rfl) hS16 (by kernel_rfl) (by kernel_rfl) (by kernel_rfl) (l':=[(7,nB w9),(16,nI x6),(15,.agg #[nI (q5.cap),nI (q5.closed),nI (q5.count),nI (q5.start),nI (q5.buf),nI (q5.th),nI (q5.tt),nI (q5.sh),nI (q5.st)]),(11,.tuple #[.agg #[nI (q5.cap),nI (q5.closed),nI (q5.count),nI (q5.start),nI (q5.buf),nI (q5.th),nI (q5.tt),nI (q5.sh),nI (q5.st)],nI x6]),(14,.tuple #[.agg #[nI (q5.cap),nI (q5.closed),nI (q5.count),nI (q5.start),nI (q5.buf),nI (q5.th),nI (q5.tt),nI (q5.sh),nI (q5.st)],nI x6]),(13,nI i1),(12,nP b0 0),(0,nP b0 0),(1,nI i1),(2,nI i2)]) (by kernel_rfl) ?_
 intro w17 a18 hS19 hF20; clear hF13 hS16
 refine ev_runK 1 hF20 [0,1,2,7,8] (l':=[(8,nI x6),(7,nB w9),(0,nP b0 0),(1,nI i1),(2,nI i2)]) (w':=w17) (by kernel_rfl) ?_
 intro a22 hF21; clear hF20
 refine wpList_nil (thenN (wp_seq (wp_seq (wp_region_lit ?_))))
 refine ev_runK 2 hF21 [0,1,2,7,8,18] (l':=[(18,.bool (x6 != 0)),(8,nI x6),(7,nB w9),(0,nP b0 0),(1,nI i1),(2,nI i2)]) (w':=w17) (by kernel_rfl) ?_
 intro a24 hF23; clear hF21
 refine wpList_nil (thenN ?_)
 cases hc25:(x6 != 0)
 case true =>
  rw [hc25] at hF23
  have hm26:=ifYes hc25 hm8; clear hm8
  refine ev_condT hF23 rfl rfl ?_
  refine wp_seq (wp_region_lit ?_)
  refine ev_runK 2 hF23 [6] (l':=[(6,nI x6)]) (w':=w17) (by kernel_rfl) ?_
  intro a28 hF27; clear hF23
  refine wpList_nil ?_
  have hS29:=hS19.drop
  clear hS19
  refine thenN ?_
  refine wp_ret ?_
  refine thenR ?_
  simp only [Option.some.injEq,Prod.mk.injEq] at hm26
  obtain ⟨rfl,rfl⟩:=hm26
  refine ev_ret hF27 [6] (nI x6) rfl rfl rfl ?_
  exact ⟨rfl,hS29⟩
 rw [hc25] at hF23
 have hm32:=ifNot hc25 hm8; clear hm8
 refine ev_condF hF23 rfl rfl ?_
 refine wp_skip ?_
 have hF33:=hF23.keep [0,1,2,7]
 clear hF23
 refine thenN (wp_seq (wp_region_lit ?_))
 refine ev_runs 1 hF33 (l':=[(21,nP b0 0),(7,nB w9),(0,nP b0 0),(1,nI i1),(2,nI i2)]) (w':=w17) (by kernel_rfl) ?_
 intro a35 hF34; clear hF33
 refine ev_one (.agg #[nI (q5.cap),nI (q5.closed),nI (q5.count),nI (q5.start),nI (q5.buf),nI (q5.th),nI (q5.tt),nI (q5.sh),nI (q5.st)]) w17 hF34 (by kernel_rfl) rfl (by kernel_rfl) (run_loadV rfl rfl (run_loadA (cs:=[nI (q5.cap),nI (q5.closed),nI (q5.count),nI (q5.start),nI (q5.buf),nI (q5.th),nI (q5.tt),nI (q5.sh),nI (q5.st)]) rfl rfl (by kernel_rfl) (blk_cells hS19 0 rfl rfl))) (l':=[(22,.agg #[nI (q5.cap),nI (q5.closed),nI (q5.count),nI (q5.start),nI (q5.buf),nI (q5.th),nI (q5.tt),nI (q5.sh),nI (q5.st)]),(21,nP b0 0),(7,nB w9),(0,nP b0 0),(1,nI i1),(2,nI i2)]) (by kernel_rfl) ?_
 intro a37 hF36; clear hF34
 have hS38:=hS19.pick1
 clear hS19
 refine ev_call 137 #[nP b0 0,.agg #[nI (q5.cap),nI (q5.closed),nI (q5.count),nI (q5.start),nI (q5.buf),nI (q5.th),nI (q5.tt),nI (q5.sh),nI (q5.st)]] hF36 rfl rfl (by kernel_rfl) rfl (by kernel_rfl) (fun w=>by kernel_rfl) ?_
 obtain ⟨o39,s40,hx41,hm42⟩:=bind2E hm32; clear hm32
 refine (ring_of.ok hS38 hx41).mono ?_
 rintro _ w43 ⟨rfl,hS45⟩ a44 hF46; clear hF36 hS38
 cases o39 with
 | none =>
  have hm47:=optN hm42; clear hm42
  refine ev_runs 5 hF46 (l':=[(9,nB w43),(26,.bool false),(25,.agg #[nI 0,nI 0,nI 0,nI 0]),(20,.tuple #[.agg #[nI 0,nI 0,nI 0,nI 0],.bool false]),(24,.tuple #[.agg #[nI 0,nI 0,nI 0,nI 0],.bool false]),(23,.nilIface),(22,.agg #[nI (q5.cap),nI (q5.closed),nI (q5.count),nI (q5.start),nI (q5.buf),nI (q5.th),nI (q5.tt),nI (q5.sh),nI (q5.st)]),(21,nP b0 0),(7,nB w9),(0,nP b0 0),(1,nI i1),(2,nI i2)]) (w':=w43.alloc (.cells #[nI 0,nI 0,nI 0,nI 0] 188)) (by kernel_rfl) ?_
  intro a49 hF48; clear hF46
  have hS51:St w0 F0 (BlkP (w43.heap.size) 188 #[nI 0,nI 0,nI 0,nI 0]::HeapP b0 ab0 s40::BlkP (w9.heap.size) 23 #[nI (q5.cap),nI (q5.closed),nI (q5.count),nI (q5.start),nI (q5.buf),nI (q5.th),nI (q5.tt),nI (q5.sh),nI (q5.st)]::ps) (w43.alloc (.cells #[nI 0,nI 0,nI 0,nI 0] 188)):=St.new hS45 #[nI 0,nI 0,nI 0,nI 0] 188
  clear hS45
  refine ev_store (.agg #[nI 0,nI 0,nI 0,nI 0]) #[nI 0,nI 0,nI 0,nI 0] hF48 (by kernel_rfl) rfl rfl rfl rfl (by kernel_rfl) hS51 (by kernel_rfl) (by kernel_rfl) (by kernel_rfl) (l':=[(9,nB w43),(26,.bool false),(25,.agg #[nI 0,nI 0,nI 0,nI 0]),(20,.tuple #[.agg #[nI 0,nI 0,nI 0,nI 0],.bool false]),(24,.tuple #[.agg #[nI 0,nI 0,nI 0,nI 0],.bool false]),(23,.nilIface),(22,.agg #[nI (q5.cap),nI (q5.closed),nI (q5.count),nI (q5.start),nI (q5.buf),nI (q5.th),nI (q5.tt),nI (q5.sh),nI (q5.st)]),(21,nP b0 0),(7,nB w9),(0,nP b0 0),(1,nI i1),(2,nI i2)]) (by kernel_rfl) ?_
  intro w52 a53 hS54 hF55; clear hF48 hS51
  refine ev_runK 1 hF55 [0,1,2,7,9,10] (l':=[(10,.bool false),(9,nB w43),(7,nB w9),(0,nP b0 0),(1,nI i1),(2,nI i2)]) (w':=w52) (by kernel_rfl) ?_
  intro a57 hF56; clear hF55
  refine wpList_nil (thenN (wp_seq (wp_seq (wp_region_lit ?_))))
  refine ev_runK 9 hF56 [0,1,2,7,9,35] (l':=[(35,.bool true),(9,nB w43),(7,nB w9),(0,nP b0 0),(1,nI i1),(2,nI i2)]) (w':=w52) (by kernel_rfl) ?_
  intro a59 hF58; clear hF56
  refine wpList_nil (thenN ?_)
  refine ev_condT hF58 rfl rfl ?_
  refine wp_seq (wp_region_lit ?_)
  refine ev_runK 1 hF58 [6] (l':=[(6,nI 9)]) (w':=w52) (by kernel_rfl) ?_
  intro a61 hF60; clear hF58
  refine wpList_nil ?_
  have hS62:=hS54.drop.pick1.drop
  clear hS54
  refine thenN ?_
  refine wp_ret ?_
  refine thenR ?_
  simp only [Option.some.injEq,Prod.mk.injEq] at hm47
  obtain ⟨rfl,rfl⟩:=hm47
  refine ev_ret hF60 [6] (nI 9) rfl rfl rfl ?_
  exact ⟨rfl,hS62⟩
 | some q65 =>
  have hm66:=optS hm42; clear hm42
  refine ev_runs 5 hF46 (l':=[(9,nB w43),(26,.bool true),(25,.agg #[nI (q65.buf),nI (q65.cap),nI (q65.count),nI (q65.start)]),(20,.tuple #[.agg #[nI (q65.buf),nI (q65.cap),nI (q65.count),nI (q65.start)],.bool true]),(24,.tuple #[.agg #[nI (q65.buf),nI (q65.cap),nI (q65.count),nI (q65.start)],.bool true]),(23,.iface 188 (.agg #[nI (q65.buf),nI (q65.cap),nI (q65.count),nI (q65.start)])),(22,.agg #[nI (q5.cap),nI (q5.closed),nI (q5.count),nI (q5.start),nI (q5.buf),nI (q5.th),nI (q5.tt),nI (q5.sh),nI (q5.st)]),(21,nP b0 0),(7,nB w9),(0,nP b0 0),(1,nI i1),(2,nI i2)]) (w':=w43.alloc (.cells #[nI 0,nI 0,nI 0,nI 0] 188)) (by kernel_rfl) ?_
  intro a68 hF67; clear hF46
  have hS70:St w0 F0 (BlkP (w43.heap.size) 188 #[nI 0,nI 0,nI 0,nI 0]::HeapP b0 ab0 s40::BlkP (w9.heap.size) 23 #[nI (q5.cap),nI (q5.closed),nI (q5.count),nI (q5.start),nI (q5.buf),nI (q5.th),nI (q5.tt),nI (q5.sh),nI (q5.st)]::ps) (w43.alloc (.cells #[nI 0,nI 0,nI 0,nI 0] 188)):=St.new hS45 #[nI 0,nI 0,nI 0,nI 0] 188
  clear hS45
  refine ev_store (.agg #[nI (q65.buf),nI (q65.cap),nI (q65.count),nI (q65.start)]) #[nI (q65.buf),nI (q65.cap),nI (q65.count),nI (q65.start)] hF67 (by kernel_rfl) rfl rfl rfl rfl (by kernel_rfl) hS70 (by kernel_rfl) (by kernel_rfl) (by kernel_rfl) (l':=[(9,nB w43),(26,.bool true),(25,.agg #[nI (q65.buf),nI (q65.cap),nI (q65.count),nI (q65.start)]),(20,.tuple #[.agg #[nI (q65.buf),nI (q65.cap),nI (q65.count),nI (q65.start)],.bool true]),(24,.tuple #[.agg #[nI (q65.buf),nI (q65.cap),nI (q65.count),nI (q65.start)],.bool true]),(23,.iface 188 (.agg #[nI (q65.buf),nI (q65.cap),nI (q65.count),nI (q65.start)])),(22,.agg #[nI (q5.cap),nI (q5.closed),nI (q5.count),nI (q5.start),nI (q5.buf),nI (q5.th),nI (q5.tt),nI (q5.sh),nI (q5.st)]),(21,nP b0 0),(7,nB w9),(0,nP b0 0),(1,nI i1),(2,nI i2)]) (by kernel_rfl) ?_
  intro w71 a72 hS73 hF74; clear hF67 hS70
  refine ev_runK 1 hF74 [0,1,2,7,9,10] (l':=[(10,.bool true),(9,nB w43),(7,nB w9),(0,nP b0 0),(1,nI i1),(2,nI i2)]) (w':=w71) (by kernel_rfl) ?_
  intro a76 hF75; clear hF74
  refine wpList_nil (thenN (wp_seq (wp_seq (wp_region_lit ?_))))
  refine ev_runs 4 hF75 (l':=[(30,nP (w43.heap.size) 2),(29,.bool false),(28,.bool false),(27,.bool true),(10,.bool true),(9,nB w43),(7,nB w9),(0,nP b0 0),(1,nI i1),(2,nI i2)]) (w':=w71) (by kernel_rfl) ?_
  intro a78 hF77; clear hF75
  refine ev_one (nI (q65.count)) w71 hF77 (by kernel_rfl) rfl (by kernel_rfl) (run_loadV rfl rfl (run_loadS rfl rfl (hS73.cell 0 rfl 2 rfl))) (l':=[(31,nI (q65.count)),(30,nP (w43.heap.size) 2),(29,.bool false),(28,.bool false),(27,.bool true),(10,.bool true),(9,nB w43),(7,nB w9),(0,nP b0 0),(1,nI i1),(2,nI i2)]) (by kernel_rfl) ?_
  intro a80 hF79; clear hF77
  refine ev_runs 1 hF79 (l':=[(32,nP (w43.heap.size) 1),(31,nI (q65.count)),(30,nP (w43.heap.size) 2),(29,.bool false),(28,.bool false),(27,.bool true),(10,.bool true),(9,nB w43),(7,nB w9),(0,nP b0 0),(1,nI i1),(2,nI i2)]) (w':=w71) (by kernel_rfl) ?_
  intro a82 hF81; clear hF79
  refine ev_one (nI (q65.cap)) w71 hF81 (by kernel_rfl) rfl (by kernel_rfl) (run_loadV rfl rfl (run_loadS rfl rfl (hS73.cell 0 rfl 1 rfl))) (l':=[(33,nI (q65.cap)),(32,nP (w43.heap.size) 1),(31,nI (q65.count)),(30,nP (w43.heap.size) 2),(29,.bool false),(28,.bool false),(27,.bool true),(10,.bool true),(9,nB w43),(7,nB w9),(0,nP b0 0),(1,nI i1),(2,nI i2)]) (by kernel_rfl) ?_
  intro a84 hF83; clear hF81
  refine ev_runK 2 hF83 [0,1,2,7,9,35] (l':=[(35,.bool (decide (q65.count ≥ q65.cap))),(9,nB w43),(7,nB w9),(0,nP b0 0),(1,nI i1),(2,nI i2)]) (w':=w71) (by kernel_rfl) ?_
  intro a86 hF85; clear hF83
  refine wpList_nil (thenN ?_)
  cases hc87:(decide (q65.count ≥ q65.cap))
  case true =>
   rw [hc87] at hF85
   have hm88:=ifYes hc87 hm66; clear hm66
   refine ev_condT hF85 rfl rfl ?_
   refine wp_seq (wp_region_lit ?_)
   refine ev_runK 1 hF85 [6] (l':=[(6,nI 9)]) (w':=w71) (by kernel_rfl) ?_
   intro a90 hF89; clear hF85
   refine wpList_nil ?_
   have hS91:=hS73.drop.pick1.drop
   clear hS73
   refine thenN ?_
   refine wp_ret ?_
   refine thenR ?_
   simp only [Option.some.injEq,Prod.mk.injEq] at hm88
   obtain ⟨rfl,rfl⟩:=hm88
   refine ev_ret hF89 [6] (nI 9) rfl rfl rfl ?_
   exact ⟨rfl,hS91⟩
  rw [hc87] at hF85
  have hm94:=ifNot hc87 hm66; clear hm66
  refine ev_condF hF85 rfl rfl ?_
  refine wp_skip ?_
  have hF95:=hF85.keep [0,1,2,7,9]
  clear hF85
  refine thenN (wp_seq ?_)
  obtain ⟨hc96,hm97⟩:=ifFE hm94; clear hm94
  have hS98:=hS73.drew; clear hS73
  refine any_start (fun wS=>∃ qs,St w0 F0 (BlkP (w43.heap.size) 188 #[nI (q65.buf),nI (q65.cap),nI (q65.count),nI (q65.start)]::qs) wS) 13 #[false,false,false,false,false,false,false,false,false,false,false,false,false] (by kernel_rfl) (by kernel_rfl) (by kernel_rfl) ?_
  refine any_many 12 [(0,some (nP b0 0)),(1,some (nB w43)),(2,some (nI (q65.buf))),(3,some (nP (w43.heap.size) 3)),(4,some (nI (q65.start))),(5,some (nP (w43.heap.size) 2)),(6,some (nI (q65.count))),(7,some (nI (IntKind.i64.wrap (q65.start+q65.count)))),(8,some (nP (w43.heap.size) 1)),(9,some (nI (q65.cap))),(10,some (nI (Int.tmod (IntKind.i64.wrap (q65.start+q65.count)) q65.cap))),(11,some (nI i2))] [0,1,7,9,36,38,46,47] #[true,true,true,true,true,true,true,true,true,true,true,true,false] (by rfl) hF95 (by kernel_rfl) (by kernel_rfl) (by exact ⟨fun wS hw=>by kernel_rfl,fun wS hw=>by kernel_rfl,fun wS hw=>hw.elim fun qs hw=>run_loadV rfl rfl (run_loadS rfl rfl (hw.cell 0 rfl 0 rfl)),fun wS hw=>by kernel_rfl,fun wS hw=>hw.elim fun qs hw=>run_loadV rfl rfl (run_loadS rfl rfl (hw.cell 0 rfl 3 rfl)),fun wS hw=>by kernel_rfl,fun wS hw=>hw.elim fun qs hw=>run_loadV rfl rfl (run_loadS rfl rfl (hw.cell 0 rfl 2 rfl)),fun wS hw=>by kernel_rfl,fun wS hw=>by kernel_rfl,fun wS hw=>hw.elim fun qs hw=>run_loadV rfl rfl (run_loadS rfl rfl (hw.cell 0 rfl 1 rfl)),fun wS hw=>run_rem rfl rfl rfl hc96 _,fun wS hw=>by kernel_rfl,trivial⟩) (fun _ _ _ _ _ h=>h) ⟨_,hS98⟩ (l':=[(47,nI i2),(46,nI (Int.tmod (IntKind.i64.wrap (q65.start+q65.count)) q65.cap)),(38,nI (q65.buf)),(36,nP b0 0),(9,nB w43),(7,nB w9),(0,nP b0 0),(1,nI i1)]) (by kernel_rfl) ?_
  intro a100 hF99; clear hF95
  have hS101:=hS98.pick1
  clear hS98
  refine any_call 12 #[true,true,true,true,true,true,true,true,true,true,true,true,true] 22 #[nP b0 0,nI (q65.buf),nI (Int.tmod (IntKind.i64.wrap (q65.start+q65.count)) q65.cap),nI i2] hF99 rfl (by kernel_rfl) rfl rfl (by kernel_rfl) rfl (by kernel_rfl) (fun w=>by kernel_rfl) (by kernel_rfl) ?_
  obtain ⟨x102,s103,hx104,hm105⟩:=bind2E hm97; clear hm97
  refine (p_Store hS101 hx104).mono ?_
  rintro _ w106 ⟨rfl,hS108⟩; clear hS101
  refine ⟨⟨_,hS108.pick1⟩,?_⟩
  intro a107 hF109; clear hF99
  refine any_done (by kernel_rfl) ?_
  have hF110:=hF109.keep [0,1,7,9]
  clear hF109
  refine thenN (wp_seq (wp_region_lit ?_))
  refine ev_runs 1 hF110 (l':=[(49,nP (w43.heap.size) 2),(9,nB w43),(7,nB w9),(0,nP b0 0),(1,nI i1)]) (w':=w106) (by kernel_rfl) ?_
  intro a112 hF111; clear hF110
  refine ev_one (nI (q65.count)) w106 hF111 (by kernel_rfl) rfl (by kernel_rfl) (run_loadV rfl rfl (run_loadS rfl rfl (hS108.cell 1 rfl 2 rfl))) (l':=[(50,nI (q65.count)),(49,nP (w43.heap.size) 2),(9,nB w43),(7,nB w9),(0,nP b0 0),(1,nI i1)]) (by kernel_rfl) ?_
  intro a114 hF113; clear hF111
  refine ev_runs 2 hF113 (l':=[(52,nP (w9.heap.size) 2),(51,nI (IntKind.i64.wrap (q65.count+1))),(50,nI (q65.count)),(49,nP (w43.heap.size) 2),(9,nB w43),(7,nB w9),(0,nP b0 0),(1,nI i1)]) (w':=w106) (by kernel_rfl) ?_
  intro a116 hF115; clear hF113
  have hS117:=hS108.pick2
  clear hS108
  refine ev_store (nI (IntKind.i64.wrap (q65.count+1))) #[nI (q5.cap),nI (q5.closed),nI (IntKind.i64.wrap (q65.count+1)),nI (q5.start),nI (q5.buf),nI (q5.th),nI (q5.tt),nI (q5.sh),nI (q5.st)] hF115 (by kernel_rfl) rfl rfl rfl rfl (by kernel_rfl) hS117 (by kernel_rfl) (by kernel_rfl) (by kernel_rfl) (l':=[(52,nP (w9.heap.size) 2),(51,nI (IntKind.i64.wrap (q65.count+1))),(50,nI (q65.count)),(49,nP (w43.heap.size) 2),(9,nB w43),(7,nB w9),(0,nP b0 0),(1,nI i1)]) (by kernel_rfl) ?_
  intro w118 a119 hS120 hF121; clear hF115 hS117
  refine wpList_nil ?_
  have hF122:=hF121.keep [0,1,7]
  clear hF121
  have hS123:=hS120.pick2.drop
  clear hS120
  refine thenN (wp_seq (wp_region_lit ?_))
  refine ev_runs 2 hF122 (l':=[(54,nI i1),(53,nP b0 0),(7,nB w9),(0,nP b0 0),(1,nI i1)]) (w':=w118) (by kernel_rfl) ?_
  intro a125 hF124; clear hF122
  refine ev_one (.agg #[nI (q5.cap),nI (q5.closed),nI (IntKind.i64.wrap (q65.count+1)),nI (q5.start),nI (q5.buf),nI (q5.th),nI (q5.tt),nI (q5.sh),nI (q5.st)]) w118 hF124 (by kernel_rfl) rfl (by kernel_rfl) (run_loadV rfl rfl (run_loadA (cs:=[nI (q5.cap),nI (q5.closed),nI (IntKind.i64.wrap (q65.count+1)),nI (q5.start),nI (q5.buf),nI (q5.th),nI (q5.tt),nI (q5.sh),nI (q5.st)]) rfl rfl (by kernel_rfl) (blk_cells hS123 0 rfl rfl))) (l':=[(55,.agg #[nI (q5.cap),nI (q5.closed),nI (IntKind.i64.wrap (q65.count+1)),nI (q5.start),nI (q5.buf),nI (q5.th),nI (q5.tt),nI (q5.sh),nI (q5.st)]),(54,nI i1),(53,nP b0 0),(7,nB w9),(0,nP b0 0),(1,nI i1)]) (by kernel_rfl) ?_
  intro a127 hF126; clear hF124
  have hS128:=hS123.pick1
  clear hS123
  refine ev_call 16 #[nP b0 0,nI i1,.agg #[nI (q5.cap),nI (q5.closed),nI (IntKind.i64.wrap (q65.count+1)),nI (q5.start),nI (q5.buf),nI (q5.th),nI (q5.tt),nI (q5.sh),nI (q5.st)]] hF126 rfl rfl (by kernel_rfl) rfl (by kernel_rfl) (fun w=>by kernel_rfl) ?_
  obtain ⟨x129,s130,hx131,hm132⟩:=bind2E hm105; clear hm105
  refine (p_PutChan hS128 hx131).mono ?_
  rintro _ w133 ⟨rfl,hS135⟩ a134 hF136; clear hF126 hS128
  refine ev_runK 1 hF136 [6] (l':=[(6,nI x129)]) (w':=w133) (by kernel_rfl) ?_
  intro a138 hF137; clear hF136
  refine wpList_nil ?_
  have hS139:=hS135.pick1.drop
  clear hS135
  refine thenN ?_
  refine wp_ret ?_
  simp only [Option.some.injEq,Prod.mk.injEq] at hm132
  obtain ⟨rfl,rfl⟩:=hm132
  refine ev_ret hF137 [6] (nI x129) rfl rfl rfl ?_
  exact ⟨rfl,hS139⟩
def ring_Take.m (k:Nat) (s0:HSt) (i1:Int):Option (Int×Int×HSt):=bind2 (pChan i1 s0) fun q5 x6=>(if (x6 != 0) then some (0,x6,s0) else bind2 (ring_of.m k s0 (⟨q5.cap,q5.closed,q5.count,q5.start,q5.buf,q5.th,q5.tt,q5.sh,q5.st⟩:Ch)) fun o40 s41=>optE o40 (some (0,8,s41)) fun q67=>(if (q67.count == 0) then some (0,8,s41) else (if (q67.cap == 0) then none else bind1 (some (Int.tmod q67.start q67.cap)) fun x109=>bind2 (pLoad q67.buf x109 s41) fun x121 x122=>bind2 (pStore q67.buf x109 0 s41) fun x137 s138=>bind2 (pPutChan i1 (⟨q5.cap,q5.closed,IntKind.i64.wrap (q67.count - 1),Int.tmod (IntKind.i64.wrap (x109+1)) q67.cap,q5.buf,q5.th,q5.tt,q5.sh,q5.st⟩:Ch) s138) fun x168 s169=>some (x121,x168,s169))))
set_option maxRecDepth 100000 in
set_option maxHeartbeats 1500000 in
theorem ring_Take.ok {w0 w:World} {F0:List Nat} {ps:List Piece} {k:Nat} {b0 ab0:Nat} {s0:HSt} {i1:Int} {r0:Int} {r1:Int} {t0:HSt} (hS:St w0 F0 (HeapP b0 ab0 s0::ps) w) (hm:ring_Take.m k s0 i1=some (r0,r1,t0)) :
    Calls Tryz.prog 56 #[nP b0 0,nI i1] w fun e w'=>e=.returned (.tuple #[.int .i64 r0,.int .i64 r1])∧St w0 F0 (HeapP b0 ab0 t0::ps) w':=by
 refine ev_enterL 69 [nP b0 0,nI i1] Tryz.func56 rfl rfl (by simp) ?_
 intro a hF
 have hF0:Fr 69 a [(0,nP b0 0),(1,nI i1)]:=hF; clear hF
 unfold ring_Take.m at hm
 refine wp_seq (wp_region_lit ?_)
 refine ev_runK 2 hF0 [0,1] (l':=[(0,nP b0 0),(1,nI i1)]) (w':=w) (by kernel_rfl) ?_
 intro a2 hF1; clear hF0
 refine wpList_nil (thenN (wp_seq (wp_region_lit ?_)))
 refine ev_runs 2 hF1 (l':=[(15,nI i1),(14,nP b0 0),(0,nP b0 0),(1,nI i1)]) (w':=w) (by kernel_rfl) ?_
 intro a4 hF3; clear hF1
 refine ev_call 25 #[nP b0 0,nI i1] hF3 rfl rfl (by kernel_rfl) rfl (by kernel_rfl) (fun w=>by kernel_rfl) ?_
 obtain ⟨q5,x6,hx7,hm8⟩:=bind2E hm; clear hm
 refine (p_Chan hS hx7).mono ?_
 rintro _ w9 ⟨rfl,hS11⟩ a10 hF12; clear hF3 hS
 refine ev_runs 4 hF12 (l':=[(6,nB w9),(18,nI x6),(17,.agg #[nI (q5.cap),nI (q5.closed),nI (q5.count),nI (q5.start),nI (q5.buf),nI (q5.th),nI (q5.tt),nI (q5.sh),nI (q5.st)]),(13,.tuple #[.agg #[nI (q5.cap),nI (q5.closed),nI (q5.count),nI (q5.start),nI (q5.buf),nI (q5.th),nI (q5.tt),nI (q5.sh),nI (q5.st)],nI x6]),(16,.tuple #[.agg #[nI (q5.cap),nI (q5.closed),nI (q5.count),nI (q5.start),nI (q5.buf),nI (q5.th),nI (q5.tt),nI (q5.sh),nI (q5.st)],nI x6]),(15,nI i1),(14,nP b0 0),(0,nP b0 0),(1,nI i1)]) (w':=w9.alloc (.cells #[nI 0,nI 0,nI 0,nI 0,nI 0,nI 0,nI 0,nI 0,nI 0] 23)) (by kernel_rfl) ?_
 intro a14 hF13; clear hF12
 have hS16:St w0 F0 (BlkP (w9.heap.size) 23 #[nI 0,nI 0,nI 0,nI 0,nI 0,nI 0,nI 0,nI 0,nI 0]::HeapP b0 ab0 s0::ps) (w9.alloc (.cells #[nI 0,nI 0,nI 0,nI 0,nI 0,nI 0,nI 0,nI 0,nI 0] 23)):=St.new hS11 #[nI 0,nI 0,nI 0,nI 0,nI 0,nI 0,nI 0,nI 0,nI 0] 23
 clear hS11
 refine ev_store (.agg #[nI (q5.cap),nI (q5.closed),nI (q5.count),nI (q5.start),nI (q5.buf),nI (q5.th),nI (q5.tt),nI (q5.sh),nI (q5.st)]) #[nI (q5.cap),nI (q5.closed),nI (q5.count),nI (q5.start),nI (q5.buf),nI (q5.th),nI (q5.tt),nI (q5.sh),nI (q5.st)] hF13 (by kernel_rfl) rfl rfl rfl rfl (by kernel_rfl) hS16 (by kernel_rfl) (by kernel_rfl) (by kernel_rfl) (l':=[(6,nB w9),(18,nI x6),(17,.agg #[nI (q5.cap),nI (q5.closed),nI (q5.count),nI (q5.start),nI (q5.buf),nI (q5.th),nI (q5.tt),nI (q5.sh),nI (q5.st)]),(13,.tuple #[.agg #[nI (q5.cap),nI (q5.closed),nI (q5.count),nI (q5.start),nI (q5.buf),nI (q5.th),nI (q5.tt),nI (q5.sh),nI (q5.st)],nI x6]),(16,.tuple #[.agg #[nI (q5.cap),nI (q5.closed),nI (q5.count),nI (q5.start),nI (q5.buf),nI (q5.th),nI (q5.tt),nI (q5.sh),nI (q5.st)],nI x6]),(15,nI i1),(14,nP b0 0),(0,nP b0 0),(1,nI i1)]) (by kernel_rfl) ?_
 intro w17 a18 hS19 hF20; clear hF13 hS16
 refine ev_runK 1 hF20 [0,1,6,7] (l':=[(7,nI x6),(6,nB w9),(0,nP b0 0),(1,nI i1)]) (w':=w17) (by kernel_rfl) ?_
 intro a22 hF21; clear hF20
 refine wpList_nil (thenN (wp_seq (wp_seq (wp_region_lit ?_))))
 refine ev_runK 2 hF21 [0,1,6,7,20] (l':=[(20,.bool (x6 != 0)),(7,nI x6),(6,nB w9),(0,nP b0 0),(1,nI i1)]) (w':=w17) (by kernel_rfl) ?_
 intro a24 hF23; clear hF21
 refine wpList_nil (thenN ?_)
 cases hc25:(x6 != 0)
 case true =>
  rw [hc25] at hF23
  have hm26:=ifYes hc25 hm8; clear hm8
  refine ev_condT hF23 rfl rfl ?_
  refine wp_seq (wp_region_lit ?_)
  refine ev_runK 3 hF23 [4,5] (l':=[(5,nI x6),(4,nI 0)]) (w':=w17) (by kernel_rfl) ?_
  intro a28 hF27; clear hF23
  refine wpList_nil ?_
  have hS29:=hS19.drop
  clear hS19
  refine thenN ?_
  refine wp_ret ?_
  refine thenR ?_
  simp only [Option.some.injEq,Prod.mk.injEq] at hm26
  obtain ⟨rfl,rfl,rfl⟩:=hm26
  refine ev_ret hF27 [4,5] (.tuple #[nI 0,nI x6]) rfl rfl rfl ?_
  exact ⟨rfl,hS29⟩
 rw [hc25] at hF23
 have hm33:=ifNot hc25 hm8; clear hm8
 refine ev_condF hF23 rfl rfl ?_
 refine wp_skip ?_
 have hF34:=hF23.keep [0,1,6]
 clear hF23
 refine thenN (wp_seq (wp_region_lit ?_))
 refine ev_runs 1 hF34 (l':=[(23,nP b0 0),(6,nB w9),(0,nP b0 0),(1,nI i1)]) (w':=w17) (by kernel_rfl) ?_
 intro a36 hF35; clear hF34
 refine ev_one (.agg #[nI (q5.cap),nI (q5.closed),nI (q5.count),nI (q5.start),nI (q5.buf),nI (q5.th),nI (q5.tt),nI (q5.sh),nI (q5.st)]) w17 hF35 (by kernel_rfl) rfl (by kernel_rfl) (run_loadV rfl rfl (run_loadA (cs:=[nI (q5.cap),nI (q5.closed),nI (q5.count),nI (q5.start),nI (q5.buf),nI (q5.th),nI (q5.tt),nI (q5.sh),nI (q5.st)]) rfl rfl (by kernel_rfl) (blk_cells hS19 0 rfl rfl))) (l':=[(24,.agg #[nI (q5.cap),nI (q5.closed),nI (q5.count),nI (q5.start),nI (q5.buf),nI (q5.th),nI (q5.tt),nI (q5.sh),nI (q5.st)]),(23,nP b0 0),(6,nB w9),(0,nP b0 0),(1,nI i1)]) (by kernel_rfl) ?_
 intro a38 hF37; clear hF35
 have hS39:=hS19.pick1
 clear hS19
 refine ev_call 137 #[nP b0 0,.agg #[nI (q5.cap),nI (q5.closed),nI (q5.count),nI (q5.start),nI (q5.buf),nI (q5.th),nI (q5.tt),nI (q5.sh),nI (q5.st)]] hF37 rfl rfl (by kernel_rfl) rfl (by kernel_rfl) (fun w=>by kernel_rfl) ?_
 obtain ⟨o40,s41,hx42,hm43⟩:=bind2E hm33; clear hm33
 refine (ring_of.ok hS39 hx42).mono ?_
 rintro _ w44 ⟨rfl,hS46⟩ a45 hF47; clear hF37 hS39
 cases o40 with
 | none =>
  have hm48:=optN hm43; clear hm43
  refine ev_runs 5 hF47 (l':=[(8,nB w44),(28,.bool false),(27,.agg #[nI 0,nI 0,nI 0,nI 0]),(22,.tuple #[.agg #[nI 0,nI 0,nI 0,nI 0],.bool false]),(26,.tuple #[.agg #[nI 0,nI 0,nI 0,nI 0],.bool false]),(25,.nilIface),(24,.agg #[nI (q5.cap),nI (q5.closed),nI (q5.count),nI (q5.start),nI (q5.buf),nI (q5.th),nI (q5.tt),nI (q5.sh),nI (q5.st)]),(23,nP b0 0),(6,nB w9),(0,nP b0 0),(1,nI i1)]) (w':=w44.alloc (.cells #[nI 0,nI 0,nI 0,nI 0] 188)) (by kernel_rfl) ?_
  intro a50 hF49; clear hF47
  have hS52:St w0 F0 (BlkP (w44.heap.size) 188 #[nI 0,nI 0,nI 0,nI 0]::HeapP b0 ab0 s41::BlkP (w9.heap.size) 23 #[nI (q5.cap),nI (q5.closed),nI (q5.count),nI (q5.start),nI (q5.buf),nI (q5.th),nI (q5.tt),nI (q5.sh),nI (q5.st)]::ps) (w44.alloc (.cells #[nI 0,nI 0,nI 0,nI 0] 188)):=St.new hS46 #[nI 0,nI 0,nI 0,nI 0] 188
  clear hS46
  refine ev_store (.agg #[nI 0,nI 0,nI 0,nI 0]) #[nI 0,nI 0,nI 0,nI 0] hF49 (by kernel_rfl) rfl rfl rfl rfl (by kernel_rfl) hS52 (by kernel_rfl) (by kernel_rfl) (by kernel_rfl) (l':=[(8,nB w44),(28,.bool false),(27,.agg #[nI 0,nI 0,nI 0,nI 0]),(22,.tuple #[.agg #[nI 0,nI 0,nI 0,nI 0],.bool false]),(26,.tuple #[.agg #[nI 0,nI 0,nI 0,nI 0],.bool false]),(25,.nilIface),(24,.agg #[nI (q5.cap),nI (q5.closed),nI (q5.count),nI (q5.start),nI (q5.buf),nI (q5.th),nI (q5.tt),nI (q5.sh),nI (q5.st)]),(23,nP b0 0),(6,nB w9),(0,nP b0 0),(1,nI i1)]) (by kernel_rfl) ?_
  intro w53 a54 hS55 hF56; clear hF49 hS52
  refine ev_runK 1 hF56 [0,1,6,8,9] (l':=[(9,.bool false),(8,nB w44),(6,nB w9),(0,nP b0 0),(1,nI i1)]) (w':=w53) (by kernel_rfl) ?_
  intro a58 hF57; clear hF56
  refine wpList_nil (thenN (wp_seq (wp_seq (wp_region_lit ?_))))
  refine ev_runK 7 hF57 [0,1,6,8,35] (l':=[(35,.bool true),(8,nB w44),(6,nB w9),(0,nP b0 0),(1,nI i1)]) (w':=w53) (by kernel_rfl) ?_
  intro a60 hF59; clear hF57
  refine wpList_nil (thenN ?_)
  refine ev_condT hF59 rfl rfl ?_
  refine wp_seq (wp_region_lit ?_)
  refine ev_runK 2 hF59 [4,5] (l':=[(5,nI 8),(4,nI 0)]) (w':=w53) (by kernel_rfl) ?_
  intro a62 hF61; clear hF59
  refine wpList_nil ?_
  have hS63:=hS55.drop.pick1.drop
  clear hS55
  refine thenN ?_
  refine wp_ret ?_
  refine thenR ?_
  simp only [Option.some.injEq,Prod.mk.injEq] at hm48
  obtain ⟨rfl,rfl,rfl⟩:=hm48
  refine ev_ret hF61 [4,5] (.tuple #[nI 0,nI 8]) rfl rfl rfl ?_
  exact ⟨rfl,hS63⟩
 | some q67 =>
  have hm68:=optS hm43; clear hm43
  refine ev_runs 5 hF47 (l':=[(8,nB w44),(28,.bool true),(27,.agg #[nI (q67.buf),nI (q67.cap),nI (q67.count),nI (q67.start)]),(22,.tuple #[.agg #[nI (q67.buf),nI (q67.cap),nI (q67.count),nI (q67.start)],.bool true]),(26,.tuple #[.agg #[nI (q67.buf),nI (q67.cap),nI (q67.count),nI (q67.start)],.bool true]),(25,.iface 188 (.agg #[nI (q67.buf),nI (q67.cap),nI (q67.count),nI (q67.start)])),(24,.agg #[nI (q5.cap),nI (q5.closed),nI (q5.count),nI (q5.start),nI (q5.buf),nI (q5.th),nI (q5.tt),nI (q5.sh),nI (q5.st)]),(23,nP b0 0),(6,nB w9),(0,nP b0 0),(1,nI i1)]) (w':=w44.alloc (.cells #[nI 0,nI 0,nI 0,nI 0] 188)) (by kernel_rfl) ?_
  intro a70 hF69; clear hF47
  have hS72:St w0 F0 (BlkP (w44.heap.size) 188 #[nI 0,nI 0,nI 0,nI 0]::HeapP b0 ab0 s41::BlkP (w9.heap.size) 23 #[nI (q5.cap),nI (q5.closed),nI (q5.count),nI (q5.start),nI (q5.buf),nI (q5.th),nI (q5.tt),nI (q5.sh),nI (q5.st)]::ps) (w44.alloc (.cells #[nI 0,nI 0,nI 0,nI 0] 188)):=St.new hS46 #[nI 0,nI 0,nI 0,nI 0] 188
  clear hS46
  refine ev_store (.agg #[nI (q67.buf),nI (q67.cap),nI (q67.count),nI (q67.start)]) #[nI (q67.buf),nI (q67.cap),nI (q67.count),nI (q67.start)] hF69 (by kernel_rfl) rfl rfl rfl rfl (by kernel_rfl) hS72 (by kernel_rfl) (by kernel_rfl) (by kernel_rfl) (l':=[(8,nB w44),(28,.bool true),(27,.agg #[nI (q67.buf),nI (q67.cap),nI (q67.count),nI (q67.start)]),(22,.tuple #[.agg #[nI (q67.buf),nI (q67.cap),nI (q67.count),nI (q67.start)],.bool true]),(26,.tuple #[.agg #[nI (q67.buf),nI (q67.cap),nI (q67.count),nI (q67.start)],.bool true]),(25,.iface 188 (.agg #[nI (q67.buf),nI (q67.cap),nI (q67.count),nI (q67.start)])),(24,.agg #[nI (q5.cap),nI (q5.closed),nI (q5.count),nI (q5.start),nI (q5.buf),nI (q5.th),nI (q5.tt),nI (q5.sh),nI (q5.st)]),(23,nP b0 0),(6,nB w9),(0,nP b0 0),(1,nI i1)]) (by kernel_rfl) ?_
  intro w73 a74 hS75 hF76; clear hF69 hS72
  refine ev_runK 1 hF76 [0,1,6,8,9] (l':=[(9,.bool true),(8,nB w44),(6,nB w9),(0,nP b0 0),(1,nI i1)]) (w':=w73) (by kernel_rfl) ?_
  intro a78 hF77; clear hF76
  refine wpList_nil (thenN (wp_seq (wp_seq (wp_region_lit ?_))))
  refine ev_runs 4 hF77 (l':=[(32,nP (w44.heap.size) 2),(31,.bool false),(30,.bool false),(29,.bool true),(9,.bool true),(8,nB w44),(6,nB w9),(0,nP b0 0),(1,nI i1)]) (w':=w73) (by kernel_rfl) ?_
  intro a80 hF79; clear hF77
  refine ev_one (nI (q67.count)) w73 hF79 (by kernel_rfl) rfl (by kernel_rfl) (run_loadV rfl rfl (run_loadS rfl rfl (hS75.cell 0 rfl 2 rfl))) (l':=[(33,nI (q67.count)),(32,nP (w44.heap.size) 2),(31,.bool false),(30,.bool false),(29,.bool true),(9,.bool true),(8,nB w44),(6,nB w9),(0,nP b0 0),(1,nI i1)]) (by kernel_rfl) ?_
  intro a82 hF81; clear hF79
  refine ev_runK 2 hF81 [0,1,6,8,35] (l':=[(35,.bool (q67.count == 0)),(8,nB w44),(6,nB w9),(0,nP b0 0),(1,nI i1)]) (w':=w73) (by kernel_rfl) ?_
  intro a84 hF83; clear hF81
  refine wpList_nil (thenN ?_)
  cases hc85:(q67.count == 0)
  case true =>
   rw [hc85] at hF83
   have hm86:=ifYes hc85 hm68; clear hm68
   refine ev_condT hF83 rfl rfl ?_
   refine wp_seq (wp_region_lit ?_)
   refine ev_runK 2 hF83 [4,5] (l':=[(5,nI 8),(4,nI 0)]) (w':=w73) (by kernel_rfl) ?_
   intro a88 hF87; clear hF83
   refine wpList_nil ?_
   have hS89:=hS75.drop.pick1.drop
   clear hS75
   refine thenN ?_
   refine wp_ret ?_
   refine thenR ?_
   simp only [Option.some.injEq,Prod.mk.injEq] at hm86
   obtain ⟨rfl,rfl,rfl⟩:=hm86
   refine ev_ret hF87 [4,5] (.tuple #[nI 0,nI 8]) rfl rfl rfl ?_
   exact ⟨rfl,hS89⟩
  rw [hc85] at hF83
  have hm93:=ifNot hc85 hm68; clear hm68
  refine ev_condF hF83 rfl rfl ?_
  refine wp_skip ?_
  have hF94:=hF83.keep [0,1,6,8]
  clear hF83
  refine thenN (wp_seq (wp_region_lit ?_))
  refine ev_runs 1 hF94 (l':=[(36,nP (w44.heap.size) 3),(8,nB w44),(6,nB w9),(0,nP b0 0),(1,nI i1)]) (w':=w73) (by kernel_rfl) ?_
  intro a96 hF95; clear hF94
  refine ev_one (nI (q67.start)) w73 hF95 (by kernel_rfl) rfl (by kernel_rfl) (run_loadV rfl rfl (run_loadS rfl rfl (hS75.cell 0 rfl 3 rfl))) (l':=[(37,nI (q67.start)),(36,nP (w44.heap.size) 3),(8,nB w44),(6,nB w9),(0,nP b0 0),(1,nI i1)]) (by kernel_rfl) ?_
  intro a98 hF97; clear hF95
  refine ev_runs 1 hF97 (l':=[(38,nP (w44.heap.size) 1),(37,nI (q67.start)),(36,nP (w44.heap.size) 3),(8,nB w44),(6,nB w9),(0,nP b0 0),(1,nI i1)]) (w':=w73) (by kernel_rfl) ?_
  intro a100 hF99; clear hF97
  refine ev_one (nI (q67.cap)) w73 hF99 (by kernel_rfl) rfl (by kernel_rfl) (run_loadV rfl rfl (run_loadS rfl rfl (hS75.cell 0 rfl 1 rfl))) (l':=[(39,nI (q67.cap)),(38,nP (w44.heap.size) 1),(37,nI (q67.start)),(36,nP (w44.heap.size) 3),(8,nB w44),(6,nB w9),(0,nP b0 0),(1,nI i1)]) (by kernel_rfl) ?_
  intro a102 hF101; clear hF99
  obtain ⟨hc103,hm104⟩:=ifFE hm93; clear hm93
  refine ev_one (nI (Int.tmod q67.start q67.cap)) w73 hF101 (by kernel_rfl) rfl (by kernel_rfl) (run_rem rfl rfl rfl hc103 _) (l':=[(40,nI (Int.tmod q67.start q67.cap)),(39,nI (q67.cap)),(38,nP (w44.heap.size) 1),(37,nI (q67.start)),(36,nP (w44.heap.size) 3),(8,nB w44),(6,nB w9),(0,nP b0 0),(1,nI i1)]) (by kernel_rfl) ?_
  intro a106 hF105; clear hF101
  refine ev_runs 1 hF105 (l':=[(10,nI (Int.tmod q67.start q67.cap)),(40,nI (Int.tmod q67.start q67.cap)),(39,nI (q67.cap)),(38,nP (w44.heap.size) 1),(37,nI (q67.start)),(36,nP (w44.heap.size) 3),(8,nB w44),(6,nB w9),(0,nP b0 0),(1,nI i1)]) (w':=w73) (by kernel_rfl) ?_
  intro a108 hF107; clear hF105
  obtain ⟨x109,hx110,hm111⟩:=bind1E hm104; clear hm104
  have hF112:=hF107; rw [Option.some.inj hx110] at hF112; clear hF107
  refine wpList_nil ?_
  have hF113:=hF112.keep [0,1,6,8,10]
  clear hF112
  refine thenN (wp_seq (wp_region_lit ?_))
  refine ev_runs 2 hF113 (l':=[(43,nB w44),(42,nP b0 0),(10,nI x109),(8,nB w44),(6,nB w9),(0,nP b0 0),(1,nI i1)]) (w':=w73) (by kernel_rfl) ?_
  intro a115 hF114; clear hF113
  refine ev_one (nI (q67.buf)) w73 hF114 (by kernel_rfl) rfl (by kernel_rfl) (run_loadV rfl rfl (run_loadS rfl rfl (hS75.cell 0 rfl 0 rfl))) (l':=[(44,nI (q67.buf)),(43,nB w44),(42,nP b0 0),(10,nI x109),(8,nB w44),(6,nB w9),(0,nP b0 0),(1,nI i1)]) (by kernel_rfl) ?_
  intro a117 hF116; clear hF114
  refine ev_runs 1 hF116 (l':=[(45,nI x109),(44,nI (q67.buf)),(43,nB w44),(42,nP b0 0),(10,nI x109),(8,nB w44),(6,nB w9),(0,nP b0 0),(1,nI i1)]) (w':=w73) (by kernel_rfl) ?_
  intro a119 hF118; clear hF116
  have hS120:=hS75.pick1
  clear hS75
  refine ev_call 39 #[nP b0 0,nI (q67.buf),nI x109] hF118 rfl rfl (by kernel_rfl) rfl (by kernel_rfl) (fun w=>by kernel_rfl) ?_
  obtain ⟨x121,x122,hx123,hm124⟩:=bind2E hm111; clear hm111
  refine (p_Load hS120 hx123).mono ?_
  rintro _ w125 ⟨rfl,hS127⟩ a126 hF128; clear hF118 hS120
  refine ev_runK 5 hF128 [0,1,6,8,10,11] (l':=[(11,nI x121),(10,nI x109),(8,nB w44),(6,nB w9),(0,nP b0 0),(1,nI i1)]) (w':=w125) (by kernel_rfl) ?_
  intro a130 hF129; clear hF128
  refine wpList_nil (thenN (wp_seq (wp_region_lit ?_)))
  refine ev_runs 2 hF129 (l':=[(50,nB w44),(49,nP b0 0),(11,nI x121),(10,nI x109),(8,nB w44),(6,nB w9),(0,nP b0 0),(1,nI i1)]) (w':=w125) (by kernel_rfl) ?_
  intro a132 hF131; clear hF129
  refine ev_one (nI (q67.buf)) w125 hF131 (by kernel_rfl) rfl (by kernel_rfl) (run_loadV rfl rfl (run_loadS rfl rfl (hS127.cell 1 rfl 0 rfl))) (l':=[(51,nI (q67.buf)),(50,nB w44),(49,nP b0 0),(11,nI x121),(10,nI x109),(8,nB w44),(6,nB w9),(0,nP b0 0),(1,nI i1)]) (by kernel_rfl) ?_
  intro a134 hF133; clear hF131
  refine ev_runs 1 hF133 (l':=[(52,nI x109),(51,nI (q67.buf)),(50,nB w44),(49,nP b0 0),(11,nI x121),(10,nI x109),(8,nB w44),(6,nB w9),(0,nP b0 0),(1,nI i1)]) (w':=w125) (by kernel_rfl) ?_
  intro a136 hF135; clear hF133
  refine ev_call 22 #[nP b0 0,nI (q67.buf),nI x109,nI 0] hF135 rfl rfl (by kernel_rfl) rfl (by kernel_rfl) (fun w=>by kernel_rfl) ?_
  obtain ⟨x137,s138,hx139,hm140⟩:=bind2E hm124; clear hm124
  refine (p_Store hS127 hx139).mono ?_
  rintro _ w141 ⟨rfl,hS143⟩ a142 hF144; clear hF135 hS127
  refine wpList_nil ?_
  have hF145:=hF144.keep [0,1,6,8,10,11]
  clear hF144
  refine thenN (wp_seq ?_)
  have hS146:=hS143.pick1
  clear hS143
  have hS147:=hS146.drew; clear hS146
  refine any_start (fun wS=>∃ qs,St w0 F0 (BlkP (w44.heap.size) 188 #[nI (q67.buf),nI (q67.cap),nI (q67.count),nI (q67.start)]::qs) wS) 12 #[false,false,false,false,false,false,false,false,false,false,false,false] (by kernel_rfl) (by kernel_rfl) (by kernel_rfl) ?_
  refine any_many 9 [(0,some (nI x109)),(1,some (nI (IntKind.i64.wrap (x109+1)))),(2,some (nP (w44.heap.size) 1)),(3,some (nI (q67.cap))),(4,some (nI (Int.tmod (IntKind.i64.wrap (x109+1)) q67.cap))),(5,some (nP (w44.heap.size) 2)),(6,some (nI (q67.count))),(7,some (nI (IntKind.i64.wrap (q67.count - 1)))),(8,some (nP (w9.heap.size) 3))] [0,1,6,11,58,61,62,63] #[true,true,true,true,true,true,true,true,true,false,false,false] (by rfl) hF145 (by kernel_rfl) (by kernel_rfl) (by exact ⟨fun wS hw=>by kernel_rfl,fun wS hw=>by kernel_rfl,fun wS hw=>by kernel_rfl,fun wS hw=>hw.elim fun qs hw=>run_loadV rfl rfl (run_loadS rfl rfl (hw.cell 0 rfl 1 rfl)),fun wS hw=>run_rem rfl rfl rfl hc103 _,fun wS hw=>by kernel_rfl,fun wS hw=>hw.elim fun qs hw=>run_loadV rfl rfl (run_loadS rfl rfl (hw.cell 0 rfl 2 rfl)),fun wS hw=>by kernel_rfl,fun wS hw=>by kernel_rfl,trivial⟩) (fun _ _ _ _ _ h=>h) ⟨_,hS147⟩ (l':=[(62,nP (w9.heap.size) 3),(61,nI (IntKind.i64.wrap (q67.count - 1))),(58,nI (Int.tmod (IntKind.i64.wrap (x109+1)) q67.cap)),(11,nI x121),(6,nB w9),(0,nP b0 0),(1,nI i1)]) (by kernel_rfl) ?_
  intro a149 hF148; clear hF145
  refine any_one 9 (by kernel_rfl) ?_
  have hS150:=hS147.pick2
  clear hS147
  refine op_store 9 #[true,true,true,true,true,true,true,true,true,true,false,false] (nI (Int.tmod (IntKind.i64.wrap (x109+1)) q67.cap)) #[nI (q5.cap),nI (q5.closed),nI (q5.count),nI (Int.tmod (IntKind.i64.wrap (x109+1)) q67.cap),nI (q5.buf),nI (q5.th),nI (q5.tt),nI (q5.sh),nI (q5.st)] hF148 rfl (by kernel_rfl) rfl rfl rfl rfl (by kernel_rfl) hS150 (by kernel_rfl) (by kernel_rfl) (by kernel_rfl) (l':=[(62,nP (w9.heap.size) 3),(61,nI (IntKind.i64.wrap (q67.count - 1))),(58,nI (Int.tmod (IntKind.i64.wrap (x109+1)) q67.cap)),(11,nI x121),(6,nB w9),(0,nP b0 0),(1,nI i1)]) (by kernel_rfl) (by kernel_rfl) ?_
  intro w151 a152 hS153 hF154; clear hF148 hS150
  refine ⟨⟨_,hS153.pick1⟩,?_⟩
  refine any_many 1 [(10,some (nP (w9.heap.size) 2))] [0,1,6,11,61,63] #[true,true,true,true,true,true,true,true,true,true,true,false] (by rfl) hF154 (by kernel_rfl) (by kernel_rfl) (by exact ⟨fun wS hw=>by kernel_rfl,trivial⟩) (fun _ _ _ _ _ h=>h) ⟨_,hS153.pick1⟩ (l':=[(63,nP (w9.heap.size) 2),(61,nI (IntKind.i64.wrap (q67.count - 1))),(11,nI x121),(6,nB w9),(0,nP b0 0),(1,nI i1)]) (by kernel_rfl) ?_
  intro a156 hF155; clear hF154
  refine any_one 11 (by kernel_rfl) ?_
  refine op_store 11 #[true,true,true,true,true,true,true,true,true,true,true,true] (nI (IntKind.i64.wrap (q67.count - 1))) #[nI (q5.cap),nI (q5.closed),nI (IntKind.i64.wrap (q67.count - 1)),nI (Int.tmod (IntKind.i64.wrap (x109+1)) q67.cap),nI (q5.buf),nI (q5.th),nI (q5.tt),nI (q5.sh),nI (q5.st)] hF155 rfl (by kernel_rfl) rfl rfl rfl rfl (by kernel_rfl) hS153 (by kernel_rfl) (by kernel_rfl) (by kernel_rfl) (l':=[(63,nP (w9.heap.size) 2),(61,nI (IntKind.i64.wrap (q67.count - 1))),(11,nI x121),(6,nB w9),(0,nP b0 0),(1,nI i1)]) (by kernel_rfl) (by kernel_rfl) ?_
  intro w157 a158 hS159 hF160; clear hF155 hS153
  refine ⟨⟨_,hS159.pick1⟩,?_⟩
  refine any_done (by kernel_rfl) ?_
  have hF161:=hF160.keep [0,1,6,11]
  clear hF160
  have hS162:=hS159.pick1.drop
  clear hS159
  refine thenN (wp_seq (wp_region_lit ?_))
  refine ev_runs 3 hF161 (l':=[(66,nI i1),(65,nP b0 0),(64,nI x121),(11,nI x121),(6,nB w9),(0,nP b0 0),(1,nI i1)]) (w':=w157) (by kernel_rfl) ?_
  intro a164 hF163; clear hF161
  refine ev_one (.agg #[nI (q5.cap),nI (q5.closed),nI (IntKind.i64.wrap (q67.count - 1)),nI (Int.tmod (IntKind.i64.wrap (x109+1)) q67.cap),nI (q5.buf),nI (q5.th),nI (q5.tt),nI (q5.sh),nI (q5.st)]) w157 hF163 (by kernel_rfl) rfl (by kernel_rfl) (run_loadV rfl rfl (run_loadA (cs:=[nI (q5.cap),nI (q5.closed),nI (IntKind.i64.wrap (q67.count - 1)),nI (Int.tmod (IntKind.i64.wrap (x109+1)) q67.cap),nI (q5.buf),nI (q5.th),nI (q5.tt),nI (q5.sh),nI (q5.st)]) rfl rfl (by kernel_rfl) (blk_cells hS162 0 rfl rfl))) (l':=[(67,.agg #[nI (q5.cap),nI (q5.closed),nI (IntKind.i64.wrap (q67.count - 1)),nI (Int.tmod (IntKind.i64.wrap (x109+1)) q67.cap),nI (q5.buf),nI (q5.th),nI (q5.tt),nI (q5.sh),nI (q5.st)]),(66,nI i1),(65,nP b0 0),(64,nI x121),(11,nI x121),(6,nB w9),(0,nP b0 0),(1,nI i1)]) (by kernel_rfl) ?_
  intro a166 hF165; clear hF163
  have hS167:=hS162.pick1
  clear hS162
  refine ev_call 16 #[nP b0 0,nI i1,.agg #[nI (q5.cap),nI (q5.closed),nI (IntKind.i64.wrap (q67.count - 1)),nI (Int.tmod (IntKind.i64.wrap (x109+1)) q67.cap),nI (q5.buf),nI (q5.th),nI (q5.tt),nI (q5.sh),nI (q5.st)]] hF165 rfl rfl (by kernel_rfl) rfl (by kernel_rfl) (fun w=>by kernel_rfl) ?_
  obtain ⟨x168,s169,hx170,hm171⟩:=bind2E hm140; clear hm140
  refine (p_PutChan hS167 hx170).mono ?_
  rintro _ w172 ⟨rfl,hS174⟩ a173 hF175; clear hF165 hS167
  refine ev_runK 2 hF175 [4,5] (l':=[(5,nI x168),(4,nI x121)]) (w':=w172) (by kernel_rfl) ?_
  intro a177 hF176; clear hF175
  refine wpList_nil ?_
  have hS178:=hS174.pick1.drop
  clear hS174
  refine thenN ?_
  refine wp_ret ?_
  simp only [Option.some.injEq,Prod.mk.injEq] at hm171
  obtain ⟨rfl,rfl,rfl⟩:=hm171
  refine ev_ret hF176 [4,5] (.tuple #[nI x121,nI x168]) rfl rfl rfl ?_
  exact ⟨rfl,hS178⟩
def ring_All.l1b (s46:HSt) (q75:Rm) (rec110:List Int→Int→Option (List Int×HSt)) (L105:List Int) (x107:Int):Option (List Int×HSt):=(if (decide (x107<(if q75.cap<q75.count then q75.cap else q75.count))) then (if (q75.cap == 0) then none else bind2 (pLoad q75.buf (Int.tmod (IntKind.i64.wrap (q75.start+x107)) q75.cap) s46) fun x133 x134=>bind1 (pushM L105 x133) fun L146=>rec110 L146 (IntKind.i64.wrap (x107+1))) else some (L105,s46))
def ring_All.l1 (s46:HSt) (q75:Rm):Nat→List Int→Int→Option (List Int×HSt)
  | 0=>fun _ _=>none
  | kI+1=>ring_All.l1b s46 q75 (ring_All.l1 s46 q75 kI)
def ring_All.m (k:Nat) (s0:HSt) (i1:Int):Option (List Int×HSt):=bind2 (pChan i1 s0) fun q8 x9=>(if (x9 != 0) then some ([],s0) else bind2 (ring_of.m k s0 (⟨q8.cap,q8.closed,q8.count,q8.start,q8.buf,q8.th,q8.tt,q8.sh,q8.st⟩:Ch)) fun o45 s46=>optE o45 (some ([],s46)) fun q75=>ring_All.l1 s46 q75 k [] 0)
set_option maxRecDepth 100000 in
set_option maxHeartbeats 1500000 in
theorem ring_All.ok {w0 w:World} {F0:List Nat} {ps:List Piece} {k:Nat} {b0 ab0:Nat} {s0:HSt} {i1:Int} {r0:List Int} {t0:HSt} (hS:St w0 F0 (HeapP b0 ab0 s0::ps) w) (hm:ring_All.m k s0 i1=some (r0,t0)) :
    Calls Tryz.prog 64 #[nP b0 0,nI i1] w fun e w'=>∃ vr0,e=.returned (vr0)∧St w0 F0 (HeapP b0 ab0 t0::RowP vr0 r0::ps) w':=by
 refine ev_enterL 58 [nP b0 0,nI i1] Tryz.func64 rfl rfl (by simp) ?_
 intro a hF
 have hF0:Fr 58 a [(0,nP b0 0),(1,nI i1)]:=hF; clear hF
 unfold ring_All.m at hm
 refine wp_seq (wp_region_lit ?_)
 have hS2:St w0 F0 (RowP (.slice none 0 0) []::HeapP b0 ab0 s0::ps) w:=St.nil hS
 refine ev_runK 1 hF0 [0,1] (l':=[(0,nP b0 0),(1,nI i1)]) (w':=w) (by kernel_rfl) ?_
 intro a4 hF3; clear hF0
 refine wpList_nil ?_
 have hS5:=hS2.drop
 clear hS2
 refine thenN (wp_seq (wp_region_lit ?_))
 refine ev_runs 2 hF3 (l':=[(15,nI i1),(14,nP b0 0),(0,nP b0 0),(1,nI i1)]) (w':=w) (by kernel_rfl) ?_
 intro a7 hF6; clear hF3
 refine ev_call 25 #[nP b0 0,nI i1] hF6 rfl rfl (by kernel_rfl) rfl (by kernel_rfl) (fun w=>by kernel_rfl) ?_
 obtain ⟨q8,x9,hx10,hm11⟩:=bind2E hm; clear hm
 refine (p_Chan hS5 hx10).mono ?_
 rintro _ w12 ⟨rfl,hS14⟩ a13 hF15; clear hF6 hS5
 refine ev_runs 4 hF15 (l':=[(5,nB w12),(18,nI x9),(17,.agg #[nI (q8.cap),nI (q8.closed),nI (q8.count),nI (q8.start),nI (q8.buf),nI (q8.th),nI (q8.tt),nI (q8.sh),nI (q8.st)]),(13,.tuple #[.agg #[nI (q8.cap),nI (q8.closed),nI (q8.count),nI (q8.start),nI (q8.buf),nI (q8.th),nI (q8.tt),nI (q8.sh),nI (q8.st)],nI x9]),(16,.tuple #[.agg #[nI (q8.cap),nI (q8.closed),nI (q8.count),nI (q8.start),nI (q8.buf),nI (q8.th),nI (q8.tt),nI (q8.sh),nI (q8.st)],nI x9]),(15,nI i1),(14,nP b0 0),(0,nP b0 0),(1,nI i1)]) (w':=w12.alloc (.cells #[nI 0,nI 0,nI 0,nI 0,nI 0,nI 0,nI 0,nI 0,nI 0] 23)) (by kernel_rfl) ?_
 intro a17 hF16; clear hF15
 have hS19:St w0 F0 (BlkP (w12.heap.size) 23 #[nI 0,nI 0,nI 0,nI 0,nI 0,nI 0,nI 0,nI 0,nI 0]::HeapP b0 ab0 s0::ps) (w12.alloc (.cells #[nI 0,nI 0,nI 0,nI 0,nI 0,nI 0,nI 0,nI 0,nI 0] 23)):=St.new hS14 #[nI 0,nI 0,nI 0,nI 0,nI 0,nI 0,nI 0,nI 0,nI 0] 23
 clear hS14
 refine ev_store (.agg #[nI (q8.cap),nI (q8.closed),nI (q8.count),nI (q8.start),nI (q8.buf),nI (q8.th),nI (q8.tt),nI (q8.sh),nI (q8.st)]) #[nI (q8.cap),nI (q8.closed),nI (q8.count),nI (q8.start),nI (q8.buf),nI (q8.th),nI (q8.tt),nI (q8.sh),nI (q8.st)] hF16 (by kernel_rfl) rfl rfl rfl rfl (by kernel_rfl) hS19 (by kernel_rfl) (by kernel_rfl) (by kernel_rfl) (l':=[(5,nB w12),(18,nI x9),(17,.agg #[nI (q8.cap),nI (q8.closed),nI (q8.count),nI (q8.start),nI (q8.buf),nI (q8.th),nI (q8.tt),nI (q8.sh),nI (q8.st)]),(13,.tuple #[.agg #[nI (q8.cap),nI (q8.closed),nI (q8.count),nI (q8.start),nI (q8.buf),nI (q8.th),nI (q8.tt),nI (q8.sh),nI (q8.st)],nI x9]),(16,.tuple #[.agg #[nI (q8.cap),nI (q8.closed),nI (q8.count),nI (q8.start),nI (q8.buf),nI (q8.th),nI (q8.tt),nI (q8.sh),nI (q8.st)],nI x9]),(15,nI i1),(14,nP b0 0),(0,nP b0 0),(1,nI i1)]) (by kernel_rfl) ?_
 intro w20 a21 hS22 hF23; clear hF16 hS19
 refine ev_runK 1 hF23 [0,5,6] (l':=[(6,nI x9),(5,nB w12),(0,nP b0 0)]) (w':=w20) (by kernel_rfl) ?_
 intro a25 hF24; clear hF23
 refine wpList_nil (thenN (wp_seq (wp_seq (wp_region_lit ?_))))
 refine ev_runK 2 hF24 [0,5,20] (l':=[(20,.bool (x9 != 0)),(5,nB w12),(0,nP b0 0)]) (w':=w20) (by kernel_rfl) ?_
 intro a27 hF26; clear hF24
 refine wpList_nil (thenN ?_)
 cases hc28:(x9 != 0)
 case true =>
  rw [hc28] at hF26
  have hm29:=ifYes hc28 hm11; clear hm11
  refine ev_condT hF26 rfl rfl ?_
  refine wp_seq (wp_region_lit ?_)
  have hS31:St w0 F0 (RowP (.slice none 0 0) []::BlkP (w12.heap.size) 23 #[nI (q8.cap),nI (q8.closed),nI (q8.count),nI (q8.start),nI (q8.buf),nI (q8.th),nI (q8.tt),nI (q8.sh),nI (q8.st)]::HeapP b0 ab0 s0::ps) w20:=St.nil hS22
  clear hS22
  refine ev_runK 1 hF26 [4] (l':=[(4,.slice none 0 0)]) (w':=w20) (by kernel_rfl) ?_
  intro a33 hF32; clear hF26
  refine wpList_nil ?_
  have hS34:=hS31.pick1.drop
  clear hS31
  refine thenN ?_
  refine wp_ret ?_
  refine thenR ?_
  have hS35:=hS34.pick1
  clear hS34
  simp only [Option.some.injEq,Prod.mk.injEq] at hm29
  obtain ⟨rfl,rfl⟩:=hm29
  refine ev_ret hF32 [4] (.slice none 0 0) rfl rfl rfl ?_
  exact ⟨_,rfl,hS35⟩
 rw [hc28] at hF26
 have hm38:=ifNot hc28 hm11; clear hm11
 refine ev_condF hF26 rfl rfl ?_
 refine wp_skip ?_
 have hF39:=hF26.keep [0,5]
 clear hF26
 refine thenN (wp_seq (wp_region_lit ?_))
 refine ev_runs 1 hF39 (l':=[(22,nP b0 0),(5,nB w12),(0,nP b0 0)]) (w':=w20) (by kernel_rfl) ?_
 intro a41 hF40; clear hF39
 refine ev_one (.agg #[nI (q8.cap),nI (q8.closed),nI (q8.count),nI (q8.start),nI (q8.buf),nI (q8.th),nI (q8.tt),nI (q8.sh),nI (q8.st)]) w20 hF40 (by kernel_rfl) rfl (by kernel_rfl) (run_loadV rfl rfl (run_loadA (cs:=[nI (q8.cap),nI (q8.closed),nI (q8.count),nI (q8.start),nI (q8.buf),nI (q8.th),nI (q8.tt),nI (q8.sh),nI (q8.st)]) rfl rfl (by kernel_rfl) (blk_cells hS22 0 rfl rfl))) (l':=[(23,.agg #[nI (q8.cap),nI (q8.closed),nI (q8.count),nI (q8.start),nI (q8.buf),nI (q8.th),nI (q8.tt),nI (q8.sh),nI (q8.st)]),(22,nP b0 0),(5,nB w12),(0,nP b0 0)]) (by kernel_rfl) ?_
 intro a43 hF42; clear hF40
 have hS44:=hS22.pick1
 clear hS22
 refine ev_call 137 #[nP b0 0,.agg #[nI (q8.cap),nI (q8.closed),nI (q8.count),nI (q8.start),nI (q8.buf),nI (q8.th),nI (q8.tt),nI (q8.sh),nI (q8.st)]] hF42 rfl rfl (by kernel_rfl) rfl (by kernel_rfl) (fun w=>by kernel_rfl) ?_
 obtain ⟨o45,s46,hx47,hm48⟩:=bind2E hm38; clear hm38
 refine (ring_of.ok hS44 hx47).mono ?_
 rintro _ w49 ⟨rfl,hS51⟩ a50 hF52; clear hF42 hS44
 cases o45 with
 | none =>
  have hm53:=optN hm48; clear hm48
  refine ev_runs 5 hF52 (l':=[(7,nB w49),(27,.bool false),(26,.agg #[nI 0,nI 0,nI 0,nI 0]),(21,.tuple #[.agg #[nI 0,nI 0,nI 0,nI 0],.bool false]),(25,.tuple #[.agg #[nI 0,nI 0,nI 0,nI 0],.bool false]),(24,.nilIface),(23,.agg #[nI (q8.cap),nI (q8.closed),nI (q8.count),nI (q8.start),nI (q8.buf),nI (q8.th),nI (q8.tt),nI (q8.sh),nI (q8.st)]),(22,nP b0 0),(5,nB w12),(0,nP b0 0)]) (w':=w49.alloc (.cells #[nI 0,nI 0,nI 0,nI 0] 188)) (by kernel_rfl) ?_
  intro a55 hF54; clear hF52
  have hS57:St w0 F0 (BlkP (w49.heap.size) 188 #[nI 0,nI 0,nI 0,nI 0]::HeapP b0 ab0 s46::BlkP (w12.heap.size) 23 #[nI (q8.cap),nI (q8.closed),nI (q8.count),nI (q8.start),nI (q8.buf),nI (q8.th),nI (q8.tt),nI (q8.sh),nI (q8.st)]::ps) (w49.alloc (.cells #[nI 0,nI 0,nI 0,nI 0] 188)):=St.new hS51 #[nI 0,nI 0,nI 0,nI 0] 188
  clear hS51
  refine ev_store (.agg #[nI 0,nI 0,nI 0,nI 0]) #[nI 0,nI 0,nI 0,nI 0] hF54 (by kernel_rfl) rfl rfl rfl rfl (by kernel_rfl) hS57 (by kernel_rfl) (by kernel_rfl) (by kernel_rfl) (l':=[(7,nB w49),(27,.bool false),(26,.agg #[nI 0,nI 0,nI 0,nI 0]),(21,.tuple #[.agg #[nI 0,nI 0,nI 0,nI 0],.bool false]),(25,.tuple #[.agg #[nI 0,nI 0,nI 0,nI 0],.bool false]),(24,.nilIface),(23,.agg #[nI (q8.cap),nI (q8.closed),nI (q8.count),nI (q8.start),nI (q8.buf),nI (q8.th),nI (q8.tt),nI (q8.sh),nI (q8.st)]),(22,nP b0 0),(5,nB w12),(0,nP b0 0)]) (by kernel_rfl) ?_
  intro w58 a59 hS60 hF61; clear hF54 hS57
  refine ev_runK 1 hF61 [0,7,8] (l':=[(8,.bool false),(7,nB w49),(0,nP b0 0)]) (w':=w58) (by kernel_rfl) ?_
  intro a63 hF62; clear hF61
  refine wpList_nil ?_
  have hS64:=hS60.pick2.drop
  clear hS60
  refine thenN (wp_seq (wp_seq (wp_region_lit ?_)))
  refine ev_runK 2 hF62 [0,7,29] (l':=[(29,.bool true),(7,nB w49),(0,nP b0 0)]) (w':=w58) (by kernel_rfl) ?_
  intro a66 hF65; clear hF62
  refine wpList_nil (thenN ?_)
  refine ev_condT hF65 rfl rfl ?_
  refine wp_seq (wp_region_lit ?_)
  have hS68:St w0 F0 (RowP (.slice none 0 0) []::BlkP (w49.heap.size) 188 #[nI 0,nI 0,nI 0,nI 0]::HeapP b0 ab0 s46::ps) w58:=St.nil hS64
  clear hS64
  refine ev_runK 1 hF65 [4] (l':=[(4,.slice none 0 0)]) (w':=w58) (by kernel_rfl) ?_
  intro a70 hF69; clear hF65
  refine wpList_nil ?_
  have hS71:=hS68.pick1.drop
  clear hS68
  refine thenN ?_
  refine wp_ret ?_
  refine thenR ?_
  have hS72:=hS71.pick1
  clear hS71
  simp only [Option.some.injEq,Prod.mk.injEq] at hm53
  obtain ⟨rfl,rfl⟩:=hm53
  refine ev_ret hF69 [4] (.slice none 0 0) rfl rfl rfl ?_
  exact ⟨_,rfl,hS72⟩
 | some q75 =>
  have hm76:=optS hm48; clear hm48
  refine ev_runs 5 hF52 (l':=[(7,nB w49),(27,.bool true),(26,.agg #[nI (q75.buf),nI (q75.cap),nI (q75.count),nI (q75.start)]),(21,.tuple #[.agg #[nI (q75.buf),nI (q75.cap),nI (q75.count),nI (q75.start)],.bool true]),(25,.tuple #[.agg #[nI (q75.buf),nI (q75.cap),nI (q75.count),nI (q75.start)],.bool true]),(24,.iface 188 (.agg #[nI (q75.buf),nI (q75.cap),nI (q75.count),nI (q75.start)])),(23,.agg #[nI (q8.cap),nI (q8.closed),nI (q8.count),nI (q8.start),nI (q8.buf),nI (q8.th),nI (q8.tt),nI (q8.sh),nI (q8.st)]),(22,nP b0 0),(5,nB w12),(0,nP b0 0)]) (w':=w49.alloc (.cells #[nI 0,nI 0,nI 0,nI 0] 188)) (by kernel_rfl) ?_
  intro a78 hF77; clear hF52
  have hS80:St w0 F0 (BlkP (w49.heap.size) 188 #[nI 0,nI 0,nI 0,nI 0]::HeapP b0 ab0 s46::BlkP (w12.heap.size) 23 #[nI (q8.cap),nI (q8.closed),nI (q8.count),nI (q8.start),nI (q8.buf),nI (q8.th),nI (q8.tt),nI (q8.sh),nI (q8.st)]::ps) (w49.alloc (.cells #[nI 0,nI 0,nI 0,nI 0] 188)):=St.new hS51 #[nI 0,nI 0,nI 0,nI 0] 188
  clear hS51
  refine ev_store (.agg #[nI (q75.buf),nI (q75.cap),nI (q75.count),nI (q75.start)]) #[nI (q75.buf),nI (q75.cap),nI (q75.count),nI (q75.start)] hF77 (by kernel_rfl) rfl rfl rfl rfl (by kernel_rfl) hS80 (by kernel_rfl) (by kernel_rfl) (by kernel_rfl) (l':=[(7,nB w49),(27,.bool true),(26,.agg #[nI (q75.buf),nI (q75.cap),nI (q75.count),nI (q75.start)]),(21,.tuple #[.agg #[nI (q75.buf),nI (q75.cap),nI (q75.count),nI (q75.start)],.bool true]),(25,.tuple #[.agg #[nI (q75.buf),nI (q75.cap),nI (q75.count),nI (q75.start)],.bool true]),(24,.iface 188 (.agg #[nI (q75.buf),nI (q75.cap),nI (q75.count),nI (q75.start)])),(23,.agg #[nI (q8.cap),nI (q8.closed),nI (q8.count),nI (q8.start),nI (q8.buf),nI (q8.th),nI (q8.tt),nI (q8.sh),nI (q8.st)]),(22,nP b0 0),(5,nB w12),(0,nP b0 0)]) (by kernel_rfl) ?_
  intro w81 a82 hS83 hF84; clear hF77 hS80
  refine ev_runK 1 hF84 [0,7,8] (l':=[(8,.bool true),(7,nB w49),(0,nP b0 0)]) (w':=w81) (by kernel_rfl) ?_
  intro a86 hF85; clear hF84
  refine wpList_nil ?_
  have hS87:=hS83.pick2.drop
  clear hS83
  refine thenN (wp_seq (wp_seq (wp_region_lit ?_)))
  refine ev_runK 2 hF85 [0,7,29] (l':=[(29,.bool false),(7,nB w49),(0,nP b0 0)]) (w':=w81) (by kernel_rfl) ?_
  intro a89 hF88; clear hF85
  refine wpList_nil (thenN ?_)
  refine ev_condF hF88 rfl rfl ?_
  refine wp_skip ?_
  have hF90:=hF88.keep [0,7]
  clear hF88
  refine thenN (wp_seq (wp_region_lit ?_))
  have hS92:St w0 F0 (RowP (.slice none 0 0) []::BlkP (w49.heap.size) 188 #[nI (q75.buf),nI (q75.cap),nI (q75.count),nI (q75.start)]::HeapP b0 ab0 s46::ps) w81:=St.nil hS87
  clear hS87
  refine ev_runs 1 hF90 (l':=[(9,.slice none 0 0),(7,nB w49),(0,nP b0 0)]) (w':=w81) (by kernel_rfl) ?_
  intro a94 hF93; clear hF90
  refine wpList_nil (thenN (wp_seq (wp_seq (wp_region_lit ?_))))
  refine ev_runs 1 hF93 (l':=[(30,nP (w49.heap.size) 2),(9,.slice none 0 0),(7,nB w49),(0,nP b0 0)]) (w':=w81) (by kernel_rfl) ?_
  intro a96 hF95; clear hF93
  refine ev_one (nI (q75.count)) w81 hF95 (by kernel_rfl) rfl (by kernel_rfl) (run_loadV rfl rfl (run_loadS rfl rfl (hS92.cell 1 rfl 2 rfl))) (l':=[(31,nI (q75.count)),(30,nP (w49.heap.size) 2),(9,.slice none 0 0),(7,nB w49),(0,nP b0 0)]) (by kernel_rfl) ?_
  intro a98 hF97; clear hF95
  refine ev_runs 1 hF97 (l':=[(32,nP (w49.heap.size) 1),(31,nI (q75.count)),(30,nP (w49.heap.size) 2),(9,.slice none 0 0),(7,nB w49),(0,nP b0 0)]) (w':=w81) (by kernel_rfl) ?_
  intro a100 hF99; clear hF97
  refine ev_one (nI (q75.cap)) w81 hF99 (by kernel_rfl) rfl (by kernel_rfl) (run_loadV rfl rfl (run_loadS rfl rfl (hS92.cell 1 rfl 1 rfl))) (l':=[(33,nI (q75.cap)),(32,nP (w49.heap.size) 1),(31,nI (q75.count)),(30,nP (w49.heap.size) 2),(9,.slice none 0 0),(7,nB w49),(0,nP b0 0)]) (by kernel_rfl) ?_
  intro a102 hF101; clear hF99
  refine ev_runK 2 hF101 [0,7,9,34,35] (l':=[(35,nI 0),(34,nI (if q75.cap<q75.count then q75.cap else q75.count)),(9,.slice none 0 0),(7,nB w49),(0,nP b0 0)]) (w':=w81) (by kernel_rfl) ?_
  intro a104 hF103; clear hF101
  refine wpList_nil (thenN ?_)
  refine wp_block ?_
  refine wp_loop_ghost (fun kI aI wI=>∃ (v106:Value) (L105:List Int) (x107:Int),Fr 58 aI [(35,nI x107),(34,nI (if q75.cap<q75.count then q75.cap else q75.count)),(9,v106),(7,nB w49),(0,nP b0 0)]∧St w0 F0 (RowP (v106) L105::BlkP (w49.heap.size) 188 #[nI (q75.buf),nI (q75.cap),nI (q75.count),nI (q75.start)]::HeapP b0 ab0 s46::ps) wI∧ring_All.l1 s46 q75 kI L105 x107=some (r0,t0)) k ⟨.slice none 0 0,[],0,hF103,hS92,hm76⟩ ?_
  rintro k108 a109 w110 ⟨v106,L105,x107,hF111,hS112,hm113⟩
  clear hF103 hS92 hm76
  rcases k108 with _ | k108
  · cases hm113
  have hm114:ring_All.l1b s46 q75 (ring_All.l1 s46 q75 k108) L105 x107=some (r0,t0):=hm113
  clear hm113
  unfold ring_All.l1b at hm114
  obtain ⟨hl118,p115,c116,rfl,hp117⟩:=St.shape hS112 0 rfl
  refine wp_seq (wp_region_lit ?_)
  refine ev_runs 1 hF111 (l':=[(36,.bool (decide (x107<(if q75.cap<q75.count then q75.cap else q75.count)))),(35,nI x107),(34,nI (if q75.cap<q75.count then q75.cap else q75.count)),(9,.slice p115 L105.length c116),(7,nB w49),(0,nP b0 0)]) (w':=w110) (by kernel_rfl) ?_
  intro a120 hF119; clear hF111
  refine wpList_nil (thenN (wp_seq ?_))
  cases hc121:(decide (x107<(if q75.cap<q75.count then q75.cap else q75.count)))
  case true =>
   rw [hc121] at hF119
   have hm122:=ifYes hc121 hm114; clear hm114
   refine ev_condT hF119 rfl rfl ?_
   refine wp_skip ?_
   have hF123:=hF119.keep [0,7,9,34,35]
   clear hF119
   refine thenN (wp_seq ?_)
   refine wp_block ?_
   refine wp_seq (wp_region_lit ?_)
   refine ev_runK 2 hF123 [0,7,9,10,34,35] (l':=[(10,nI x107),(35,nI x107),(34,nI (if q75.cap<q75.count then q75.cap else q75.count)),(9,.slice p115 L105.length c116),(7,nB w49),(0,nP b0 0)]) (w':=w110) (by kernel_rfl) ?_
   intro a125 hF124; clear hF123
   refine wpList_nil (thenN (wp_seq ?_))
   obtain ⟨hc126,hm127⟩:=ifFE hm122; clear hm122
   have hS128:=hS112.pick1
   clear hS112
   have hS129:=hS128.drew; clear hS128
   refine any_start (fun wS=>∃ qs,St w0 F0 (BlkP (w49.heap.size) 188 #[nI (q75.buf),nI (q75.cap),nI (q75.count),nI (q75.start)]::qs) wS) 16 #[false,false,false,false,false,false,false,false,false,false,false,false,false,false,false,false] (by kernel_rfl) (by kernel_rfl) (by kernel_rfl) ?_
   refine any_many 10 [(0,some (nP b0 0)),(1,some (nB w49)),(2,some (nI (q75.buf))),(3,some (nP (w49.heap.size) 3)),(4,some (nI (q75.start))),(5,some (nI x107)),(6,some (nI (IntKind.i64.wrap (q75.start+x107)))),(7,some (nP (w49.heap.size) 1)),(8,some (nI (q75.cap))),(9,some (nI (Int.tmod (IntKind.i64.wrap (q75.start+x107)) q75.cap)))] [0,7,9,11,34,35,38,39,41,48,49,50,51] #[true,true,true,true,true,true,true,true,true,true,false,false,false,false,false,false] (by rfl) hF124 (by kernel_rfl) (by kernel_rfl) (by exact ⟨fun wS hw=>by kernel_rfl,fun wS hw=>by kernel_rfl,fun wS hw=>hw.elim fun qs hw=>run_loadV rfl rfl (run_loadS rfl rfl (hw.cell 0 rfl 0 rfl)),fun wS hw=>by kernel_rfl,fun wS hw=>hw.elim fun qs hw=>run_loadV rfl rfl (run_loadS rfl rfl (hw.cell 0 rfl 3 rfl)),fun wS hw=>by kernel_rfl,fun wS hw=>by kernel_rfl,fun wS hw=>by kernel_rfl,fun wS hw=>hw.elim fun qs hw=>run_loadV rfl rfl (run_loadS rfl rfl (hw.cell 0 rfl 1 rfl)),fun wS hw=>run_rem rfl rfl rfl hc126 _,trivial⟩) (fun _ _ _ _ _ h=>h) ⟨_,hS129⟩ (l':=[(48,nI (Int.tmod (IntKind.i64.wrap (q75.start+x107)) q75.cap)),(41,nI (q75.buf)),(39,nP b0 0),(35,nI x107),(34,nI (if q75.cap<q75.count then q75.cap else q75.count)),(9,.slice p115 L105.length c116),(7,nB w49),(0,nP b0 0)]) (by kernel_rfl) ?_
   intro a131 hF130; clear hF124
   have hS132:=hS129.pick2
   clear hS129
   refine any_call 10 #[true,true,true,true,true,true,true,true,true,true,true,false,false,false,false,false] 39 #[nP b0 0,nI (q75.buf),nI (Int.tmod (IntKind.i64.wrap (q75.start+x107)) q75.cap)] hF130 rfl (by kernel_rfl) rfl rfl (by kernel_rfl) rfl (by kernel_rfl) (fun w=>by kernel_rfl) (by kernel_rfl) ?_
   obtain ⟨x133,x134,hx135,hm136⟩:=bind2E hm127; clear hm127
   refine (p_Load hS132 hx135).mono ?_
   rintro _ w137 ⟨rfl,hS139⟩; clear hS132
   refine ⟨⟨_,hS139.pick1⟩,?_⟩
   intro a138 hF140; clear hF130
   refine any_many 5 [(11,some (.tuple #[nI x133,nI x134])),(12,some (nI x133)),(13,some (nI x134)),(14,some (nI x133)),(15,some (nI x134))] [0,7,9,11,34,35] #[true,true,true,true,true,true,true,true,true,true,true,true,true,true,true,true] (by rfl) hF140 (by kernel_rfl) (by kernel_rfl) (by exact ⟨fun wS hw=>by kernel_rfl,fun wS hw=>by kernel_rfl,fun wS hw=>by kernel_rfl,fun wS hw=>by kernel_rfl,fun wS hw=>by kernel_rfl,trivial⟩) (fun _ _ _ _ _ h=>h) ⟨_,hS139.pick1⟩ (l':=[(11,nI x133),(35,nI x107),(34,nI (if q75.cap<q75.count then q75.cap else q75.count)),(9,.slice p115 L105.length c116),(7,nB w49),(0,nP b0 0)]) (by kernel_rfl) ?_
   intro a142 hF141; clear hF140
   refine any_done (by kernel_rfl) ?_
   refine thenN (wp_region_lit ?_)
   refine ev_runs 3 hF141 (l':=[(54,.slice (some ⟨w137.heap.size,0,none⟩) 1 1),(53,nI x133),(52,.slice p115 L105.length c116),(11,nI x133),(35,nI x107),(34,nI (if q75.cap<q75.count then q75.cap else q75.count)),(9,.slice p115 L105.length c116),(7,nB w49),(0,nP b0 0)]) (w':=w137.alloc (.cells #[nI x133] 3)) (by kernel_rfl) ?_
   intro a144 hF143; clear hF141
   have hS145:=hS139.pick2
   clear hS139
   obtain ⟨L146,hx147,hm148⟩:=bind1E hm136; clear hm136
   refine ev_push 55 (.tmp 52) (.tmp 54) hF143 rfl rfl rfl rfl rfl rfl rfl rfl hS145 hx147 ?_
   intro g149 c150 w151 a152 hS153 hF154; clear hF143 hS145
   refine ev_runK 1 hF154 [0,7,9,34,35] (l':=[(9,nS g149 L146 c150),(35,nI x107),(34,nI (if q75.cap<q75.count then q75.cap else q75.count)),(7,nB w49),(0,nP b0 0)]) (w':=w151) (by kernel_rfl) ?_
   intro a156 hF155; clear hF154
   refine wpList_nil ?_
   refine blockN ?_
   refine thenN (wp_region_lit ?_)
   refine ev_runK 2 hF155 [0,7,9,34,35] (l':=[(35,nI (IntKind.i64.wrap (x107+1))),(9,nS g149 L146 c150),(34,nI (if q75.cap<q75.count then q75.cap else q75.count)),(7,nB w49),(0,nP b0 0)]) (w':=w151) (by kernel_rfl) ?_
   intro a158 hF157; clear hF155
   refine wpList_nil ?_
   have hF159:Fr 58 a158 [(35,nI (IntKind.i64.wrap (x107+1))),(34,nI (if q75.cap<q75.count then q75.cap else q75.count)),(9,nS g149 L146 c150),(7,nB w49),(0,nP b0 0)]:=Fr.re hF157 (by kernel_rfl)
   clear hF157
   have hS160:=hS153.pick1.pick2.pick2
   clear hS153
   exact thenN ⟨k108,Nat.lt_succ_self _,nS g149 L146 c150,L146,IntKind.i64.wrap (x107+1),hF159,hS160,hm148⟩
  rw [hc121] at hF119
  have hm161:=ifNot hc121 hm114; clear hm114
  refine ev_condF hF119 rfl rfl ?_
  refine wp_exit ?_
  refine thenE ?_
  refine thenE ?_
  refine blockE ?_
  refine thenN (wp_seq (wp_region_lit ?_))
  refine ev_runK 2 hF119 [4] (l':=[(4,.slice p115 L105.length c116)]) (w':=w110) (by kernel_rfl) ?_
  intro a163 hF162; clear hF119
  refine wpList_nil ?_
  have hS164:=hS112.pick1.drop
  clear hS112
  refine thenN ?_
  refine wp_ret ?_
  have hS165:=hS164.pick1
  clear hS164
  simp only [Option.some.injEq,Prod.mk.injEq] at hm161
  obtain ⟨rfl,rfl⟩:=hm161
  refine ev_ret hF162 [4] (.slice p115 L105.length c116) rfl rfl rfl ?_
  exact ⟨_,rfl,hS165⟩
end Go.Proofs.YtffnjpapggidlaaGreat
