/- GRef12 -/
import Derived.Test.YtffnjpapggidlaaGreatKGRef11
import Derived.Test.YtffnjpapggidlaaGreatKG12
import Derived.Deep.LoopGhost
import Derived.KernelRfl
namespace Go.Proofs.YtffnjpapggidlaaGreat
open Go.RowKit
set_option linter.unusedVariables false
def ref11_buffer.j1 (s0:HSt) (y7:Bool):Option (Bool×HSt):=some (y7,s0)
def ref11_buffer.m (k:Nat) (s0:HSt) (i1:Ch):Option (Bool×HSt):=(if (decide (i1.cap > 0)) then (if ((aKind s0.a.c i1.buf) == 2) then ref11_buffer.j1 s0 ((aLen s0.a.c i1.buf) == i1.cap) else ref11_buffer.j1 s0 false) else ref11_buffer.j1 s0 false)
set_option maxRecDepth 100000 in
set_option maxHeartbeats 1500000 in
theorem ref11_buffer.ok {w0 w:World} {F0:List Nat} {ps:List Piece} {k:Nat} {b0 ab0 sb0 g0 cb0:Nat} {s0:HSt} {i1:Ch} {r0:Bool} {t0:HSt} (hS:St w0 F0 (RHeapP b0 ab0 sb0 g0 cb0 s0::ps) w) (hm:ref11_buffer.m k s0 i1=some (r0,t0)) :
    Calls Tryz.prog 138 #[nP b0 0,.agg #[nI (i1.cap),nI (i1.closed),nI (i1.count),nI (i1.start),nI (i1.buf),nI (i1.th),nI (i1.tt),nI (i1.sh),nI (i1.st)]] w fun e w'=>e=.returned (.bool r0)∧St w0 F0 (RHeapP b0 ab0 sb0 g0 cb0 t0::ps) w':=by
 refine ev_enterL 30 [nP b0 0,.agg #[nI (i1.cap),nI (i1.closed),nI (i1.count),nI (i1.start),nI (i1.buf),nI (i1.th),nI (i1.tt),nI (i1.sh),nI (i1.st)]] Tryz.func138 rfl rfl (by simp) ?_
 intro a hF
 have hF0:Fr 30 a [(0,nP b0 0),(1,.agg #[nI (i1.cap),nI (i1.closed),nI (i1.count),nI (i1.start),nI (i1.buf),nI (i1.th),nI (i1.tt),nI (i1.sh),nI (i1.st)])]:=hF; clear hF
 unfold ref11_buffer.m at hm
 refine wp_seq (wp_region_lit ?_)
 refine ev_runs 1 hF0 (l':=[(3,nB w),(0,nP b0 0),(1,.agg #[nI (i1.cap),nI (i1.closed),nI (i1.count),nI (i1.start),nI (i1.buf),nI (i1.th),nI (i1.tt),nI (i1.sh),nI (i1.st)])]) (w':=w.alloc (.cells #[nI (i1.cap),nI (i1.closed),nI (i1.count),nI (i1.start),nI (i1.buf),nI (i1.th),nI (i1.tt),nI (i1.sh),nI (i1.st)] 23)) (by kernel_rfl) ?_
 intro a2 hF1; clear hF0
 have hS4:St w0 F0 (BlkP (w.heap.size) 23 #[nI (i1.cap),nI (i1.closed),nI (i1.count),nI (i1.start),nI (i1.buf),nI (i1.th),nI (i1.tt),nI (i1.sh),nI (i1.st)]::RHeapP b0 ab0 sb0 g0 cb0 s0::ps) (w.alloc (.cells #[nI (i1.cap),nI (i1.closed),nI (i1.count),nI (i1.start),nI (i1.buf),nI (i1.th),nI (i1.tt),nI (i1.sh),nI (i1.st)] 23)):=St.new hS #[nI (i1.cap),nI (i1.closed),nI (i1.count),nI (i1.start),nI (i1.buf),nI (i1.th),nI (i1.tt),nI (i1.sh),nI (i1.st)] 23
 refine ev_runK 1 hF1 [0,3] (l':=[(3,nB w),(0,nP b0 0)]) (w':=w.alloc (.cells #[nI (i1.cap),nI (i1.closed),nI (i1.count),nI (i1.start),nI (i1.buf),nI (i1.th),nI (i1.tt),nI (i1.sh),nI (i1.st)] 23)) (by kernel_rfl) ?_
 intro a6 hF5; clear hF1
 refine wpList_nil (thenN (wp_seq ?_))
 refine joinQ (fun aI wI=>∃ (y7:Bool),Fr 30 aI [(4,.bool (y7))]∧St w0 F0 (RHeapP b0 ab0 sb0 g0 cb0 s0::ps) wI∧ref11_buffer.j1 s0 y7=some (r0,t0)) ?_ ?_
 rotate_left
 · rintro a9 w10 ⟨y7,hF11,hS12,hm13⟩
   clear hF5 hS4 hm
   unfold ref11_buffer.j1 at hm13
   refine thenN ?_
   refine wp_ret ?_
   simp only [Option.some.injEq,Prod.mk.injEq] at hm13
   obtain ⟨rfl,rfl⟩:=hm13
   refine ev_ret hF11 [4] (.bool (y7)) rfl rfl rfl ?_
   exact ⟨rfl,hS12⟩
 · skip
   have hS17:=hS4.pick1
   clear hS4
   have hS18:=hS17.drew; clear hS17
   refine any_start (fun wS=>∃ qs,St w0 F0 (RHeapXP b0 ab0 sb0 g0 cb0::BlkP (w.heap.size) 23 #[nI (i1.cap),nI (i1.closed),nI (i1.count),nI (i1.start),nI (i1.buf),nI (i1.th),nI (i1.tt),nI (i1.sh),nI (i1.st)]::qs) wS) 26 #[false,false,false,false,false,false,false,false,false,false,false,false,false,false,false,false,false,false,false,false,false,false,false,false,false,false] (by kernel_rfl) (by kernel_rfl) (by kernel_rfl) ?_
   refine any_many 4 [(0,some (nB w)),(1,some (nI (i1.cap))),(2,some (.bool (decide (i1.cap > 0)))),(3,some (.bool (decide (i1.cap > 0))))] [0,3,4,8,9,10,11,12,13,14,15,16,17,18,19,20,21,22,23,24,25,26,27,28,29] #[true,true,true,true,false,false,false,false,false,false,false,false,false,false,false,false,false,false,false,false,false,false,false,false,false,false] (by rfl) hF5 (by kernel_rfl) (by kernel_rfl) (by exact ⟨fun wS hw=>by kernel_rfl,fun wS hw=>hw.elim fun qs hw=>run_loadV rfl rfl (run_loadS rfl rfl (hw.cell 1 rfl 0 rfl)),fun wS hw=>by kernel_rfl,fun wS hw=>by kernel_rfl,trivial⟩) (fun _ _ _ _ _ h=>h) ⟨_,St.toRX (hS18)⟩ (l':=[(8,.bool (decide (i1.cap > 0))),(3,nB w),(0,nP b0 0)]) (by kernel_rfl) ?_
   intro a20 hF19; clear hF5
   cases hc21:(decide (i1.cap > 0))
   case true =>
    rw [hc21] at hF19
    have hm22:=ifYes hc21 hm; clear hm
    refine any_many 6 [(4,some (nP b0 0)),(5,some (nP b0 0)),(6,some (nP b0 0)),(7,some (nP ab0 0)),(8,some (nP (w.heap.size) 4)),(9,some (nI (i1.buf)))] [0,3,4,8,12,14,15,16,17,18,19,20,21,22,23,24,25,26,27,28,29] #[true,true,true,true,true,true,true,true,true,true,false,false,false,false,false,false,false,false,false,false,false,false,false,false,false,false] (by rfl) hF19 (by kernel_rfl) (by kernel_rfl) (by exact ⟨fun wS hw=>by kernel_rfl,fun wS hw=>by kernel_rfl,fun wS hw=>by kernel_rfl,fun wS hw=>hw.elim fun qs hw=>run_loadV rfl rfl (run_loadS rfl rfl (St.rhA (k:=0) hw rfl)),fun wS hw=>by kernel_rfl,fun wS hw=>hw.elim fun qs hw=>run_loadV rfl rfl (run_loadS rfl rfl (hw.cell 1 rfl 4 rfl)),trivial⟩) (fun _ _ _ _ _ h=>h) ⟨_,St.toRX (hS18)⟩ (l':=[(14,nI (i1.buf)),(12,nP ab0 0),(8,.bool true),(3,nB w),(0,nP b0 0)]) (by kernel_rfl) ?_
    intro a24 hF23; clear hF19
    refine any_call 10 #[true,true,true,true,true,true,true,true,true,true,true,false,false,false,false,false,false,false,false,false,false,false,false,false,false,false] 104 #[nP ab0 0,nI (i1.buf)] hF23 rfl (by kernel_rfl) rfl rfl (by kernel_rfl) rfl (by kernel_rfl) (fun w=>by kernel_rfl) (by kernel_rfl) ?_
    refine (q_Kind hS18).mono ?_
    rintro _ w25 ⟨rfl,hS27⟩; clear hS18
    refine ⟨⟨_,St.toRX (hS27)⟩,?_⟩
    intro a26 hF28; clear hF23
    refine any_many 3 [(11,some (.bool ((aKind s0.a.c i1.buf) == 2))),(12,some (.bool ((aKind s0.a.c i1.buf) == 2))),(13,some (.bool ((aKind s0.a.c i1.buf) == 2)))] [0,3,4,18,19,20,21,22,23,24,25,26,27,28,29] #[true,true,true,true,true,true,true,true,true,true,true,true,true,true,false,false,false,false,false,false,false,false,false,false,false,false] (by rfl) hF28 (by kernel_rfl) (by kernel_rfl) (by exact ⟨fun wS hw=>by kernel_rfl,fun wS hw=>by kernel_rfl,fun wS hw=>by kernel_rfl,trivial⟩) (fun _ _ _ _ _ h=>h) ⟨_,St.toRX (hS27)⟩ (l':=[(18,.bool ((aKind s0.a.c i1.buf) == 2)),(3,nB w),(0,nP b0 0)]) (by kernel_rfl) ?_
    intro a30 hF29; clear hF28
    cases hc31:((aKind s0.a.c i1.buf) == 2)
    case true =>
     rw [hc31] at hF29
     have hm32:=ifYes hc31 hm22; clear hm22
     refine any_many 8 [(14,some (nP b0 0)),(15,some (nP b0 0)),(16,some (nP b0 0)),(17,some (nP ab0 0)),(18,some (nP (w.heap.size) 4)),(19,some (nI (i1.buf))),(21,some (nB w)),(22,some (nI (i1.cap)))] [4,18,22,24,25,27,28,29] #[true,true,true,true,true,true,true,true,true,true,true,true,true,true,true,true,true,true,true,true,false,true,true,false,false,false] (by rfl) hF29 (by kernel_rfl) (by kernel_rfl) (by exact ⟨fun wS hw=>by kernel_rfl,fun wS hw=>by kernel_rfl,fun wS hw=>by kernel_rfl,fun wS hw=>hw.elim fun qs hw=>run_loadV rfl rfl (run_loadS rfl rfl (St.rhA (k:=0) hw rfl)),fun wS hw=>by kernel_rfl,fun wS hw=>hw.elim fun qs hw=>run_loadV rfl rfl (run_loadS rfl rfl (hw.cell 1 rfl 4 rfl)),fun wS hw=>by kernel_rfl,fun wS hw=>hw.elim fun qs hw=>run_loadV rfl rfl (run_loadS rfl rfl (hw.cell 1 rfl 0 rfl)),trivial⟩) (fun _ _ _ _ _ h=>h) ⟨_,St.toRX (hS27)⟩ (l':=[(27,nI (i1.cap)),(24,nI (i1.buf)),(22,nP ab0 0),(18,.bool true)]) (by kernel_rfl) ?_
     intro a34 hF33; clear hF29
     refine any_call 20 #[true,true,true,true,true,true,true,true,true,true,true,true,true,true,true,true,true,true,true,true,true,true,true,false,false,false] 116 #[nP ab0 0,nI (i1.buf)] hF33 rfl (by kernel_rfl) rfl rfl (by kernel_rfl) rfl (by kernel_rfl) (fun w=>by kernel_rfl) (by kernel_rfl) ?_
     refine (q_Len hS27).mono ?_
     rintro _ w35 ⟨rfl,hS37⟩; clear hS27
     refine ⟨⟨_,St.toRX (hS37)⟩,?_⟩
     intro a36 hF38; clear hF33
     refine any_many 3 [(23,some (.bool ((aLen s0.a.c i1.buf) == i1.cap))),(24,some (.bool ((aLen s0.a.c i1.buf) == i1.cap))),(25,some (.bool ((aLen s0.a.c i1.buf) == i1.cap)))] [4] #[true,true,true,true,true,true,true,true,true,true,true,true,true,true,true,true,true,true,true,true,true,true,true,true,true,true] (by rfl) hF38 (by kernel_rfl) (by kernel_rfl) (by exact ⟨fun wS hw=>by kernel_rfl,fun wS hw=>by kernel_rfl,fun wS hw=>by kernel_rfl,trivial⟩) (fun _ _ _ _ _ h=>h) ⟨_,St.toRX (hS37)⟩ (l':=[(4,.bool ((aLen s0.a.c i1.buf) == i1.cap))]) (by kernel_rfl) ?_
     intro a40 hF39; clear hF38
     refine any_done (by kernel_rfl) ?_
     have hS41:=hS37.pick1.drop
     clear hS37
     exact thenN ⟨(aLen s0.a.c i1.buf) == i1.cap,hF39,hS41,hm32⟩
    rw [hc31] at hF29
    have hm42:=ifNot hc31 hm22; clear hm22
    refine any_many 12 [(14,none),(15,none),(16,none),(17,none),(18,none),(19,none),(20,none),(21,none),(22,none),(23,none),(24,some (.bool false)),(25,some (.bool false))] [4] #[true,true,true,true,true,true,true,true,true,true,true,true,true,true,true,true,true,true,true,true,true,true,true,true,true,true] (by rfl) hF29 (by kernel_rfl) (by kernel_rfl) (by exact (And.intro trivial (And.intro trivial (And.intro trivial (And.intro trivial (And.intro trivial (And.intro trivial (And.intro trivial (And.intro trivial (And.intro trivial (And.intro trivial (And.intro (fun wS hw=>by kernel_rfl) (And.intro (fun wS hw=>by kernel_rfl) trivial))))))))))))) (fun _ _ _ _ _ h=>h) ⟨_,St.toRX (hS27)⟩ (l':=[(4,.bool false)]) (by kernel_rfl) ?_
    intro a44 hF43; clear hF29
    refine any_done (by kernel_rfl) ?_
    have hS45:=hS27.pick1.drop
    clear hS27
    exact thenN ⟨false,hF43,hS45,hm42⟩
   rw [hc21] at hF19
   have hm46:=ifNot hc21 hm; clear hm
   refine any_many 22 [(4,none),(5,none),(6,none),(7,none),(8,none),(9,none),(10,none),(11,none),(12,some (.bool false)),(13,some (.bool false)),(14,none),(15,none),(16,none),(17,none),(18,none),(19,none),(20,none),(21,none),(22,none),(23,none),(24,some (.bool false)),(25,some (.bool false))] [4] #[true,true,true,true,true,true,true,true,true,true,true,true,true,true,true,true,true,true,true,true,true,true,true,true,true,true] (by rfl) hF19 (by kernel_rfl) (by kernel_rfl) (by exact (And.intro trivial (And.intro trivial (And.intro trivial (And.intro trivial (And.intro trivial (And.intro trivial (And.intro trivial (And.intro trivial (And.intro (fun wS hw=>by kernel_rfl) (And.intro (fun wS hw=>by kernel_rfl) (And.intro trivial (And.intro trivial (And.intro trivial (And.intro trivial (And.intro trivial (And.intro trivial (And.intro trivial (And.intro trivial (And.intro trivial (And.intro trivial (And.intro (fun wS hw=>by kernel_rfl) (And.intro (fun wS hw=>by kernel_rfl) trivial))))))))))))))))))))))) (fun _ _ _ _ _ h=>h) ⟨_,St.toRX (hS18)⟩ (l':=[(4,.bool false)]) (by kernel_rfl) ?_
   intro a48 hF47; clear hF19
   refine any_done (by kernel_rfl) ?_
   have hS49:=hS18.pick1.drop
   clear hS18
   exact thenN ⟨false,hF47,hS49,hm46⟩
def ref11_PutRing.j1 (i1:Int) (i2:Int) (k:Nat) (q5:Ch) (s56:HSt) (y57:Bool):Option (Int×HSt):=(if (y57) then some (9,s56) else (if (q5.cap == 0) then none else bind2 (pStore q5.buf (Int.tmod (IntKind.i64.wrap ((Int.tmod (if q5.start > 0 then q5.start else 0) q5.cap)+(if q5.count > 0 then q5.count else 0))) q5.cap) i2 s56) fun x80 s81=>bind2 (ref11_PutChan.m k s81 i1 (⟨q5.cap,q5.closed,IntKind.i64.wrap ((if q5.count > 0 then q5.count else 0)+1),if q5.start > 0 then q5.start else 0,q5.buf,q5.th,q5.tt,q5.sh,q5.st⟩:Ch)) fun x106 s107=>some (x106,s107)))
def ref11_PutRing.m (k:Nat) (s0:HSt) (i1:Int) (i2:Int):Option (Int×HSt):=bind3 (ref11_Chan.m k s0 i1) fun q5 x6 s7=>(if (x6 != 0) then some (x6,s7) else (if (decide ((if q5.count > 0 then q5.count else 0) ≥ q5.cap)) then ref11_PutRing.j1 i1 i2 k q5 s7 true else bind2 (ref11_buffer.m k s7 (⟨q5.cap,q5.closed,if q5.count > 0 then q5.count else 0,if q5.start > 0 then q5.start else 0,q5.buf,q5.th,q5.tt,q5.sh,q5.st⟩:Ch)) fun y139 s140=>ref11_PutRing.j1 i1 i2 k q5 s140 (!(y139))))
set_option maxRecDepth 100000 in
set_option maxHeartbeats 1500000 in
theorem ref11_PutRing.ok {w0 w:World} {F0:List Nat} {ps:List Piece} {k:Nat} {b0 ab0 sb0 g0 cb0:Nat} {s0:HSt} {i1:Int} {i2:Int} {r0:Int} {t0:HSt} (hS:St w0 F0 (RHeapP b0 ab0 sb0 g0 cb0 s0::ps) w) (hm:ref11_PutRing.m k s0 i1 i2=some (r0,t0)) :
    Calls Tryz.prog 62 #[nP b0 0,nI i1,nI i2] w fun e w'=>e=.returned (.int .i64 r0)∧St w0 F0 (RHeapP b0 ab0 sb0 g0 cb0 t0::ps) w':=by
 refine ev_enterL 61 [nP b0 0,nI i1,nI i2] Tryz.func62 rfl rfl (by simp) ?_
 intro a hF
 have hF0:Fr 61 a [(0,nP b0 0),(1,nI i1),(2,nI i2)]:=hF; clear hF
 unfold ref11_PutRing.m at hm
 refine wp_seq (wp_region_lit ?_)
 refine ev_runK 1 hF0 [0,1,2] (l':=[(0,nP b0 0),(1,nI i1),(2,nI i2)]) (w':=w) (by kernel_rfl) ?_
 intro a2 hF1; clear hF0
 refine wpList_nil (thenN (wp_seq (wp_region_lit ?_)))
 refine ev_runs 2 hF1 (l':=[(11,nI i1),(10,nP b0 0),(0,nP b0 0),(1,nI i1),(2,nI i2)]) (w':=w) (by kernel_rfl) ?_
 intro a4 hF3; clear hF1
 refine ev_call 26 #[nP b0 0,nI i1] hF3 rfl rfl (by kernel_rfl) rfl (by kernel_rfl) (fun w=>by kernel_rfl) ?_
 obtain ⟨q5,x6,s7,hx8,hm9⟩:=bind3E hm; clear hm
 refine (ref11_Chan.ok hS hx8).mono ?_
 rintro _ w10 ⟨rfl,hS12⟩ a11 hF13; clear hF3 hS
 refine ev_runs 4 hF13 (l':=[(7,nB w10),(14,nI x6),(13,.agg #[nI (q5.cap),nI (q5.closed),nI (q5.count),nI (q5.start),nI (q5.buf),nI (q5.th),nI (q5.tt),nI (q5.sh),nI (q5.st)]),(9,.tuple #[.agg #[nI (q5.cap),nI (q5.closed),nI (q5.count),nI (q5.start),nI (q5.buf),nI (q5.th),nI (q5.tt),nI (q5.sh),nI (q5.st)],nI x6]),(12,.tuple #[.agg #[nI (q5.cap),nI (q5.closed),nI (q5.count),nI (q5.start),nI (q5.buf),nI (q5.th),nI (q5.tt),nI (q5.sh),nI (q5.st)],nI x6]),(11,nI i1),(10,nP b0 0),(0,nP b0 0),(1,nI i1),(2,nI i2)]) (w':=w10.alloc (.cells #[nI 0,nI 0,nI 0,nI 0,nI 0,nI 0,nI 0,nI 0,nI 0] 23)) (by kernel_rfl) ?_
 intro a15 hF14; clear hF13
 have hS17:St w0 F0 (BlkP (w10.heap.size) 23 #[nI 0,nI 0,nI 0,nI 0,nI 0,nI 0,nI 0,nI 0,nI 0]::RHeapP b0 ab0 sb0 g0 cb0 s7::ps) (w10.alloc (.cells #[nI 0,nI 0,nI 0,nI 0,nI 0,nI 0,nI 0,nI 0,nI 0] 23)):=St.new hS12 #[nI 0,nI 0,nI 0,nI 0,nI 0,nI 0,nI 0,nI 0,nI 0] 23
 clear hS12
 refine ev_store (.agg #[nI (q5.cap),nI (q5.closed),nI (q5.count),nI (q5.start),nI (q5.buf),nI (q5.th),nI (q5.tt),nI (q5.sh),nI (q5.st)]) #[nI (q5.cap),nI (q5.closed),nI (q5.count),nI (q5.start),nI (q5.buf),nI (q5.th),nI (q5.tt),nI (q5.sh),nI (q5.st)] hF14 (by kernel_rfl) rfl rfl rfl rfl (by kernel_rfl) hS17 (by kernel_rfl) (by kernel_rfl) (by kernel_rfl) (l':=[(7,nB w10),(14,nI x6),(13,.agg #[nI (q5.cap),nI (q5.closed),nI (q5.count),nI (q5.start),nI (q5.buf),nI (q5.th),nI (q5.tt),nI (q5.sh),nI (q5.st)]),(9,.tuple #[.agg #[nI (q5.cap),nI (q5.closed),nI (q5.count),nI (q5.start),nI (q5.buf),nI (q5.th),nI (q5.tt),nI (q5.sh),nI (q5.st)],nI x6]),(12,.tuple #[.agg #[nI (q5.cap),nI (q5.closed),nI (q5.count),nI (q5.start),nI (q5.buf),nI (q5.th),nI (q5.tt),nI (q5.sh),nI (q5.st)],nI x6]),(11,nI i1),(10,nP b0 0),(0,nP b0 0),(1,nI i1),(2,nI i2)]) (by kernel_rfl) ?_
 intro w18 a19 hS20 hF21; clear hF14 hS17
 refine ev_runK 1 hF21 [0,1,2,7,8] (l':=[(8,nI x6),(7,nB w10),(0,nP b0 0),(1,nI i1),(2,nI i2)]) (w':=w18) (by kernel_rfl) ?_
 intro a23 hF22; clear hF21
 refine wpList_nil (thenN (wp_seq (wp_seq (wp_region_lit ?_))))
 refine ev_runK 2 hF22 [0,1,2,7,8,16] (l':=[(16,.bool (x6 != 0)),(8,nI x6),(7,nB w10),(0,nP b0 0),(1,nI i1),(2,nI i2)]) (w':=w18) (by kernel_rfl) ?_
 intro a25 hF24; clear hF22
 refine wpList_nil (thenN ?_)
 cases hc26:(x6 != 0)
 case true =>
  rw [hc26] at hF24
  have hm27:=ifYes hc26 hm9; clear hm9
  refine ev_condT hF24 rfl rfl ?_
  refine wp_seq (wp_region_lit ?_)
  refine ev_runK 2 hF24 [6] (l':=[(6,nI x6)]) (w':=w18) (by kernel_rfl) ?_
  intro a29 hF28; clear hF24
  refine wpList_nil ?_
  have hS30:=hS20.drop
  clear hS20
  refine thenN ?_
  refine wp_ret ?_
  refine thenR ?_
  simp only [Option.some.injEq,Prod.mk.injEq] at hm27
  obtain ⟨rfl,rfl⟩:=hm27
  refine ev_ret hF28 [6] (nI x6) rfl rfl rfl ?_
  exact ⟨rfl,hS30⟩
 rw [hc26] at hF24
 have hm33:=ifNot hc26 hm9; clear hm9
 refine ev_condF hF24 rfl rfl ?_
 refine wp_skip ?_
 have hF34:=hF24.keep [0,1,2,7]
 clear hF24
 refine thenN (wp_seq (wp_region_lit ?_))
 refine ev_runs 1 hF34 (l':=[(18,nP (w10.heap.size) 3),(7,nB w10),(0,nP b0 0),(1,nI i1),(2,nI i2)]) (w':=w18) (by kernel_rfl) ?_
 intro a36 hF35; clear hF34
 refine ev_one (nI (q5.start)) w18 hF35 (by kernel_rfl) rfl (by kernel_rfl) (run_loadV rfl rfl (run_loadS rfl rfl (hS20.cell 0 rfl 3 rfl))) (l':=[(19,nI (q5.start)),(18,nP (w10.heap.size) 3),(7,nB w10),(0,nP b0 0),(1,nI i1),(2,nI i2)]) (by kernel_rfl) ?_
 intro a38 hF37; clear hF35
 refine ev_runs 2 hF37 (l':=[(21,nP (w10.heap.size) 2),(20,nI (if q5.start > 0 then q5.start else 0)),(19,nI (q5.start)),(18,nP (w10.heap.size) 3),(7,nB w10),(0,nP b0 0),(1,nI i1),(2,nI i2)]) (w':=w18) (by kernel_rfl) ?_
 intro a40 hF39; clear hF37
 refine ev_one (nI (q5.count)) w18 hF39 (by kernel_rfl) rfl (by kernel_rfl) (run_loadV rfl rfl (run_loadS rfl rfl (hS20.cell 0 rfl 2 rfl))) (l':=[(22,nI (q5.count)),(21,nP (w10.heap.size) 2),(20,nI (if q5.start > 0 then q5.start else 0)),(19,nI (q5.start)),(18,nP (w10.heap.size) 3),(7,nB w10),(0,nP b0 0),(1,nI i1),(2,nI i2)]) (by kernel_rfl) ?_
 intro a42 hF41; clear hF39
 refine ev_runs 2 hF41 (l':=[(24,nP (w10.heap.size) 3),(23,nI (if q5.count > 0 then q5.count else 0)),(22,nI (q5.count)),(21,nP (w10.heap.size) 2),(20,nI (if q5.start > 0 then q5.start else 0)),(19,nI (q5.start)),(18,nP (w10.heap.size) 3),(7,nB w10),(0,nP b0 0),(1,nI i1),(2,nI i2)]) (w':=w18) (by kernel_rfl) ?_
 intro a44 hF43; clear hF41
 refine ev_store (nI (if q5.start > 0 then q5.start else 0)) #[nI (q5.cap),nI (q5.closed),nI (q5.count),nI (if q5.start > 0 then q5.start else 0),nI (q5.buf),nI (q5.th),nI (q5.tt),nI (q5.sh),nI (q5.st)] hF43 (by kernel_rfl) rfl rfl rfl rfl (by kernel_rfl) hS20 (by kernel_rfl) (by kernel_rfl) (by kernel_rfl) (l':=[(24,nP (w10.heap.size) 3),(23,nI (if q5.count > 0 then q5.count else 0)),(22,nI (q5.count)),(21,nP (w10.heap.size) 2),(20,nI (if q5.start > 0 then q5.start else 0)),(19,nI (q5.start)),(18,nP (w10.heap.size) 3),(7,nB w10),(0,nP b0 0),(1,nI i1),(2,nI i2)]) (by kernel_rfl) ?_
 intro w45 a46 hS47 hF48; clear hF43 hS20
 refine ev_runs 1 hF48 (l':=[(25,nP (w10.heap.size) 2),(24,nP (w10.heap.size) 3),(23,nI (if q5.count > 0 then q5.count else 0)),(22,nI (q5.count)),(21,nP (w10.heap.size) 2),(20,nI (if q5.start > 0 then q5.start else 0)),(19,nI (q5.start)),(18,nP (w10.heap.size) 3),(7,nB w10),(0,nP b0 0),(1,nI i1),(2,nI i2)]) (w':=w45) (by kernel_rfl) ?_
 intro a50 hF49; clear hF48
 refine ev_store (nI (if q5.count > 0 then q5.count else 0)) #[nI (q5.cap),nI (q5.closed),nI (if q5.count > 0 then q5.count else 0),nI (if q5.start > 0 then q5.start else 0),nI (q5.buf),nI (q5.th),nI (q5.tt),nI (q5.sh),nI (q5.st)] hF49 (by kernel_rfl) rfl rfl rfl rfl (by kernel_rfl) hS47 (by kernel_rfl) (by kernel_rfl) (by kernel_rfl) (l':=[(25,nP (w10.heap.size) 2),(24,nP (w10.heap.size) 3),(23,nI (if q5.count > 0 then q5.count else 0)),(22,nI (q5.count)),(21,nP (w10.heap.size) 2),(20,nI (if q5.start > 0 then q5.start else 0)),(19,nI (q5.start)),(18,nP (w10.heap.size) 3),(7,nB w10),(0,nP b0 0),(1,nI i1),(2,nI i2)]) (by kernel_rfl) ?_
 intro w51 a52 hS53 hF54; clear hF49 hS47
 refine wpList_nil ?_
 have hF55:=hF54.keep [0,1,2,7]
 clear hF54
 refine thenN (wp_seq (wp_seq ?_))
 refine joinQ (fun aI wI=>∃ (s56:HSt) (y57:Bool),Fr 61 aI [(36,.bool (y57)),(7,nB w10),(0,nP b0 0),(1,nI i1),(2,nI i2)]∧St w0 F0 (BlkP (w10.heap.size) 23 #[nI (q5.cap),nI (q5.closed),nI (if q5.count > 0 then q5.count else 0),nI (if q5.start > 0 then q5.start else 0),nI (q5.buf),nI (q5.th),nI (q5.tt),nI (q5.sh),nI (q5.st)]::RHeapP b0 ab0 sb0 g0 cb0 s56::ps) wI∧ref11_PutRing.j1 i1 i2 k q5 s56 y57=some (r0,t0)) ?_ ?_
 rotate_left
 · rintro a59 w60 ⟨s56,y57,hF61,hS62,hm63⟩
   clear hF55 hS53 hm33
   unfold ref11_PutRing.j1 at hm63
   refine thenN ?_
   cases hc65:(y57)
   case true =>
    rw [hc65] at hF61
    have hm66:=ifYes hc65 hm63; clear hm63
    refine ev_condT hF61 rfl rfl ?_
    refine wp_seq (wp_region_lit ?_)
    refine ev_runK 1 hF61 [6] (l':=[(6,nI 9)]) (w':=w60) (by kernel_rfl) ?_
    intro a68 hF67; clear hF61
    refine wpList_nil ?_
    have hS69:=hS62.drop
    clear hS62
    refine thenN ?_
    refine wp_ret ?_
    refine thenR ?_
    simp only [Option.some.injEq,Prod.mk.injEq] at hm66
    obtain ⟨rfl,rfl⟩:=hm66
    refine ev_ret hF67 [6] (nI 9) rfl rfl rfl ?_
    exact ⟨rfl,hS69⟩
   rw [hc65] at hF61
   have hm72:=ifNot hc65 hm63; clear hm63
   refine ev_condF hF61 rfl rfl ?_
   refine wp_skip ?_
   have hF73:=hF61.keep [0,1,2,7]
   clear hF61
   refine thenN (wp_seq ?_)
   obtain ⟨hc74,hm75⟩:=ifFE hm72; clear hm72
   have hS76:=hS62.drew; clear hS62
   refine any_start (fun wS=>∃ qs,St w0 F0 (BlkP (w10.heap.size) 23 #[nI (q5.cap),nI (q5.closed),nI (if q5.count > 0 then q5.count else 0),nI (if q5.start > 0 then q5.start else 0),nI (q5.buf),nI (q5.th),nI (q5.tt),nI (q5.sh),nI (q5.st)]::qs) wS) 16 #[false,false,false,false,false,false,false,false,false,false,false,false,false,false,false,false] (by kernel_rfl) (by kernel_rfl) (by kernel_rfl) ?_
   refine any_many 15 [(0,some (nP b0 0)),(1,some (nP (w10.heap.size) 4)),(2,some (nI (q5.buf))),(3,some (nP (w10.heap.size) 3)),(4,some (nI (if q5.start > 0 then q5.start else 0))),(5,some (nB w10)),(6,some (nI (q5.cap))),(7,some (nI (Int.tmod (if q5.start > 0 then q5.start else 0) q5.cap))),(8,some (nP (w10.heap.size) 2)),(9,some (nI (if q5.count > 0 then q5.count else 0))),(10,some (nI (IntKind.i64.wrap ((Int.tmod (if q5.start > 0 then q5.start else 0) q5.cap)+(if q5.count > 0 then q5.count else 0))))),(11,some (nB w10)),(12,some (nI (q5.cap))),(13,some (nI (Int.tmod (IntKind.i64.wrap ((Int.tmod (if q5.start > 0 then q5.start else 0) q5.cap)+(if q5.count > 0 then q5.count else 0))) q5.cap))),(14,some (nI i2))] [0,1,7,37,39,50,51] #[true,true,true,true,true,true,true,true,true,true,true,true,true,true,true,false] (by rfl) hF73 (by kernel_rfl) (by kernel_rfl) (by exact ⟨fun wS hw=>by kernel_rfl,fun wS hw=>by kernel_rfl,fun wS hw=>hw.elim fun qs hw=>run_loadV rfl rfl (run_loadS rfl rfl (hw.cell 0 rfl 4 rfl)),fun wS hw=>by kernel_rfl,fun wS hw=>hw.elim fun qs hw=>run_loadV rfl rfl (run_loadS rfl rfl (hw.cell 0 rfl 3 rfl)),fun wS hw=>by kernel_rfl,fun wS hw=>hw.elim fun qs hw=>run_loadV rfl rfl (run_loadS rfl rfl (hw.cell 0 rfl 0 rfl)),fun wS hw=>run_rem rfl rfl rfl hc74 _,fun wS hw=>by kernel_rfl,fun wS hw=>hw.elim fun qs hw=>run_loadV rfl rfl (run_loadS rfl rfl (hw.cell 0 rfl 2 rfl)),fun wS hw=>by kernel_rfl,fun wS hw=>by kernel_rfl,fun wS hw=>hw.elim fun qs hw=>run_loadV rfl rfl (run_loadS rfl rfl (hw.cell 0 rfl 0 rfl)),fun wS hw=>run_rem rfl rfl rfl hc74 _,fun wS hw=>by kernel_rfl,trivial⟩) (fun _ _ _ _ _ h=>h) ⟨_,hS76⟩ (l':=[(51,nI i2),(50,nI (Int.tmod (IntKind.i64.wrap ((Int.tmod (if q5.start > 0 then q5.start else 0) q5.cap)+(if q5.count > 0 then q5.count else 0))) q5.cap)),(39,nI (q5.buf)),(37,nP b0 0),(7,nB w10),(0,nP b0 0),(1,nI i1)]) (by kernel_rfl) ?_
   intro a78 hF77; clear hF73
   have hS79:=hS76.pick1
   clear hS76
   refine any_call 15 #[true,true,true,true,true,true,true,true,true,true,true,true,true,true,true,true] 23 #[nP b0 0,nI (q5.buf),nI (Int.tmod (IntKind.i64.wrap ((Int.tmod (if q5.start > 0 then q5.start else 0) q5.cap)+(if q5.count > 0 then q5.count else 0))) q5.cap),nI i2] hF77 rfl (by kernel_rfl) rfl rfl (by kernel_rfl) rfl (by kernel_rfl) (fun w=>by kernel_rfl) (by kernel_rfl) ?_
   obtain ⟨x80,s81,hx82,hm83⟩:=bind2E hm75; clear hm75
   refine (q_Store hS79 hx82).mono ?_
   rintro _ w84 ⟨rfl,hS86⟩; clear hS79
   refine ⟨⟨_,hS86.pick1⟩,?_⟩
   intro a85 hF87; clear hF77
   refine any_done (by kernel_rfl) ?_
   have hF88:=hF87.keep [0,1,7]
   clear hF87
   refine thenN (wp_seq (wp_region_lit ?_))
   refine ev_runs 1 hF88 (l':=[(53,nP (w10.heap.size) 2),(7,nB w10),(0,nP b0 0),(1,nI i1)]) (w':=w84) (by kernel_rfl) ?_
   intro a90 hF89; clear hF88
   refine ev_one (nI (if q5.count > 0 then q5.count else 0)) w84 hF89 (by kernel_rfl) rfl (by kernel_rfl) (run_loadV rfl rfl (run_loadS rfl rfl (hS86.cell 1 rfl 2 rfl))) (l':=[(54,nI (if q5.count > 0 then q5.count else 0)),(53,nP (w10.heap.size) 2),(7,nB w10),(0,nP b0 0),(1,nI i1)]) (by kernel_rfl) ?_
   intro a92 hF91; clear hF89
   refine ev_runs 2 hF91 (l':=[(56,nP (w10.heap.size) 2),(55,nI (IntKind.i64.wrap ((if q5.count > 0 then q5.count else 0)+1))),(54,nI (if q5.count > 0 then q5.count else 0)),(53,nP (w10.heap.size) 2),(7,nB w10),(0,nP b0 0),(1,nI i1)]) (w':=w84) (by kernel_rfl) ?_
   intro a94 hF93; clear hF91
   have hS95:=hS86.pick1
   clear hS86
   refine ev_store (nI (IntKind.i64.wrap ((if q5.count > 0 then q5.count else 0)+1))) #[nI (q5.cap),nI (q5.closed),nI (IntKind.i64.wrap ((if q5.count > 0 then q5.count else 0)+1)),nI (if q5.start > 0 then q5.start else 0),nI (q5.buf),nI (q5.th),nI (q5.tt),nI (q5.sh),nI (q5.st)] hF93 (by kernel_rfl) rfl rfl rfl rfl (by kernel_rfl) hS95 (by kernel_rfl) (by kernel_rfl) (by kernel_rfl) (l':=[(56,nP (w10.heap.size) 2),(55,nI (IntKind.i64.wrap ((if q5.count > 0 then q5.count else 0)+1))),(54,nI (if q5.count > 0 then q5.count else 0)),(53,nP (w10.heap.size) 2),(7,nB w10),(0,nP b0 0),(1,nI i1)]) (by kernel_rfl) ?_
   intro w96 a97 hS98 hF99; clear hF93 hS95
   refine wpList_nil ?_
   have hF100:=hF99.keep [0,1,7]
   clear hF99
   refine thenN (wp_seq (wp_region_lit ?_))
   refine ev_runs 2 hF100 (l':=[(58,nI i1),(57,nP b0 0),(7,nB w10),(0,nP b0 0),(1,nI i1)]) (w':=w96) (by kernel_rfl) ?_
   intro a102 hF101; clear hF100
   refine ev_one (.agg #[nI (q5.cap),nI (q5.closed),nI (IntKind.i64.wrap ((if q5.count > 0 then q5.count else 0)+1)),nI (if q5.start > 0 then q5.start else 0),nI (q5.buf),nI (q5.th),nI (q5.tt),nI (q5.sh),nI (q5.st)]) w96 hF101 (by kernel_rfl) rfl (by kernel_rfl) (run_loadV rfl rfl (run_loadA (cs:=[nI (q5.cap),nI (q5.closed),nI (IntKind.i64.wrap ((if q5.count > 0 then q5.count else 0)+1)),nI (if q5.start > 0 then q5.start else 0),nI (q5.buf),nI (q5.th),nI (q5.tt),nI (q5.sh),nI (q5.st)]) rfl rfl (by kernel_rfl) (blk_cells hS98 0 rfl rfl))) (l':=[(59,.agg #[nI (q5.cap),nI (q5.closed),nI (IntKind.i64.wrap ((if q5.count > 0 then q5.count else 0)+1)),nI (if q5.start > 0 then q5.start else 0),nI (q5.buf),nI (q5.th),nI (q5.tt),nI (q5.sh),nI (q5.st)]),(58,nI i1),(57,nP b0 0),(7,nB w10),(0,nP b0 0),(1,nI i1)]) (by kernel_rfl) ?_
   intro a104 hF103; clear hF101
   have hS105:=hS98.pick1
   clear hS98
   refine ev_call 17 #[nP b0 0,nI i1,.agg #[nI (q5.cap),nI (q5.closed),nI (IntKind.i64.wrap ((if q5.count > 0 then q5.count else 0)+1)),nI (if q5.start > 0 then q5.start else 0),nI (q5.buf),nI (q5.th),nI (q5.tt),nI (q5.sh),nI (q5.st)]] hF103 rfl rfl (by kernel_rfl) rfl (by kernel_rfl) (fun w=>by kernel_rfl) ?_
   obtain ⟨x106,s107,hx108,hm109⟩:=bind2E hm83; clear hm83
   refine (ref11_PutChan.ok hS105 hx108).mono ?_
   rintro _ w110 ⟨rfl,hS112⟩ a111 hF113; clear hF103 hS105
   refine ev_runK 1 hF113 [6] (l':=[(6,nI x106)]) (w':=w110) (by kernel_rfl) ?_
   intro a115 hF114; clear hF113
   refine wpList_nil ?_
   have hS116:=hS112.pick1.drop
   clear hS112
   refine thenN ?_
   refine wp_ret ?_
   simp only [Option.some.injEq,Prod.mk.injEq] at hm109
   obtain ⟨rfl,rfl⟩:=hm109
   refine ev_ret hF114 [6] (nI x106) rfl rfl rfl ?_
   exact ⟨rfl,hS116⟩
 · skip
   refine wp_region_lit ?_
   refine ev_runs 1 hF55 (l':=[(26,nP (w10.heap.size) 2),(7,nB w10),(0,nP b0 0),(1,nI i1),(2,nI i2)]) (w':=w51) (by kernel_rfl) ?_
   intro a120 hF119; clear hF55
   refine ev_one (nI (if q5.count > 0 then q5.count else 0)) w51 hF119 (by kernel_rfl) rfl (by kernel_rfl) (run_loadV rfl rfl (run_loadS rfl rfl (hS53.cell 0 rfl 2 rfl))) (l':=[(27,nI (if q5.count > 0 then q5.count else 0)),(26,nP (w10.heap.size) 2),(7,nB w10),(0,nP b0 0),(1,nI i1),(2,nI i2)]) (by kernel_rfl) ?_
   intro a122 hF121; clear hF119
   refine ev_runs 1 hF121 (l':=[(28,nB w10),(27,nI (if q5.count > 0 then q5.count else 0)),(26,nP (w10.heap.size) 2),(7,nB w10),(0,nP b0 0),(1,nI i1),(2,nI i2)]) (w':=w51) (by kernel_rfl) ?_
   intro a124 hF123; clear hF121
   refine ev_one (nI (q5.cap)) w51 hF123 (by kernel_rfl) rfl (by kernel_rfl) (run_loadV rfl rfl (run_loadS rfl rfl (hS53.cell 0 rfl 0 rfl))) (l':=[(29,nI (q5.cap)),(28,nB w10),(27,nI (if q5.count > 0 then q5.count else 0)),(26,nP (w10.heap.size) 2),(7,nB w10),(0,nP b0 0),(1,nI i1),(2,nI i2)]) (by kernel_rfl) ?_
   intro a126 hF125; clear hF123
   refine ev_runs 2 hF125 (l':=[(31,.bool (decide ((if q5.count > 0 then q5.count else 0) ≥ q5.cap))),(30,.bool (decide ((if q5.count > 0 then q5.count else 0) ≥ q5.cap))),(29,nI (q5.cap)),(28,nB w10),(27,nI (if q5.count > 0 then q5.count else 0)),(26,nP (w10.heap.size) 2),(7,nB w10),(0,nP b0 0),(1,nI i1),(2,nI i2)]) (w':=w51) (by kernel_rfl) ?_
   intro a128 hF127; clear hF125
   cases hc129:(decide ((if q5.count > 0 then q5.count else 0) ≥ q5.cap))
   case true =>
    rw [hc129] at hF127
    have hm130:=ifYes hc129 hm33; clear hm33
    refine ev_runK 5 hF127 [0,1,2,7,36] (l':=[(36,.bool true),(7,nB w10),(0,nP b0 0),(1,nI i1),(2,nI i2)]) (w':=w51) (by kernel_rfl) ?_
    intro a132 hF131; clear hF127
    refine wpList_nil ?_
    exact thenN ⟨s7,true,hF131,hS53,hm130⟩
   rw [hc129] at hF127
   have hm133:=ifNot hc129 hm33; clear hm33
   refine ev_runs 1 hF127 (l':=[(32,nP b0 0),(31,.bool false),(30,.bool false),(29,nI (q5.cap)),(28,nB w10),(27,nI (if q5.count > 0 then q5.count else 0)),(26,nP (w10.heap.size) 2),(7,nB w10),(0,nP b0 0),(1,nI i1),(2,nI i2)]) (w':=w51) (by kernel_rfl) ?_
   intro a135 hF134; clear hF127
   refine ev_one (.agg #[nI (q5.cap),nI (q5.closed),nI (if q5.count > 0 then q5.count else 0),nI (if q5.start > 0 then q5.start else 0),nI (q5.buf),nI (q5.th),nI (q5.tt),nI (q5.sh),nI (q5.st)]) w51 hF134 (by kernel_rfl) rfl (by kernel_rfl) (run_loadV rfl rfl (run_loadA (cs:=[nI (q5.cap),nI (q5.closed),nI (if q5.count > 0 then q5.count else 0),nI (if q5.start > 0 then q5.start else 0),nI (q5.buf),nI (q5.th),nI (q5.tt),nI (q5.sh),nI (q5.st)]) rfl rfl (by kernel_rfl) (blk_cells hS53 0 rfl rfl))) (l':=[(33,.agg #[nI (q5.cap),nI (q5.closed),nI (if q5.count > 0 then q5.count else 0),nI (if q5.start > 0 then q5.start else 0),nI (q5.buf),nI (q5.th),nI (q5.tt),nI (q5.sh),nI (q5.st)]),(32,nP b0 0),(31,.bool false),(30,.bool false),(29,nI (q5.cap)),(28,nB w10),(27,nI (if q5.count > 0 then q5.count else 0)),(26,nP (w10.heap.size) 2),(7,nB w10),(0,nP b0 0),(1,nI i1),(2,nI i2)]) (by kernel_rfl) ?_
   intro a137 hF136; clear hF134
   have hS138:=hS53.pick1
   clear hS53
   refine ev_call 138 #[nP b0 0,.agg #[nI (q5.cap),nI (q5.closed),nI (if q5.count > 0 then q5.count else 0),nI (if q5.start > 0 then q5.start else 0),nI (q5.buf),nI (q5.th),nI (q5.tt),nI (q5.sh),nI (q5.st)]] hF136 rfl rfl (by kernel_rfl) rfl (by kernel_rfl) (fun w=>by kernel_rfl) ?_
   obtain ⟨y139,s140,hx141,hm142⟩:=bind2E hm133; clear hm133
   refine (ref11_buffer.ok hS138 hx141).mono ?_
   rintro _ w143 ⟨rfl,hS145⟩ a144 hF146; clear hF136 hS138
   refine ev_runK 2 hF146 [0,1,2,7,36] (l':=[(36,.bool (!(y139))),(7,nB w10),(0,nP b0 0),(1,nI i1),(2,nI i2)]) (w':=w143) (by kernel_rfl) ?_
   intro a148 hF147; clear hF146
   refine wpList_nil ?_
   have hS149:=hS145.pick1
   clear hS145
   exact thenN ⟨s140,!(y139),hF147,hS149,hm142⟩
def ref11_TakeRing.j1 (i1:Int) (k:Nat) (q5:Ch) (s47:HSt) (y48:Bool):Option (Int×Int×HSt):=(if (y48) then some (0,8,s47) else (if (q5.cap == 0) then none else bind1 (some (Int.tmod (if q5.start > 0 then q5.start else 0) q5.cap)) fun x80=>bind2 (pLoad q5.buf x80 s47) fun x89 x90=>bind2 (pStore q5.buf x80 0 s47) fun x105 s106=>bind2 (ref11_PutChan.m k s106 i1 (⟨q5.cap,q5.closed,IntKind.i64.wrap (q5.count - 1),Int.tmod (IntKind.i64.wrap (x80+1)) q5.cap,q5.buf,q5.th,q5.tt,q5.sh,q5.st⟩:Ch)) fun x151 s152=>some (x89,x151,s152)))
def ref11_TakeRing.m (k:Nat) (s0:HSt) (i1:Int):Option (Int×Int×HSt):=bind3 (ref11_Chan.m k s0 i1) fun q5 x6 s7=>(if (x6 != 0) then some (0,x6,s7) else (if (decide (q5.count≤0)) then ref11_TakeRing.j1 i1 k q5 s7 true else bind2 (ref11_buffer.m k s7 (⟨q5.cap,q5.closed,q5.count,if q5.start > 0 then q5.start else 0,q5.buf,q5.th,q5.tt,q5.sh,q5.st⟩:Ch)) fun y181 s182=>ref11_TakeRing.j1 i1 k q5 s182 (!(y181))))
set_option maxRecDepth 100000 in
set_option maxHeartbeats 1500000 in
theorem ref11_TakeRing.ok {w0 w:World} {F0:List Nat} {ps:List Piece} {k:Nat} {b0 ab0 sb0 g0 cb0:Nat} {s0:HSt} {i1:Int} {r0:Int} {r1:Int} {t0:HSt} (hS:St w0 F0 (RHeapP b0 ab0 sb0 g0 cb0 s0::ps) w) (hm:ref11_TakeRing.m k s0 i1=some (r0,r1,t0)) :
    Calls Tryz.prog 57 #[nP b0 0,nI i1] w fun e w'=>e=.returned (.tuple #[.int .i64 r0,.int .i64 r1])∧St w0 F0 (RHeapP b0 ab0 sb0 g0 cb0 t0::ps) w':=by
 refine ev_enterL 69 [nP b0 0,nI i1] Tryz.func57 rfl rfl (by simp) ?_
 intro a hF
 have hF0:Fr 69 a [(0,nP b0 0),(1,nI i1)]:=hF; clear hF
 unfold ref11_TakeRing.m at hm
 refine wp_seq (wp_region_lit ?_)
 refine ev_runK 2 hF0 [0,1] (l':=[(0,nP b0 0),(1,nI i1)]) (w':=w) (by kernel_rfl) ?_
 intro a2 hF1; clear hF0
 refine wpList_nil (thenN (wp_seq (wp_region_lit ?_)))
 refine ev_runs 2 hF1 (l':=[(13,nI i1),(12,nP b0 0),(0,nP b0 0),(1,nI i1)]) (w':=w) (by kernel_rfl) ?_
 intro a4 hF3; clear hF1
 refine ev_call 26 #[nP b0 0,nI i1] hF3 rfl rfl (by kernel_rfl) rfl (by kernel_rfl) (fun w=>by kernel_rfl) ?_
 obtain ⟨q5,x6,s7,hx8,hm9⟩:=bind3E hm; clear hm
 refine (ref11_Chan.ok hS hx8).mono ?_
 rintro _ w10 ⟨rfl,hS12⟩ a11 hF13; clear hF3 hS
 refine ev_runs 4 hF13 (l':=[(6,nB w10),(16,nI x6),(15,.agg #[nI (q5.cap),nI (q5.closed),nI (q5.count),nI (q5.start),nI (q5.buf),nI (q5.th),nI (q5.tt),nI (q5.sh),nI (q5.st)]),(11,.tuple #[.agg #[nI (q5.cap),nI (q5.closed),nI (q5.count),nI (q5.start),nI (q5.buf),nI (q5.th),nI (q5.tt),nI (q5.sh),nI (q5.st)],nI x6]),(14,.tuple #[.agg #[nI (q5.cap),nI (q5.closed),nI (q5.count),nI (q5.start),nI (q5.buf),nI (q5.th),nI (q5.tt),nI (q5.sh),nI (q5.st)],nI x6]),(13,nI i1),(12,nP b0 0),(0,nP b0 0),(1,nI i1)]) (w':=w10.alloc (.cells #[nI 0,nI 0,nI 0,nI 0,nI 0,nI 0,nI 0,nI 0,nI 0] 23)) (by kernel_rfl) ?_
 intro a15 hF14; clear hF13
 have hS17:St w0 F0 (BlkP (w10.heap.size) 23 #[nI 0,nI 0,nI 0,nI 0,nI 0,nI 0,nI 0,nI 0,nI 0]::RHeapP b0 ab0 sb0 g0 cb0 s7::ps) (w10.alloc (.cells #[nI 0,nI 0,nI 0,nI 0,nI 0,nI 0,nI 0,nI 0,nI 0] 23)):=St.new hS12 #[nI 0,nI 0,nI 0,nI 0,nI 0,nI 0,nI 0,nI 0,nI 0] 23
 clear hS12
 refine ev_store (.agg #[nI (q5.cap),nI (q5.closed),nI (q5.count),nI (q5.start),nI (q5.buf),nI (q5.th),nI (q5.tt),nI (q5.sh),nI (q5.st)]) #[nI (q5.cap),nI (q5.closed),nI (q5.count),nI (q5.start),nI (q5.buf),nI (q5.th),nI (q5.tt),nI (q5.sh),nI (q5.st)] hF14 (by kernel_rfl) rfl rfl rfl rfl (by kernel_rfl) hS17 (by kernel_rfl) (by kernel_rfl) (by kernel_rfl) (l':=[(6,nB w10),(16,nI x6),(15,.agg #[nI (q5.cap),nI (q5.closed),nI (q5.count),nI (q5.start),nI (q5.buf),nI (q5.th),nI (q5.tt),nI (q5.sh),nI (q5.st)]),(11,.tuple #[.agg #[nI (q5.cap),nI (q5.closed),nI (q5.count),nI (q5.start),nI (q5.buf),nI (q5.th),nI (q5.tt),nI (q5.sh),nI (q5.st)],nI x6]),(14,.tuple #[.agg #[nI (q5.cap),nI (q5.closed),nI (q5.count),nI (q5.start),nI (q5.buf),nI (q5.th),nI (q5.tt),nI (q5.sh),nI (q5.st)],nI x6]),(13,nI i1),(12,nP b0 0),(0,nP b0 0),(1,nI i1)]) (by kernel_rfl) ?_
 intro w18 a19 hS20 hF21; clear hF14 hS17
 refine ev_runK 1 hF21 [0,1,6,7] (l':=[(7,nI x6),(6,nB w10),(0,nP b0 0),(1,nI i1)]) (w':=w18) (by kernel_rfl) ?_
 intro a23 hF22; clear hF21
 refine wpList_nil (thenN (wp_seq (wp_seq (wp_region_lit ?_))))
 refine ev_runK 2 hF22 [0,1,6,7,18] (l':=[(18,.bool (x6 != 0)),(7,nI x6),(6,nB w10),(0,nP b0 0),(1,nI i1)]) (w':=w18) (by kernel_rfl) ?_
 intro a25 hF24; clear hF22
 refine wpList_nil (thenN ?_)
 cases hc26:(x6 != 0)
 case true =>
  rw [hc26] at hF24
  have hm27:=ifYes hc26 hm9; clear hm9
  refine ev_condT hF24 rfl rfl ?_
  refine wp_seq (wp_region_lit ?_)
  refine ev_runK 3 hF24 [4,5] (l':=[(5,nI x6),(4,nI 0)]) (w':=w18) (by kernel_rfl) ?_
  intro a29 hF28; clear hF24
  refine wpList_nil ?_
  have hS30:=hS20.drop
  clear hS20
  refine thenN ?_
  refine wp_ret ?_
  refine thenR ?_
  simp only [Option.some.injEq,Prod.mk.injEq] at hm27
  obtain ⟨rfl,rfl,rfl⟩:=hm27
  refine ev_ret hF28 [4,5] (.tuple #[nI 0,nI x6]) rfl rfl rfl ?_
  exact ⟨rfl,hS30⟩
 rw [hc26] at hF24
 have hm34:=ifNot hc26 hm9; clear hm9
 refine ev_condF hF24 rfl rfl ?_
 refine wp_skip ?_
 have hF35:=hF24.keep [0,1,6]
 clear hF24
 refine thenN (wp_seq (wp_region_lit ?_))
 refine ev_runs 1 hF35 (l':=[(20,nP (w10.heap.size) 3),(6,nB w10),(0,nP b0 0),(1,nI i1)]) (w':=w18) (by kernel_rfl) ?_
 intro a37 hF36; clear hF35
 refine ev_one (nI (q5.start)) w18 hF36 (by kernel_rfl) rfl (by kernel_rfl) (run_loadV rfl rfl (run_loadS rfl rfl (hS20.cell 0 rfl 3 rfl))) (l':=[(21,nI (q5.start)),(20,nP (w10.heap.size) 3),(6,nB w10),(0,nP b0 0),(1,nI i1)]) (by kernel_rfl) ?_
 intro a39 hF38; clear hF36
 refine ev_runs 2 hF38 (l':=[(23,nP (w10.heap.size) 3),(22,nI (if q5.start > 0 then q5.start else 0)),(21,nI (q5.start)),(20,nP (w10.heap.size) 3),(6,nB w10),(0,nP b0 0),(1,nI i1)]) (w':=w18) (by kernel_rfl) ?_
 intro a41 hF40; clear hF38
 refine ev_store (nI (if q5.start > 0 then q5.start else 0)) #[nI (q5.cap),nI (q5.closed),nI (q5.count),nI (if q5.start > 0 then q5.start else 0),nI (q5.buf),nI (q5.th),nI (q5.tt),nI (q5.sh),nI (q5.st)] hF40 (by kernel_rfl) rfl rfl rfl rfl (by kernel_rfl) hS20 (by kernel_rfl) (by kernel_rfl) (by kernel_rfl) (l':=[(23,nP (w10.heap.size) 3),(22,nI (if q5.start > 0 then q5.start else 0)),(21,nI (q5.start)),(20,nP (w10.heap.size) 3),(6,nB w10),(0,nP b0 0),(1,nI i1)]) (by kernel_rfl) ?_
 intro w42 a43 hS44 hF45; clear hF40 hS20
 refine wpList_nil ?_
 have hF46:=hF45.keep [0,1,6]
 clear hF45
 refine thenN (wp_seq (wp_seq ?_))
 refine joinQ (fun aI wI=>∃ (s47:HSt) (y48:Bool),Fr 69 aI [(32,.bool (y48)),(6,nB w10),(0,nP b0 0),(1,nI i1)]∧St w0 F0 (BlkP (w10.heap.size) 23 #[nI (q5.cap),nI (q5.closed),nI (q5.count),nI (if q5.start > 0 then q5.start else 0),nI (q5.buf),nI (q5.th),nI (q5.tt),nI (q5.sh),nI (q5.st)]::RHeapP b0 ab0 sb0 g0 cb0 s47::ps) wI∧ref11_TakeRing.j1 i1 k q5 s47 y48=some (r0,r1,t0)) ?_ ?_
 rotate_left
 · rintro a50 w51 ⟨s47,y48,hF52,hS53,hm54⟩
   clear hF46 hS44 hm34
   unfold ref11_TakeRing.j1 at hm54
   refine thenN ?_
   cases hc56:(y48)
   case true =>
    rw [hc56] at hF52
    have hm57:=ifYes hc56 hm54; clear hm54
    refine ev_condT hF52 rfl rfl ?_
    refine wp_seq (wp_region_lit ?_)
    refine ev_runK 2 hF52 [4,5] (l':=[(5,nI 8),(4,nI 0)]) (w':=w51) (by kernel_rfl) ?_
    intro a59 hF58; clear hF52
    refine wpList_nil ?_
    have hS60:=hS53.drop
    clear hS53
    refine thenN ?_
    refine wp_ret ?_
    refine thenR ?_
    simp only [Option.some.injEq,Prod.mk.injEq] at hm57
    obtain ⟨rfl,rfl,rfl⟩:=hm57
    refine ev_ret hF58 [4,5] (.tuple #[nI 0,nI 8]) rfl rfl rfl ?_
    exact ⟨rfl,hS60⟩
   rw [hc56] at hF52
   have hm64:=ifNot hc56 hm54; clear hm54
   refine ev_condF hF52 rfl rfl ?_
   refine wp_skip ?_
   have hF65:=hF52.keep [0,1,6]
   clear hF52
   refine thenN (wp_seq (wp_region_lit ?_))
   refine ev_runs 1 hF65 (l':=[(33,nP (w10.heap.size) 3),(6,nB w10),(0,nP b0 0),(1,nI i1)]) (w':=w51) (by kernel_rfl) ?_
   intro a67 hF66; clear hF65
   refine ev_one (nI (if q5.start > 0 then q5.start else 0)) w51 hF66 (by kernel_rfl) rfl (by kernel_rfl) (run_loadV rfl rfl (run_loadS rfl rfl (hS53.cell 0 rfl 3 rfl))) (l':=[(34,nI (if q5.start > 0 then q5.start else 0)),(33,nP (w10.heap.size) 3),(6,nB w10),(0,nP b0 0),(1,nI i1)]) (by kernel_rfl) ?_
   intro a69 hF68; clear hF66
   refine ev_runs 1 hF68 (l':=[(35,nB w10),(34,nI (if q5.start > 0 then q5.start else 0)),(33,nP (w10.heap.size) 3),(6,nB w10),(0,nP b0 0),(1,nI i1)]) (w':=w51) (by kernel_rfl) ?_
   intro a71 hF70; clear hF68
   refine ev_one (nI (q5.cap)) w51 hF70 (by kernel_rfl) rfl (by kernel_rfl) (run_loadV rfl rfl (run_loadS rfl rfl (hS53.cell 0 rfl 0 rfl))) (l':=[(36,nI (q5.cap)),(35,nB w10),(34,nI (if q5.start > 0 then q5.start else 0)),(33,nP (w10.heap.size) 3),(6,nB w10),(0,nP b0 0),(1,nI i1)]) (by kernel_rfl) ?_
   intro a73 hF72; clear hF70
   obtain ⟨hc74,hm75⟩:=ifFE hm64; clear hm64
   refine ev_one (nI (Int.tmod (if q5.start > 0 then q5.start else 0) q5.cap)) w51 hF72 (by kernel_rfl) rfl (by kernel_rfl) (run_rem rfl rfl rfl hc74 _) (l':=[(37,nI (Int.tmod (if q5.start > 0 then q5.start else 0) q5.cap)),(36,nI (q5.cap)),(35,nB w10),(34,nI (if q5.start > 0 then q5.start else 0)),(33,nP (w10.heap.size) 3),(6,nB w10),(0,nP b0 0),(1,nI i1)]) (by kernel_rfl) ?_
   intro a77 hF76; clear hF72
   refine ev_runs 1 hF76 (l':=[(8,nI (Int.tmod (if q5.start > 0 then q5.start else 0) q5.cap)),(37,nI (Int.tmod (if q5.start > 0 then q5.start else 0) q5.cap)),(36,nI (q5.cap)),(35,nB w10),(34,nI (if q5.start > 0 then q5.start else 0)),(33,nP (w10.heap.size) 3),(6,nB w10),(0,nP b0 0),(1,nI i1)]) (w':=w51) (by kernel_rfl) ?_
   intro a79 hF78; clear hF76
   obtain ⟨x80,hx81,hm82⟩:=bind1E hm75; clear hm75
   have hF83:=hF78; rw [Option.some.inj hx81] at hF83; clear hF78
   refine wpList_nil ?_
   have hF84:=hF83.keep [0,1,6,8]
   clear hF83
   refine thenN (wp_seq ?_)
   have hS85:=hS53.pick1
   clear hS53
   have hS86:=hS85.drew; clear hS85
   refine any_start (fun wS=>∃ qs,St w0 F0 (RHeapXP b0 ab0 sb0 g0 cb0::BlkP (w10.heap.size) 23 #[nI (q5.cap),nI (q5.closed),nI (q5.count),nI (if q5.start > 0 then q5.start else 0),nI (q5.buf),nI (q5.th),nI (q5.tt),nI (q5.sh),nI (q5.st)]::qs) wS) 13 #[false,false,false,false,false,false,false,false,false,false,false,false,false] (by kernel_rfl) (by kernel_rfl) (by kernel_rfl) ?_
   refine any_many 7 [(0,some (nP b0 0)),(1,some (nP b0 0)),(2,some (nP b0 0)),(3,some (nP ab0 0)),(4,some (nP (w10.heap.size) 4)),(5,some (nI (q5.buf))),(6,some (nI x80))] [0,1,6,8,9,38,42,44,45,46,47,48] #[true,true,true,true,true,true,true,false,false,false,false,false,false] (by rfl) hF84 (by kernel_rfl) (by kernel_rfl) (by exact ⟨fun wS hw=>by kernel_rfl,fun wS hw=>by kernel_rfl,fun wS hw=>by kernel_rfl,fun wS hw=>hw.elim fun qs hw=>run_loadV rfl rfl (run_loadS rfl rfl (St.rhA (k:=0) hw rfl)),fun wS hw=>by kernel_rfl,fun wS hw=>hw.elim fun qs hw=>run_loadV rfl rfl (run_loadS rfl rfl (hw.cell 1 rfl 4 rfl)),fun wS hw=>by kernel_rfl,trivial⟩) (fun _ _ _ _ _ h=>h) ⟨_,St.toRX (hS86)⟩ (l':=[(45,nI x80),(44,nI (q5.buf)),(42,nP ab0 0),(8,nI x80),(6,nB w10),(0,nP b0 0),(1,nI i1)]) (by kernel_rfl) ?_
   intro a88 hF87; clear hF84
   refine any_call 7 #[true,true,true,true,true,true,true,true,false,false,false,false,false] 117 #[nP ab0 0,nI (q5.buf),nI x80] hF87 rfl (by kernel_rfl) rfl rfl (by kernel_rfl) rfl (by kernel_rfl) (fun w=>by kernel_rfl) (by kernel_rfl) ?_
   obtain ⟨x89,x90,hx91,hm92⟩:=bind2E hm82; clear hm82
   refine (q_Load hS86 hx91).mono ?_
   rintro _ w93 ⟨rfl,hS95⟩; clear hS86
   refine ⟨⟨_,St.toRX (hS95)⟩,?_⟩
   intro a94 hF96; clear hF87
   refine any_many 5 [(8,some (.tuple #[nI x89,nI x90])),(9,some (nI x89)),(10,some (nI x90)),(11,some (nI x89)),(12,some (nI x90))] [0,1,6,8,9] #[true,true,true,true,true,true,true,true,true,true,true,true,true] (by rfl) hF96 (by kernel_rfl) (by kernel_rfl) (by exact ⟨fun wS hw=>by kernel_rfl,fun wS hw=>by kernel_rfl,fun wS hw=>by kernel_rfl,fun wS hw=>by kernel_rfl,fun wS hw=>by kernel_rfl,trivial⟩) (fun _ _ _ _ _ h=>h) ⟨_,St.toRX (hS95)⟩ (l':=[(9,nI x89),(8,nI x80),(6,nB w10),(0,nP b0 0),(1,nI i1)]) (by kernel_rfl) ?_
   intro a98 hF97; clear hF96
   refine any_done (by kernel_rfl) ?_
   refine thenN (wp_seq (wp_region_lit ?_))
   refine ev_runs 2 hF97 (l':=[(50,nP (w10.heap.size) 4),(49,nP b0 0),(9,nI x89),(8,nI x80),(6,nB w10),(0,nP b0 0),(1,nI i1)]) (w':=w93) (by kernel_rfl) ?_
   intro a100 hF99; clear hF97
   refine ev_one (nI (q5.buf)) w93 hF99 (by kernel_rfl) rfl (by kernel_rfl) (run_loadV rfl rfl (run_loadS rfl rfl (hS95.cell 1 rfl 4 rfl))) (l':=[(51,nI (q5.buf)),(50,nP (w10.heap.size) 4),(49,nP b0 0),(9,nI x89),(8,nI x80),(6,nB w10),(0,nP b0 0),(1,nI i1)]) (by kernel_rfl) ?_
   intro a102 hF101; clear hF99
   refine ev_runs 1 hF101 (l':=[(52,nI x80),(51,nI (q5.buf)),(50,nP (w10.heap.size) 4),(49,nP b0 0),(9,nI x89),(8,nI x80),(6,nB w10),(0,nP b0 0),(1,nI i1)]) (w':=w93) (by kernel_rfl) ?_
   intro a104 hF103; clear hF101
   refine ev_call 23 #[nP b0 0,nI (q5.buf),nI x80,nI 0] hF103 rfl rfl (by kernel_rfl) rfl (by kernel_rfl) (fun w=>by kernel_rfl) ?_
   obtain ⟨x105,s106,hx107,hm108⟩:=bind2E hm92; clear hm92
   refine (q_Store hS95 hx107).mono ?_
   rintro _ w109 ⟨rfl,hS111⟩ a110 hF112; clear hF103 hS95
   refine wpList_nil ?_
   have hF113:=hF112.keep [0,1,6,8,9]
   clear hF112
   refine thenN (wp_seq ?_)
   have hS114:=hS111.pick1
   clear hS111
   have hS115:=hS114.drew; clear hS114
   refine anyL_start 9 (fun wS=>∃ qs,St w0 F0 (BlkP (w10.heap.size) 23 #[nI (q5.cap),nI (q5.closed),nI (q5.count),nI (if q5.start > 0 then q5.start else 0),nI (q5.buf),nI (q5.th),nI (q5.tt),nI (q5.sh),nI (q5.st)]::qs) wS) 12 #[false,false,false,false,false,false,false,false,false,false,false,false] (by kernel_rfl) (by kernel_rfl) (by kernel_rfl) ?_
   refine anyL_take 9 0 #[true,false,false,false,false,false,false,false,false,false,false,false] (nI x80) hF113 rfl (by kernel_rfl) rfl (by kernel_rfl) (fun wS hw=>by kernel_rfl) (l':=[(54,nI x80),(9,nI x89),(8,nI x80),(6,nB w10),(0,nP b0 0),(1,nI i1)]) (by kernel_rfl) (by kernel_rfl) (by kernel_rfl) (by kernel_rfl) (by kernel_rfl) (by kernel_rfl) rfl (fun _ _ _ h=>h) ⟨_,hS115⟩ (by kernel_rfl) ?_
   intro a117 hF116; clear hF113
   refine anyL_take 9 1 #[true,true,false,false,false,false,false,false,false,false,false,false] (nI (IntKind.i64.wrap (x80+1))) hF116 rfl (by kernel_rfl) rfl (by kernel_rfl) (fun wS hw=>by kernel_rfl) (l':=[(55,nI (IntKind.i64.wrap (x80+1))),(54,nI x80),(9,nI x89),(8,nI x80),(6,nB w10),(0,nP b0 0),(1,nI i1)]) (by kernel_rfl) (by kernel_rfl) (by kernel_rfl) (by kernel_rfl) (by kernel_rfl) (by kernel_rfl) rfl (fun _ _ _ h=>h) ⟨_,hS115⟩ (by kernel_rfl) ?_
   intro a119 hF118; clear hF116
   refine anyL_take 9 2 #[true,true,true,false,false,false,false,false,false,false,false,false] (nB w10) hF118 rfl (by kernel_rfl) rfl (by kernel_rfl) (fun wS hw=>by kernel_rfl) (l':=[(56,nB w10),(55,nI (IntKind.i64.wrap (x80+1))),(54,nI x80),(9,nI x89),(8,nI x80),(6,nB w10),(0,nP b0 0),(1,nI i1)]) (by kernel_rfl) (by kernel_rfl) (by kernel_rfl) (by kernel_rfl) (by kernel_rfl) (by kernel_rfl) rfl (fun _ _ _ h=>h) ⟨_,hS115⟩ (by kernel_rfl) ?_
   intro a121 hF120; clear hF118
   refine anyL_take 9 3 #[true,true,true,true,false,false,false,false,false,false,false,false] (nI (q5.cap)) hF120 rfl (by kernel_rfl) rfl (by kernel_rfl) (fun wS hw=>hw.elim fun qs hw=>run_loadV rfl rfl (run_loadS rfl rfl (hw.cell 0 rfl 0 rfl))) (l':=[(57,nI (q5.cap)),(56,nB w10),(55,nI (IntKind.i64.wrap (x80+1))),(54,nI x80),(9,nI x89),(8,nI x80),(6,nB w10),(0,nP b0 0),(1,nI i1)]) (by kernel_rfl) (by kernel_rfl) (by kernel_rfl) (by kernel_rfl) (by kernel_rfl) (by kernel_rfl) rfl (fun _ _ _ h=>h) ⟨_,hS115⟩ (by kernel_rfl) ?_
   intro a123 hF122; clear hF120
   refine anyL_take 9 4 #[true,true,true,true,true,false,false,false,false,false,false,false] (nI (Int.tmod (IntKind.i64.wrap (x80+1)) q5.cap)) hF122 rfl (by kernel_rfl) rfl (by kernel_rfl) (fun wS hw=>run_rem rfl rfl rfl hc74 _) (l':=[(58,nI (Int.tmod (IntKind.i64.wrap (x80+1)) q5.cap)),(57,nI (q5.cap)),(56,nB w10),(55,nI (IntKind.i64.wrap (x80+1))),(54,nI x80),(9,nI x89),(8,nI x80),(6,nB w10),(0,nP b0 0),(1,nI i1)]) (by kernel_rfl) (by kernel_rfl) (by kernel_rfl) (by kernel_rfl) (by kernel_rfl) (by kernel_rfl) rfl (fun _ _ _ h=>h) ⟨_,hS115⟩ (by kernel_rfl) ?_
   intro a125 hF124; clear hF122
   have hF126:=hF124.keep [0,1,6,9,58]; clear hF124
   refine anyL_take 9 5 #[true,true,true,true,true,true,false,false,false,false,false,false] (nP (w10.heap.size) 2) hF126 rfl (by kernel_rfl) rfl (by kernel_rfl) (fun wS hw=>by kernel_rfl) (l':=[(59,nP (w10.heap.size) 2),(58,nI (Int.tmod (IntKind.i64.wrap (x80+1)) q5.cap)),(9,nI x89),(6,nB w10),(0,nP b0 0),(1,nI i1)]) (by kernel_rfl) (by kernel_rfl) (by kernel_rfl) (by kernel_rfl) (by kernel_rfl) (by kernel_rfl) rfl (fun _ _ _ h=>h) ⟨_,hS115⟩ (by kernel_rfl) ?_
   intro a128 hF127; clear hF126
   refine anyL_take 9 6 #[true,true,true,true,true,true,true,false,false,false,false,false] (nI (q5.count)) hF127 rfl (by kernel_rfl) rfl (by kernel_rfl) (fun wS hw=>hw.elim fun qs hw=>run_loadV rfl rfl (run_loadS rfl rfl (hw.cell 0 rfl 2 rfl))) (l':=[(60,nI (q5.count)),(59,nP (w10.heap.size) 2),(58,nI (Int.tmod (IntKind.i64.wrap (x80+1)) q5.cap)),(9,nI x89),(6,nB w10),(0,nP b0 0),(1,nI i1)]) (by kernel_rfl) (by kernel_rfl) (by kernel_rfl) (by kernel_rfl) (by kernel_rfl) (by kernel_rfl) rfl (fun _ _ _ h=>h) ⟨_,hS115⟩ (by kernel_rfl) ?_
   intro a130 hF129; clear hF127
   refine anyL_pure 9 7 #[true,true,true,true,true,true,true,true,false,false,false,false] (nI (IntKind.i64.wrap (q5.count - 1))) hF129 rfl (by kernel_rfl) rfl (by kernel_rfl) (fun w=>by kernel_rfl) (l':=[(61,nI (IntKind.i64.wrap (q5.count - 1))),(60,nI (q5.count)),(59,nP (w10.heap.size) 2),(58,nI (Int.tmod (IntKind.i64.wrap (x80+1)) q5.cap)),(9,nI x89),(6,nB w10),(0,nP b0 0),(1,nI i1)]) (by kernel_rfl) (by kernel_rfl) (by kernel_rfl) (by kernel_rfl) (by kernel_rfl) rfl (fun _ _ _ h=>h) ⟨_,hS115⟩ (by kernel_rfl) ?_
   intro a132 hF131; clear hF129
   refine anyL_take 9 8 #[true,true,true,true,true,true,true,true,true,false,false,false] (nP (w10.heap.size) 3) hF131 rfl (by kernel_rfl) rfl (by kernel_rfl) (fun wS hw=>by kernel_rfl) (l':=[(62,nP (w10.heap.size) 3),(61,nI (IntKind.i64.wrap (q5.count - 1))),(60,nI (q5.count)),(59,nP (w10.heap.size) 2),(58,nI (Int.tmod (IntKind.i64.wrap (x80+1)) q5.cap)),(9,nI x89),(6,nB w10),(0,nP b0 0),(1,nI i1)]) (by kernel_rfl) (by kernel_rfl) (by kernel_rfl) (by kernel_rfl) (by kernel_rfl) (by kernel_rfl) rfl (fun _ _ _ h=>h) ⟨_,hS115⟩ (by kernel_rfl) ?_
   intro a134 hF133; clear hF131
   refine anyL_store 9 9 #[true,true,true,true,true,true,true,true,true,true,false,false] (nI (Int.tmod (IntKind.i64.wrap (x80+1)) q5.cap)) #[nI (q5.cap),nI (q5.closed),nI (q5.count),nI (Int.tmod (IntKind.i64.wrap (x80+1)) q5.cap),nI (q5.buf),nI (q5.th),nI (q5.tt),nI (q5.sh),nI (q5.st)] hF133 rfl (by kernel_rfl) (by kernel_rfl) rfl rfl rfl rfl (by kernel_rfl) hS115 (by kernel_rfl) (by kernel_rfl) (by kernel_rfl) (l':=[(62,nP (w10.heap.size) 3),(61,nI (IntKind.i64.wrap (q5.count - 1))),(60,nI (q5.count)),(59,nP (w10.heap.size) 2),(58,nI (Int.tmod (IntKind.i64.wrap (x80+1)) q5.cap)),(9,nI x89),(6,nB w10),(0,nP b0 0),(1,nI i1)]) (by kernel_rfl) (by kernel_rfl) (by kernel_rfl) ?_
   intro w135 a136 hS137 hF138; clear hF133 hS115
   refine anyL_after 9 10 #[true,true,true,true,true,true,true,true,true,true,true,false] (nP (w10.heap.size) 2) hF138 rfl (by kernel_rfl) rfl (by kernel_rfl) (fun w=>by kernel_rfl) (l':=[(63,nP (w10.heap.size) 2),(62,nP (w10.heap.size) 3),(61,nI (IntKind.i64.wrap (q5.count - 1))),(60,nI (q5.count)),(59,nP (w10.heap.size) 2),(58,nI (Int.tmod (IntKind.i64.wrap (x80+1)) q5.cap)),(9,nI x89),(6,nB w10),(0,nP b0 0),(1,nI i1)]) (by kernel_rfl) (by kernel_rfl) (by kernel_rfl) (by kernel_rfl) (by kernel_rfl) rfl (fun _ _ _ h=>h) (by kernel_rfl) (by kernel_rfl) ?_
   intro a140 hF139; clear hF138
   refine anyL_store 9 11 #[true,true,true,true,true,true,true,true,true,true,true,true] (nI (IntKind.i64.wrap (q5.count - 1))) #[nI (q5.cap),nI (q5.closed),nI (IntKind.i64.wrap (q5.count - 1)),nI (Int.tmod (IntKind.i64.wrap (x80+1)) q5.cap),nI (q5.buf),nI (q5.th),nI (q5.tt),nI (q5.sh),nI (q5.st)] hF139 rfl (by kernel_rfl) (by kernel_rfl) rfl rfl rfl rfl (by kernel_rfl) hS137 (by kernel_rfl) (by kernel_rfl) (by kernel_rfl) (l':=[(63,nP (w10.heap.size) 2),(62,nP (w10.heap.size) 3),(61,nI (IntKind.i64.wrap (q5.count - 1))),(60,nI (q5.count)),(59,nP (w10.heap.size) 2),(58,nI (Int.tmod (IntKind.i64.wrap (x80+1)) q5.cap)),(9,nI x89),(6,nB w10),(0,nP b0 0),(1,nI i1)]) (by kernel_rfl) (by kernel_rfl) (by kernel_rfl) ?_
   intro w141 a142 hS143 hF144; clear hF139 hS137
   refine anyL_done (by kernel_rfl) ?_
   have hF145:=hF144.keep [0,1,6,9]
   clear hF144
   refine thenN (wp_seq (wp_region_lit ?_))
   refine ev_runs 3 hF145 (l':=[(66,nI i1),(65,nP b0 0),(64,nI x89),(9,nI x89),(6,nB w10),(0,nP b0 0),(1,nI i1)]) (w':=w141) (by kernel_rfl) ?_
   intro a147 hF146; clear hF145
   refine ev_one (.agg #[nI (q5.cap),nI (q5.closed),nI (IntKind.i64.wrap (q5.count - 1)),nI (Int.tmod (IntKind.i64.wrap (x80+1)) q5.cap),nI (q5.buf),nI (q5.th),nI (q5.tt),nI (q5.sh),nI (q5.st)]) w141 hF146 (by kernel_rfl) rfl (by kernel_rfl) (run_loadV rfl rfl (run_loadA (cs:=[nI (q5.cap),nI (q5.closed),nI (IntKind.i64.wrap (q5.count - 1)),nI (Int.tmod (IntKind.i64.wrap (x80+1)) q5.cap),nI (q5.buf),nI (q5.th),nI (q5.tt),nI (q5.sh),nI (q5.st)]) rfl rfl (by kernel_rfl) (blk_cells hS143 0 rfl rfl))) (l':=[(67,.agg #[nI (q5.cap),nI (q5.closed),nI (IntKind.i64.wrap (q5.count - 1)),nI (Int.tmod (IntKind.i64.wrap (x80+1)) q5.cap),nI (q5.buf),nI (q5.th),nI (q5.tt),nI (q5.sh),nI (q5.st)]),(66,nI i1),(65,nP b0 0),(64,nI x89),(9,nI x89),(6,nB w10),(0,nP b0 0),(1,nI i1)]) (by kernel_rfl) ?_
   intro a149 hF148; clear hF146
   have hS150:=hS143.pick1
   clear hS143
   refine ev_call 17 #[nP b0 0,nI i1,.agg #[nI (q5.cap),nI (q5.closed),nI (IntKind.i64.wrap (q5.count - 1)),nI (Int.tmod (IntKind.i64.wrap (x80+1)) q5.cap),nI (q5.buf),nI (q5.th),nI (q5.tt),nI (q5.sh),nI (q5.st)]] hF148 rfl rfl (by kernel_rfl) rfl (by kernel_rfl) (fun w=>by kernel_rfl) ?_
   obtain ⟨x151,s152,hx153,hm154⟩:=bind2E hm108; clear hm108
   refine (ref11_PutChan.ok hS150 hx153).mono ?_
   rintro _ w155 ⟨rfl,hS157⟩ a156 hF158; clear hF148 hS150
   refine ev_runK 2 hF158 [4,5] (l':=[(5,nI x151),(4,nI x89)]) (w':=w155) (by kernel_rfl) ?_
   intro a160 hF159; clear hF158
   refine wpList_nil ?_
   have hS161:=hS157.pick1.drop
   clear hS157
   refine thenN ?_
   refine wp_ret ?_
   simp only [Option.some.injEq,Prod.mk.injEq] at hm154
   obtain ⟨rfl,rfl,rfl⟩:=hm154
   refine ev_ret hF159 [4,5] (.tuple #[nI x89,nI x151]) rfl rfl rfl ?_
   exact ⟨rfl,hS161⟩
 · skip
   refine wp_region_lit ?_
   refine ev_runs 1 hF46 (l':=[(24,nP (w10.heap.size) 2),(6,nB w10),(0,nP b0 0),(1,nI i1)]) (w':=w42) (by kernel_rfl) ?_
   intro a166 hF165; clear hF46
   refine ev_one (nI (q5.count)) w42 hF165 (by kernel_rfl) rfl (by kernel_rfl) (run_loadV rfl rfl (run_loadS rfl rfl (hS44.cell 0 rfl 2 rfl))) (l':=[(25,nI (q5.count)),(24,nP (w10.heap.size) 2),(6,nB w10),(0,nP b0 0),(1,nI i1)]) (by kernel_rfl) ?_
   intro a168 hF167; clear hF165
   refine ev_runs 2 hF167 (l':=[(27,.bool (decide (q5.count≤0))),(26,.bool (decide (q5.count≤0))),(25,nI (q5.count)),(24,nP (w10.heap.size) 2),(6,nB w10),(0,nP b0 0),(1,nI i1)]) (w':=w42) (by kernel_rfl) ?_
   intro a170 hF169; clear hF167
   cases hc171:(decide (q5.count≤0))
   case true =>
    rw [hc171] at hF169
    have hm172:=ifYes hc171 hm34; clear hm34
    refine ev_runK 5 hF169 [0,1,6,32] (l':=[(32,.bool true),(6,nB w10),(0,nP b0 0),(1,nI i1)]) (w':=w42) (by kernel_rfl) ?_
    intro a174 hF173; clear hF169
    refine wpList_nil ?_
    exact thenN ⟨s7,true,hF173,hS44,hm172⟩
   rw [hc171] at hF169
   have hm175:=ifNot hc171 hm34; clear hm34
   refine ev_runs 1 hF169 (l':=[(28,nP b0 0),(27,.bool false),(26,.bool false),(25,nI (q5.count)),(24,nP (w10.heap.size) 2),(6,nB w10),(0,nP b0 0),(1,nI i1)]) (w':=w42) (by kernel_rfl) ?_
   intro a177 hF176; clear hF169
   refine ev_one (.agg #[nI (q5.cap),nI (q5.closed),nI (q5.count),nI (if q5.start > 0 then q5.start else 0),nI (q5.buf),nI (q5.th),nI (q5.tt),nI (q5.sh),nI (q5.st)]) w42 hF176 (by kernel_rfl) rfl (by kernel_rfl) (run_loadV rfl rfl (run_loadA (cs:=[nI (q5.cap),nI (q5.closed),nI (q5.count),nI (if q5.start > 0 then q5.start else 0),nI (q5.buf),nI (q5.th),nI (q5.tt),nI (q5.sh),nI (q5.st)]) rfl rfl (by kernel_rfl) (blk_cells hS44 0 rfl rfl))) (l':=[(29,.agg #[nI (q5.cap),nI (q5.closed),nI (q5.count),nI (if q5.start > 0 then q5.start else 0),nI (q5.buf),nI (q5.th),nI (q5.tt),nI (q5.sh),nI (q5.st)]),(28,nP b0 0),(27,.bool false),(26,.bool false),(25,nI (q5.count)),(24,nP (w10.heap.size) 2),(6,nB w10),(0,nP b0 0),(1,nI i1)]) (by kernel_rfl) ?_
   intro a179 hF178; clear hF176
   have hS180:=hS44.pick1
   clear hS44
   refine ev_call 138 #[nP b0 0,.agg #[nI (q5.cap),nI (q5.closed),nI (q5.count),nI (if q5.start > 0 then q5.start else 0),nI (q5.buf),nI (q5.th),nI (q5.tt),nI (q5.sh),nI (q5.st)]] hF178 rfl rfl (by kernel_rfl) rfl (by kernel_rfl) (fun w=>by kernel_rfl) ?_
   obtain ⟨y181,s182,hx183,hm184⟩:=bind2E hm175; clear hm175
   refine (ref11_buffer.ok hS180 hx183).mono ?_
   rintro _ w185 ⟨rfl,hS187⟩ a186 hF188; clear hF178 hS180
   refine ev_runK 2 hF188 [0,1,6,32] (l':=[(32,.bool (!(y181))),(6,nB w10),(0,nP b0 0),(1,nI i1)]) (w':=w185) (by kernel_rfl) ?_
   intro a190 hF189; clear hF188
   refine wpList_nil ?_
   have hS191:=hS187.pick1
   clear hS187
   exact thenN ⟨s182,!(y181),hF189,hS191,hm184⟩
def ref11_AllRing.j5 (q8:Ch) (s27:HSt) (L54:List Int) (x56:Int) (rec59:List Int→Int→Option (List Int×HSt)) (y68:Bool):Option (List Int×HSt):=(if (y68) then (if (q8.cap == 0) then none else bind2 (pLoad q8.buf (Int.tmod (IntKind.i64.wrap ((Int.tmod (if q8.start > 0 then q8.start else 0) q8.cap)+x56)) q8.cap) s27) fun x85 x86=>bind1 (pushM L54 x85) fun L98=>rec59 L98 (IntKind.i64.wrap (x56+1))) else some (L54,s27))
def ref11_AllRing.l4b (q8:Ch) (s27:HSt) (rec59:List Int→Int→Option (List Int×HSt)) (L54:List Int) (x56:Int):Option (List Int×HSt):=(if (decide (x56<q8.count)) then ref11_AllRing.j5 q8 s27 L54 x56 rec59 (decide (x56<q8.cap)) else ref11_AllRing.j5 q8 s27 L54 x56 rec59 false)
def ref11_AllRing.l4 (q8:Ch) (s27:HSt):Nat→List Int→Int→Option (List Int×HSt)
  | 0=>fun _ _=>none
  | kI+1=>ref11_AllRing.l4b q8 s27 (ref11_AllRing.l4 q8 s27 kI)
def ref11_AllRing.j1 (k:Nat) (q8:Ch) (s27:HSt) (y28:Bool):Option (List Int×HSt):=(if (y28) then some ([],s27) else ref11_AllRing.l4 q8 s27 k [] 0)
def ref11_AllRing.m (k:Nat) (s0:HSt) (i1:Int):Option (List Int×HSt):=bind3 (ref11_Chan.m k s0 i1) fun q8 x9 s10=>(if (x9 != 0) then ref11_AllRing.j1 k q8 s10 true else (if (decide (q8.count≤0)) then ref11_AllRing.j1 k q8 s10 true else bind2 (ref11_buffer.m k s10 (⟨q8.cap,q8.closed,q8.count,q8.start,q8.buf,q8.th,q8.tt,q8.sh,q8.st⟩:Ch)) fun y159 s160=>ref11_AllRing.j1 k q8 s160 (!(y159))))
set_option maxRecDepth 100000 in
set_option maxHeartbeats 1500000 in
theorem ref11_AllRing.ok {w0 w:World} {F0:List Nat} {ps:List Piece} {k:Nat} {b0 ab0 sb0 g0 cb0:Nat} {s0:HSt} {i1:Int} {r0:List Int} {t0:HSt} (hS:St w0 F0 (RHeapP b0 ab0 sb0 g0 cb0 s0::ps) w) (hm:ref11_AllRing.m k s0 i1=some (r0,t0)) :
    Calls Tryz.prog 65 #[nP b0 0,nI i1] w fun e w'=>∃ vr0,e=.returned (vr0)∧St w0 F0 (RHeapP b0 ab0 sb0 g0 cb0 t0::RowP vr0 r0::ps) w':=by
 refine ev_enterL 68 [nP b0 0,nI i1] Tryz.func65 rfl rfl (by simp) ?_
 intro a hF
 have hF0:Fr 68 a [(0,nP b0 0),(1,nI i1)]:=hF; clear hF
 unfold ref11_AllRing.m at hm
 refine wp_seq (wp_region_lit ?_)
 have hS2:St w0 F0 (RowP (.slice none 0 0) []::RHeapP b0 ab0 sb0 g0 cb0 s0::ps) w:=St.nil hS
 refine ev_runK 1 hF0 [0,1] (l':=[(0,nP b0 0),(1,nI i1)]) (w':=w) (by kernel_rfl) ?_
 intro a4 hF3; clear hF0
 refine wpList_nil ?_
 have hS5:=hS2.drop
 clear hS2
 refine thenN (wp_seq (wp_region_lit ?_))
 refine ev_runs 2 hF3 (l':=[(13,nI i1),(12,nP b0 0),(0,nP b0 0),(1,nI i1)]) (w':=w) (by kernel_rfl) ?_
 intro a7 hF6; clear hF3
 refine ev_call 26 #[nP b0 0,nI i1] hF6 rfl rfl (by kernel_rfl) rfl (by kernel_rfl) (fun w=>by kernel_rfl) ?_
 obtain ⟨q8,x9,s10,hx11,hm12⟩:=bind3E hm; clear hm
 refine (ref11_Chan.ok hS5 hx11).mono ?_
 rintro _ w13 ⟨rfl,hS15⟩ a14 hF16; clear hF6 hS5
 refine ev_runs 4 hF16 (l':=[(5,nB w13),(16,nI x9),(15,.agg #[nI (q8.cap),nI (q8.closed),nI (q8.count),nI (q8.start),nI (q8.buf),nI (q8.th),nI (q8.tt),nI (q8.sh),nI (q8.st)]),(11,.tuple #[.agg #[nI (q8.cap),nI (q8.closed),nI (q8.count),nI (q8.start),nI (q8.buf),nI (q8.th),nI (q8.tt),nI (q8.sh),nI (q8.st)],nI x9]),(14,.tuple #[.agg #[nI (q8.cap),nI (q8.closed),nI (q8.count),nI (q8.start),nI (q8.buf),nI (q8.th),nI (q8.tt),nI (q8.sh),nI (q8.st)],nI x9]),(13,nI i1),(12,nP b0 0),(0,nP b0 0),(1,nI i1)]) (w':=w13.alloc (.cells #[nI 0,nI 0,nI 0,nI 0,nI 0,nI 0,nI 0,nI 0,nI 0] 23)) (by kernel_rfl) ?_
 intro a18 hF17; clear hF16
 have hS20:St w0 F0 (BlkP (w13.heap.size) 23 #[nI 0,nI 0,nI 0,nI 0,nI 0,nI 0,nI 0,nI 0,nI 0]::RHeapP b0 ab0 sb0 g0 cb0 s10::ps) (w13.alloc (.cells #[nI 0,nI 0,nI 0,nI 0,nI 0,nI 0,nI 0,nI 0,nI 0] 23)):=St.new hS15 #[nI 0,nI 0,nI 0,nI 0,nI 0,nI 0,nI 0,nI 0,nI 0] 23
 clear hS15
 refine ev_store (.agg #[nI (q8.cap),nI (q8.closed),nI (q8.count),nI (q8.start),nI (q8.buf),nI (q8.th),nI (q8.tt),nI (q8.sh),nI (q8.st)]) #[nI (q8.cap),nI (q8.closed),nI (q8.count),nI (q8.start),nI (q8.buf),nI (q8.th),nI (q8.tt),nI (q8.sh),nI (q8.st)] hF17 (by kernel_rfl) rfl rfl rfl rfl (by kernel_rfl) hS20 (by kernel_rfl) (by kernel_rfl) (by kernel_rfl) (l':=[(5,nB w13),(16,nI x9),(15,.agg #[nI (q8.cap),nI (q8.closed),nI (q8.count),nI (q8.start),nI (q8.buf),nI (q8.th),nI (q8.tt),nI (q8.sh),nI (q8.st)]),(11,.tuple #[.agg #[nI (q8.cap),nI (q8.closed),nI (q8.count),nI (q8.start),nI (q8.buf),nI (q8.th),nI (q8.tt),nI (q8.sh),nI (q8.st)],nI x9]),(14,.tuple #[.agg #[nI (q8.cap),nI (q8.closed),nI (q8.count),nI (q8.start),nI (q8.buf),nI (q8.th),nI (q8.tt),nI (q8.sh),nI (q8.st)],nI x9]),(13,nI i1),(12,nP b0 0),(0,nP b0 0),(1,nI i1)]) (by kernel_rfl) ?_
 intro w21 a22 hS23 hF24; clear hF17 hS20
 refine ev_runK 1 hF24 [0,5,6] (l':=[(6,nI x9),(5,nB w13),(0,nP b0 0)]) (w':=w21) (by kernel_rfl) ?_
 intro a26 hF25; clear hF24
 refine wpList_nil (thenN (wp_seq (wp_seq ?_)))
 refine joinQ (fun aI wI=>∃ (s27:HSt) (y28:Bool),Fr 68 aI [(29,.bool (y28)),(5,nB w13),(0,nP b0 0)]∧St w0 F0 (BlkP (w13.heap.size) 23 #[nI (q8.cap),nI (q8.closed),nI (q8.count),nI (q8.start),nI (q8.buf),nI (q8.th),nI (q8.tt),nI (q8.sh),nI (q8.st)]::RHeapP b0 ab0 sb0 g0 cb0 s27::ps) wI∧ref11_AllRing.j1 k q8 s27 y28=some (r0,t0)) ?_ ?_
 rotate_left
 · rintro a30 w31 ⟨s27,y28,hF32,hS33,hm34⟩
   clear hF25 hS23 hm12
   unfold ref11_AllRing.j1 at hm34
   refine thenN ?_
   cases hc36:(y28)
   case true =>
    rw [hc36] at hF32
    have hm37:=ifYes hc36 hm34; clear hm34
    refine ev_condT hF32 rfl rfl ?_
    refine wp_seq (wp_region_lit ?_)
    have hS39:St w0 F0 (RowP (.slice none 0 0) []::BlkP (w13.heap.size) 23 #[nI (q8.cap),nI (q8.closed),nI (q8.count),nI (q8.start),nI (q8.buf),nI (q8.th),nI (q8.tt),nI (q8.sh),nI (q8.st)]::RHeapP b0 ab0 sb0 g0 cb0 s27::ps) w31:=St.nil hS33
    clear hS33
    refine ev_runK 1 hF32 [4] (l':=[(4,.slice none 0 0)]) (w':=w31) (by kernel_rfl) ?_
    intro a41 hF40; clear hF32
    refine wpList_nil ?_
    have hS42:=hS39.pick1.drop
    clear hS39
    refine thenN ?_
    refine wp_ret ?_
    refine thenR ?_
    have hS43:=hS42.pick1
    clear hS42
    simp only [Option.some.injEq,Prod.mk.injEq] at hm37
    obtain ⟨rfl,rfl⟩:=hm37
    refine ev_ret hF40 [4] (.slice none 0 0) rfl rfl rfl ?_
    exact ⟨_,rfl,hS43⟩
   rw [hc36] at hF32
   have hm46:=ifNot hc36 hm34; clear hm34
   refine ev_condF hF32 rfl rfl ?_
   refine wp_skip ?_
   have hF47:=hF32.keep [0,5]
   clear hF32
   refine thenN (wp_seq (wp_region_lit ?_))
   have hS49:St w0 F0 (RowP (.slice none 0 0) []::BlkP (w13.heap.size) 23 #[nI (q8.cap),nI (q8.closed),nI (q8.count),nI (q8.start),nI (q8.buf),nI (q8.th),nI (q8.tt),nI (q8.sh),nI (q8.st)]::RHeapP b0 ab0 sb0 g0 cb0 s27::ps) w31:=St.nil hS33
   clear hS33
   refine ev_runs 1 hF47 (l':=[(7,.slice none 0 0),(5,nB w13),(0,nP b0 0)]) (w':=w31) (by kernel_rfl) ?_
   intro a51 hF50; clear hF47
   refine wpList_nil (thenN (wp_seq (wp_seq (wp_region_lit ?_))))
   refine ev_runs 1 hF50 (l':=[(8,nI 0),(7,.slice none 0 0),(5,nB w13),(0,nP b0 0)]) (w':=w31) (by kernel_rfl) ?_
   intro a53 hF52; clear hF50
   refine wpList_nil (thenN ?_)
   refine wp_block ?_
   refine wp_loop_ghost (fun kI aI wI=>∃ (v55:Value) (L54:List Int) (x56:Int),Fr 68 aI [(8,nI x56),(7,v55),(5,nB w13),(0,nP b0 0)]∧St w0 F0 (RowP (v55) L54::BlkP (w13.heap.size) 23 #[nI (q8.cap),nI (q8.closed),nI (q8.count),nI (q8.start),nI (q8.buf),nI (q8.th),nI (q8.tt),nI (q8.sh),nI (q8.st)]::RHeapP b0 ab0 sb0 g0 cb0 s27::ps) wI∧ref11_AllRing.l4 q8 s27 kI L54 x56=some (r0,t0)) k ⟨.slice none 0 0,[],0,hF52,hS49,hm46⟩ ?_
   rintro k57 a58 w59 ⟨v55,L54,x56,hF60,hS61,hm62⟩
   clear hF52 hS49 hm46
   rcases k57 with _ | k57
   · cases hm62
   have hm63:ref11_AllRing.l4b q8 s27 (ref11_AllRing.l4 q8 s27 k57) L54 x56=some (r0,t0):=hm62
   clear hm62
   unfold ref11_AllRing.l4b at hm63
   obtain ⟨hl67,p64,c65,rfl,hp66⟩:=St.shape hS61 0 rfl
   refine wp_seq (wp_seq ?_)
   refine joinQ (fun aI wI=>∃ (y68:Bool),Fr 68 aI [(39,.bool (y68)),(8,nI x56),(7,.slice p64 L54.length c65),(5,nB w13),(0,nP b0 0)]∧St w0 F0 (RowP (.slice p64 L54.length c65) L54::BlkP (w13.heap.size) 23 #[nI (q8.cap),nI (q8.closed),nI (q8.count),nI (q8.start),nI (q8.buf),nI (q8.th),nI (q8.tt),nI (q8.sh),nI (q8.st)]::RHeapP b0 ab0 sb0 g0 cb0 s27::ps) wI∧ref11_AllRing.j5 q8 s27 L54 x56 (ref11_AllRing.l4 q8 s27 k57) y68=some (r0,t0)) ?_ ?_
   rotate_left
   · rintro a70 w71 ⟨y68,hF72,hS73,hm74⟩
     clear hF60 hS61 hm63
     unfold ref11_AllRing.j5 at hm74
     refine thenN ?_
     cases hc76:(y68)
     case true =>
      rw [hc76] at hF72
      have hm77:=ifYes hc76 hm74; clear hm74
      refine ev_condT hF72 rfl rfl ?_
      refine wp_skip ?_
      have hF78:=hF72.keep [0,5,7,8]
      clear hF72
      refine thenN (wp_seq ?_)
      refine wp_block ?_
      refine wp_seq ?_
      obtain ⟨hc79,hm80⟩:=ifFE hm77; clear hm77
      have hS81:=hS73.pick1.pick2
      clear hS73
      have hS82:=hS81.drew; clear hS81
      refine any_start (fun wS=>∃ qs,St w0 F0 (RHeapXP b0 ab0 sb0 g0 cb0::BlkP (w13.heap.size) 23 #[nI (q8.cap),nI (q8.closed),nI (q8.count),nI (q8.start),nI (q8.buf),nI (q8.th),nI (q8.tt),nI (q8.sh),nI (q8.st)]::qs) wS) 23 #[false,false,false,false,false,false,false,false,false,false,false,false,false,false,false,false,false,false,false,false,false,false,false] (by kernel_rfl) (by kernel_rfl) (by kernel_rfl) ?_
      refine any_many 17 [(0,some (nP b0 0)),(1,some (nP b0 0)),(2,some (nP b0 0)),(3,some (nP ab0 0)),(4,some (nP (w13.heap.size) 4)),(5,some (nI (q8.buf))),(6,some (nP (w13.heap.size) 3)),(7,some (nI (q8.start))),(8,some (nI (if q8.start > 0 then q8.start else 0))),(9,some (nB w13)),(10,some (nI (q8.cap))),(11,some (nI (Int.tmod (if q8.start > 0 then q8.start else 0) q8.cap))),(12,some (nI x56)),(13,some (nI (IntKind.i64.wrap ((Int.tmod (if q8.start > 0 then q8.start else 0) q8.cap)+x56)))),(14,some (nB w13)),(15,some (nI (q8.cap))),(16,some (nI (Int.tmod (IntKind.i64.wrap ((Int.tmod (if q8.start > 0 then q8.start else 0) q8.cap)+x56)) q8.cap)))] [0,5,7,8,9,42,46,48,59,60,61,62] #[true,true,true,true,true,true,true,true,true,true,true,true,true,true,true,true,true,false,false,false,false,false,false] (by rfl) hF78 (by kernel_rfl) (by kernel_rfl) (by exact ⟨fun wS hw=>by kernel_rfl,fun wS hw=>by kernel_rfl,fun wS hw=>by kernel_rfl,fun wS hw=>hw.elim fun qs hw=>run_loadV rfl rfl (run_loadS rfl rfl (St.rhA (k:=0) hw rfl)),fun wS hw=>by kernel_rfl,fun wS hw=>hw.elim fun qs hw=>run_loadV rfl rfl (run_loadS rfl rfl (hw.cell 1 rfl 4 rfl)),fun wS hw=>by kernel_rfl,fun wS hw=>hw.elim fun qs hw=>run_loadV rfl rfl (run_loadS rfl rfl (hw.cell 1 rfl 3 rfl)),fun wS hw=>by kernel_rfl,fun wS hw=>by kernel_rfl,fun wS hw=>hw.elim fun qs hw=>run_loadV rfl rfl (run_loadS rfl rfl (hw.cell 1 rfl 0 rfl)),fun wS hw=>run_rem rfl rfl rfl hc79 _,fun wS hw=>by kernel_rfl,fun wS hw=>by kernel_rfl,fun wS hw=>by kernel_rfl,fun wS hw=>hw.elim fun qs hw=>run_loadV rfl rfl (run_loadS rfl rfl (hw.cell 1 rfl 0 rfl)),fun wS hw=>run_rem rfl rfl rfl hc79 _,trivial⟩) (fun _ _ _ _ _ h=>h) ⟨_,St.toRX (hS82)⟩ (l':=[(59,nI (Int.tmod (IntKind.i64.wrap ((Int.tmod (if q8.start > 0 then q8.start else 0) q8.cap)+x56)) q8.cap)),(48,nI (q8.buf)),(46,nP ab0 0),(8,nI x56),(7,.slice p64 L54.length c65),(5,nB w13),(0,nP b0 0)]) (by kernel_rfl) ?_
      intro a84 hF83; clear hF78
      refine any_call 17 #[true,true,true,true,true,true,true,true,true,true,true,true,true,true,true,true,true,true,false,false,false,false,false] 117 #[nP ab0 0,nI (q8.buf),nI (Int.tmod (IntKind.i64.wrap ((Int.tmod (if q8.start > 0 then q8.start else 0) q8.cap)+x56)) q8.cap)] hF83 rfl (by kernel_rfl) rfl rfl (by kernel_rfl) rfl (by kernel_rfl) (fun w=>by kernel_rfl) (by kernel_rfl) ?_
      obtain ⟨x85,x86,hx87,hm88⟩:=bind2E hm80; clear hm80
      refine (q_Load hS82 hx87).mono ?_
      rintro _ w89 ⟨rfl,hS91⟩; clear hS82
      refine ⟨⟨_,St.toRX (hS91)⟩,?_⟩
      intro a90 hF92; clear hF83
      refine any_many 5 [(18,some (.tuple #[nI x85,nI x86])),(19,some (nI x85)),(20,some (nI x86)),(21,some (nI x85)),(22,some (nI x86))] [0,5,7,8,9] #[true,true,true,true,true,true,true,true,true,true,true,true,true,true,true,true,true,true,true,true,true,true,true] (by rfl) hF92 (by kernel_rfl) (by kernel_rfl) (by exact ⟨fun wS hw=>by kernel_rfl,fun wS hw=>by kernel_rfl,fun wS hw=>by kernel_rfl,fun wS hw=>by kernel_rfl,fun wS hw=>by kernel_rfl,trivial⟩) (fun _ _ _ _ _ h=>h) ⟨_,St.toRX (hS91)⟩ (l':=[(9,nI x85),(8,nI x56),(7,.slice p64 L54.length c65),(5,nB w13),(0,nP b0 0)]) (by kernel_rfl) ?_
      intro a94 hF93; clear hF92
      refine any_done (by kernel_rfl) ?_
      refine thenN (wp_region_lit ?_)
      refine ev_runs 3 hF93 (l':=[(65,.slice (some ⟨w89.heap.size,0,none⟩) 1 1),(64,nI x85),(63,.slice p64 L54.length c65),(9,nI x85),(8,nI x56),(7,.slice p64 L54.length c65),(5,nB w13),(0,nP b0 0)]) (w':=w89.alloc (.cells #[nI x85] 3)) (by kernel_rfl) ?_
      intro a96 hF95; clear hF93
      have hS97:=hS91.pick2
      clear hS91
      obtain ⟨L98,hx99,hm100⟩:=bind1E hm88; clear hm88
      refine ev_push 66 (.tmp 63) (.tmp 65) hF95 rfl rfl rfl rfl rfl rfl rfl rfl hS97 hx99 ?_
      intro g101 c102 w103 a104 hS105 hF106; clear hF95 hS97
      refine ev_runK 1 hF106 [0,5,7,8] (l':=[(7,nS g101 L98 c102),(8,nI x56),(5,nB w13),(0,nP b0 0)]) (w':=w103) (by kernel_rfl) ?_
      intro a108 hF107; clear hF106
      refine wpList_nil ?_
      refine blockN ?_
      refine thenN (wp_region_lit ?_)
      refine ev_runK 3 hF107 [0,5,7,8] (l':=[(8,nI (IntKind.i64.wrap (x56+1))),(7,nS g101 L98 c102),(5,nB w13),(0,nP b0 0)]) (w':=w103) (by kernel_rfl) ?_
      intro a110 hF109; clear hF107
      refine wpList_nil ?_
      have hS111:=hS105.pick1.pick2.pick2
      clear hS105
      exact thenN ⟨k57,Nat.lt_succ_self _,nS g101 L98 c102,L98,IntKind.i64.wrap (x56+1),hF109,hS111,hm100⟩
     rw [hc76] at hF72
     have hm112:=ifNot hc76 hm74; clear hm74
     refine ev_condF hF72 rfl rfl ?_
     refine wp_exit ?_
     refine thenE ?_
     refine thenE ?_
     refine blockE ?_
     refine thenN (wp_seq (wp_region_lit ?_))
     refine ev_runK 2 hF72 [4] (l':=[(4,.slice p64 L54.length c65)]) (w':=w71) (by kernel_rfl) ?_
     intro a114 hF113; clear hF72
     refine wpList_nil ?_
     have hS115:=hS73.pick1.drop
     clear hS73
     refine thenN ?_
     refine wp_ret ?_
     have hS116:=hS115.pick1
     clear hS115
     simp only [Option.some.injEq,Prod.mk.injEq] at hm112
     obtain ⟨rfl,rfl⟩:=hm112
     refine ev_ret hF113 [4] (.slice p64 L54.length c65) rfl rfl rfl ?_
     exact ⟨_,rfl,hS116⟩
   · skip
     refine wp_region_lit ?_
     refine ev_runs 2 hF60 (l':=[(31,nP (w13.heap.size) 2),(30,nI x56),(8,nI x56),(7,.slice p64 L54.length c65),(5,nB w13),(0,nP b0 0)]) (w':=w59) (by kernel_rfl) ?_
     intro a120 hF119; clear hF60
     refine ev_one (nI (q8.count)) w59 hF119 (by kernel_rfl) rfl (by kernel_rfl) (run_loadV rfl rfl (run_loadS rfl rfl (hS61.cell 1 rfl 2 rfl))) (l':=[(32,nI (q8.count)),(31,nP (w13.heap.size) 2),(30,nI x56),(8,nI x56),(7,.slice p64 L54.length c65),(5,nB w13),(0,nP b0 0)]) (by kernel_rfl) ?_
     intro a122 hF121; clear hF119
     refine ev_runs 2 hF121 (l':=[(34,.bool (decide (x56<q8.count))),(33,.bool (decide (x56<q8.count))),(32,nI (q8.count)),(31,nP (w13.heap.size) 2),(30,nI x56),(8,nI x56),(7,.slice p64 L54.length c65),(5,nB w13),(0,nP b0 0)]) (w':=w59) (by kernel_rfl) ?_
     intro a124 hF123; clear hF121
     cases hc125:(decide (x56<q8.count))
     case true =>
      rw [hc125] at hF123
      have hm126:=ifYes hc125 hm63; clear hm63
      refine ev_runs 2 hF123 (l':=[(36,nB w13),(35,nI x56),(34,.bool true),(33,.bool true),(32,nI (q8.count)),(31,nP (w13.heap.size) 2),(30,nI x56),(8,nI x56),(7,.slice p64 L54.length c65),(5,nB w13),(0,nP b0 0)]) (w':=w59) (by kernel_rfl) ?_
      intro a128 hF127; clear hF123
      refine ev_one (nI (q8.cap)) w59 hF127 (by kernel_rfl) rfl (by kernel_rfl) (run_loadV rfl rfl (run_loadS rfl rfl (hS61.cell 1 rfl 0 rfl))) (l':=[(37,nI (q8.cap)),(36,nB w13),(35,nI x56),(34,.bool true),(33,.bool true),(32,nI (q8.count)),(31,nP (w13.heap.size) 2),(30,nI x56),(8,nI x56),(7,.slice p64 L54.length c65),(5,nB w13),(0,nP b0 0)]) (by kernel_rfl) ?_
      intro a130 hF129; clear hF127
      refine ev_runK 2 hF129 [0,5,7,8,39] (l':=[(39,.bool (decide (x56<q8.cap))),(8,nI x56),(7,.slice p64 L54.length c65),(5,nB w13),(0,nP b0 0)]) (w':=w59) (by kernel_rfl) ?_
      intro a132 hF131; clear hF129
      refine wpList_nil ?_
      exact thenN ⟨decide (x56<q8.cap),hF131,hS61,hm126⟩
     rw [hc125] at hF123
     have hm133:=ifNot hc125 hm63; clear hm63
     refine ev_runK 5 hF123 [0,5,7,8,39] (l':=[(39,.bool false),(8,nI x56),(7,.slice p64 L54.length c65),(5,nB w13),(0,nP b0 0)]) (w':=w59) (by kernel_rfl) ?_
     intro a135 hF134; clear hF123
     refine wpList_nil ?_
     exact thenN ⟨false,hF134,hS61,hm133⟩
 · skip
   refine wp_region_lit ?_
   refine ev_runs 3 hF25 (l':=[(19,.bool (x9 != 0)),(18,.bool (x9 != 0)),(17,nI x9),(6,nI x9),(5,nB w13),(0,nP b0 0)]) (w':=w21) (by kernel_rfl) ?_
   intro a137 hF136; clear hF25
   cases hc138:(x9 != 0)
   case true =>
    rw [hc138] at hF136
    have hm139:=ifYes hc138 hm12; clear hm12
    refine ev_runK 10 hF136 [0,5,29] (l':=[(29,.bool true),(5,nB w13),(0,nP b0 0)]) (w':=w21) (by kernel_rfl) ?_
    intro a141 hF140; clear hF136
    refine wpList_nil ?_
    exact thenN ⟨s10,true,hF140,hS23,hm139⟩
   rw [hc138] at hF136
   have hm142:=ifNot hc138 hm12; clear hm12
   refine ev_runs 1 hF136 (l':=[(20,nP (w13.heap.size) 2),(19,.bool false),(18,.bool false),(17,nI x9),(6,nI x9),(5,nB w13),(0,nP b0 0)]) (w':=w21) (by kernel_rfl) ?_
   intro a144 hF143; clear hF136
   refine ev_one (nI (q8.count)) w21 hF143 (by kernel_rfl) rfl (by kernel_rfl) (run_loadV rfl rfl (run_loadS rfl rfl (hS23.cell 0 rfl 2 rfl))) (l':=[(21,nI (q8.count)),(20,nP (w13.heap.size) 2),(19,.bool false),(18,.bool false),(17,nI x9),(6,nI x9),(5,nB w13),(0,nP b0 0)]) (by kernel_rfl) ?_
   intro a146 hF145; clear hF143
   refine ev_runs 3 hF145 (l':=[(24,.bool (decide (q8.count≤0))),(23,.bool (decide (q8.count≤0))),(22,.bool (decide (q8.count≤0))),(21,nI (q8.count)),(20,nP (w13.heap.size) 2),(19,.bool false),(18,.bool false),(17,nI x9),(6,nI x9),(5,nB w13),(0,nP b0 0)]) (w':=w21) (by kernel_rfl) ?_
   intro a148 hF147; clear hF145
   cases hc149:(decide (q8.count≤0))
   case true =>
    rw [hc149] at hF147
    have hm150:=ifYes hc149 hm142; clear hm142
    refine ev_runK 5 hF147 [0,5,29] (l':=[(29,.bool true),(5,nB w13),(0,nP b0 0)]) (w':=w21) (by kernel_rfl) ?_
    intro a152 hF151; clear hF147
    refine wpList_nil ?_
    exact thenN ⟨s10,true,hF151,hS23,hm150⟩
   rw [hc149] at hF147
   have hm153:=ifNot hc149 hm142; clear hm142
   refine ev_runs 1 hF147 (l':=[(25,nP b0 0),(24,.bool false),(23,.bool false),(22,.bool false),(21,nI (q8.count)),(20,nP (w13.heap.size) 2),(19,.bool false),(18,.bool false),(17,nI x9),(6,nI x9),(5,nB w13),(0,nP b0 0)]) (w':=w21) (by kernel_rfl) ?_
   intro a155 hF154; clear hF147
   refine ev_one (.agg #[nI (q8.cap),nI (q8.closed),nI (q8.count),nI (q8.start),nI (q8.buf),nI (q8.th),nI (q8.tt),nI (q8.sh),nI (q8.st)]) w21 hF154 (by kernel_rfl) rfl (by kernel_rfl) (run_loadV rfl rfl (run_loadA (cs:=[nI (q8.cap),nI (q8.closed),nI (q8.count),nI (q8.start),nI (q8.buf),nI (q8.th),nI (q8.tt),nI (q8.sh),nI (q8.st)]) rfl rfl (by kernel_rfl) (blk_cells hS23 0 rfl rfl))) (l':=[(26,.agg #[nI (q8.cap),nI (q8.closed),nI (q8.count),nI (q8.start),nI (q8.buf),nI (q8.th),nI (q8.tt),nI (q8.sh),nI (q8.st)]),(25,nP b0 0),(24,.bool false),(23,.bool false),(22,.bool false),(21,nI (q8.count)),(20,nP (w13.heap.size) 2),(19,.bool false),(18,.bool false),(17,nI x9),(6,nI x9),(5,nB w13),(0,nP b0 0)]) (by kernel_rfl) ?_
   intro a157 hF156; clear hF154
   have hS158:=hS23.pick1
   clear hS23
   refine ev_call 138 #[nP b0 0,.agg #[nI (q8.cap),nI (q8.closed),nI (q8.count),nI (q8.start),nI (q8.buf),nI (q8.th),nI (q8.tt),nI (q8.sh),nI (q8.st)]] hF156 rfl rfl (by kernel_rfl) rfl (by kernel_rfl) (fun w=>by kernel_rfl) ?_
   obtain ⟨y159,s160,hx161,hm162⟩:=bind2E hm153; clear hm153
   refine (ref11_buffer.ok hS158 hx161).mono ?_
   rintro _ w163 ⟨rfl,hS165⟩ a164 hF166; clear hF156 hS158
   refine ev_runK 2 hF166 [0,5,29] (l':=[(29,.bool (!(y159))),(5,nB w13),(0,nP b0 0)]) (w':=w163) (by kernel_rfl) ?_
   intro a168 hF167; clear hF166
   refine wpList_nil ?_
   have hS169:=hS165.pick1
   clear hS165
   exact thenN ⟨s160,!(y159),hF167,hS169,hm162⟩
end Go.Proofs.YtffnjpapggidlaaGreat
