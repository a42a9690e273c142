/- GTake -/
import Derived.Test.YtgejcjcpchofiaaGreatKGMouth
import Derived.Test.YtgejcjcpchofiaaGreatKGRing
import Derived.Test.YtgejcjcpchofiaaGreatKGView
import Derived.Deep.LoopGhost
import Derived.KernelRfl
namespace Go.Proofs.YtgejcjcpchofiaaGreat
open Go.RowKit
set_option linter.unusedVariables false
def take_first.m (k:Nat) (s0:HSt) (i1:Int):Option (Int×Su×Bool×HSt):=bind3 (list_Pop.m k s0 i1 (true)) fun x10 y11 s12=>(if (!(y11)) then some (0,(⟨0,0,0,0,0,0,0⟩:Su),false,s12) else bind2 (pSudog x10 s12) fun q44 x45=>some (x10,(⟨q44.gor,q44.chan,q44.value,q44.next,q44.to,q44.reg,q44.more⟩:Su),true,s12))
set_option maxRecDepth 100000 in
set_option maxHeartbeats 1500000 in
theorem take_first.ok {w0 w:World} {F0:List Nat} {ps:List Piece} {k:Nat} {b0 ab0:Nat} {s0:HSt} {i1:Int} {r0:Int} {r1:Su} {r2:Bool} {t0:HSt} (hS:St w0 F0 (HeapP b0 ab0 s0::ps) w) (hm:take_first.m k s0 i1=some (r0,r1,r2,t0)) :
    Calls Tryz.prog 98 #[nP b0 0,nI i1] w fun e w'=>e=.returned (.tuple #[.int .i64 r0,.agg #[nI (r1.gor),nI (r1.chan),nI (r1.value),nI (r1.next),nI (r1.to),nI (r1.reg),nI (r1.more)],.bool r2])∧St w0 F0 (HeapP b0 ab0 t0::ps) w':=by
 refine ev_enterL 28 [nP b0 0,nI i1] Tryz.func98 rfl rfl (by simp) ?_
 intro a hF
 have hF0:Fr 28 a [(0,nP b0 0),(1,nI i1)]:=hF; clear hF
 unfold take_first.m at hm
 refine wp_seq (wp_region_lit ?_)
 refine ev_runs 2 hF0 (l':=[(5,nB w),(4,nI 0),(0,nP b0 0),(1,nI i1)]) (w':=w.alloc (.cells #[nI 0,nI 0,nI 0,nI 0,nI 0,nI 0,nI 0] 113)) (by kernel_rfl) ?_
 intro a2 hF1; clear hF0
 have hS4:St w0 F0 (BlkP (w.heap.size) 113 #[nI 0,nI 0,nI 0,nI 0,nI 0,nI 0,nI 0]::HeapP b0 ab0 s0::ps) (w.alloc (.cells #[nI 0,nI 0,nI 0,nI 0,nI 0,nI 0,nI 0] 113)):=St.new hS #[nI 0,nI 0,nI 0,nI 0,nI 0,nI 0,nI 0] 113
 refine ev_runK 1 hF1 [0,1,5] (l':=[(5,nB w),(0,nP b0 0),(1,nI i1)]) (w':=w.alloc (.cells #[nI 0,nI 0,nI 0,nI 0,nI 0,nI 0,nI 0] 113)) (by kernel_rfl) ?_
 intro a6 hF5; clear hF1
 refine wpList_nil (thenN (wp_seq (wp_region_lit ?_)))
 refine ev_runs 2 hF5 (l':=[(13,nI i1),(12,nP b0 0),(5,nB w),(0,nP b0 0),(1,nI i1)]) (w':=w.alloc (.cells #[nI 0,nI 0,nI 0,nI 0,nI 0,nI 0,nI 0] 113)) (by kernel_rfl) ?_
 intro a8 hF7; clear hF5
 have hS9:=hS4.pick1
 clear hS4
 refine ev_call 65 #[nP b0 0,nI i1,.bool true] hF7 rfl rfl (by kernel_rfl) rfl (by kernel_rfl) (fun w=>by kernel_rfl) ?_
 obtain ⟨x10,y11,s12,hx13,hm14⟩:=bind3E hm; clear hm
 refine (list_Pop.ok hS9 hx13).mono ?_
 rintro _ w15 ⟨rfl,hS17⟩ a16 hF18; clear hF7 hS9
 refine ev_runK 5 hF18 [0,5,7,8] (l':=[(8,.bool (y11)),(7,nI x10),(5,nB w),(0,nP b0 0)]) (w':=w15) (by kernel_rfl) ?_
 intro a20 hF19; clear hF18
 refine wpList_nil (thenN (wp_seq (wp_seq (wp_region_lit ?_))))
 refine ev_runK 2 hF19 [0,5,7,18] (l':=[(18,.bool (!(y11))),(7,nI x10),(5,nB w),(0,nP b0 0)]) (w':=w15) (by kernel_rfl) ?_
 intro a22 hF21; clear hF19
 refine wpList_nil (thenN ?_)
 cases hc23:(!(y11))
 case true =>
  rw [hc23] at hF21
  have hm24:=ifYes hc23 hm14; clear hm14
  refine ev_condT hF21 rfl rfl ?_
  refine wp_seq (wp_region_lit ?_)
  refine ev_runs 2 hF21 (l':=[(4,nI 0),(19,.agg #[nI 0,nI 0,nI 0,nI 0,nI 0,nI 0,nI 0]),(18,.bool true),(7,nI x10),(5,nB w),(0,nP b0 0)]) (w':=w15) (by kernel_rfl) ?_
  intro a26 hF25; clear hF21
  have hS27:=hS17.pick1
  clear hS17
  refine ev_store (.agg #[nI 0,nI 0,nI 0,nI 0,nI 0,nI 0,nI 0]) #[nI 0,nI 0,nI 0,nI 0,nI 0,nI 0,nI 0] hF25 (by kernel_rfl) rfl rfl rfl rfl (by kernel_rfl) hS27 (by kernel_rfl) (by kernel_rfl) (by kernel_rfl) (l':=[(4,nI 0),(19,.agg #[nI 0,nI 0,nI 0,nI 0,nI 0,nI 0,nI 0]),(18,.bool true),(7,nI x10),(5,nB w),(0,nP b0 0)]) (by kernel_rfl) ?_
  intro w28 a29 hS30 hF31; clear hF25 hS27
  refine ev_runK 1 hF31 [4,5,6] (l':=[(6,.bool false),(4,nI 0),(5,nB w)]) (w':=w28) (by kernel_rfl) ?_
  intro a33 hF32; clear hF31
  refine wpList_nil (thenN ?_)
  refine wp_ret ?_
  refine thenR ?_
  have hS34:=hS30.pick1
  clear hS30
  simp only [Option.some.injEq,Prod.mk.injEq] at hm24
  obtain ⟨rfl,rfl,rfl,rfl⟩:=hm24
  refine ev_retC hF32 _ [nI 0,.agg #[nI 0,nI 0,nI 0,nI 0,nI 0,nI 0,nI 0],.bool false] (.tuple #[nI 0,.agg #[nI 0,nI 0,nI 0,nI 0,nI 0,nI 0,nI 0],.bool false]) rfl ⟨⟨rfl,rfl⟩,⟨rfl,_,rfl,(run_loadA (cs:=[nI 0,nI 0,nI 0,nI 0,nI 0,nI 0,nI 0]) rfl rfl (by kernel_rfl) (blk_cells hS34 1 rfl rfl))⟩,⟨rfl,rfl⟩,trivial⟩ rfl ?_
  have hS39:=hS34.pick1.drop
  clear hS34
  exact ⟨rfl,hS39⟩
 rw [hc23] at hF21
 have hm40:=ifNot hc23 hm14; clear hm14
 refine ev_condF hF21 rfl rfl ?_
 refine wp_skip ?_
 have hF41:=hF21.keep [0,5,7]
 clear hF21
 refine thenN (wp_seq (wp_region_lit ?_))
 refine ev_runs 2 hF41 (l':=[(22,nI x10),(21,nP b0 0),(7,nI x10),(5,nB w),(0,nP b0 0)]) (w':=w15) (by kernel_rfl) ?_
 intro a43 hF42; clear hF41
 refine ev_call 68 #[nP b0 0,nI x10] hF42 rfl rfl (by kernel_rfl) rfl (by kernel_rfl) (fun w=>by kernel_rfl) ?_
 obtain ⟨q44,x45,hx46,hm47⟩:=bind2E hm40; clear hm40
 refine (p_Sudog hS17 hx46).mono ?_
 rintro _ w48 ⟨rfl,hS50⟩ a49 hF51; clear hF42 hS17
 refine ev_runs 4 hF51 (l':=[(9,nB w48),(25,nI x45),(24,.agg #[nI (q44.gor),nI (q44.chan),nI (q44.value),nI (q44.next),nI (q44.to),nI (q44.reg),nI (q44.more)]),(20,.tuple #[.agg #[nI (q44.gor),nI (q44.chan),nI (q44.value),nI (q44.next),nI (q44.to),nI (q44.reg),nI (q44.more)],nI x45]),(23,.tuple #[.agg #[nI (q44.gor),nI (q44.chan),nI (q44.value),nI (q44.next),nI (q44.to),nI (q44.reg),nI (q44.more)],nI x45]),(22,nI x10),(21,nP b0 0),(7,nI x10),(5,nB w),(0,nP b0 0)]) (w':=w48.alloc (.cells #[nI 0,nI 0,nI 0,nI 0,nI 0,nI 0,nI 0] 113)) (by kernel_rfl) ?_
 intro a53 hF52; clear hF51
 have hS55:St w0 F0 (BlkP (w48.heap.size) 113 #[nI 0,nI 0,nI 0,nI 0,nI 0,nI 0,nI 0]::HeapP b0 ab0 s12::BlkP (w.heap.size) 113 #[nI 0,nI 0,nI 0,nI 0,nI 0,nI 0,nI 0]::ps) (w48.alloc (.cells #[nI 0,nI 0,nI 0,nI 0,nI 0,nI 0,nI 0] 113)):=St.new hS50 #[nI 0,nI 0,nI 0,nI 0,nI 0,nI 0,nI 0] 113
 clear hS50
 refine ev_store (.agg #[nI (q44.gor),nI (q44.chan),nI (q44.value),nI (q44.next),nI (q44.to),nI (q44.reg),nI (q44.more)]) #[nI (q44.gor),nI (q44.chan),nI (q44.value),nI (q44.next),nI (q44.to),nI (q44.reg),nI (q44.more)] hF52 (by kernel_rfl) rfl rfl rfl rfl (by kernel_rfl) hS55 (by kernel_rfl) (by kernel_rfl) (by kernel_rfl) (l':=[(9,nB w48),(25,nI x45),(24,.agg #[nI (q44.gor),nI (q44.chan),nI (q44.value),nI (q44.next),nI (q44.to),nI (q44.reg),nI (q44.more)]),(20,.tuple #[.agg #[nI (q44.gor),nI (q44.chan),nI (q44.value),nI (q44.next),nI (q44.to),nI (q44.reg),nI (q44.more)],nI x45]),(23,.tuple #[.agg #[nI (q44.gor),nI (q44.chan),nI (q44.value),nI (q44.next),nI (q44.to),nI (q44.reg),nI (q44.more)],nI x45]),(22,nI x10),(21,nP b0 0),(7,nI x10),(5,nB w),(0,nP b0 0)]) (by kernel_rfl) ?_
 intro w56 a57 hS58 hF59; clear hF52 hS55
 refine ev_runK 1 hF59 [5,7,9] (l':=[(9,nB w48),(7,nI x10),(5,nB w)]) (w':=w56) (by kernel_rfl) ?_
 intro a61 hF60; clear hF59
 refine wpList_nil (thenN (wp_seq ?_))
 have hS62:=hS58.drew; clear hS58
 refine any_start (fun wS=>∃ qs,St w0 F0 (BlkP (w48.heap.size) 113 #[nI (q44.gor),nI (q44.chan),nI (q44.value),nI (q44.next),nI (q44.to),nI (q44.reg),nI (q44.more)]::qs) wS) 5 #[false,false,false,false,false] (by kernel_rfl) (by kernel_rfl) (by kernel_rfl) ?_
 refine any_many 3 [(0,some (nI x10)),(1,some (.agg #[nI (q44.gor),nI (q44.chan),nI (q44.value),nI (q44.next),nI (q44.to),nI (q44.reg),nI (q44.more)])),(2,some (nI x10))] [4,5,6,27] #[true,true,true,false,false] (by rfl) hF60 (by kernel_rfl) (by kernel_rfl) (by exact ⟨fun wS hw=>by kernel_rfl,fun wS hw=>hw.elim fun qs hw=>run_loadV rfl rfl (run_loadA (cs:=[nI (q44.gor),nI (q44.chan),nI (q44.value),nI (q44.next),nI (q44.to),nI (q44.reg),nI (q44.more)]) rfl rfl (by kernel_rfl) (blk_cells hw 0 rfl rfl)),fun wS hw=>by kernel_rfl,trivial⟩) (fun _ _ _ _ _ h=>h) ⟨_,hS62⟩ (l':=[(4,nI x10),(27,.agg #[nI (q44.gor),nI (q44.chan),nI (q44.value),nI (q44.next),nI (q44.to),nI (q44.reg),nI (q44.more)]),(5,nB w)]) (by kernel_rfl) ?_
 intro a64 hF63; clear hF60
 refine any_one 3 (by kernel_rfl) ?_
 have hS65:=hS62.pick2
 clear hS62
 refine op_store 3 #[true,true,true,true,false] (.agg #[nI (q44.gor),nI (q44.chan),nI (q44.value),nI (q44.next),nI (q44.to),nI (q44.reg),nI (q44.more)]) #[nI (q44.gor),nI (q44.chan),nI (q44.value),nI (q44.next),nI (q44.to),nI (q44.reg),nI (q44.more)] hF63 rfl (by kernel_rfl) rfl rfl rfl rfl (by kernel_rfl) hS65 (by kernel_rfl) (by kernel_rfl) (by kernel_rfl) (l':=[(4,nI x10),(27,.agg #[nI (q44.gor),nI (q44.chan),nI (q44.value),nI (q44.next),nI (q44.to),nI (q44.reg),nI (q44.more)]),(5,nB w)]) (by kernel_rfl) (by kernel_rfl) ?_
 intro w66 a67 hS68 hF69; clear hF63 hS65
 refine ⟨⟨_,hS68.pick1⟩,?_⟩
 refine any_many 1 [(4,some (.bool true))] [4,5,6] #[true,true,true,true,true] (by rfl) hF69 (by kernel_rfl) (by kernel_rfl) (by exact ⟨fun wS hw=>by kernel_rfl,trivial⟩) (fun _ _ _ _ _ h=>h) ⟨_,hS68.pick1⟩ (l':=[(6,.bool true),(4,nI x10),(5,nB w)]) (by kernel_rfl) ?_
 intro a71 hF70; clear hF69
 refine any_done (by kernel_rfl) ?_
 have hS72:=hS68.pick1.drop
 clear hS68
 refine thenN ?_
 refine wp_ret ?_
 have hS73:=hS72.pick1
 clear hS72
 simp only [Option.some.injEq,Prod.mk.injEq] at hm47
 obtain ⟨rfl,rfl,rfl,rfl⟩:=hm47
 refine ev_retC hF70 _ [nI x10,.agg #[nI (q44.gor),nI (q44.chan),nI (q44.value),nI (q44.next),nI (q44.to),nI (q44.reg),nI (q44.more)],.bool true] (.tuple #[nI x10,.agg #[nI (q44.gor),nI (q44.chan),nI (q44.value),nI (q44.next),nI (q44.to),nI (q44.reg),nI (q44.more)],.bool true]) rfl ⟨⟨rfl,rfl⟩,⟨rfl,_,rfl,(run_loadA (cs:=[nI (q44.gor),nI (q44.chan),nI (q44.value),nI (q44.next),nI (q44.to),nI (q44.reg),nI (q44.more)]) rfl rfl (by kernel_rfl) (blk_cells hS73 1 rfl rfl))⟩,⟨rfl,rfl⟩,trivial⟩ rfl ?_
 have hS78:=hS73.pick1.drop
 clear hS73
 exact ⟨rfl,hS78⟩
def take_woken.m (k:Nat) (s0:HSt) (i1:Int):Option (Int×HSt):=bind3 (wake_Wake.m k s0 i1 (wrap64 (2 * 0))) fun x9 x10 s11=>(if (x10 != 0) then some (-1,s11) else some (x9,s11))
set_option maxRecDepth 100000 in
set_option maxHeartbeats 1500000 in
theorem take_woken.ok {w0 w:World} {F0:List Nat} {ps:List Piece} {k:Nat} {b0 ab0:Nat} {s0:HSt} {i1:Int} {r0:Int} {t0:HSt} (hS:St w0 F0 (HeapP b0 ab0 s0::ps) w) (hm:take_woken.m k s0 i1=some (r0,t0)) :
    Calls Tryz.prog 99 #[nP b0 0,nI i1] w fun e w'=>e=.returned (.int .i64 r0)∧St w0 F0 (HeapP b0 ab0 t0::ps) w':=by
 refine ev_enterL 17 [nP b0 0,nI i1] Tryz.func99 rfl rfl (by simp) ?_
 intro a hF
 have hF0:Fr 17 a [(0,nP b0 0),(1,nI i1)]:=hF; clear hF
 unfold take_woken.m at hm
 refine wp_seq (wp_region_lit ?_)
 refine ev_runK 1 hF0 [0,1] (l':=[(0,nP b0 0),(1,nI i1)]) (w':=w) (by kernel_rfl) ?_
 intro a2 hF1; clear hF0
 refine wpList_nil (thenN (wp_seq (wp_region_lit ?_)))
 refine ev_runs 2 hF1 (l':=[(9,nI i1),(8,nP b0 0),(0,nP b0 0),(1,nI i1)]) (w':=w) (by kernel_rfl) ?_
 intro a4 hF3; clear hF1
 refine ev_call 67 #[nI 0] hF3 rfl rfl (by kernel_rfl) rfl (by kernel_rfl) (fun w=>by kernel_rfl) ?_
 refine (p_vInt hS).mono ?_
 rintro _ w5 ⟨rfl,hS7⟩ a6 hF8; clear hF3 hS
 refine ev_call 66 #[nP b0 0,nI i1,nI (wrap64 (2 * 0))] hF8 rfl rfl (by kernel_rfl) rfl (by kernel_rfl) (fun w=>by kernel_rfl) ?_
 obtain ⟨x9,x10,s11,hx12,hm13⟩:=bind3E hm; clear hm
 refine (wake_Wake.ok hS7 hx12).mono ?_
 rintro _ w14 ⟨rfl,hS16⟩ a15 hF17; clear hF8 hS7
 refine ev_runK 5 hF17 [5,6] (l':=[(6,nI x10),(5,nI x9)]) (w':=w14) (by kernel_rfl) ?_
 intro a19 hF18; clear hF17
 refine wpList_nil (thenN (wp_seq (wp_seq (wp_region_lit ?_))))
 refine ev_runK 2 hF18 [5,15] (l':=[(15,.bool (x10 != 0)),(5,nI x9)]) (w':=w14) (by kernel_rfl) ?_
 intro a21 hF20; clear hF18
 refine wpList_nil (thenN ?_)
 cases hc22:(x10 != 0)
 case true =>
  rw [hc22] at hF20
  have hm23:=ifYes hc22 hm13; clear hm13
  refine ev_condT hF20 rfl rfl ?_
  refine wp_seq (wp_region_lit ?_)
  refine ev_runK 1 hF20 [4] (l':=[(4,nI (-1))]) (w':=w14) (by kernel_rfl) ?_
  intro a25 hF24; clear hF20
  refine wpList_nil (thenN ?_)
  refine wp_ret ?_
  refine thenR ?_
  simp only [Option.some.injEq,Prod.mk.injEq] at hm23
  obtain ⟨rfl,rfl⟩:=hm23
  refine ev_ret hF24 [4] (nI (-1)) rfl rfl rfl ?_
  exact ⟨rfl,hS16⟩
 rw [hc22] at hF20
 have hm28:=ifNot hc22 hm13; clear hm13
 refine ev_condF hF20 rfl rfl ?_
 refine wp_skip ?_
 have hF29:=hF20.keep [5]
 clear hF20
 refine thenN (wp_seq (wp_region_lit ?_))
 refine ev_runK 2 hF29 [4] (l':=[(4,nI x9)]) (w':=w14) (by kernel_rfl) ?_
 intro a31 hF30; clear hF29
 refine wpList_nil (thenN ?_)
 refine wp_ret ?_
 simp only [Option.some.injEq,Prod.mk.injEq] at hm28
 obtain ⟨rfl,rfl⟩:=hm28
 refine ev_ret hF30 [4] (nI x9) rfl rfl rfl ?_
 exact ⟨rfl,hS16⟩
def take_Try.j1 (k:Nat) (q47:Int) (x100:Int) (x101:Int) (x113:Int) (q114:Su) (y115:Bool) (s116:HSt) (y135:Bool):Option (Int×Int×Int×HSt):=(if (y135) then bind2 (ring_Put.m k s116 q47 q114.value) fun x150 s151=>bind2 (take_woken.m k s151 x113) fun x162 s163=>some (x100,x162,1,s163) else (if (x101 == 0) then some (x100,-1,1,s116) else (if (y115) then bind2 (take_woken.m k s116 x113) fun x197 s198=>some (q114.value,x197,1,s198) else bind2 (pChan q47 s116) fun q217 x218=>(if (q217.closed != 0) then some (wrap64 (2 * 0),-1,1,s116) else some (wrap64 (2 * 0),-1,0,s116)))))
def take_Try.m (k:Nat) (s0:HSt) (i1:Int):Option (Int×Int×Int×HSt):=bind2 (mouth_Of.m k s0 i1) fun o5 s6=>optE o5 (some (wrap64 (2 * 0),-1,6,s6)) fun q44=>sumE q44 (fun q46=>some (wrap64 (2 * 0),-1,0,s6)) fun q47=>bind3 (ring_Take.m k s6 q47) fun x100 x101 s102=>bind4 (take_first.m k s102 q47) fun x113 q114 y115 s116=>(if (x101 == 0) then take_Try.j1 k q47 x100 x101 x113 q114 y115 s116 y115 else take_Try.j1 k q47 x100 x101 x113 q114 y115 s116 false)
set_option maxRecDepth 100000 in
set_option maxHeartbeats 1500000 in
theorem take_Try.ok {w0 w:World} {F0:List Nat} {ps:List Piece} {k:Nat} {b0 ab0:Nat} {s0:HSt} {i1:Int} {r0:Int} {r1:Int} {r2:Int} {t0:HSt} (hS:St w0 F0 (HeapP b0 ab0 s0::ps) w) (hm:take_Try.m k s0 i1=some (r0,r1,r2,t0)) :
    Calls Tryz.prog 45 #[nP b0 0,nI i1] w fun e w'=>e=.returned (.tuple #[.int .i64 r0,.int .i64 r1,.int .i64 r2])∧St w0 F0 (HeapP b0 ab0 t0::ps) w':=by
 refine ev_enterL 89 [nP b0 0,nI i1] Tryz.func45 rfl rfl (by simp) ?_
 intro a hF
 have hF0:Fr 89 a [(0,nP b0 0),(1,nI i1)]:=hF; clear hF
 unfold take_Try.m at hm
 refine wp_seq (wp_region_lit ?_)
 refine ev_runK 3 hF0 [0,1] (l':=[(0,nP b0 0),(1,nI i1)]) (w':=w) (by kernel_rfl) ?_
 intro a2 hF1; clear hF0
 refine wpList_nil (thenN (wp_seq (wp_region_lit ?_)))
 refine ev_runs 2 hF1 (l':=[(21,nI i1),(20,nP b0 0),(0,nP b0 0),(1,nI i1)]) (w':=w) (by kernel_rfl) ?_
 intro a4 hF3; clear hF1
 refine ev_call 64 #[nP b0 0,nI i1] hF3 rfl rfl (by kernel_rfl) rfl (by kernel_rfl) (fun w=>by kernel_rfl) ?_
 obtain ⟨o5,s6,hx7,hm8⟩:=bind2E hm; clear hm
 refine (mouth_Of.ok hS hx7).mono ?_
 rintro _ w9 ⟨rfl,hS11⟩ a10 hF12; clear hF3 hS
 cases o5 with
 | none =>
  have hm13:=optN hm8; clear hm8
  refine ev_runK 1 hF12 [0,7] (l':=[(7,.nilIface),(0,nP b0 0)]) (w':=w9) (by kernel_rfl) ?_
  intro a15 hF14; clear hF12
  refine wpList_nil (thenN (wp_seq (wp_seq (wp_region_lit ?_))))
  refine ev_runs 6 hF14 (l':=[(8,nB w9),(27,.bool false),(26,.agg #[]),(23,.tuple #[.agg #[],.bool false]),(25,.tuple #[.agg #[],.bool false]),(24,.nilIface),(7,.nilIface),(0,nP b0 0)]) (w':=w9.alloc (.cells #[] 104)) (by kernel_rfl) ?_
  intro a17 hF16; clear hF14
  have hS19:St w0 F0 (BlkP (w9.heap.size) 104 #[]::HeapP b0 ab0 s6::ps) (w9.alloc (.cells #[] 104)):=St.new hS11 #[] 104
  clear hS11
  refine ev_store (.agg #[]) #[] hF16 (by kernel_rfl) rfl rfl rfl rfl (by kernel_rfl) hS19 (by kernel_rfl) (by kernel_rfl) (by kernel_rfl) (l':=[(8,nB w9),(27,.bool false),(26,.agg #[]),(23,.tuple #[.agg #[],.bool false]),(25,.tuple #[.agg #[],.bool false]),(24,.nilIface),(7,.nilIface),(0,nP b0 0)]) (by kernel_rfl) ?_
  intro w20 a21 hS22 hF23; clear hF16 hS19
  refine ev_runK 1 hF23 [0,7,9] (l':=[(9,.bool false),(7,.nilIface),(0,nP b0 0)]) (w':=w20) (by kernel_rfl) ?_
  intro a25 hF24; clear hF23
  refine wpList_nil ?_
  have hS26:=hS22.drop
  clear hS22
  refine thenN (wp_seq (wp_region_lit ?_))
  refine ev_runK 1 hF24 [0,7,28] (l':=[(28,.bool false),(7,.nilIface),(0,nP b0 0)]) (w':=w20) (by kernel_rfl) ?_
  intro a28 hF27; clear hF24
  refine wpList_nil (thenN ?_)
  refine ev_condF hF27 rfl rfl ?_
  refine wp_skip ?_
  have hF29:=hF27.keep [0,7]
  clear hF27
  refine thenN (wp_seq (wp_region_lit ?_))
  refine ev_runK 7 hF29 [0,10,11] (l':=[(11,.bool false),(10,nI 0),(0,nP b0 0)]) (w':=w20) (by kernel_rfl) ?_
  intro a31 hF30; clear hF29
  refine wpList_nil (thenN (wp_seq (wp_seq (wp_region_lit ?_))))
  refine ev_runK 2 hF30 [0,10,36] (l':=[(36,.bool true),(10,nI 0),(0,nP b0 0)]) (w':=w20) (by kernel_rfl) ?_
  intro a33 hF32; clear hF30
  refine wpList_nil (thenN ?_)
  refine ev_condT hF32 rfl rfl ?_
  refine wp_seq (wp_region_lit ?_)
  refine ev_call 67 #[nI 0] hF32 rfl rfl (by kernel_rfl) rfl (by kernel_rfl) (fun w=>by kernel_rfl) ?_
  refine (p_vInt hS26).mono ?_
  rintro _ w34 ⟨rfl,hS36⟩ a35 hF37; clear hF32 hS26
  refine ev_runK 3 hF37 [4,5,6] (l':=[(6,nI 6),(5,nI (-1)),(4,nI (wrap64 (2 * 0)))]) (w':=w34) (by kernel_rfl) ?_
  intro a39 hF38; clear hF37
  refine wpList_nil (thenN ?_)
  refine wp_ret ?_
  refine thenR ?_
  simp only [Option.some.injEq,Prod.mk.injEq] at hm13
  obtain ⟨rfl,rfl,rfl,rfl⟩:=hm13
  refine ev_ret hF38 [4,5,6] (.tuple #[nI (wrap64 (2 * 0)),nI (-1),nI 6]) rfl rfl rfl ?_
  exact ⟨rfl,hS36⟩
 | some q44 =>
  have hm45:=optS hm8; clear hm8
  cases q44 with
  | inl q46 =>
   have hm48:=sumL hm45; clear hm45
   refine ev_runK 1 hF12 [0,7] (l':=[(7,.iface 104 (.agg #[])),(0,nP b0 0)]) (w':=w9) (by kernel_rfl) ?_
   intro a50 hF49; clear hF12
   refine wpList_nil (thenN (wp_seq (wp_seq (wp_region_lit ?_))))
   refine ev_runs 6 hF49 (l':=[(8,nB w9),(27,.bool true),(26,.agg #[]),(23,.tuple #[.agg #[],.bool true]),(25,.tuple #[.agg #[],.bool true]),(24,.iface 104 (.agg #[])),(7,.iface 104 (.agg #[])),(0,nP b0 0)]) (w':=w9.alloc (.cells #[] 104)) (by kernel_rfl) ?_
   intro a52 hF51; clear hF49
   have hS54:St w0 F0 (BlkP (w9.heap.size) 104 #[]::HeapP b0 ab0 s6::ps) (w9.alloc (.cells #[] 104)):=St.new hS11 #[] 104
   clear hS11
   refine ev_store (.agg #[]) #[] hF51 (by kernel_rfl) rfl rfl rfl rfl (by kernel_rfl) hS54 (by kernel_rfl) (by kernel_rfl) (by kernel_rfl) (l':=[(8,nB w9),(27,.bool true),(26,.agg #[]),(23,.tuple #[.agg #[],.bool true]),(25,.tuple #[.agg #[],.bool true]),(24,.iface 104 (.agg #[])),(7,.iface 104 (.agg #[])),(0,nP b0 0)]) (by kernel_rfl) ?_
   intro w55 a56 hS57 hF58; clear hF51 hS54
   refine ev_runK 1 hF58 [0,7,9] (l':=[(9,.bool true),(7,.iface 104 (.agg #[])),(0,nP b0 0)]) (w':=w55) (by kernel_rfl) ?_
   intro a60 hF59; clear hF58
   refine wpList_nil ?_
   have hS61:=hS57.drop
   clear hS57
   refine thenN (wp_seq (wp_region_lit ?_))
   refine ev_runK 1 hF59 [0,7,28] (l':=[(28,.bool true),(7,.iface 104 (.agg #[])),(0,nP b0 0)]) (w':=w55) (by kernel_rfl) ?_
   intro a63 hF62; clear hF59
   refine wpList_nil (thenN ?_)
   refine ev_condT hF62 rfl rfl ?_
   refine wp_seq (wp_region_lit ?_)
   refine ev_call 67 #[nI 0] hF62 rfl rfl (by kernel_rfl) rfl (by kernel_rfl) (fun w=>by kernel_rfl) ?_
   refine (p_vInt hS61).mono ?_
   rintro _ w64 ⟨rfl,hS66⟩ a65 hF67; clear hF62 hS61
   refine ev_runK 3 hF67 [4,5,6] (l':=[(6,nI 0),(5,nI (-1)),(4,nI (wrap64 (2 * 0)))]) (w':=w64) (by kernel_rfl) ?_
   intro a69 hF68; clear hF67
   refine wpList_nil (thenN ?_)
   refine wp_ret ?_
   refine thenR ?_
   simp only [Option.some.injEq,Prod.mk.injEq] at hm48
   obtain ⟨rfl,rfl,rfl,rfl⟩:=hm48
   refine ev_ret hF68 [4,5,6] (.tuple #[nI (wrap64 (2 * 0)),nI (-1),nI 0]) rfl rfl rfl ?_
   exact ⟨rfl,hS66⟩
  | inr q47 =>
   have hm74:=sumR hm45; clear hm45
   refine ev_runK 1 hF12 [0,7] (l':=[(7,.iface 106 (nI q47)),(0,nP b0 0)]) (w':=w9) (by kernel_rfl) ?_
   intro a76 hF75; clear hF12
   refine wpList_nil (thenN (wp_seq (wp_seq (wp_region_lit ?_))))
   refine ev_runs 6 hF75 (l':=[(8,nB w9),(27,.bool false),(26,.agg #[]),(23,.tuple #[.agg #[],.bool false]),(25,.tuple #[.agg #[],.bool false]),(24,.iface 106 (nI q47)),(7,.iface 106 (nI q47)),(0,nP b0 0)]) (w':=w9.alloc (.cells #[] 104)) (by kernel_rfl) ?_
   intro a78 hF77; clear hF75
   have hS80:St w0 F0 (BlkP (w9.heap.size) 104 #[]::HeapP b0 ab0 s6::ps) (w9.alloc (.cells #[] 104)):=St.new hS11 #[] 104
   clear hS11
   refine ev_store (.agg #[]) #[] hF77 (by kernel_rfl) rfl rfl rfl rfl (by kernel_rfl) hS80 (by kernel_rfl) (by kernel_rfl) (by kernel_rfl) (l':=[(8,nB w9),(27,.bool false),(26,.agg #[]),(23,.tuple #[.agg #[],.bool false]),(25,.tuple #[.agg #[],.bool false]),(24,.iface 106 (nI q47)),(7,.iface 106 (nI q47)),(0,nP b0 0)]) (by kernel_rfl) ?_
   intro w81 a82 hS83 hF84; clear hF77 hS80
   refine ev_runK 1 hF84 [0,7,9] (l':=[(9,.bool false),(7,.iface 106 (nI q47)),(0,nP b0 0)]) (w':=w81) (by kernel_rfl) ?_
   intro a86 hF85; clear hF84
   refine wpList_nil ?_
   have hS87:=hS83.drop
   clear hS83
   refine thenN (wp_seq (wp_region_lit ?_))
   refine ev_runK 1 hF85 [0,7,28] (l':=[(28,.bool false),(7,.iface 106 (nI q47)),(0,nP b0 0)]) (w':=w81) (by kernel_rfl) ?_
   intro a89 hF88; clear hF85
   refine wpList_nil (thenN ?_)
   refine ev_condF hF88 rfl rfl ?_
   refine wp_skip ?_
   have hF90:=hF88.keep [0,7]
   clear hF88
   refine thenN (wp_seq (wp_region_lit ?_))
   refine ev_runK 7 hF90 [0,10,11] (l':=[(11,.bool true),(10,nI q47),(0,nP b0 0)]) (w':=w81) (by kernel_rfl) ?_
   intro a92 hF91; clear hF90
   refine wpList_nil (thenN (wp_seq (wp_seq (wp_region_lit ?_))))
   refine ev_runK 2 hF91 [0,10,36] (l':=[(36,.bool false),(10,nI q47),(0,nP b0 0)]) (w':=w81) (by kernel_rfl) ?_
   intro a94 hF93; clear hF91
   refine wpList_nil (thenN ?_)
   refine ev_condF hF93 rfl rfl ?_
   refine wp_skip ?_
   have hF95:=hF93.keep [0,10]
   clear hF93
   refine thenN (wp_seq (wp_region_lit ?_))
   refine ev_runK 2 hF95 [0,12] (l':=[(12,nI q47),(0,nP b0 0)]) (w':=w81) (by kernel_rfl) ?_
   intro a97 hF96; clear hF95
   refine wpList_nil (thenN (wp_seq (wp_region_lit ?_)))
   refine ev_runs 2 hF96 (l':=[(41,nI q47),(40,nP b0 0),(12,nI q47),(0,nP b0 0)]) (w':=w81) (by kernel_rfl) ?_
   intro a99 hF98; clear hF96
   refine ev_call 97 #[nP b0 0,nI q47] hF98 rfl rfl (by kernel_rfl) rfl (by kernel_rfl) (fun w=>by kernel_rfl) ?_
   obtain ⟨x100,x101,s102,hx103,hm104⟩:=bind3E hm74; clear hm74
   refine (ring_Take.ok hS87 hx103).mono ?_
   rintro _ w105 ⟨rfl,hS107⟩ a106 hF108; clear hF98 hS87
   refine ev_runK 5 hF108 [0,12,13,14] (l':=[(14,nI x101),(13,nI x100),(12,nI q47),(0,nP b0 0)]) (w':=w105) (by kernel_rfl) ?_
   intro a110 hF109; clear hF108
   refine wpList_nil (thenN (wp_seq (wp_region_lit ?_)))
   refine ev_runs 2 hF109 (l':=[(47,nI q47),(46,nP b0 0),(14,nI x101),(13,nI x100),(12,nI q47),(0,nP b0 0)]) (w':=w105) (by kernel_rfl) ?_
   intro a112 hF111; clear hF109
   refine ev_call 98 #[nP b0 0,nI q47] hF111 rfl rfl (by kernel_rfl) rfl (by kernel_rfl) (fun w=>by kernel_rfl) ?_
   obtain ⟨x113,q114,y115,s116,hx117,hm118⟩:=bind4E hm104; clear hm104
   refine (take_first.ok hS107 hx117).mono ?_
   rintro _ w119 ⟨rfl,hS121⟩ a120 hF122; clear hF111 hS107
   refine ev_runs 5 hF122 (l':=[(16,nB w119),(51,.bool (y115)),(50,.agg #[nI (q114.gor),nI (q114.chan),nI (q114.value),nI (q114.next),nI (q114.to),nI (q114.reg),nI (q114.more)]),(49,nI x113),(45,.tuple #[nI x113,.agg #[nI (q114.gor),nI (q114.chan),nI (q114.value),nI (q114.next),nI (q114.to),nI (q114.reg),nI (q114.more)],.bool (y115)]),(48,.tuple #[nI x113,.agg #[nI (q114.gor),nI (q114.chan),nI (q114.value),nI (q114.next),nI (q114.to),nI (q114.reg),nI (q114.more)],.bool (y115)]),(47,nI q47),(46,nP b0 0),(14,nI x101),(13,nI x100),(12,nI q47),(0,nP b0 0)]) (w':=w119.alloc (.cells #[nI 0,nI 0,nI 0,nI 0,nI 0,nI 0,nI 0] 113)) (by kernel_rfl) ?_
   intro a124 hF123; clear hF122
   have hS126:St w0 F0 (BlkP (w119.heap.size) 113 #[nI 0,nI 0,nI 0,nI 0,nI 0,nI 0,nI 0]::HeapP b0 ab0 s116::ps) (w119.alloc (.cells #[nI 0,nI 0,nI 0,nI 0,nI 0,nI 0,nI 0] 113)):=St.new hS121 #[nI 0,nI 0,nI 0,nI 0,nI 0,nI 0,nI 0] 113
   clear hS121
   refine ev_runs 1 hF123 (l':=[(15,nI x113),(16,nB w119),(51,.bool (y115)),(50,.agg #[nI (q114.gor),nI (q114.chan),nI (q114.value),nI (q114.next),nI (q114.to),nI (q114.reg),nI (q114.more)]),(49,nI x113),(45,.tuple #[nI x113,.agg #[nI (q114.gor),nI (q114.chan),nI (q114.value),nI (q114.next),nI (q114.to),nI (q114.reg),nI (q114.more)],.bool (y115)]),(48,.tuple #[nI x113,.agg #[nI (q114.gor),nI (q114.chan),nI (q114.value),nI (q114.next),nI (q114.to),nI (q114.reg),nI (q114.more)],.bool (y115)]),(47,nI q47),(46,nP b0 0),(14,nI x101),(13,nI x100),(12,nI q47),(0,nP b0 0)]) (w':=w119.alloc (.cells #[nI 0,nI 0,nI 0,nI 0,nI 0,nI 0,nI 0] 113)) (by kernel_rfl) ?_
   intro a128 hF127; clear hF123
   refine ev_store (.agg #[nI (q114.gor),nI (q114.chan),nI (q114.value),nI (q114.next),nI (q114.to),nI (q114.reg),nI (q114.more)]) #[nI (q114.gor),nI (q114.chan),nI (q114.value),nI (q114.next),nI (q114.to),nI (q114.reg),nI (q114.more)] hF127 (by kernel_rfl) rfl rfl rfl rfl (by kernel_rfl) hS126 (by kernel_rfl) (by kernel_rfl) (by kernel_rfl) (l':=[(15,nI x113),(16,nB w119),(51,.bool (y115)),(50,.agg #[nI (q114.gor),nI (q114.chan),nI (q114.value),nI (q114.next),nI (q114.to),nI (q114.reg),nI (q114.more)]),(49,nI x113),(45,.tuple #[nI x113,.agg #[nI (q114.gor),nI (q114.chan),nI (q114.value),nI (q114.next),nI (q114.to),nI (q114.reg),nI (q114.more)],.bool (y115)]),(48,.tuple #[nI x113,.agg #[nI (q114.gor),nI (q114.chan),nI (q114.value),nI (q114.next),nI (q114.to),nI (q114.reg),nI (q114.more)],.bool (y115)]),(47,nI q47),(46,nP b0 0),(14,nI x101),(13,nI x100),(12,nI q47),(0,nP b0 0)]) (by kernel_rfl) ?_
   intro w129 a130 hS131 hF132; clear hF127 hS126
   refine ev_runK 1 hF132 [0,12,13,14,15,16,17] (l':=[(17,.bool (y115)),(15,nI x113),(16,nB w119),(14,nI x101),(13,nI x100),(12,nI q47),(0,nP b0 0)]) (w':=w129) (by kernel_rfl) ?_
   intro a134 hF133; clear hF132
   refine wpList_nil (thenN (wp_seq ?_))
   refine wp_block ?_
   refine wp_seq ?_
   refine joinQ (fun aI wI=>∃ (y135:Bool),Fr 89 aI [(52,.bool (y135)),(17,.bool (y115)),(15,nI x113),(16,nB w119),(14,nI x101),(13,nI x100),(12,nI q47),(0,nP b0 0)]∧St w0 F0 (BlkP (w119.heap.size) 113 #[nI (q114.gor),nI (q114.chan),nI (q114.value),nI (q114.next),nI (q114.to),nI (q114.reg),nI (q114.more)]::HeapP b0 ab0 s116::ps) wI∧take_Try.j1 k q47 x100 x101 x113 q114 y115 s116 y135=some (r0,r1,r2,t0)) ?_ ?_
   rotate_left
   · rintro a137 w138 ⟨y135,hF139,hS140,hm141⟩
     clear hF133 hS131 hm118
     unfold take_Try.j1 at hm141
     refine thenN ?_
     cases hc143:(y135)
     case true =>
      rw [hc143] at hF139
      have hm144:=ifYes hc143 hm141; clear hm141
      refine ev_condT hF139 rfl rfl ?_
      refine wp_seq (wp_region_lit ?_)
      refine ev_runs 3 hF139 (l':=[(60,nP (w119.heap.size) 2),(59,nI q47),(58,nP b0 0),(52,.bool true),(17,.bool (y115)),(15,nI x113),(16,nB w119),(14,nI x101),(13,nI x100),(12,nI q47),(0,nP b0 0)]) (w':=w138) (by kernel_rfl) ?_
      intro a146 hF145; clear hF139
      refine ev_one (nI (q114.value)) w138 hF145 (by kernel_rfl) rfl (by kernel_rfl) (run_loadV rfl rfl (run_loadS rfl rfl (hS140.cell 0 rfl 2 rfl))) (l':=[(61,nI (q114.value)),(60,nP (w119.heap.size) 2),(59,nI q47),(58,nP b0 0),(52,.bool true),(17,.bool (y115)),(15,nI x113),(16,nB w119),(14,nI x101),(13,nI x100),(12,nI q47),(0,nP b0 0)]) (by kernel_rfl) ?_
      intro a148 hF147; clear hF145
      have hS149:=hS140.pick1
      clear hS140
      refine ev_call 71 #[nP b0 0,nI q47,nI (q114.value)] hF147 rfl rfl (by kernel_rfl) rfl (by kernel_rfl) (fun w=>by kernel_rfl) ?_
      obtain ⟨x150,s151,hx152,hm153⟩:=bind2E hm144; clear hm144
      refine (ring_Put.ok hS149 hx152).mono ?_
      rintro _ w154 ⟨rfl,hS156⟩ a155 hF157; clear hF147 hS149
      refine wpList_nil ?_
      have hF158:=hF157.keep [0,13,15]
      clear hF157
      have hS159:=hS156.pick1.drop
      clear hS156
      refine thenN (wp_seq (wp_region_lit ?_))
      refine ev_runs 3 hF158 (l':=[(65,nI x113),(64,nP b0 0),(63,nI x100),(15,nI x113),(13,nI x100),(0,nP b0 0)]) (w':=w154) (by kernel_rfl) ?_
      intro a161 hF160; clear hF158
      refine ev_call 99 #[nP b0 0,nI x113] hF160 rfl rfl (by kernel_rfl) rfl (by kernel_rfl) (fun w=>by kernel_rfl) ?_
      obtain ⟨x162,s163,hx164,hm165⟩:=bind2E hm153; clear hm153
      refine (take_woken.ok hS159 hx164).mono ?_
      rintro _ w166 ⟨rfl,hS168⟩ a167 hF169; clear hF160 hS159
      refine ev_runK 3 hF169 [4,5,6] (l':=[(6,nI 1),(5,nI x162),(4,nI x100)]) (w':=w166) (by kernel_rfl) ?_
      intro a171 hF170; clear hF169
      refine wpList_nil (thenN ?_)
      refine wp_ret ?_
      refine blockR ?_
      refine thenR ?_
      simp only [Option.some.injEq,Prod.mk.injEq] at hm165
      obtain ⟨rfl,rfl,rfl,rfl⟩:=hm165
      refine ev_ret hF170 [4,5,6] (.tuple #[nI x100,nI x162,nI 1]) rfl rfl rfl ?_
      exact ⟨rfl,hS168⟩
     rw [hc143] at hF139
     have hm176:=ifNot hc143 hm141; clear hm141
     refine ev_condF hF139 rfl rfl ?_
     refine wp_seq (wp_region_lit ?_)
     refine ev_runK 3 hF139 [0,12,13,15,16,17,67] (l':=[(67,.bool (x101 == 0)),(17,.bool (y115)),(15,nI x113),(16,nB w119),(13,nI x100),(12,nI q47),(0,nP b0 0)]) (w':=w138) (by kernel_rfl) ?_
     intro a178 hF177; clear hF139
     refine wpList_nil (thenN ?_)
     cases hc179:(x101 == 0)
     case true =>
      rw [hc179] at hF177
      have hm180:=ifYes hc179 hm176; clear hm176
      refine ev_condT hF177 rfl rfl ?_
      refine wp_seq (wp_region_lit ?_)
      refine ev_runK 4 hF177 [4,5,6] (l':=[(6,nI 1),(5,nI (-1)),(4,nI x100)]) (w':=w138) (by kernel_rfl) ?_
      intro a182 hF181; clear hF177
      refine wpList_nil ?_
      have hS183:=hS140.drop
      clear hS140
      refine thenN ?_
      refine wp_ret ?_
      refine blockR ?_
      refine thenR ?_
      simp only [Option.some.injEq,Prod.mk.injEq] at hm180
      obtain ⟨rfl,rfl,rfl,rfl⟩:=hm180
      refine ev_ret hF181 [4,5,6] (.tuple #[nI x100,nI (-1),nI 1]) rfl rfl rfl ?_
      exact ⟨rfl,hS183⟩
     rw [hc179] at hF177
     have hm188:=ifNot hc179 hm176; clear hm176
     refine ev_condF hF177 rfl rfl ?_
     refine wp_seq (wp_region_lit ?_)
     refine ev_runK 2 hF177 [0,12,15,16,71] (l':=[(71,.bool (y115)),(15,nI x113),(16,nB w119),(12,nI q47),(0,nP b0 0)]) (w':=w138) (by kernel_rfl) ?_
     intro a190 hF189; clear hF177
     refine wpList_nil (thenN ?_)
     cases hc191:(y115)
     case true =>
      rw [hc191] at hF189
      have hm192:=ifYes hc191 hm188; clear hm188
      refine ev_condT hF189 rfl rfl ?_
      refine wp_seq ?_
      have hS193:=hS140.drew; clear hS140
      refine any_start (fun wS=>∃ qs,St w0 F0 (BlkP (w119.heap.size) 113 #[nI (q114.gor),nI (q114.chan),nI (q114.value),nI (q114.next),nI (q114.to),nI (q114.reg),nI (q114.more)]::qs) wS) 8 #[false,false,false,false,false,false,false,false] (by kernel_rfl) (by kernel_rfl) (by kernel_rfl) ?_
      refine any_many 4 [(0,some (nP (w119.heap.size) 2)),(1,some (nI (q114.value))),(2,some (nP b0 0)),(3,some (nI x113))] [4,5,6,74,75,76,77] #[true,true,true,true,false,false,false,false] (by rfl) hF189 (by kernel_rfl) (by kernel_rfl) (by exact ⟨fun wS hw=>by kernel_rfl,fun wS hw=>hw.elim fun qs hw=>run_loadV rfl rfl (run_loadS rfl rfl (hw.cell 0 rfl 2 rfl)),fun wS hw=>by kernel_rfl,fun wS hw=>by kernel_rfl,trivial⟩) (fun _ _ _ _ _ h=>h) ⟨_,hS193⟩ (l':=[(76,nI x113),(75,nP b0 0),(74,nI (q114.value))]) (by kernel_rfl) ?_
      intro a195 hF194; clear hF189
      have hS196:=hS193.pick1
      clear hS193
      refine any_call 4 #[true,true,true,true,true,false,false,false] 99 #[nP b0 0,nI x113] hF194 rfl (by kernel_rfl) rfl rfl (by kernel_rfl) rfl (by kernel_rfl) (fun w=>by kernel_rfl) (by kernel_rfl) ?_
      obtain ⟨x197,s198,hx199,hm200⟩:=bind2E hm192; clear hm192
      refine (take_woken.ok hS196 hx199).mono ?_
      rintro _ w201 ⟨rfl,hS203⟩; clear hS196
      refine ⟨⟨_,hS203.pick1⟩,?_⟩
      intro a202 hF204; clear hF194
      refine any_many 3 [(5,some (nI (q114.value))),(6,some (nI x197)),(7,some (nI 1))] [4,5,6] #[true,true,true,true,true,true,true,true] (by rfl) hF204 (by kernel_rfl) (by kernel_rfl) (by exact ⟨fun wS hw=>by kernel_rfl,fun wS hw=>by kernel_rfl,fun wS hw=>by kernel_rfl,trivial⟩) (fun _ _ _ _ _ h=>h) ⟨_,hS203.pick1⟩ (l':=[(6,nI 1),(5,nI x197),(4,nI (q114.value))]) (by kernel_rfl) ?_
      intro a206 hF205; clear hF204
      refine any_done (by kernel_rfl) ?_
      have hS207:=hS203.pick1.drop
      clear hS203
      refine thenN ?_
      refine wp_ret ?_
      refine blockR ?_
      refine thenR ?_
      simp only [Option.some.injEq,Prod.mk.injEq] at hm200
      obtain ⟨rfl,rfl,rfl,rfl⟩:=hm200
      refine ev_ret hF205 [4,5,6] (.tuple #[nI (q114.value),nI x197,nI 1]) rfl rfl rfl ?_
      exact ⟨rfl,hS207⟩
     rw [hc191] at hF189
     have hm212:=ifNot hc191 hm188; clear hm188
     refine ev_condF hF189 rfl rfl ?_
     refine wp_skip ?_
     have hF213:=hF189.keep [0,12]
     clear hF189
     have hS214:=hS140.drop
     clear hS140
     refine blockN ?_
     refine thenN (wp_seq (wp_seq (wp_region_lit ?_)))
     refine ev_runs 2 hF213 (l':=[(80,nI q47),(79,nP b0 0),(12,nI q47),(0,nP b0 0)]) (w':=w138) (by kernel_rfl) ?_
     intro a216 hF215; clear hF213
     refine ev_call 30 #[nP b0 0,nI q47] hF215 rfl rfl (by kernel_rfl) rfl (by kernel_rfl) (fun w=>by kernel_rfl) ?_
     obtain ⟨q217,x218,hx219,hm220⟩:=bind2E hm212; clear hm212
     refine (p_Chan hS214 hx219).mono ?_
     rintro _ w221 ⟨rfl,hS223⟩ a222 hF224; clear hF215 hS214
     refine ev_runs 4 hF224 (l':=[(18,nB w221),(83,nI x218),(82,.agg #[nI (q217.cap),nI (q217.closed),nI (q217.count),nI (q217.start),nI (q217.buf),nI (q217.th),nI (q217.tt),nI (q217.sh),nI (q217.st)]),(78,.tuple #[.agg #[nI (q217.cap),nI (q217.closed),nI (q217.count),nI (q217.start),nI (q217.buf),nI (q217.th),nI (q217.tt),nI (q217.sh),nI (q217.st)],nI x218]),(81,.tuple #[.agg #[nI (q217.cap),nI (q217.closed),nI (q217.count),nI (q217.start),nI (q217.buf),nI (q217.th),nI (q217.tt),nI (q217.sh),nI (q217.st)],nI x218]),(80,nI q47),(79,nP b0 0),(12,nI q47),(0,nP b0 0)]) (w':=w221.alloc (.cells #[nI 0,nI 0,nI 0,nI 0,nI 0,nI 0,nI 0,nI 0,nI 0] 57)) (by kernel_rfl) ?_
     intro a226 hF225; clear hF224
     have hS228:St w0 F0 (BlkP (w221.heap.size) 57 #[nI 0,nI 0,nI 0,nI 0,nI 0,nI 0,nI 0,nI 0,nI 0]::HeapP b0 ab0 s116::ps) (w221.alloc (.cells #[nI 0,nI 0,nI 0,nI 0,nI 0,nI 0,nI 0,nI 0,nI 0] 57)):=St.new hS223 #[nI 0,nI 0,nI 0,nI 0,nI 0,nI 0,nI 0,nI 0,nI 0] 57
     clear hS223
     refine ev_store (.agg #[nI (q217.cap),nI (q217.closed),nI (q217.count),nI (q217.start),nI (q217.buf),nI (q217.th),nI (q217.tt),nI (q217.sh),nI (q217.st)]) #[nI (q217.cap),nI (q217.closed),nI (q217.count),nI (q217.start),nI (q217.buf),nI (q217.th),nI (q217.tt),nI (q217.sh),nI (q217.st)] hF225 (by kernel_rfl) rfl rfl rfl rfl (by kernel_rfl) hS228 (by kernel_rfl) (by kernel_rfl) (by kernel_rfl) (l':=[(18,nB w221),(83,nI x218),(82,.agg #[nI (q217.cap),nI (q217.closed),nI (q217.count),nI (q217.start),nI (q217.buf),nI (q217.th),nI (q217.tt),nI (q217.sh),nI (q217.st)]),(78,.tuple #[.agg #[nI (q217.cap),nI (q217.closed),nI (q217.count),nI (q217.start),nI (q217.buf),nI (q217.th),nI (q217.tt),nI (q217.sh),nI (q217.st)],nI x218]),(81,.tuple #[.agg #[nI (q217.cap),nI (q217.closed),nI (q217.count),nI (q217.start),nI (q217.buf),nI (q217.th),nI (q217.tt),nI (q217.sh),nI (q217.st)],nI x218]),(80,nI q47),(79,nP b0 0),(12,nI q47),(0,nP b0 0)]) (by kernel_rfl) ?_
     intro w229 a230 hS231 hF232; clear hF225 hS228
     refine ev_runK 1 hF232 [18] (l':=[(18,nB w221)]) (w':=w229) (by kernel_rfl) ?_
     intro a234 hF233; clear hF232
     refine wpList_nil (thenN (wp_seq (wp_region_lit ?_)))
     refine ev_runs 1 hF233 (l':=[(84,nP (w221.heap.size) 1),(18,nB w221)]) (w':=w229) (by kernel_rfl) ?_
     intro a236 hF235; clear hF233
     refine ev_one (nI (q217.closed)) w229 hF235 (by kernel_rfl) rfl (by kernel_rfl) (run_loadV rfl rfl (run_loadS rfl rfl (hS231.cell 0 rfl 1 rfl))) (l':=[(85,nI (q217.closed)),(84,nP (w221.heap.size) 1),(18,nB w221)]) (by kernel_rfl) ?_
     intro a238 hF237; clear hF235
     refine ev_runK 1 hF237 [86] (l':=[(86,.bool (q217.closed != 0))]) (w':=w229) (by kernel_rfl) ?_
     intro a240 hF239; clear hF237
     refine wpList_nil ?_
     have hS241:=hS231.drop
     clear hS231
     refine thenN ?_
     cases hc242:(q217.closed != 0)
     case true =>
      rw [hc242] at hF239
      have hm243:=ifYes hc242 hm220; clear hm220
      refine ev_condT hF239 rfl rfl ?_
      refine wp_seq (wp_region_lit ?_)
      refine ev_call 67 #[nI 0] hF239 rfl rfl (by kernel_rfl) rfl (by kernel_rfl) (fun w=>by kernel_rfl) ?_
      refine (p_vInt hS241).mono ?_
      rintro _ w244 ⟨rfl,hS246⟩ a245 hF247; clear hF239 hS241
      refine ev_runK 3 hF247 [4,5,6] (l':=[(6,nI 1),(5,nI (-1)),(4,nI (wrap64 (2 * 0)))]) (w':=w244) (by kernel_rfl) ?_
      intro a249 hF248; clear hF247
      refine wpList_nil (thenN ?_)
      refine wp_ret ?_
      refine thenR ?_
      simp only [Option.some.injEq,Prod.mk.injEq] at hm243
      obtain ⟨rfl,rfl,rfl,rfl⟩:=hm243
      refine ev_ret hF248 [4,5,6] (.tuple #[nI (wrap64 (2 * 0)),nI (-1),nI 1]) rfl rfl rfl ?_
      exact ⟨rfl,hS246⟩
     rw [hc242] at hF239
     have hm254:=ifNot hc242 hm220; clear hm220
     refine ev_condF hF239 rfl rfl ?_
     refine wp_skip ?_
     have hF255:=hF239.keep []
     clear hF239
     refine thenN (wp_seq (wp_region_lit ?_))
     refine ev_call 67 #[nI 0] hF255 rfl rfl (by kernel_rfl) rfl (by kernel_rfl) (fun w=>by kernel_rfl) ?_
     refine (p_vInt hS241).mono ?_
     rintro _ w256 ⟨rfl,hS258⟩ a257 hF259; clear hF255 hS241
     refine ev_runK 3 hF259 [4,5,6] (l':=[(6,nI 0),(5,nI (-1)),(4,nI (wrap64 (2 * 0)))]) (w':=w256) (by kernel_rfl) ?_
     intro a261 hF260; clear hF259
     refine wpList_nil (thenN ?_)
     refine wp_ret ?_
     simp only [Option.some.injEq,Prod.mk.injEq] at hm254
     obtain ⟨rfl,rfl,rfl,rfl⟩:=hm254
     refine ev_ret hF260 [4,5,6] (.tuple #[nI (wrap64 (2 * 0)),nI (-1),nI 0]) rfl rfl rfl ?_
     exact ⟨rfl,hS258⟩
   · skip
     refine wp_region_lit ?_
     refine ev_runs 3 hF133 (l':=[(55,.bool (x101 == 0)),(54,.bool (x101 == 0)),(53,nI x101),(17,.bool (y115)),(15,nI x113),(16,nB w119),(14,nI x101),(13,nI x100),(12,nI q47),(0,nP b0 0)]) (w':=w129) (by kernel_rfl) ?_
     intro a267 hF266; clear hF133
     cases hc268:(x101 == 0)
     case true =>
      rw [hc268] at hF266
      have hm269:=ifYes hc268 hm118; clear hm118
      refine ev_runK 3 hF266 [0,12,13,14,15,16,17,52] (l':=[(52,.bool (y115)),(17,.bool (y115)),(15,nI x113),(16,nB w119),(14,nI x101),(13,nI x100),(12,nI q47),(0,nP b0 0)]) (w':=w129) (by kernel_rfl) ?_
      intro a271 hF270; clear hF266
      refine wpList_nil ?_
      exact thenN ⟨y115,hF270,hS131,hm269⟩
     rw [hc268] at hF266
     have hm272:=ifNot hc268 hm118; clear hm118
     refine ev_runK 3 hF266 [0,12,13,14,15,16,17,52] (l':=[(52,.bool false),(17,.bool (y115)),(15,nI x113),(16,nB w119),(14,nI x101),(13,nI x100),(12,nI q47),(0,nP b0 0)]) (w':=w129) (by kernel_rfl) ?_
     intro a274 hF273; clear hF266
     refine wpList_nil ?_
     exact thenN ⟨false,hF273,hS131,hm272⟩
def take_Ready.j1 (s104:HSt) (y105:Bool):Option (Bool×HSt):=some (y105,s104)
def take_Ready.m (k:Nat) (s0:HSt) (i1:Int):Option (Bool×HSt):=bind2 (mouth_Of.m k s0 i1) fun o5 s6=>optE o5 (some (true,s6)) fun q38=>sumE q38 (fun q40=>some (false,s6)) fun q41=>bind2 (pChan q41 s6) fun q86 x87=>(if (q86.closed != 0) then take_Ready.j1 s6 true else bind2 (ring_All.m k s6 q41) fun L130 s131=>(if (decide ((L130.length:Int) > 0)) then take_Ready.j1 s131 true else bind2 (list_All.m k s131 q41 (true)) fun L154 s155=>take_Ready.j1 s155 (decide ((L154.length:Int) > 0))))
set_option maxRecDepth 100000 in
set_option maxHeartbeats 1500000 in
theorem take_Ready.ok {w0 w:World} {F0:List Nat} {ps:List Piece} {k:Nat} {b0 ab0:Nat} {s0:HSt} {i1:Int} {r0:Bool} {t0:HSt} (hS:St w0 F0 (HeapP b0 ab0 s0::ps) w) (hm:take_Ready.m k s0 i1=some (r0,t0)) :
    Calls Tryz.prog 46 #[nP b0 0,nI i1] w fun e w'=>e=.returned (.bool r0)∧St w0 F0 (HeapP b0 ab0 t0::ps) w':=by
 refine ev_enterL 51 [nP b0 0,nI i1] Tryz.func46 rfl rfl (by simp) ?_
 intro a hF
 have hF0:Fr 51 a [(0,nP b0 0),(1,nI i1)]:=hF; clear hF
 unfold take_Ready.m at hm
 refine wp_seq (wp_region_lit ?_)
 refine ev_runK 1 hF0 [0,1] (l':=[(0,nP b0 0),(1,nI i1)]) (w':=w) (by kernel_rfl) ?_
 intro a2 hF1; clear hF0
 refine wpList_nil (thenN (wp_seq (wp_region_lit ?_)))
 refine ev_runs 2 hF1 (l':=[(13,nI i1),(12,nP b0 0),(0,nP b0 0),(1,nI i1)]) (w':=w) (by kernel_rfl) ?_
 intro a4 hF3; clear hF1
 refine ev_call 64 #[nP b0 0,nI i1] hF3 rfl rfl (by kernel_rfl) rfl (by kernel_rfl) (fun w=>by kernel_rfl) ?_
 obtain ⟨o5,s6,hx7,hm8⟩:=bind2E hm; clear hm
 refine (mouth_Of.ok hS hx7).mono ?_
 rintro _ w9 ⟨rfl,hS11⟩ a10 hF12; clear hF3 hS
 cases o5 with
 | none =>
  have hm13:=optN hm8; clear hm8
  refine ev_runK 1 hF12 [0,5] (l':=[(5,.nilIface),(0,nP b0 0)]) (w':=w9) (by kernel_rfl) ?_
  intro a15 hF14; clear hF12
  refine wpList_nil (thenN (wp_seq (wp_seq (wp_region_lit ?_))))
  refine ev_runs 6 hF14 (l':=[(6,nB w9),(19,.bool false),(18,.agg #[]),(15,.tuple #[.agg #[],.bool false]),(17,.tuple #[.agg #[],.bool false]),(16,.nilIface),(5,.nilIface),(0,nP b0 0)]) (w':=w9.alloc (.cells #[] 104)) (by kernel_rfl) ?_
  intro a17 hF16; clear hF14
  have hS19:St w0 F0 (BlkP (w9.heap.size) 104 #[]::HeapP b0 ab0 s6::ps) (w9.alloc (.cells #[] 104)):=St.new hS11 #[] 104
  clear hS11
  refine ev_store (.agg #[]) #[] hF16 (by kernel_rfl) rfl rfl rfl rfl (by kernel_rfl) hS19 (by kernel_rfl) (by kernel_rfl) (by kernel_rfl) (l':=[(6,nB w9),(19,.bool false),(18,.agg #[]),(15,.tuple #[.agg #[],.bool false]),(17,.tuple #[.agg #[],.bool false]),(16,.nilIface),(5,.nilIface),(0,nP b0 0)]) (by kernel_rfl) ?_
  intro w20 a21 hS22 hF23; clear hF16 hS19
  refine ev_runK 1 hF23 [0,5,7] (l':=[(7,.bool false),(5,.nilIface),(0,nP b0 0)]) (w':=w20) (by kernel_rfl) ?_
  intro a25 hF24; clear hF23
  refine wpList_nil ?_
  have hS26:=hS22.drop
  clear hS22
  refine thenN (wp_seq (wp_region_lit ?_))
  refine ev_runK 1 hF24 [0,5,20] (l':=[(20,.bool false),(5,.nilIface),(0,nP b0 0)]) (w':=w20) (by kernel_rfl) ?_
  intro a28 hF27; clear hF24
  refine wpList_nil (thenN ?_)
  refine ev_condF hF27 rfl rfl ?_
  refine wp_skip ?_
  have hF29:=hF27.keep [0,5]
  clear hF27
  refine thenN (wp_seq (wp_region_lit ?_))
  refine ev_runK 7 hF29 [0,8,9] (l':=[(9,.bool false),(8,nI 0),(0,nP b0 0)]) (w':=w20) (by kernel_rfl) ?_
  intro a31 hF30; clear hF29
  refine wpList_nil (thenN (wp_seq (wp_seq (wp_region_lit ?_))))
  refine ev_runK 2 hF30 [0,8,27] (l':=[(27,.bool true),(8,nI 0),(0,nP b0 0)]) (w':=w20) (by kernel_rfl) ?_
  intro a33 hF32; clear hF30
  refine wpList_nil (thenN ?_)
  refine ev_condT hF32 rfl rfl ?_
  refine wp_seq (wp_region_lit ?_)
  refine ev_runK 1 hF32 [4] (l':=[(4,.bool true)]) (w':=w20) (by kernel_rfl) ?_
  intro a35 hF34; clear hF32
  refine wpList_nil (thenN ?_)
  refine wp_ret ?_
  refine thenR ?_
  simp only [Option.some.injEq,Prod.mk.injEq] at hm13
  obtain ⟨rfl,rfl⟩:=hm13
  refine ev_ret hF34 [4] (.bool true) rfl rfl rfl ?_
  exact ⟨rfl,hS26⟩
 | some q38 =>
  have hm39:=optS hm8; clear hm8
  cases q38 with
  | inl q40 =>
   have hm42:=sumL hm39; clear hm39
   refine ev_runK 1 hF12 [0,5] (l':=[(5,.iface 104 (.agg #[])),(0,nP b0 0)]) (w':=w9) (by kernel_rfl) ?_
   intro a44 hF43; clear hF12
   refine wpList_nil (thenN (wp_seq (wp_seq (wp_region_lit ?_))))
   refine ev_runs 6 hF43 (l':=[(6,nB w9),(19,.bool true),(18,.agg #[]),(15,.tuple #[.agg #[],.bool true]),(17,.tuple #[.agg #[],.bool true]),(16,.iface 104 (.agg #[])),(5,.iface 104 (.agg #[])),(0,nP b0 0)]) (w':=w9.alloc (.cells #[] 104)) (by kernel_rfl) ?_
   intro a46 hF45; clear hF43
   have hS48:St w0 F0 (BlkP (w9.heap.size) 104 #[]::HeapP b0 ab0 s6::ps) (w9.alloc (.cells #[] 104)):=St.new hS11 #[] 104
   clear hS11
   refine ev_store (.agg #[]) #[] hF45 (by kernel_rfl) rfl rfl rfl rfl (by kernel_rfl) hS48 (by kernel_rfl) (by kernel_rfl) (by kernel_rfl) (l':=[(6,nB w9),(19,.bool true),(18,.agg #[]),(15,.tuple #[.agg #[],.bool true]),(17,.tuple #[.agg #[],.bool true]),(16,.iface 104 (.agg #[])),(5,.iface 104 (.agg #[])),(0,nP b0 0)]) (by kernel_rfl) ?_
   intro w49 a50 hS51 hF52; clear hF45 hS48
   refine ev_runK 1 hF52 [0,5,7] (l':=[(7,.bool true),(5,.iface 104 (.agg #[])),(0,nP b0 0)]) (w':=w49) (by kernel_rfl) ?_
   intro a54 hF53; clear hF52
   refine wpList_nil ?_
   have hS55:=hS51.drop
   clear hS51
   refine thenN (wp_seq (wp_region_lit ?_))
   refine ev_runK 1 hF53 [0,5,20] (l':=[(20,.bool true),(5,.iface 104 (.agg #[])),(0,nP b0 0)]) (w':=w49) (by kernel_rfl) ?_
   intro a57 hF56; clear hF53
   refine wpList_nil (thenN ?_)
   refine ev_condT hF56 rfl rfl ?_
   refine wp_seq (wp_region_lit ?_)
   refine ev_runK 1 hF56 [4] (l':=[(4,.bool false)]) (w':=w49) (by kernel_rfl) ?_
   intro a59 hF58; clear hF56
   refine wpList_nil (thenN ?_)
   refine wp_ret ?_
   refine thenR ?_
   simp only [Option.some.injEq,Prod.mk.injEq] at hm42
   obtain ⟨rfl,rfl⟩:=hm42
   refine ev_ret hF58 [4] (.bool false) rfl rfl rfl ?_
   exact ⟨rfl,hS55⟩
  | inr q41 =>
   have hm62:=sumR hm39; clear hm39
   refine ev_runK 1 hF12 [0,5] (l':=[(5,.iface 106 (nI q41)),(0,nP b0 0)]) (w':=w9) (by kernel_rfl) ?_
   intro a64 hF63; clear hF12
   refine wpList_nil (thenN (wp_seq (wp_seq (wp_region_lit ?_))))
   refine ev_runs 6 hF63 (l':=[(6,nB w9),(19,.bool false),(18,.agg #[]),(15,.tuple #[.agg #[],.bool false]),(17,.tuple #[.agg #[],.bool false]),(16,.iface 106 (nI q41)),(5,.iface 106 (nI q41)),(0,nP b0 0)]) (w':=w9.alloc (.cells #[] 104)) (by kernel_rfl) ?_
   intro a66 hF65; clear hF63
   have hS68:St w0 F0 (BlkP (w9.heap.size) 104 #[]::HeapP b0 ab0 s6::ps) (w9.alloc (.cells #[] 104)):=St.new hS11 #[] 104
   clear hS11
   refine ev_store (.agg #[]) #[] hF65 (by kernel_rfl) rfl rfl rfl rfl (by kernel_rfl) hS68 (by kernel_rfl) (by kernel_rfl) (by kernel_rfl) (l':=[(6,nB w9),(19,.bool false),(18,.agg #[]),(15,.tuple #[.agg #[],.bool false]),(17,.tuple #[.agg #[],.bool false]),(16,.iface 106 (nI q41)),(5,.iface 106 (nI q41)),(0,nP b0 0)]) (by kernel_rfl) ?_
   intro w69 a70 hS71 hF72; clear hF65 hS68
   refine ev_runK 1 hF72 [0,5,7] (l':=[(7,.bool false),(5,.iface 106 (nI q41)),(0,nP b0 0)]) (w':=w69) (by kernel_rfl) ?_
   intro a74 hF73; clear hF72
   refine wpList_nil ?_
   have hS75:=hS71.drop
   clear hS71
   refine thenN (wp_seq (wp_region_lit ?_))
   refine ev_runK 1 hF73 [0,5,20] (l':=[(20,.bool false),(5,.iface 106 (nI q41)),(0,nP b0 0)]) (w':=w69) (by kernel_rfl) ?_
   intro a77 hF76; clear hF73
   refine wpList_nil (thenN ?_)
   refine ev_condF hF76 rfl rfl ?_
   refine wp_skip ?_
   have hF78:=hF76.keep [0,5]
   clear hF76
   refine thenN (wp_seq (wp_region_lit ?_))
   refine ev_runK 7 hF78 [0,8,9] (l':=[(9,.bool true),(8,nI q41),(0,nP b0 0)]) (w':=w69) (by kernel_rfl) ?_
   intro a80 hF79; clear hF78
   refine wpList_nil (thenN (wp_seq (wp_seq (wp_region_lit ?_))))
   refine ev_runK 2 hF79 [0,8,27] (l':=[(27,.bool false),(8,nI q41),(0,nP b0 0)]) (w':=w69) (by kernel_rfl) ?_
   intro a82 hF81; clear hF79
   refine wpList_nil (thenN ?_)
   refine ev_condF hF81 rfl rfl ?_
   refine wp_skip ?_
   have hF83:=hF81.keep [0,8]
   clear hF81
   refine thenN (wp_seq (wp_region_lit ?_))
   refine ev_runs 2 hF83 (l':=[(30,nI q41),(29,nP b0 0),(8,nI q41),(0,nP b0 0)]) (w':=w69) (by kernel_rfl) ?_
   intro a85 hF84; clear hF83
   refine ev_call 30 #[nP b0 0,nI q41] hF84 rfl rfl (by kernel_rfl) rfl (by kernel_rfl) (fun w=>by kernel_rfl) ?_
   obtain ⟨q86,x87,hx88,hm89⟩:=bind2E hm62; clear hm62
   refine (p_Chan hS75 hx88).mono ?_
   rintro _ w90 ⟨rfl,hS92⟩ a91 hF93; clear hF84 hS75
   refine ev_runs 4 hF93 (l':=[(10,nB w90),(33,nI x87),(32,.agg #[nI (q86.cap),nI (q86.closed),nI (q86.count),nI (q86.start),nI (q86.buf),nI (q86.th),nI (q86.tt),nI (q86.sh),nI (q86.st)]),(28,.tuple #[.agg #[nI (q86.cap),nI (q86.closed),nI (q86.count),nI (q86.start),nI (q86.buf),nI (q86.th),nI (q86.tt),nI (q86.sh),nI (q86.st)],nI x87]),(31,.tuple #[.agg #[nI (q86.cap),nI (q86.closed),nI (q86.count),nI (q86.start),nI (q86.buf),nI (q86.th),nI (q86.tt),nI (q86.sh),nI (q86.st)],nI x87]),(30,nI q41),(29,nP b0 0),(8,nI q41),(0,nP b0 0)]) (w':=w90.alloc (.cells #[nI 0,nI 0,nI 0,nI 0,nI 0,nI 0,nI 0,nI 0,nI 0] 57)) (by kernel_rfl) ?_
   intro a95 hF94; clear hF93
   have hS97:St w0 F0 (BlkP (w90.heap.size) 57 #[nI 0,nI 0,nI 0,nI 0,nI 0,nI 0,nI 0,nI 0,nI 0]::HeapP b0 ab0 s6::ps) (w90.alloc (.cells #[nI 0,nI 0,nI 0,nI 0,nI 0,nI 0,nI 0,nI 0,nI 0] 57)):=St.new hS92 #[nI 0,nI 0,nI 0,nI 0,nI 0,nI 0,nI 0,nI 0,nI 0] 57
   clear hS92
   refine ev_store (.agg #[nI (q86.cap),nI (q86.closed),nI (q86.count),nI (q86.start),nI (q86.buf),nI (q86.th),nI (q86.tt),nI (q86.sh),nI (q86.st)]) #[nI (q86.cap),nI (q86.closed),nI (q86.count),nI (q86.start),nI (q86.buf),nI (q86.th),nI (q86.tt),nI (q86.sh),nI (q86.st)] hF94 (by kernel_rfl) rfl rfl rfl rfl (by kernel_rfl) hS97 (by kernel_rfl) (by kernel_rfl) (by kernel_rfl) (l':=[(10,nB w90),(33,nI x87),(32,.agg #[nI (q86.cap),nI (q86.closed),nI (q86.count),nI (q86.start),nI (q86.buf),nI (q86.th),nI (q86.tt),nI (q86.sh),nI (q86.st)]),(28,.tuple #[.agg #[nI (q86.cap),nI (q86.closed),nI (q86.count),nI (q86.start),nI (q86.buf),nI (q86.th),nI (q86.tt),nI (q86.sh),nI (q86.st)],nI x87]),(31,.tuple #[.agg #[nI (q86.cap),nI (q86.closed),nI (q86.count),nI (q86.start),nI (q86.buf),nI (q86.th),nI (q86.tt),nI (q86.sh),nI (q86.st)],nI x87]),(30,nI q41),(29,nP b0 0),(8,nI q41),(0,nP b0 0)]) (by kernel_rfl) ?_
   intro w98 a99 hS100 hF101; clear hF94 hS97
   refine ev_runK 1 hF101 [0,8,10] (l':=[(10,nB w90),(8,nI q41),(0,nP b0 0)]) (w':=w98) (by kernel_rfl) ?_
   intro a103 hF102; clear hF101
   refine wpList_nil (thenN (wp_seq ?_))
   refine joinQ (fun aI wI=>∃ (s104:HSt) (y105:Bool),Fr 51 aI [(4,.bool (y105))]∧St w0 F0 (HeapP b0 ab0 s104::ps) wI∧take_Ready.j1 s104 y105=some (r0,t0)) ?_ ?_
   rotate_left
   · rintro a107 w108 ⟨s104,y105,hF109,hS110,hm111⟩
     clear hF102 hS100 hm89
     unfold take_Ready.j1 at hm111
     refine thenN ?_
     refine wp_ret ?_
     simp only [Option.some.injEq,Prod.mk.injEq] at hm111
     obtain ⟨rfl,rfl⟩:=hm111
     refine ev_ret hF109 [4] (.bool (y105)) rfl rfl rfl ?_
     exact ⟨rfl,hS110⟩
   · skip
     refine wp_region_lit ?_
     refine ev_runs 1 hF102 (l':=[(34,nP (w90.heap.size) 1),(10,nB w90),(8,nI q41),(0,nP b0 0)]) (w':=w98) (by kernel_rfl) ?_
     intro a116 hF115; clear hF102
     refine ev_one (nI (q86.closed)) w98 hF115 (by kernel_rfl) rfl (by kernel_rfl) (run_loadV rfl rfl (run_loadS rfl rfl (hS100.cell 0 rfl 1 rfl))) (l':=[(35,nI (q86.closed)),(34,nP (w90.heap.size) 1),(10,nB w90),(8,nI q41),(0,nP b0 0)]) (by kernel_rfl) ?_
     intro a118 hF117; clear hF115
     refine ev_runs 2 hF117 (l':=[(37,.bool (q86.closed != 0)),(36,.bool (q86.closed != 0)),(35,nI (q86.closed)),(34,nP (w90.heap.size) 1),(10,nB w90),(8,nI q41),(0,nP b0 0)]) (w':=w98) (by kernel_rfl) ?_
     intro a120 hF119; clear hF117
     cases hc121:(q86.closed != 0)
     case true =>
      rw [hc121] at hF119
      have hm122:=ifYes hc121 hm89; clear hm89
      refine ev_runK 14 hF119 [4] (l':=[(4,.bool true)]) (w':=w98) (by kernel_rfl) ?_
      intro a124 hF123; clear hF119
      refine wpList_nil ?_
      have hS125:=hS100.drop
      clear hS100
      exact thenN ⟨s6,true,hF123,hS125,hm122⟩
     rw [hc121] at hF119
     have hm126:=ifNot hc121 hm89; clear hm89
     refine ev_runs 2 hF119 (l':=[(39,nI q41),(38,nP b0 0),(37,.bool false),(36,.bool false),(35,nI (q86.closed)),(34,nP (w90.heap.size) 1),(10,nB w90),(8,nI q41),(0,nP b0 0)]) (w':=w98) (by kernel_rfl) ?_
     intro a128 hF127; clear hF119
     have hS129:=hS100.pick1
     clear hS100
     refine ev_call 100 #[nP b0 0,nI q41] hF127 rfl rfl (by kernel_rfl) rfl (by kernel_rfl) (fun w=>by kernel_rfl) ?_
     obtain ⟨L130,s131,hx132,hm133⟩:=bind2E hm126; clear hm126
     refine (ring_All.ok hS129 hx132).mono ?_
     rintro _ w134 ⟨z138,rfl,hS136⟩ a135 hF137; clear hF127 hS129
     obtain ⟨hl143,p140,c141,rfl,hp142⟩:=St.shape hS136 1 rfl
     refine ev_runs 4 hF137 (l':=[(44,.bool (decide ((L130.length:Int) > 0))),(43,.bool (decide ((L130.length:Int) > 0))),(42,.bool (decide ((L130.length:Int) > 0))),(41,nI ((L130.length:Int))),(40,.slice p140 L130.length c141),(39,nI q41),(38,nP b0 0),(37,.bool false),(36,.bool false),(35,nI (q86.closed)),(34,nP (w90.heap.size) 1),(10,nB w90),(8,nI q41),(0,nP b0 0)]) (w':=w134) (by kernel_rfl) ?_
     intro a145 hF144; clear hF137
     cases hc146:(decide ((L130.length:Int) > 0))
     case true =>
      rw [hc146] at hF144
      have hm147:=ifYes hc146 hm133; clear hm133
      refine ev_runK 7 hF144 [4] (l':=[(4,.bool true)]) (w':=w134) (by kernel_rfl) ?_
      intro a149 hF148; clear hF144
      refine wpList_nil ?_
      have hS150:=hS136.pick1.drop.pick1.drop
      clear hS136
      exact thenN ⟨s131,true,hF148,hS150,hm147⟩
     rw [hc146] at hF144
     have hm151:=ifNot hc146 hm133; clear hm133
     refine ev_runs 2 hF144 (l':=[(46,nI q41),(45,nP b0 0),(44,.bool false),(43,.bool false),(42,.bool false),(41,nI ((L130.length:Int))),(40,.slice p140 L130.length c141),(39,nI q41),(38,nP b0 0),(37,.bool false),(36,.bool false),(35,nI (q86.closed)),(34,nP (w90.heap.size) 1),(10,nB w90),(8,nI q41),(0,nP b0 0)]) (w':=w134) (by kernel_rfl) ?_
     intro a153 hF152; clear hF144
     refine ev_call 35 #[nP b0 0,nI q41,.bool true] hF152 rfl rfl (by kernel_rfl) rfl (by kernel_rfl) (fun w=>by kernel_rfl) ?_
     obtain ⟨L154,s155,hx156,hm157⟩:=bind2E hm151; clear hm151
     refine (list_All.ok hS136 hx156).mono ?_
     rintro _ w158 ⟨z162,rfl,hS160⟩ a159 hF161; clear hF152 hS136
     obtain ⟨hl167,p164,c165,rfl,hp166⟩:=St.shape hS160 1 rfl
     refine ev_runK 4 hF161 [4] (l':=[(4,.bool (decide ((L154.length:Int) > 0)))]) (w':=w158) (by kernel_rfl) ?_
     intro a169 hF168; clear hF161
     refine wpList_nil ?_
     have hS170:=hS160.pick1.drop.pick1.drop.pick1.drop
     clear hS160
     exact thenN ⟨s155,decide ((L154.length:Int) > 0),hF168,hS170,hm157⟩
end Go.Proofs.YtgejcjcpchofiaaGreat
