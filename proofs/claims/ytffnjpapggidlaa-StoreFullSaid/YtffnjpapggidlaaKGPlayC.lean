/- GPlayC -/
import Derived.Test.YtffnjpapggidlaaKGStore
import Derived.Deep.LoopGhost
import Derived.KernelRfl
namespace Go.Proofs.Ytffnjpapggidlaa
open Go.RowKit
set_option linter.unusedVariables false
def play_mod.m (k:Nat) (i0:Int) (i1:Int):Option (Int):=(if ((IntKind.u64.wrap i1) == 0) then none else bind1 (some (IntKind.i64.wrap (Int.tmod (IntKind.u64.wrap i0) (IntKind.u64.wrap i1)))) fun x11=>some (x11))
set_option maxRecDepth 100000 in
set_option maxHeartbeats 1500000 in
theorem play_mod.ok {w0 w:World} {F0:List Nat} {ps:List Piece} {k:Nat} {i0:Int} {i1:Int} {r0:Int} (hS:St w0 F0 (ps) w) (hm:play_mod.m k i0 i1=some r0) :
    Calls Try.prog 67 #[nI i0,nI i1] w fun e w'=>e=.returned (.int .i64 r0)∧St w0 F0 (ps) w':=by
 refine ev_enterL 11 [nI i0,nI i1] Try.func67 rfl rfl (by simp) ?_
 intro a hF
 have hF0:Fr 11 a [(0,nI i0),(1,nI i1)]:=hF; clear hF
 unfold play_mod.m at hm
 refine wp_seq (wp_region_lit ?_)
 refine ev_runK 1 hF0 [0,1] (l':=[(0,nI i0),(1,nI i1)]) (w':=w) (by kernel_rfl) ?_
 intro a2 hF1; clear hF0
 refine wpList_nil (thenN (wp_seq (wp_region_lit ?_)))
 refine ev_runs 4 hF1 (l':=[(8,.int .u64 (IntKind.u64.wrap i1)),(7,nI i1),(6,.int .u64 (IntKind.u64.wrap i0)),(5,nI i0),(0,nI i0),(1,nI i1)]) (w':=w) (by kernel_rfl) ?_
 intro a4 hF3; clear hF1
 obtain ⟨hc5,hm6⟩:=ifFE hm; clear hm
 refine ev_one (.int .u64 (Int.tmod (IntKind.u64.wrap i0) (IntKind.u64.wrap i1))) w hF3 (by kernel_rfl) rfl (by kernel_rfl) (run_rem rfl rfl rfl hc5 _) (l':=[(9,.int .u64 (Int.tmod (IntKind.u64.wrap i0) (IntKind.u64.wrap i1))),(8,.int .u64 (IntKind.u64.wrap i1)),(7,nI i1),(6,.int .u64 (IntKind.u64.wrap i0)),(5,nI i0),(0,nI i0),(1,nI i1)]) (by kernel_rfl) ?_
 intro a8 hF7; clear hF3
 refine ev_runs 2 hF7 (l':=[(4,nI (IntKind.i64.wrap (Int.tmod (IntKind.u64.wrap i0) (IntKind.u64.wrap i1)))),(10,nI (IntKind.i64.wrap (Int.tmod (IntKind.u64.wrap i0) (IntKind.u64.wrap i1)))),(9,.int .u64 (Int.tmod (IntKind.u64.wrap i0) (IntKind.u64.wrap i1))),(8,.int .u64 (IntKind.u64.wrap i1)),(7,nI i1),(6,.int .u64 (IntKind.u64.wrap i0)),(5,nI i0),(0,nI i0),(1,nI i1)]) (w':=w) (by kernel_rfl) ?_
 intro a10 hF9; clear hF7
 obtain ⟨x11,hx12,hm13⟩:=bind1E hm6; clear hm6
 have hF14:=hF9; rw [Option.some.inj hx12] at hF14; clear hF9
 refine wpList_nil ?_
 have hF15:=hF14.keep [4]
 clear hF14
 refine thenN ?_
 refine wp_ret ?_
 obtain rfl:=Option.some.inj hm13
 refine ev_ret hF15 [4] (nI x11) rfl rfl rfl ?_
 exact ⟨rfl,hS⟩
def play_Config.m (k:Nat) (i0:Cf):Option (Cf):=bind1 (play_mod.m k i0.spans 12) fun x14=>bind1 (play_mod.m k i0.start 100) fun x23=>bind1 (play_mod.m k i0.assist 9) fun x32=>some ((⟨IntKind.i64.wrap (2+x14),IntKind.i64.wrap (1+x23),x32⟩:Cf))
set_option maxRecDepth 100000 in
set_option maxHeartbeats 1500000 in
theorem play_Config.ok {w0 w:World} {F0:List Nat} {ps:List Piece} {k:Nat} {i0:Cf} {r0:Cf} (hS:St w0 F0 (ps) w) (hm:play_Config.m k i0=some r0) :
    Calls Try.prog 36 #[.agg #[nI (i0.spans),nI (i0.start),nI (i0.assist)]] w fun e w'=>e=.returned (.agg #[nI (r0.spans),nI (r0.start),nI (r0.assist)])∧St w0 F0 (ps) w':=by
 refine ev_enterL 15 [.agg #[nI (i0.spans),nI (i0.start),nI (i0.assist)]] Try.func36 rfl rfl (by simp) ?_
 intro a hF
 have hF0:Fr 15 a [(0,.agg #[nI (i0.spans),nI (i0.start),nI (i0.assist)])]:=hF; clear hF
 unfold play_Config.m at hm
 refine wp_seq (wp_region_lit ?_)
 refine ev_runs 1 hF0 (l':=[(1,nB w),(0,.agg #[nI (i0.spans),nI (i0.start),nI (i0.assist)])]) (w':=w.alloc (.cells #[nI (i0.spans),nI (i0.start),nI (i0.assist)] 60)) (by kernel_rfl) ?_
 intro a2 hF1; clear hF0
 have hS4:St w0 F0 (BlkP (w.heap.size) 60 #[nI (i0.spans),nI (i0.start),nI (i0.assist)]::ps) (w.alloc (.cells #[nI (i0.spans),nI (i0.start),nI (i0.assist)] 60)):=St.new hS #[nI (i0.spans),nI (i0.start),nI (i0.assist)] 60
 refine ev_runs 1 hF1 (l':=[(2,nP ((w.alloc (.cells #[nI (i0.spans),nI (i0.start),nI (i0.assist)] 60)).heap.size) 0),(1,nB w),(0,.agg #[nI (i0.spans),nI (i0.start),nI (i0.assist)])]) (w':=(w.alloc (.cells #[nI (i0.spans),nI (i0.start),nI (i0.assist)] 60)).alloc (.cells #[nI 0,nI 0,nI 0] 60)) (by kernel_rfl) ?_
 intro a6 hF5; clear hF1
 have hS8:St w0 F0 (BlkP ((w.alloc (.cells #[nI (i0.spans),nI (i0.start),nI (i0.assist)] 60)).heap.size) 60 #[nI 0,nI 0,nI 0]::BlkP (w.heap.size) 60 #[nI (i0.spans),nI (i0.start),nI (i0.assist)]::ps) ((w.alloc (.cells #[nI (i0.spans),nI (i0.start),nI (i0.assist)] 60)).alloc (.cells #[nI 0,nI 0,nI 0] 60)):=St.new hS4 #[nI 0,nI 0,nI 0] 60
 clear hS4
 refine wpList_nil ?_
 have hF9:=hF5.keep [1,2]
 clear hF5
 refine thenN (wp_seq ?_)
 have hS10:=hS8.pick1
 clear hS8
 have hS11:=hS10.drew; clear hS10
 refine any_start (fun wS=>∃ qs,St w0 F0 (BlkP (w.heap.size) 60 #[nI (i0.spans),nI (i0.start),nI (i0.assist)]::qs) wS) 13 #[false,false,false,false,false,false,false,false,false,false,false,false,false] (by kernel_rfl) (by kernel_rfl) (by kernel_rfl) ?_
 refine any_many 6 [(0,some (nB w)),(1,some (nI (i0.spans))),(4,some (nP (w.heap.size) 1)),(5,some (nI (i0.start))),(8,some (nP (w.heap.size) 2)),(9,some (nI (i0.assist)))] [2,4,5,6,8,9,10,12,13,14] #[true,true,false,false,true,true,false,false,true,true,false,false,false] (by rfl) hF9 (by kernel_rfl) (by kernel_rfl) (by exact ⟨fun wS hw=>by kernel_rfl,fun wS hw=>hw.elim fun qs hw=>run_loadV rfl rfl (run_loadS rfl rfl (hw.cell 0 rfl 0 rfl)),fun wS hw=>by kernel_rfl,fun wS hw=>hw.elim fun qs hw=>run_loadV rfl rfl (run_loadS rfl rfl (hw.cell 0 rfl 1 rfl)),fun wS hw=>by kernel_rfl,fun wS hw=>hw.elim fun qs hw=>run_loadV rfl rfl (run_loadS rfl rfl (hw.cell 0 rfl 2 rfl)),trivial⟩) (fun _ _ _ _ _ h=>h) ⟨_,hS11⟩ (l':=[(12,nI (i0.assist)),(8,nI (i0.start)),(4,nI (i0.spans)),(2,nP ((w.alloc (.cells #[nI (i0.spans),nI (i0.start),nI (i0.assist)] 60)).heap.size) 0)]) (by kernel_rfl) ?_
 intro a13 hF12; clear hF9
 refine any_call 2 #[true,true,true,false,true,true,false,false,true,true,false,false,false] 67 #[nI (i0.spans),nI 12] hF12 rfl (by kernel_rfl) rfl rfl (by kernel_rfl) rfl (by kernel_rfl) (fun w=>by kernel_rfl) (by kernel_rfl) ?_
 obtain ⟨x14,hx15,hm16⟩:=bind1E hm; clear hm
 refine (play_mod.ok hS11 hx15).mono ?_
 rintro _ w17 ⟨rfl,hS19⟩; clear hS11
 refine ⟨⟨_,hS19⟩,?_⟩
 intro a18 hF20; clear hF12
 refine any_many 1 [(3,some (nI (IntKind.i64.wrap (2+x14))))] [2,6,8,9,10,12,13,14] #[true,true,true,true,true,true,false,false,true,true,false,false,false] (by rfl) hF20 (by kernel_rfl) (by kernel_rfl) (by exact ⟨fun wS hw=>by kernel_rfl,trivial⟩) (fun _ _ _ _ _ h=>h) ⟨_,hS19⟩ (l':=[(6,nI (IntKind.i64.wrap (2+x14))),(12,nI (i0.assist)),(8,nI (i0.start)),(2,nP ((w.alloc (.cells #[nI (i0.spans),nI (i0.start),nI (i0.assist)] 60)).heap.size) 0)]) (by kernel_rfl) ?_
 intro a22 hF21; clear hF20
 refine any_call 6 #[true,true,true,true,true,true,true,false,true,true,false,false,false] 67 #[nI (i0.start),nI 100] hF21 rfl (by kernel_rfl) rfl rfl (by kernel_rfl) rfl (by kernel_rfl) (fun w=>by kernel_rfl) (by kernel_rfl) ?_
 obtain ⟨x23,hx24,hm25⟩:=bind1E hm16; clear hm16
 refine (play_mod.ok hS19 hx24).mono ?_
 rintro _ w26 ⟨rfl,hS28⟩; clear hS19
 refine ⟨⟨_,hS28⟩,?_⟩
 intro a27 hF29; clear hF21
 refine any_many 1 [(7,some (nI (IntKind.i64.wrap (1+x23))))] [2,6,10,12,13,14] #[true,true,true,true,true,true,true,true,true,true,false,false,false] (by rfl) hF29 (by kernel_rfl) (by kernel_rfl) (by exact ⟨fun wS hw=>by kernel_rfl,trivial⟩) (fun _ _ _ _ _ h=>h) ⟨_,hS28⟩ (l':=[(10,nI (IntKind.i64.wrap (1+x23))),(6,nI (IntKind.i64.wrap (2+x14))),(12,nI (i0.assist)),(2,nP ((w.alloc (.cells #[nI (i0.spans),nI (i0.start),nI (i0.assist)] 60)).heap.size) 0)]) (by kernel_rfl) ?_
 intro a31 hF30; clear hF29
 refine any_call 10 #[true,true,true,true,true,true,true,true,true,true,true,false,false] 67 #[nI (i0.assist),nI 9] hF30 rfl (by kernel_rfl) rfl rfl (by kernel_rfl) rfl (by kernel_rfl) (fun w=>by kernel_rfl) (by kernel_rfl) ?_
 obtain ⟨x32,hx33,hm34⟩:=bind1E hm25; clear hm25
 refine (play_mod.ok hS28 hx33).mono ?_
 rintro _ w35 ⟨rfl,hS37⟩; clear hS28
 refine ⟨⟨_,hS37⟩,?_⟩
 intro a36 hF38; clear hF30
 refine any_many 1 [(11,some (.agg #[nI (IntKind.i64.wrap (2+x14)),nI (IntKind.i64.wrap (1+x23)),nI x32]))] [2,14] #[true,true,true,true,true,true,true,true,true,true,true,true,false] (by rfl) hF38 (by kernel_rfl) (by kernel_rfl) (by exact ⟨fun wS hw=>by kernel_rfl,trivial⟩) (fun _ _ _ _ _ h=>h) ⟨_,hS37⟩ (l':=[(14,.agg #[nI (IntKind.i64.wrap (2+x14)),nI (IntKind.i64.wrap (1+x23)),nI x32]),(2,nP ((w.alloc (.cells #[nI (i0.spans),nI (i0.start),nI (i0.assist)] 60)).heap.size) 0)]) (by kernel_rfl) ?_
 intro a40 hF39; clear hF38
 refine any_one 12 (by kernel_rfl) ?_
 have hS41:=hS37.pick1
 clear hS37
 refine op_store 12 #[true,true,true,true,true,true,true,true,true,true,true,true,true] (.agg #[nI (IntKind.i64.wrap (2+x14)),nI (IntKind.i64.wrap (1+x23)),nI x32]) #[nI (IntKind.i64.wrap (2+x14)),nI (IntKind.i64.wrap (1+x23)),nI x32] hF39 rfl (by kernel_rfl) rfl rfl rfl rfl (by kernel_rfl) hS41 (by kernel_rfl) (by kernel_rfl) (by kernel_rfl) (l':=[(14,.agg #[nI (IntKind.i64.wrap (2+x14)),nI (IntKind.i64.wrap (1+x23)),nI x32]),(2,nP ((w.alloc (.cells #[nI (i0.spans),nI (i0.start),nI (i0.assist)] 60)).heap.size) 0)]) (by kernel_rfl) (by kernel_rfl) ?_
 intro w42 a43 hS44 hF45; clear hF39 hS41
 refine ⟨⟨_,hS44.pick1⟩,?_⟩
 refine any_done (by kernel_rfl) ?_
 have hF46:=hF45.keep [2]
 clear hF45
 have hS47:=hS44.pick1.drop
 clear hS44
 refine thenN ?_
 refine wp_ret ?_
 obtain rfl:=Option.some.inj hm34
 refine ev_retC hF46 _ [.agg #[nI (IntKind.i64.wrap (2+x14)),nI (IntKind.i64.wrap (1+x23)),nI x32]] (.agg #[nI (IntKind.i64.wrap (2+x14)),nI (IntKind.i64.wrap (1+x23)),nI x32]) rfl ⟨⟨rfl,_,rfl,(run_loadA (cs:=[nI (IntKind.i64.wrap (2+x14)),nI (IntKind.i64.wrap (1+x23)),nI x32]) rfl rfl (by kernel_rfl) (blk_cells hS47 0 rfl rfl))⟩,trivial⟩ rfl ?_
 have hS49:=hS47.drop
 clear hS47
 exact ⟨rfl,hS49⟩
end Go.Proofs.Ytffnjpapggidlaa
