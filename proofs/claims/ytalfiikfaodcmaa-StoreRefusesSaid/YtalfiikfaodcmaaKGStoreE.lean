/- GStoreE -/
import Derived.Test.YtalfiikfaodcmaaKGStore
import Derived.Test.YtalfiikfaodcmaaKView2N
import Derived.Deep.LoopGhost
import Derived.KernelRfl
namespace Go.Proofs.Ytalfiikfaodcmaa
open Go.RowKit
set_option linter.unusedVariables false
def store_NewE.j1 (i0:Cf) (y7:Bool):Option (Int):=(if (y7) then some (1) else bind1 (pNewE i0.spans) fun u27=>some (1))
def store_NewE.m (k:Nat) (i0:Cf):Option (Int):=(if (decide (i0.start<1)) then store_NewE.j1 i0 true else (if (decide (i0.start > 100)) then store_NewE.j1 i0 true else (if (decide (i0.assist<0)) then store_NewE.j1 i0 true else store_NewE.j1 i0 (decide (i0.assist > 8)))))
set_option maxRecDepth 100000 in
set_option maxHeartbeats 1500000 in
theorem store_NewE.ok {w0 w:World} {F0:List Nat} {ps:List Piece} {k:Nat} {i0:Cf} {r0:Int} (hS:St w0 F0 (ps) w) (hm:store_NewE.m k i0=some r0) :
    Calls Try.prog 10 #[.agg #[nI (i0.spans),nI (i0.start),nI (i0.assist)]] w fun e w'=>e=.returned (.tuple #[.pointer none,.int .i64 r0])∧St w0 F0 (ps) w':=by
 refine ev_enterL 37 [.agg #[nI (i0.spans),nI (i0.start),nI (i0.assist)]] Try.func10 rfl rfl (by simp) ?_
 intro a hF
 have hF0:Fr 37 a [(0,.agg #[nI (i0.spans),nI (i0.start),nI (i0.assist)])]:=hF; clear hF
 unfold store_NewE.m at hm
 refine wp_seq (wp_region_lit ?_)
 refine ev_runs 1 hF0 (l':=[(1,nB w),(0,.agg #[nI (i0.spans),nI (i0.start),nI (i0.assist)])]) (w':=w.alloc (.cells #[nI (i0.spans),nI (i0.start),nI (i0.assist)] 23)) (by kernel_rfl) ?_
 intro a2 hF1; clear hF0
 have hS4:St w0 F0 (BlkP (w.heap.size) 23 #[nI (i0.spans),nI (i0.start),nI (i0.assist)]::ps) (w.alloc (.cells #[nI (i0.spans),nI (i0.start),nI (i0.assist)] 23)):=St.new hS #[nI (i0.spans),nI (i0.start),nI (i0.assist)] 23
 refine ev_runK 2 hF1 [1] (l':=[(1,nB w)]) (w':=w.alloc (.cells #[nI (i0.spans),nI (i0.start),nI (i0.assist)] 23)) (by kernel_rfl) ?_
 intro a6 hF5; clear hF1
 refine wpList_nil (thenN (wp_seq (wp_seq ?_)))
 refine joinQ (fun aI wI=>∃ (y7:Bool),Fr 37 aI [(23,.bool (y7)),(1,nB w)]∧St w0 F0 (BlkP (w.heap.size) 23 #[nI (i0.spans),nI (i0.start),nI (i0.assist)]::ps) wI∧store_NewE.j1 i0 y7=some r0) ?_ ?_
 rotate_left
 · rintro a9 w10 ⟨y7,hF11,hS12,hm13⟩
   clear hF5 hS4 hm
   unfold store_NewE.j1 at hm13
   refine thenN ?_
   cases hc15:(y7)
   case true =>
    rw [hc15] at hF11
    have hm16:=ifYes hc15 hm13; clear hm13
    refine ev_condT hF11 rfl rfl ?_
    refine wp_seq (wp_region_lit ?_)
    refine ev_runK 2 hF11 [2,3] (l':=[(3,nI 1),(2,.pointer none)]) (w':=w10) (by kernel_rfl) ?_
    intro a18 hF17; clear hF11
    refine wpList_nil ?_
    have hS19:=hS12.drop
    clear hS12
    refine thenN ?_
    refine wp_ret ?_
    refine thenR ?_
    obtain rfl:=Option.some.inj hm16
    refine ev_ret hF17 [2,3] (.tuple #[.pointer none,nI 1]) rfl rfl rfl ?_
    exact ⟨rfl,hS19⟩
   rw [hc15] at hF11
   have hm21:=ifNot hc15 hm13; clear hm13
   refine ev_condF hF11 rfl rfl ?_
   refine wp_skip ?_
   have hF22:=hF11.keep [1]
   clear hF11
   refine thenN (wp_seq (wp_region_lit ?_))
   refine ev_runs 1 hF22 (l':=[(25,nB w),(1,nB w)]) (w':=w10) (by kernel_rfl) ?_
   intro a24 hF23; clear hF22
   refine ev_one (nI (i0.spans)) w10 hF23 (by kernel_rfl) rfl (by kernel_rfl) (run_loadV rfl rfl (run_loadS rfl rfl (hS12.cell 0 rfl 0 rfl))) (l':=[(26,nI (i0.spans)),(25,nB w),(1,nB w)]) (by kernel_rfl) ?_
   intro a26 hF25; clear hF23
   refine ev_call 33 #[nI (i0.spans)] hF25 rfl rfl (by kernel_rfl) rfl (by kernel_rfl) (fun w=>by kernel_rfl) ?_
   obtain ⟨u27,hx28,hm29⟩:=bind1E hm21; clear hm21
   refine (p_NewE hS12 hx28).mono ?_
   rintro _ w30 ⟨rfl,hS32⟩ a31 hF33; clear hF25 hS12
   refine ev_runK 5 hF33 [1,4,5] (l':=[(5,nI 1),(4,.pointer none),(1,nB w)]) (w':=w30) (by kernel_rfl) ?_
   intro a35 hF34; clear hF33
   refine wpList_nil (thenN (wp_seq (wp_seq (wp_region_lit ?_))))
   refine ev_runK 2 hF34 [1,4,5,31] (l':=[(31,.bool true),(5,nI 1),(4,.pointer none),(1,nB w)]) (w':=w30) (by kernel_rfl) ?_
   intro a37 hF36; clear hF34
   refine wpList_nil (thenN ?_)
   refine ev_condT hF36 rfl rfl ?_
   refine wp_seq (wp_region_lit ?_)
   refine ev_runK 3 hF36 [2,3] (l':=[(3,nI 1),(2,.pointer none)]) (w':=w30) (by kernel_rfl) ?_
   intro a39 hF38; clear hF36
   refine wpList_nil ?_
   have hS40:=hS32.drop
   clear hS32
   refine thenN ?_
   refine wp_ret ?_
   refine thenR ?_
   obtain rfl:=Option.some.inj hm29
   refine ev_ret hF38 [2,3] (.tuple #[.pointer none,nI 1]) rfl rfl rfl ?_
   exact ⟨rfl,hS40⟩
 · skip
   refine wp_region_lit ?_
   refine ev_runs 1 hF5 (l':=[(6,nP (w.heap.size) 1),(1,nB w)]) (w':=w.alloc (.cells #[nI (i0.spans),nI (i0.start),nI (i0.assist)] 23)) (by kernel_rfl) ?_
   intro a43 hF42; clear hF5
   refine ev_one (nI (i0.start)) (w.alloc (.cells #[nI (i0.spans),nI (i0.start),nI (i0.assist)] 23)) hF42 (by kernel_rfl) rfl (by kernel_rfl) (run_loadV rfl rfl (run_loadS rfl rfl (hS4.cell 0 rfl 1 rfl))) (l':=[(7,nI (i0.start)),(6,nP (w.heap.size) 1),(1,nB w)]) (by kernel_rfl) ?_
   intro a45 hF44; clear hF42
   refine ev_runs 2 hF44 (l':=[(9,.bool (decide (i0.start<1))),(8,.bool (decide (i0.start<1))),(7,nI (i0.start)),(6,nP (w.heap.size) 1),(1,nB w)]) (w':=w.alloc (.cells #[nI (i0.spans),nI (i0.start),nI (i0.assist)] 23)) (by kernel_rfl) ?_
   intro a47 hF46; clear hF44
   cases hc48:(decide (i0.start<1))
   case true =>
    rw [hc48] at hF46
    have hm49:=ifYes hc48 hm; clear hm
    refine ev_runK 14 hF46 [1,23] (l':=[(23,.bool true),(1,nB w)]) (w':=w.alloc (.cells #[nI (i0.spans),nI (i0.start),nI (i0.assist)] 23)) (by kernel_rfl) ?_
    intro a51 hF50; clear hF46
    refine wpList_nil ?_
    exact thenN ⟨true,hF50,hS4,hm49⟩
   rw [hc48] at hF46
   have hm52:=ifNot hc48 hm; clear hm
   refine ev_runs 1 hF46 (l':=[(10,nP (w.heap.size) 1),(9,.bool false),(8,.bool false),(7,nI (i0.start)),(6,nP (w.heap.size) 1),(1,nB w)]) (w':=w.alloc (.cells #[nI (i0.spans),nI (i0.start),nI (i0.assist)] 23)) (by kernel_rfl) ?_
   intro a54 hF53; clear hF46
   refine ev_one (nI (i0.start)) (w.alloc (.cells #[nI (i0.spans),nI (i0.start),nI (i0.assist)] 23)) hF53 (by kernel_rfl) rfl (by kernel_rfl) (run_loadV rfl rfl (run_loadS rfl rfl (hS4.cell 0 rfl 1 rfl))) (l':=[(11,nI (i0.start)),(10,nP (w.heap.size) 1),(9,.bool false),(8,.bool false),(7,nI (i0.start)),(6,nP (w.heap.size) 1),(1,nB w)]) (by kernel_rfl) ?_
   intro a56 hF55; clear hF53
   refine ev_runs 3 hF55 (l':=[(14,.bool (decide (i0.start > 100))),(13,.bool (decide (i0.start > 100))),(12,.bool (decide (i0.start > 100))),(11,nI (i0.start)),(10,nP (w.heap.size) 1),(9,.bool false),(8,.bool false),(7,nI (i0.start)),(6,nP (w.heap.size) 1),(1,nB w)]) (w':=w.alloc (.cells #[nI (i0.spans),nI (i0.start),nI (i0.assist)] 23)) (by kernel_rfl) ?_
   intro a58 hF57; clear hF55
   cases hc59:(decide (i0.start > 100))
   case true =>
    rw [hc59] at hF57
    have hm60:=ifYes hc59 hm52; clear hm52
    refine ev_runK 9 hF57 [1,23] (l':=[(23,.bool true),(1,nB w)]) (w':=w.alloc (.cells #[nI (i0.spans),nI (i0.start),nI (i0.assist)] 23)) (by kernel_rfl) ?_
    intro a62 hF61; clear hF57
    refine wpList_nil ?_
    exact thenN ⟨true,hF61,hS4,hm60⟩
   rw [hc59] at hF57
   have hm63:=ifNot hc59 hm52; clear hm52
   refine ev_runs 1 hF57 (l':=[(15,nP (w.heap.size) 2),(14,.bool false),(13,.bool false),(12,.bool false),(11,nI (i0.start)),(10,nP (w.heap.size) 1),(9,.bool false),(8,.bool false),(7,nI (i0.start)),(6,nP (w.heap.size) 1),(1,nB w)]) (w':=w.alloc (.cells #[nI (i0.spans),nI (i0.start),nI (i0.assist)] 23)) (by kernel_rfl) ?_
   intro a65 hF64; clear hF57
   refine ev_one (nI (i0.assist)) (w.alloc (.cells #[nI (i0.spans),nI (i0.start),nI (i0.assist)] 23)) hF64 (by kernel_rfl) rfl (by kernel_rfl) (run_loadV rfl rfl (run_loadS rfl rfl (hS4.cell 0 rfl 2 rfl))) (l':=[(16,nI (i0.assist)),(15,nP (w.heap.size) 2),(14,.bool false),(13,.bool false),(12,.bool false),(11,nI (i0.start)),(10,nP (w.heap.size) 1),(9,.bool false),(8,.bool false),(7,nI (i0.start)),(6,nP (w.heap.size) 1),(1,nB w)]) (by kernel_rfl) ?_
   intro a67 hF66; clear hF64
   refine ev_runs 3 hF66 (l':=[(19,.bool (decide (i0.assist<0))),(18,.bool (decide (i0.assist<0))),(17,.bool (decide (i0.assist<0))),(16,nI (i0.assist)),(15,nP (w.heap.size) 2),(14,.bool false),(13,.bool false),(12,.bool false),(11,nI (i0.start)),(10,nP (w.heap.size) 1),(9,.bool false),(8,.bool false),(7,nI (i0.start)),(6,nP (w.heap.size) 1),(1,nB w)]) (w':=w.alloc (.cells #[nI (i0.spans),nI (i0.start),nI (i0.assist)] 23)) (by kernel_rfl) ?_
   intro a69 hF68; clear hF66
   cases hc70:(decide (i0.assist<0))
   case true =>
    rw [hc70] at hF68
    have hm71:=ifYes hc70 hm63; clear hm63
    refine ev_runK 4 hF68 [1,23] (l':=[(23,.bool true),(1,nB w)]) (w':=w.alloc (.cells #[nI (i0.spans),nI (i0.start),nI (i0.assist)] 23)) (by kernel_rfl) ?_
    intro a73 hF72; clear hF68
    refine wpList_nil ?_
    exact thenN ⟨true,hF72,hS4,hm71⟩
   rw [hc70] at hF68
   have hm74:=ifNot hc70 hm63; clear hm63
   refine ev_runs 1 hF68 (l':=[(20,nP (w.heap.size) 2),(19,.bool false),(18,.bool false),(17,.bool false),(16,nI (i0.assist)),(15,nP (w.heap.size) 2),(14,.bool false),(13,.bool false),(12,.bool false),(11,nI (i0.start)),(10,nP (w.heap.size) 1),(9,.bool false),(8,.bool false),(7,nI (i0.start)),(6,nP (w.heap.size) 1),(1,nB w)]) (w':=w.alloc (.cells #[nI (i0.spans),nI (i0.start),nI (i0.assist)] 23)) (by kernel_rfl) ?_
   intro a76 hF75; clear hF68
   refine ev_one (nI (i0.assist)) (w.alloc (.cells #[nI (i0.spans),nI (i0.start),nI (i0.assist)] 23)) hF75 (by kernel_rfl) rfl (by kernel_rfl) (run_loadV rfl rfl (run_loadS rfl rfl (hS4.cell 0 rfl 2 rfl))) (l':=[(21,nI (i0.assist)),(20,nP (w.heap.size) 2),(19,.bool false),(18,.bool false),(17,.bool false),(16,nI (i0.assist)),(15,nP (w.heap.size) 2),(14,.bool false),(13,.bool false),(12,.bool false),(11,nI (i0.start)),(10,nP (w.heap.size) 1),(9,.bool false),(8,.bool false),(7,nI (i0.start)),(6,nP (w.heap.size) 1),(1,nB w)]) (by kernel_rfl) ?_
   intro a78 hF77; clear hF75
   refine ev_runK 2 hF77 [1,23] (l':=[(23,.bool (decide (i0.assist > 8))),(1,nB w)]) (w':=w.alloc (.cells #[nI (i0.spans),nI (i0.start),nI (i0.assist)] 23)) (by kernel_rfl) ?_
   intro a80 hF79; clear hF77
   refine wpList_nil ?_
   exact thenN ⟨decide (i0.assist > 8),hF79,hS4,hm74⟩
def store_HeapN.m (k:Nat):Option Unit:=some ()
set_option maxRecDepth 100000 in
set_option maxHeartbeats 1500000 in
theorem store_HeapN.ok {w0 w:World} {F0:List Nat} {ps:List Piece} {k:Nat}  (hS:St w0 F0 (ps) w) (hm:store_HeapN.m k=some ()) :
    Calls Try.prog 12 #[.pointer none] w fun e w'=>e=.returned (.pointer none)∧St w0 F0 (ps) w':=by
 refine ev_enterL 9 [.pointer none] Try.func12 rfl rfl (by simp) ?_
 intro a hF
 have hF0:Fr 9 a [(0,.pointer none)]:=hF; clear hF
 unfold store_HeapN.m at hm
 refine wp_seq (wp_region_lit ?_)
 refine ev_runK 1 hF0 [0] (l':=[(0,.pointer none)]) (w':=w) (by kernel_rfl) ?_
 intro a2 hF1; clear hF0
 refine wpList_nil (thenN (wp_seq (wp_seq (wp_region_lit ?_))))
 refine ev_runK 2 hF1 [0,4] (l':=[(4,.bool true),(0,.pointer none)]) (w':=w) (by kernel_rfl) ?_
 intro a4 hF3; clear hF1
 refine wpList_nil (thenN ?_)
 refine ev_condT hF3 rfl rfl ?_
 refine wp_seq (wp_region_lit ?_)
 refine ev_runK 1 hF3 [2] (l':=[(2,.pointer none)]) (w':=w) (by kernel_rfl) ?_
 intro a6 hF5; clear hF3
 refine wpList_nil (thenN ?_)
 refine wp_ret ?_
 refine thenR ?_
 refine ev_ret hF5 [2] (.pointer none) rfl rfl rfl ?_
 exact ⟨rfl,hS⟩
def store_AllocN.m (k:Nat) (L1:List Nd) (L2:List Int):Option (List Int×List Gn×Int):=bind2 (store_sizes.m k L1) fun L18 y19=>some ([],[],2)
set_option maxRecDepth 100000 in
set_option maxHeartbeats 40000000 in
theorem store_AllocN.ok {w0 w:World} {F0:List Nat} {ps:List Piece} {k:Nat} {v1:Value} {L1:List Nd} {v2:Value} {L2:List Int} {r0:List Int} {r1:List Gn} {r2:Int} (hS:St w0 F0 (RowX kNd (v1) L1::RowP (v2) L2::ps) w) (hm:store_AllocN.m k L1 L2=some (r0,r1,r2)) :
    Calls Try.prog 16 #[.pointer none,v1,v2] w fun e w'=>∃ vr0 vr1,e=.returned (.tuple #[vr0,vr1,.int .i64 r2])∧St w0 F0 (RowX kNd (v1) L1::RowP (v2) L2::RowP vr0 r0::GonesP vr1 r1::ps) w':=by
 refine ev_enterL 105 [.pointer none,v1,v2] Try.func16 rfl rfl (by simp) ?_
 intro a hF
 have hF0:Fr 105 a [(0,.pointer none),(1,v1),(2,v2)]:=hF; clear hF
 unfold store_AllocN.m at hm
 obtain ⟨hl4,p1,c2,rfl,hp3⟩:=St.shapeX hS 0 rfl
 obtain ⟨hl8,p5,c6,rfl,hp7⟩:=St.shape hS 1 rfl
 refine wp_seq (wp_region_lit ?_)
 have hS10:St w0 F0 (RowP (.slice none 0 0) []::RowX kNd (.slice p1 L1.length c2) L1::RowP (.slice p5 L2.length c6) L2::ps) w:=St.nil hS
 have hS12:St w0 F0 (GonesP (.slice none 0 0) []::RowP (.slice none 0 0) []::RowX kNd (.slice p1 L1.length c2) L1::RowP (.slice p5 L2.length c6) L2::ps) w:=St.nilG hS10
 clear hS10
 refine ev_runK 3 hF0 [0,1,2] (l':=[(0,.pointer none),(1,.slice p1 L1.length c2),(2,.slice p5 L2.length c6)]) (w':=w) (by kernel_rfl) ?_
 intro a14 hF13; clear hF0
 refine wpList_nil ?_
 have hS15:=hS12.drop.drop
 clear hS12
 refine thenN (wp_seq (wp_region_lit ?_))
 refine ev_runs 1 hF13 (l':=[(16,.slice p1 L1.length c2),(0,.pointer none),(1,.slice p1 L1.length c2),(2,.slice p5 L2.length c6)]) (w':=w) (by kernel_rfl) ?_
 intro a17 hF16; clear hF13
 refine ev_call 36 #[.slice p1 L1.length c2] hF16 rfl rfl (by kernel_rfl) rfl (by kernel_rfl) (fun w=>by kernel_rfl) ?_
 obtain ⟨L18,y19,hx20,hm21⟩:=bind2E hm; clear hm
 refine (store_sizes.ok hS15 hx20).mono ?_
 rintro _ w22 ⟨z26,rfl,hS24⟩ a23 hF25; clear hF16 hS15
 obtain ⟨hl31,p28,c29,rfl,hp30⟩:=St.shape hS24 1 rfl
 refine ev_runK 5 hF25 [0,1,2,9,10] (l':=[(10,.bool (y19)),(9,.slice p28 L18.length c29),(0,.pointer none),(1,.slice p1 L1.length c2),(2,.slice p5 L2.length c6)]) (w':=w22) (by kernel_rfl) ?_
 intro a33 hF32; clear hF25
 refine wpList_nil (thenN (wp_seq ?_))
 refine wp_block ?_
 refine wp_seq (wp_region_lit ?_)
 refine ev_runK 3 hF32 [0,1,2,9,10,20] (l':=[(20,.bool true),(10,.bool (y19)),(9,.slice p28 L18.length c29),(0,.pointer none),(1,.slice p1 L1.length c2),(2,.slice p5 L2.length c6)]) (w':=w22) (by kernel_rfl) ?_
 intro a35 hF34; clear hF32
 refine wpList_nil (thenN ?_)
 refine ev_condT hF34 rfl rfl ?_
 refine wp_seq (wp_region_lit ?_)
 have hS37:St w0 F0 (RowP (.slice none 0 0) []::RowX kNd (.slice p1 L1.length c2) L1::RowP (.slice p28 L18.length c29) L18::RowP (.slice p5 L2.length c6) L2::ps) w22:=St.nil hS24
 clear hS24
 have hS39:St w0 F0 (GonesP (.slice none 0 0) []::RowP (.slice none 0 0) []::RowX kNd (.slice p1 L1.length c2) L1::RowP (.slice p28 L18.length c29) L18::RowP (.slice p5 L2.length c6) L2::ps) w22:=St.nilG hS37
 clear hS37
 refine ev_runK 3 hF34 [6,7,8] (l':=[(8,nI 2),(7,.slice none 0 0),(6,.slice none 0 0)]) (w':=w22) (by kernel_rfl) ?_
 intro a41 hF40; clear hF34
 refine wpList_nil ?_
 have hS42:=hS39.pick3.drop
 clear hS39
 refine thenN ?_
 refine wp_ret ?_
 refine blockR ?_
 refine thenR ?_
 have hS43:=hS42.pick1.pick3.pick3
 clear hS42
 simp only [Option.some.injEq,Prod.mk.injEq] at hm21
 obtain ⟨rfl,rfl,rfl⟩:=hm21
 refine ev_ret hF40 [6,7,8] (.tuple #[.slice none 0 0,.slice none 0 0,nI 2]) rfl rfl rfl ?_
 exact ⟨_,_,rfl,hS43⟩
def store_CollectN.m (k:Nat) (L1:List Int):Option (List Gn):=bind1 (store_HeapN.m k ) fun u12=>some ([])
set_option maxRecDepth 100000 in
set_option maxHeartbeats 1500000 in
theorem store_CollectN.ok {w0 w:World} {F0:List Nat} {ps:List Piece} {k:Nat} {v1:Value} {L1:List Int} {r0:List Gn} (hS:St w0 F0 (RowP (v1) L1::ps) w) (hm:store_CollectN.m k L1=some r0) :
    Calls Try.prog 24 #[.pointer none,v1] w fun e w'=>∃ vr0,e=.returned (vr0)∧St w0 F0 (RowP (v1) L1::GonesP vr0 r0::ps) w':=by
 refine ev_enterL 16 [.pointer none,v1] Try.func24 rfl rfl (by simp) ?_
 intro a hF
 have hF0:Fr 16 a [(0,.pointer none),(1,v1)]:=hF; clear hF
 unfold store_CollectN.m at hm
 obtain ⟨hl4,p1,c2,rfl,hp3⟩:=St.shape hS 0 rfl
 refine wp_seq (wp_region_lit ?_)
 have hS6:St w0 F0 (GonesP (.slice none 0 0) []::RowP (.slice p1 L1.length c2) L1::ps) w:=St.nilG hS
 refine ev_runK 1 hF0 [0,1] (l':=[(0,.pointer none),(1,.slice p1 L1.length c2)]) (w':=w) (by kernel_rfl) ?_
 intro a8 hF7; clear hF0
 refine wpList_nil ?_
 have hS9:=hS6.drop
 clear hS6
 refine thenN (wp_seq (wp_region_lit ?_))
 refine ev_runs 1 hF7 (l':=[(6,.pointer none),(0,.pointer none),(1,.slice p1 L1.length c2)]) (w':=w) (by kernel_rfl) ?_
 intro a11 hF10; clear hF7
 refine ev_call 12 #[.pointer none] hF10 rfl rfl (by kernel_rfl) rfl (by kernel_rfl) (fun w=>by kernel_rfl) ?_
 obtain ⟨u12,hx13,hm14⟩:=bind1E hm; clear hm
 refine (store_HeapN.ok hS9 hx13).mono ?_
 rintro _ w15 ⟨rfl,hS17⟩ a16 hF18; clear hF10 hS9
 refine ev_runK 1 hF18 [1,5] (l':=[(5,.pointer none),(1,.slice p1 L1.length c2)]) (w':=w15) (by kernel_rfl) ?_
 intro a20 hF19; clear hF18
 refine wpList_nil (thenN (wp_seq (wp_seq (wp_region_lit ?_))))
 refine ev_runs 1 hF19 (l':=[(8,.pointer none),(5,.pointer none),(1,.slice p1 L1.length c2)]) (w':=w15) (by kernel_rfl) ?_
 intro a22 hF21; clear hF19
 refine ev_call 17 #[.pointer none] hF21 rfl rfl (by kernel_rfl) rfl (by kernel_rfl) (fun w=>by kernel_rfl) ?_
 refine (p_PhaseN hS17).mono ?_
 rintro _ w23 ⟨rfl,hS25⟩ a24 hF26; clear hF21 hS17
 refine ev_runK 1 hF26 [1,5,10] (l':=[(10,.bool true),(5,.pointer none),(1,.slice p1 L1.length c2)]) (w':=w23) (by kernel_rfl) ?_
 intro a28 hF27; clear hF26
 refine wpList_nil (thenN ?_)
 refine ev_condT hF27 rfl rfl ?_
 refine wp_seq (wp_region_lit ?_)
 refine ev_runs 2 hF27 (l':=[(12,.slice p1 L1.length c2),(11,.pointer none),(10,.bool true),(5,.pointer none),(1,.slice p1 L1.length c2)]) (w':=w23) (by kernel_rfl) ?_
 intro a30 hF29; clear hF27
 refine ev_call 37 #[.pointer none,.slice p1 L1.length c2] hF29 rfl rfl (by kernel_rfl) rfl (by kernel_rfl) (fun w=>by kernel_rfl) ?_
 refine (p_BeginN hS25).mono ?_
 rintro _ w31 ⟨rfl,hS33⟩ a32 hF34; clear hF29 hS25
 refine wpList_nil ?_
 have hF35:=hF34.keep []
 clear hF34
 refine thenN (wp_seq (wp_region_lit ?_))
 have hS37:St w0 F0 (GonesP (.slice none 0 0) []::RowP (.slice p1 L1.length c2) L1::ps) w31:=St.nilG hS33
 clear hS33
 refine ev_runs 1 hF35 (l':=[(4,.slice none 0 0)]) (w':=w31) (by kernel_rfl) ?_
 intro a39 hF38; clear hF35
 refine wpList_nil (thenN ?_)
 refine wp_ret ?_
 refine thenR ?_
 have hS40:=hS37.pick1
 clear hS37
 obtain rfl:=Option.some.inj hm14
 refine ev_ret hF38 [4] (.slice none 0 0) rfl rfl rfl ?_
 exact ⟨_,rfl,hS40⟩
end Go.Proofs.Ytalfiikfaodcmaa
