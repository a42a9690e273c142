/- GStore G21 -/
import Derived.Test.YtffnjpapggidlaaKGHelp
import Derived.Test.YtffnjpapggidlaaKPrimV
import Derived.Test.YtffnjpapggidlaaKRowN
import Derived.Deep.LoopGhost
import Derived.KernelRfl
namespace Go.Proofs.Ytffnjpapggidlaa
open Go.RowKit
set_option maxRecDepth 100000
set_option maxHeartbeats 40000000
set_option linter.unusedVariables false
def store_New.j1 (i0:Cf) (y7:Bool):Option (HSt×Int×Int×Int×Int):=(if (y7) then none else bind1 (pNew i0.spans) fun s26=>some (s26,i0.spans,i0.start,i0.assist,0))
def store_New.m (k:Nat) (i0:Cf):Option (HSt×Int×Int×Int×Int):=(if (decide (i0.start<1)) then store_New.j1 i0 true else (if (decide (i0.start > 100)) then store_New.j1 i0 true else (if (decide (i0.assist<0)) then store_New.j1 i0 true else store_New.j1 i0 (decide (i0.assist > 8)))))
theorem store_New.ok {w0 w:World} {F0:List Nat} {ps:List Piece} {k:Nat} {i0:Cf} {r0:HSt} {r1:Int} {r2:Int} {r3:Int} {r4:Int} (hS:St w0 F0 (ps) w) (hm:store_New.m k i0=some (r0,r1,r2,r3,r4)) :
    Calls Try.prog 37 #[.agg #[nI (i0.spans),nI (i0.start),nI (i0.assist)]] w fun e w'=>∃ bt bh bha,e=.returned (.tuple #[.pointer (some ⟨bt,0,none⟩),.int .i64 r4])∧St w0 F0 (BlkP bt 111 #[.pointer (some ⟨bh,0,none⟩),.int .i64 r1,.int .i64 r2,.int .i64 r3]::HeapP bh bha r0::ps) w':=by
 refine ev_enterL 37 [.agg #[nI (i0.spans),nI (i0.start),nI (i0.assist)]] Try.func37 rfl rfl (by simp) ?_
 intro a hF
 have hF0:Fr 37 a [(0,.agg #[nI (i0.spans),nI (i0.start),nI (i0.assist)])]:=hF; clear hF
 unfold store_New.m at hm
 refine wp_seq (wp_region_lit ?_)
 refine ev_runs 1 hF0 (l':=[(1,nB w),(0,.agg #[nI (i0.spans),nI (i0.start),nI (i0.assist)])]) (w':=w.alloc (.cells #[nI (i0.spans),nI (i0.start),nI (i0.assist)] 60)) (by kernel_rfl) ?_
 intro a2 hF1; clear hF0
 have hS4:St w0 F0 (BlkP (w.heap.size) 60 #[nI (i0.spans),nI (i0.start),nI (i0.assist)]::ps) (w.alloc (.cells #[nI (i0.spans),nI (i0.start),nI (i0.assist)] 60)):=St.new hS #[nI (i0.spans),nI (i0.start),nI (i0.assist)] 60
 refine ev_runK 2 hF1 [1] (l':=[(1,nB w)]) (w':=w.alloc (.cells #[nI (i0.spans),nI (i0.start),nI (i0.assist)] 60)) (by kernel_rfl) ?_
 intro a6 hF5; clear hF1
 refine wpList_nil (thenN (wp_seq (wp_seq ?_)))
 refine joinQ (fun aI wI=>∃ (y7:Bool),Fr 37 aI [(23,.bool (y7)),(1,nB w)]∧St w0 F0 (BlkP (w.heap.size) 60 #[nI (i0.spans),nI (i0.start),nI (i0.assist)]::ps) wI∧store_New.j1 i0 y7=some (r0,r1,r2,r3,r4)) ?_ ?_
 rotate_left
 · rintro a9 w10 ⟨y7,hF11,hS12,hm13⟩
   clear hF5 hS4 hm
   unfold store_New.j1 at hm13
   refine thenN ?_
   cases hc15:(y7)
   case true =>
    rw [hc15] at hF11
    have hm16:=ifYes hc15 hm13; clear hm13
    refine ev_condT hF11 rfl rfl ?_
    refine wp_seq (wp_region_lit ?_)
    refine ev_runK 2 hF11 [2,3] (l':=[(3,nI 1),(2,.pointer none)]) (w':=w10) (by kernel_rfl) ?_
    intro a18 hF17; clear hF11
    refine wpList_nil ?_
    have hS19:=hS12.drop
    clear hS12
    refine thenN ?_
    refine wp_ret ?_
    refine thenR ?_
    cases hm16
   rw [hc15] at hF11
   have hm20:=ifNot hc15 hm13; clear hm13
   refine ev_condF hF11 rfl rfl ?_
   refine wp_skip ?_
   have hF21:=hF11.keep [1]
   clear hF11
   refine thenN (wp_seq (wp_region_lit ?_))
   refine ev_runs 1 hF21 (l':=[(25,nB w),(1,nB w)]) (w':=w10) (by kernel_rfl) ?_
   intro a23 hF22; clear hF21
   refine ev_one (nI (i0.spans)) w10 hF22 (by kernel_rfl) rfl (by kernel_rfl) (run_loadV rfl rfl (run_loadS rfl rfl (hS12.cell 0 rfl 0 rfl))) (l':=[(26,nI (i0.spans)),(25,nB w),(1,nB w)]) (by kernel_rfl) ?_
   intro a25 hF24; clear hF22
   refine ev_call 68 #[nI (i0.spans)] hF24 rfl rfl (by kernel_rfl) rfl (by kernel_rfl) (fun w=>by kernel_rfl) ?_
   obtain ⟨s26,hx27,hm28⟩:=bind1E hm20; clear hm20
   refine (p_New hS12 hx27).mono ?_
   rintro _ w29 ⟨z33,z34,rfl,hS31⟩ a30 hF32; clear hF24 hS12
   refine ev_runK 5 hF32 [1,4,5] (l':=[(5,nI 0),(4,nP z33 0),(1,nB w)]) (w':=w29) (by kernel_rfl) ?_
   intro a37 hF36; clear hF32
   refine wpList_nil (thenN (wp_seq (wp_seq (wp_region_lit ?_))))
   refine ev_runK 2 hF36 [1,4,5,31] (l':=[(31,.bool false),(5,nI 0),(4,nP z33 0),(1,nB w)]) (w':=w29) (by kernel_rfl) ?_
   intro a39 hF38; clear hF36
   refine wpList_nil (thenN ?_)
   refine ev_condF hF38 rfl rfl ?_
   refine wp_skip ?_
   have hF40:=hF38.keep [1,4]
   clear hF38
   refine thenN (wp_seq (wp_region_lit ?_))
   refine ev_runs 1 hF40 (l':=[(33,nP z33 0),(4,nP z33 0),(1,nB w)]) (w':=w29) (by kernel_rfl) ?_
   intro a42 hF41; clear hF40
   refine ev_one (.agg #[nI (i0.spans),nI (i0.start),nI (i0.assist)]) w29 hF41 (by kernel_rfl) rfl (by kernel_rfl) (run_loadV rfl rfl (run_loadA (cs:=[nI (i0.spans),nI (i0.start),nI (i0.assist)]) rfl rfl (by kernel_rfl) (blk_cells hS31 1 rfl rfl))) (l':=[(34,.agg #[nI (i0.spans),nI (i0.start),nI (i0.assist)]),(33,nP z33 0),(4,nP z33 0),(1,nB w)]) (by kernel_rfl) ?_
   intro a44 hF43; clear hF41
   refine ev_runs 2 hF43 (l':=[(36,nB w29),(35,.agg #[nP z33 0,nI (i0.spans),nI (i0.start),nI (i0.assist)]),(34,.agg #[nI (i0.spans),nI (i0.start),nI (i0.assist)]),(33,nP z33 0),(4,nP z33 0),(1,nB w)]) (w':=w29.alloc (.cells #[nP z33 0,nI (i0.spans),nI (i0.start),nI (i0.assist)] 111)) (by kernel_rfl) ?_
   intro a46 hF45; clear hF43
   have hS48:St w0 F0 (BlkP (w29.heap.size) 111 #[nP z33 0,nI (i0.spans),nI (i0.start),nI (i0.assist)]::HeapP z33 z34 s26::BlkP (w.heap.size) 60 #[nI (i0.spans),nI (i0.start),nI (i0.assist)]::ps) (w29.alloc (.cells #[nP z33 0,nI (i0.spans),nI (i0.start),nI (i0.assist)] 111)):=St.new hS31 #[nP z33 0,nI (i0.spans),nI (i0.start),nI (i0.assist)] 111
   clear hS31
   refine ev_runK 2 hF45 [2,3] (l':=[(3,nI 0),(2,nB w29)]) (w':=w29.alloc (.cells #[nP z33 0,nI (i0.spans),nI (i0.start),nI (i0.assist)] 111)) (by kernel_rfl) ?_
   intro a50 hF49; clear hF45
   refine wpList_nil ?_
   have hS51:=hS48.pick2.drop
   clear hS48
   refine thenN ?_
   refine wp_ret ?_
   simp only [Option.some.injEq,Prod.mk.injEq] at hm28
   obtain ⟨rfl,rfl,rfl,rfl,rfl⟩:=hm28
   refine ev_ret hF49 [2,3] (.tuple #[nB w29,nI 0]) rfl rfl rfl ?_
   exact ⟨_,_,_,rfl,hS51⟩
 · skip
   refine wp_region_lit ?_
   refine ev_runs 1 hF5 (l':=[(6,nP (w.heap.size) 1),(1,nB w)]) (w':=w.alloc (.cells #[nI (i0.spans),nI (i0.start),nI (i0.assist)] 60)) (by kernel_rfl) ?_
   intro a58 hF57; clear hF5
   refine ev_one (nI (i0.start)) (w.alloc (.cells #[nI (i0.spans),nI (i0.start),nI (i0.assist)] 60)) hF57 (by kernel_rfl) rfl (by kernel_rfl) (run_loadV rfl rfl (run_loadS rfl rfl (hS4.cell 0 rfl 1 rfl))) (l':=[(7,nI (i0.start)),(6,nP (w.heap.size) 1),(1,nB w)]) (by kernel_rfl) ?_
   intro a60 hF59; clear hF57
   refine ev_runs 2 hF59 (l':=[(9,.bool (decide (i0.start<1))),(8,.bool (decide (i0.start<1))),(7,nI (i0.start)),(6,nP (w.heap.size) 1),(1,nB w)]) (w':=w.alloc (.cells #[nI (i0.spans),nI (i0.start),nI (i0.assist)] 60)) (by kernel_rfl) ?_
   intro a62 hF61; clear hF59
   cases hc63:(decide (i0.start<1))
   case true =>
    rw [hc63] at hF61
    have hm64:=ifYes hc63 hm; clear hm
    refine ev_runK 14 hF61 [1,23] (l':=[(23,.bool true),(1,nB w)]) (w':=w.alloc (.cells #[nI (i0.spans),nI (i0.start),nI (i0.assist)] 60)) (by kernel_rfl) ?_
    intro a66 hF65; clear hF61
    refine wpList_nil ?_
    exact thenN ⟨true,hF65,hS4,hm64⟩
   rw [hc63] at hF61
   have hm67:=ifNot hc63 hm; clear hm
   refine ev_runs 1 hF61 (l':=[(10,nP (w.heap.size) 1),(9,.bool false),(8,.bool false),(7,nI (i0.start)),(6,nP (w.heap.size) 1),(1,nB w)]) (w':=w.alloc (.cells #[nI (i0.spans),nI (i0.start),nI (i0.assist)] 60)) (by kernel_rfl) ?_
   intro a69 hF68; clear hF61
   refine ev_one (nI (i0.start)) (w.alloc (.cells #[nI (i0.spans),nI (i0.start),nI (i0.assist)] 60)) hF68 (by kernel_rfl) rfl (by kernel_rfl) (run_loadV rfl rfl (run_loadS rfl rfl (hS4.cell 0 rfl 1 rfl))) (l':=[(11,nI (i0.start)),(10,nP (w.heap.size) 1),(9,.bool false),(8,.bool false),(7,nI (i0.start)),(6,nP (w.heap.size) 1),(1,nB w)]) (by kernel_rfl) ?_
   intro a71 hF70; clear hF68
   refine ev_runs 3 hF70 (l':=[(14,.bool (decide (i0.start > 100))),(13,.bool (decide (i0.start > 100))),(12,.bool (decide (i0.start > 100))),(11,nI (i0.start)),(10,nP (w.heap.size) 1),(9,.bool false),(8,.bool false),(7,nI (i0.start)),(6,nP (w.heap.size) 1),(1,nB w)]) (w':=w.alloc (.cells #[nI (i0.spans),nI (i0.start),nI (i0.assist)] 60)) (by kernel_rfl) ?_
   intro a73 hF72; clear hF70
   cases hc74:(decide (i0.start > 100))
   case true =>
    rw [hc74] at hF72
    have hm75:=ifYes hc74 hm67; clear hm67
    refine ev_runK 9 hF72 [1,23] (l':=[(23,.bool true),(1,nB w)]) (w':=w.alloc (.cells #[nI (i0.spans),nI (i0.start),nI (i0.assist)] 60)) (by kernel_rfl) ?_
    intro a77 hF76; clear hF72
    refine wpList_nil ?_
    exact thenN ⟨true,hF76,hS4,hm75⟩
   rw [hc74] at hF72
   have hm78:=ifNot hc74 hm67; clear hm67
   refine ev_runs 1 hF72 (l':=[(15,nP (w.heap.size) 2),(14,.bool false),(13,.bool false),(12,.bool false),(11,nI (i0.start)),(10,nP (w.heap.size) 1),(9,.bool false),(8,.bool false),(7,nI (i0.start)),(6,nP (w.heap.size) 1),(1,nB w)]) (w':=w.alloc (.cells #[nI (i0.spans),nI (i0.start),nI (i0.assist)] 60)) (by kernel_rfl) ?_
   intro a80 hF79; clear hF72
   refine ev_one (nI (i0.assist)) (w.alloc (.cells #[nI (i0.spans),nI (i0.start),nI (i0.assist)] 60)) hF79 (by kernel_rfl) rfl (by kernel_rfl) (run_loadV rfl rfl (run_loadS rfl rfl (hS4.cell 0 rfl 2 rfl))) (l':=[(16,nI (i0.assist)),(15,nP (w.heap.size) 2),(14,.bool false),(13,.bool false),(12,.bool false),(11,nI (i0.start)),(10,nP (w.heap.size) 1),(9,.bool false),(8,.bool false),(7,nI (i0.start)),(6,nP (w.heap.size) 1),(1,nB w)]) (by kernel_rfl) ?_
   intro a82 hF81; clear hF79
   refine ev_runs 3 hF81 (l':=[(19,.bool (decide (i0.assist<0))),(18,.bool (decide (i0.assist<0))),(17,.bool (decide (i0.assist<0))),(16,nI (i0.assist)),(15,nP (w.heap.size) 2),(14,.bool false),(13,.bool false),(12,.bool false),(11,nI (i0.start)),(10,nP (w.heap.size) 1),(9,.bool false),(8,.bool false),(7,nI (i0.start)),(6,nP (w.heap.size) 1),(1,nB w)]) (w':=w.alloc (.cells #[nI (i0.spans),nI (i0.start),nI (i0.assist)] 60)) (by kernel_rfl) ?_
   intro a84 hF83; clear hF81
   cases hc85:(decide (i0.assist<0))
   case true =>
    rw [hc85] at hF83
    have hm86:=ifYes hc85 hm78; clear hm78
    refine ev_runK 4 hF83 [1,23] (l':=[(23,.bool true),(1,nB w)]) (w':=w.alloc (.cells #[nI (i0.spans),nI (i0.start),nI (i0.assist)] 60)) (by kernel_rfl) ?_
    intro a88 hF87; clear hF83
    refine wpList_nil ?_
    exact thenN ⟨true,hF87,hS4,hm86⟩
   rw [hc85] at hF83
   have hm89:=ifNot hc85 hm78; clear hm78
   refine ev_runs 1 hF83 (l':=[(20,nP (w.heap.size) 2),(19,.bool false),(18,.bool false),(17,.bool false),(16,nI (i0.assist)),(15,nP (w.heap.size) 2),(14,.bool false),(13,.bool false),(12,.bool false),(11,nI (i0.start)),(10,nP (w.heap.size) 1),(9,.bool false),(8,.bool false),(7,nI (i0.start)),(6,nP (w.heap.size) 1),(1,nB w)]) (w':=w.alloc (.cells #[nI (i0.spans),nI (i0.start),nI (i0.assist)] 60)) (by kernel_rfl) ?_
   intro a91 hF90; clear hF83
   refine ev_one (nI (i0.assist)) (w.alloc (.cells #[nI (i0.spans),nI (i0.start),nI (i0.assist)] 60)) hF90 (by kernel_rfl) rfl (by kernel_rfl) (run_loadV rfl rfl (run_loadS rfl rfl (hS4.cell 0 rfl 2 rfl))) (l':=[(21,nI (i0.assist)),(20,nP (w.heap.size) 2),(19,.bool false),(18,.bool false),(17,.bool false),(16,nI (i0.assist)),(15,nP (w.heap.size) 2),(14,.bool false),(13,.bool false),(12,.bool false),(11,nI (i0.start)),(10,nP (w.heap.size) 1),(9,.bool false),(8,.bool false),(7,nI (i0.start)),(6,nP (w.heap.size) 1),(1,nB w)]) (by kernel_rfl) ?_
   intro a93 hF92; clear hF90
   refine ev_runK 2 hF92 [1,23] (l':=[(23,.bool (decide (i0.assist > 8))),(1,nB w)]) (w':=w.alloc (.cells #[nI (i0.spans),nI (i0.start),nI (i0.assist)] 60)) (by kernel_rfl) ?_
   intro a95 hF94; clear hF92
   refine wpList_nil ?_
   exact thenN ⟨decide (i0.assist > 8),hF94,hS4,hm89⟩
def store_Heap.m (k:Nat) (s0:HSt) (c0x:Int) (c0y:Int) (c0z:Int):Option (HSt):=some (s0)
theorem store_Heap.ok {w0 w:World} {F0:List Nat} {ps:List Piece} {k:Nat} {bb0 b0 ab0:Nat} {s0:HSt} {c0x c0y c0z:Int} {t0:HSt} (hS:St w0 F0 (BlkP bb0 111 #[nP b0 0,nI c0x,nI c0y,nI c0z]::HeapP b0 ab0 s0::ps) w) (hm:store_Heap.m k s0 c0x c0y c0z=some t0) :
    Calls Try.prog 39 #[nP bb0 0] w fun e w'=>e=.returned (.pointer (some ⟨b0,0,none⟩))∧St w0 F0 (BlkP bb0 111 #[nP b0 0,nI c0x,nI c0y,nI c0z]::HeapP b0 ab0 t0::ps) w':=by
 refine ev_enterL 9 [nP bb0 0] Try.func39 rfl rfl (by simp) ?_
 intro a hF
 have hF0:Fr 9 a [(0,nP bb0 0)]:=hF; clear hF
 unfold store_Heap.m at hm
 refine wp_seq (wp_region_lit ?_)
 refine ev_runK 1 hF0 [0] (l':=[(0,nP bb0 0)]) (w':=w) (by kernel_rfl) ?_
 intro a2 hF1; clear hF0
 refine wpList_nil (thenN (wp_seq (wp_seq (wp_region_lit ?_))))
 refine ev_runK 2 hF1 [0,4] (l':=[(4,.bool false),(0,nP bb0 0)]) (w':=w) (by kernel_rfl) ?_
 intro a4 hF3; clear hF1
 refine wpList_nil (thenN ?_)
 refine ev_condF hF3 rfl rfl ?_
 refine wp_skip ?_
 have hF5:=hF3.keep [0]
 clear hF3
 refine thenN (wp_seq (wp_region_lit ?_))
 refine ev_runs 3 hF5 (l':=[(7,nP bb0 0),(6,nP bb0 0),(5,nP bb0 0),(0,nP bb0 0)]) (w':=w) (by kernel_rfl) ?_
 intro a7 hF6; clear hF5
 refine ev_one (nP b0 0) w hF6 (by kernel_rfl) rfl (by kernel_rfl) (run_loadV rfl rfl (run_loadS rfl rfl (hS.cell 0 rfl 0 rfl))) (l':=[(8,nP b0 0),(7,nP bb0 0),(6,nP bb0 0),(5,nP bb0 0),(0,nP bb0 0)]) (by kernel_rfl) ?_
 intro a9 hF8; clear hF6
 refine ev_runK 1 hF8 [2] (l':=[(2,nP b0 0)]) (w':=w) (by kernel_rfl) ?_
 intro a11 hF10; clear hF8
 refine wpList_nil (thenN ?_)
 refine wp_ret ?_
 obtain rfl:=Option.some.inj hm
 refine ev_ret hF10 [2] (nP b0 0) rfl rfl rfl ?_
 exact ⟨rfl,hS⟩
def store_Collect.m (k:Nat) (s0:HSt) (c0x:Int) (c0y:Int) (c0z:Int) (L1:List Int):Option (List Gn×HSt):=bind1 (store_Heap.m k s0 c0x c0y c0z) fun s12=>(if (s12.ph == 0) then bind2 (pBegin s12 L1) fun x35 s36=>some ([],s36) else bind2 (pStep s12) fun L55 s56=>some (L55,s56))
theorem store_Collect.ok {w0 w:World} {F0:List Nat} {ps:List Piece} {k:Nat} {bb0 b0 ab0:Nat} {s0:HSt} {c0x c0y c0z:Int} {v1:Value} {L1:List Int} {r0:List Gn} {t0:HSt} (hS:St w0 F0 (BlkP bb0 111 #[nP b0 0,nI c0x,nI c0y,nI c0z]::HeapP b0 ab0 s0::RowP (v1) L1::ps) w) (hm:store_Collect.m k s0 c0x c0y c0z L1=some (r0,t0)) :
    Calls Try.prog 70 #[nP bb0 0,v1] w fun e w'=>∃ vr0,e=.returned (vr0)∧St w0 F0 (BlkP bb0 111 #[nP b0 0,nI c0x,nI c0y,nI c0z]::HeapP b0 ab0 t0::RowP (v1) L1::GonesP vr0 r0::ps) w':=by
 refine ev_enterL 16 [nP bb0 0,v1] Try.func70 rfl rfl (by simp) ?_
 intro a hF
 have hF0:Fr 16 a [(0,nP bb0 0),(1,v1)]:=hF; clear hF
 unfold store_Collect.m at hm
 obtain ⟨hl4,p1,c2,rfl,hp3⟩:=St.shape hS 2 rfl
 refine wp_seq (wp_region_lit ?_)
 have hS6:St w0 F0 (GonesP (.slice none 0 0) []::BlkP bb0 111 #[nP b0 0,nI c0x,nI c0y,nI c0z]::HeapP b0 ab0 s0::RowP (.slice p1 L1.length c2) L1::ps) w:=St.nilG hS
 refine ev_runK 1 hF0 [0,1] (l':=[(0,nP bb0 0),(1,.slice p1 L1.length c2)]) (w':=w) (by kernel_rfl) ?_
 intro a8 hF7; clear hF0
 refine wpList_nil ?_
 have hS9:=hS6.drop
 clear hS6
 refine thenN (wp_seq (wp_region_lit ?_))
 refine ev_runs 1 hF7 (l':=[(6,nP bb0 0),(0,nP bb0 0),(1,.slice p1 L1.length c2)]) (w':=w) (by kernel_rfl) ?_
 intro a11 hF10; clear hF7
 refine ev_call 39 #[nP bb0 0] hF10 rfl rfl (by kernel_rfl) rfl (by kernel_rfl) (fun w=>by kernel_rfl) ?_
 obtain ⟨s12,hx13,hm14⟩:=bind1E hm; clear hm
 refine (store_Heap.ok hS9 hx13).mono ?_
 rintro _ w15 ⟨rfl,hS17⟩ a16 hF18; clear hF10 hS9
 refine ev_runK 1 hF18 [1,5] (l':=[(5,nP b0 0),(1,.slice p1 L1.length c2)]) (w':=w15) (by kernel_rfl) ?_
 intro a20 hF19; clear hF18
 refine wpList_nil (thenN (wp_seq (wp_seq (wp_region_lit ?_))))
 refine ev_runs 1 hF19 (l':=[(8,nP b0 0),(5,nP b0 0),(1,.slice p1 L1.length c2)]) (w':=w15) (by kernel_rfl) ?_
 intro a22 hF21; clear hF19
 have hS23:=hS17.pick1
 clear hS17
 refine ev_call 44 #[nP b0 0] hF21 rfl rfl (by kernel_rfl) rfl (by kernel_rfl) (fun w=>by kernel_rfl) ?_
 refine (p_Phase hS23).mono ?_
 rintro _ w24 ⟨rfl,hS26⟩ a25 hF27; clear hF21 hS23
 refine ev_runK 1 hF27 [1,5,10] (l':=[(10,.bool (s12.ph == 0)),(5,nP b0 0),(1,.slice p1 L1.length c2)]) (w':=w24) (by kernel_rfl) ?_
 intro a29 hF28; clear hF27
 refine wpList_nil (thenN ?_)
 cases hc30:(s12.ph == 0)
 case true =>
  rw [hc30] at hF28
  have hm31:=ifYes hc30 hm14; clear hm14
  refine ev_condT hF28 rfl rfl ?_
  refine wp_seq (wp_region_lit ?_)
  refine ev_runs 2 hF28 (l':=[(12,.slice p1 L1.length c2),(11,nP b0 0),(10,.bool true),(5,nP b0 0),(1,.slice p1 L1.length c2)]) (w':=w24) (by kernel_rfl) ?_
  intro a33 hF32; clear hF28
  have hS34:=hS26.pick2.pick1
  clear hS26
  refine ev_call 73 #[nP b0 0,.slice p1 L1.length c2] hF32 rfl rfl (by kernel_rfl) rfl (by kernel_rfl) (fun w=>by kernel_rfl) ?_
  obtain ⟨x35,s36,hx37,hm38⟩:=bind2E hm31; clear hm31
  refine (p_Begin hS34 hx37).mono ?_
  rintro _ w39 ⟨rfl,hS41⟩ a40 hF42; clear hF32 hS34
  refine wpList_nil ?_
  have hF43:=hF42.keep []
  clear hF42
  refine thenN (wp_seq (wp_region_lit ?_))
  have hS45:St w0 F0 (GonesP (.slice none 0 0) []::HeapP b0 ab0 s36::RowP (.slice p1 L1.length c2) L1::BlkP bb0 111 #[nP b0 0,nI c0x,nI c0y,nI c0z]::ps) w39:=St.nilG hS41
  clear hS41
  refine ev_runs 1 hF43 (l':=[(4,.slice none 0 0)]) (w':=w39) (by kernel_rfl) ?_
  intro a47 hF46; clear hF43
  refine wpList_nil (thenN ?_)
  refine wp_ret ?_
  refine thenR ?_
  have hS48:=hS45.pick2.pick2.pick3
  clear hS45
  simp only [Option.some.injEq,Prod.mk.injEq] at hm38
  obtain ⟨rfl,rfl⟩:=hm38
  refine ev_ret hF46 [4] (.slice none 0 0) rfl rfl rfl ?_
  exact ⟨_,rfl,hS48⟩
 rw [hc30] at hF28
 have hm51:=ifNot hc30 hm14; clear hm14
 refine ev_condF hF28 rfl rfl ?_
 refine wp_skip ?_
 have hF52:=hF28.keep [5]
 clear hF28
 refine thenN (wp_seq (wp_region_lit ?_))
 refine ev_runs 1 hF52 (l':=[(14,nP b0 0),(5,nP b0 0)]) (w':=w24) (by kernel_rfl) ?_
 intro a54 hF53; clear hF52
 refine ev_call 77 #[nP b0 0] hF53 rfl rfl (by kernel_rfl) rfl (by kernel_rfl) (fun w=>by kernel_rfl) ?_
 obtain ⟨L55,s56,hx57,hm58⟩:=bind2E hm51; clear hm51
 refine (p_Step hS26 hx57).mono ?_
 rintro _ w59 ⟨z63,rfl,hS61⟩ a60 hF62; clear hF53 hS26
 obtain ⟨hl68,p65,c66,rfl,hp67⟩:=St.shapeG (k:=1) hS61 rfl
 refine ev_runK 1 hF62 [4] (l':=[(4,.slice p65 L55.length c66)]) (w':=w59) (by kernel_rfl) ?_
 intro a70 hF69; clear hF62
 refine wpList_nil (thenN ?_)
 refine wp_ret ?_
 have hS71:=hS61.pick1.pick3.pick2.pick3
 clear hS61
 simp only [Option.some.injEq,Prod.mk.injEq] at hm58
 obtain ⟨rfl,rfl⟩:=hm58
 refine ev_ret hF69 [4] (.slice p65 L55.length c66) rfl rfl rfl ?_
 exact ⟨_,rfl,hS71⟩
def store_sizes.l1b (L0:List Nd) (rec21:List Int→Int→Option (List Int×Bool)) (L16:List Int) (x18:Int):Option (List Int×Bool):=(if (decide (x18<(L0.length:Int))) then (if (inR x18 L0.length) then (if (!(rKnown ((atX kNd L0 x18).kind) ((atX kNd L0 x18).n))) then some ([],false) else bind1 (pushM L16 (rNeed ((atX kNd L0 x18).kind) ((atX kNd L0 x18).n))) fun L82=>rec21 L82 (IntKind.i64.wrap (x18+1))) else none) else some (L16,true))
def store_sizes.l1 (L0:List Nd):Nat→List Int→Int→Option (List Int×Bool)
  | 0=>fun _ _=>none
  | kI+1=>store_sizes.l1b L0 (store_sizes.l1 L0 kI)
def store_sizes.m (k:Nat) (L0:List Nd):Option (List Int×Bool):=store_sizes.l1 L0 k [] 0
theorem store_sizes.ok {w0 w:World} {F0:List Nat} {ps:List Piece} {k:Nat} {v0:Value} {L0:List Nd} {r0:List Int} {r1:Bool} (hS:St w0 F0 (RowX kNd (v0) L0::ps) w) (hm:store_sizes.m k L0=some (r0,r1)) :
    Calls Try.prog 72 #[v0] w fun e w'=>∃ vr0,e=.returned (.tuple #[vr0,.bool r1])∧St w0 F0 (RowX kNd (v0) L0::RowP vr0 r0::ps) w':=by
 refine ev_enterL 31 [v0] Try.func72 rfl rfl (by simp) ?_
 intro a hF
 have hF0:Fr 31 a [(0,v0)]:=hF; clear hF
 unfold store_sizes.m at hm
 obtain ⟨hl4,p1,c2,rfl,hp3⟩:=St.shapeX hS 0 rfl
 refine wp_seq (wp_region_lit ?_)
 have hS6:St w0 F0 (RowP (.slice none 0 0) []::RowX kNd (.slice p1 L0.length c2) L0::ps) w:=St.nil hS
 refine ev_runK 2 hF0 [0] (l':=[(0,.slice p1 L0.length c2)]) (w':=w) (by kernel_rfl) ?_
 intro a8 hF7; clear hF0
 refine wpList_nil ?_
 have hS9:=hS6.drop
 clear hS6
 refine thenN (wp_seq (wp_region_lit ?_))
 have hS11:St w0 F0 (RowP (.slice none 0 0) []::RowX kNd (.slice p1 L0.length c2) L0::ps) w:=St.nil hS9
 clear hS9
 refine ev_runs 1 hF7 (l':=[(4,.slice none 0 0),(0,.slice p1 L0.length c2)]) (w':=w) (by kernel_rfl) ?_
 intro a13 hF12; clear hF7
 refine wpList_nil (thenN (wp_seq (wp_seq (wp_region_lit ?_))))
 refine ev_runK 3 hF12 [4,9,10,11] (l':=[(11,nI 0),(10,nI ((L0.length:Int))),(9,.slice p1 L0.length c2),(4,.slice none 0 0)]) (w':=w) (by kernel_rfl) ?_
 intro a15 hF14; clear hF12
 refine wpList_nil (thenN ?_)
 refine wp_block ?_
 refine wp_loop_ghost (fun kI aI wI=>∃ (v17:Value) (L16:List Int) (x18:Int),Fr 31 aI [(11,nI x18),(10,nI ((L0.length:Int))),(9,.slice p1 L0.length c2),(4,v17)]∧St w0 F0 (RowP (v17) L16::RowX kNd (.slice p1 L0.length c2) L0::ps) wI∧store_sizes.l1 L0 kI L16 x18=some (r0,r1)) k ⟨.slice none 0 0,[],0,hF14,hS11,hm⟩ ?_
 rintro k19 a20 w21 ⟨v17,L16,x18,hF22,hS23,hm24⟩
 clear hF14 hS11 hm
 rcases k19 with _ | k19
 · cases hm24
 have hm25:store_sizes.l1b L0 (store_sizes.l1 L0 k19) L16 x18=some (r0,r1):=hm24
 clear hm24
 unfold store_sizes.l1b at hm25
 obtain ⟨hl29,p26,c27,rfl,hp28⟩:=St.shape hS23 0 rfl
 refine wp_seq (wp_region_lit ?_)
 refine ev_runs 1 hF22 (l':=[(12,.bool (decide (x18<(L0.length:Int)))),(11,nI x18),(10,nI ((L0.length:Int))),(9,.slice p1 L0.length c2),(4,.slice p26 L16.length c27)]) (w':=w21) (by kernel_rfl) ?_
 intro a31 hF30; clear hF22
 refine wpList_nil (thenN (wp_seq ?_))
 cases hc32:(decide (x18<(L0.length:Int)))
 case true =>
  rw [hc32] at hF30
  have hm33:=ifYes hc32 hm25; clear hm25
  refine ev_condT hF30 rfl rfl ?_
  refine wp_skip ?_
  have hF34:=hF30.keep [4,9,10,11]
  clear hF30
  refine thenN (wp_seq ?_)
  refine wp_block ?_
  refine wp_seq (wp_region_lit ?_)
  obtain ⟨hc35,hm36⟩:=ifTE hm33; clear hm33
  obtain ⟨g37,rfl⟩:=hp3.resolve_left (by have:=inR_spec hc35; omega)
  refine ev_one (nP g37 ((x18.toNat * 2))) w21 hF34 (by kernel_rfl) rfl (by kernel_rfl) (run_idxX rfl rfl (by kernel_rfl) rfl rfl (inR_spec hc35).1 (inR_spec hc35).2 _) (l':=[(13,nP g37 ((x18.toNat * 2))),(11,nI x18),(10,nI ((L0.length:Int))),(9,.slice (some ⟨g37,0,none⟩) L0.length c2),(4,.slice p26 L16.length c27)]) (by kernel_rfl) ?_
  intro a39 hF38; clear hF34
  refine ev_one (.agg #[nI ((atX kNd L0 x18).kind),nI ((atX kNd L0 x18).n)]) w21 hF38 (by kernel_rfl) rfl (by kernel_rfl) (run_loadV rfl rfl (run_loadA (cs:=[nI ((atX kNd L0 x18).kind),nI ((atX kNd L0 x18).n)]) rfl rfl (by kernel_rfl) (St.atX (cs:=[nI ((atX kNd L0 x18).kind),nI ((atX kNd L0 x18).n)]) hS23 1 rfl hc35 rfl))) (l':=[(14,.agg #[nI ((atX kNd L0 x18).kind),nI ((atX kNd L0 x18).n)]),(13,nP g37 ((x18.toNat * 2))),(11,nI x18),(10,nI ((L0.length:Int))),(9,.slice (some ⟨g37,0,none⟩) L0.length c2),(4,.slice p26 L16.length c27)]) (by kernel_rfl) ?_
  intro a41 hF40; clear hF38
  refine ev_runs 1 hF40 (l':=[(6,nB w21),(14,.agg #[nI ((atX kNd L0 x18).kind),nI ((atX kNd L0 x18).n)]),(13,nP g37 ((x18.toNat * 2))),(11,nI x18),(10,nI ((L0.length:Int))),(9,.slice (some ⟨g37,0,none⟩) L0.length c2),(4,.slice p26 L16.length c27)]) (w':=w21.alloc (.cells #[nI 0,nI 0] 74)) (by kernel_rfl) ?_
  intro a43 hF42; clear hF40
  have hS45:St w0 F0 (BlkP (w21.heap.size) 74 #[nI 0,nI 0]::RowP (.slice p26 L16.length c27) L16::RowX kNd (.slice (some ⟨g37,0,none⟩) L0.length c2) L0::ps) (w21.alloc (.cells #[nI 0,nI 0] 74)):=St.new hS23 #[nI 0,nI 0] 74
  clear hS23
  refine ev_store (.agg #[nI ((atX kNd L0 x18).kind),nI ((atX kNd L0 x18).n)]) #[nI ((atX kNd L0 x18).kind),nI ((atX kNd L0 x18).n)] hF42 (by kernel_rfl) rfl rfl rfl rfl (by kernel_rfl) hS45 (by kernel_rfl) (by kernel_rfl) (by kernel_rfl) (l':=[(6,nB w21),(14,.agg #[nI ((atX kNd L0 x18).kind),nI ((atX kNd L0 x18).n)]),(13,nP g37 ((x18.toNat * 2))),(11,nI x18),(10,nI ((L0.length:Int))),(9,.slice (some ⟨g37,0,none⟩) L0.length c2),(4,.slice p26 L16.length c27)]) (by kernel_rfl) ?_
  intro w46 a47 hS48 hF49; clear hF42 hS45
  refine wpList_nil ?_
  have hF50:=hF49.keep [4,6,9,10,11]
  clear hF49
  refine thenN (wp_seq (wp_region_lit ?_))
  refine ev_runs 1 hF50 (l':=[(16,nB w21),(6,nB w21),(11,nI x18),(10,nI ((L0.length:Int))),(9,.slice (some ⟨g37,0,none⟩) L0.length c2),(4,.slice p26 L16.length c27)]) (w':=w46) (by kernel_rfl) ?_
  intro a52 hF51; clear hF50
  refine ev_one (nI ((atX kNd L0 x18).kind)) w46 hF51 (by kernel_rfl) rfl (by kernel_rfl) (run_loadV rfl rfl (run_loadS rfl rfl (hS48.cell 0 rfl 0 rfl))) (l':=[(17,nI ((atX kNd L0 x18).kind)),(16,nB w21),(6,nB w21),(11,nI x18),(10,nI ((L0.length:Int))),(9,.slice (some ⟨g37,0,none⟩) L0.length c2),(4,.slice p26 L16.length c27)]) (by kernel_rfl) ?_
  intro a54 hF53; clear hF51
  refine ev_runs 1 hF53 (l':=[(18,nP (w21.heap.size) 1),(17,nI ((atX kNd L0 x18).kind)),(16,nB w21),(6,nB w21),(11,nI x18),(10,nI ((L0.length:Int))),(9,.slice (some ⟨g37,0,none⟩) L0.length c2),(4,.slice p26 L16.length c27)]) (w':=w46) (by kernel_rfl) ?_
  intro a56 hF55; clear hF53
  refine ev_one (nI ((atX kNd L0 x18).n)) w46 hF55 (by kernel_rfl) rfl (by kernel_rfl) (run_loadV rfl rfl (run_loadS rfl rfl (hS48.cell 0 rfl 1 rfl))) (l':=[(19,nI ((atX kNd L0 x18).n)),(18,nP (w21.heap.size) 1),(17,nI ((atX kNd L0 x18).kind)),(16,nB w21),(6,nB w21),(11,nI x18),(10,nI ((L0.length:Int))),(9,.slice (some ⟨g37,0,none⟩) L0.length c2),(4,.slice p26 L16.length c27)]) (by kernel_rfl) ?_
  intro a58 hF57; clear hF55
  refine ev_call 89 #[nI ((atX kNd L0 x18).kind),nI ((atX kNd L0 x18).n)] hF57 rfl rfl (by kernel_rfl) rfl (by kernel_rfl) (fun w=>by kernel_rfl) ?_
  refine (p_Need hS48).mono ?_
  rintro _ w59 ⟨rfl,hS61⟩ a60 hF62; clear hF57 hS48
  refine ev_runK 5 hF62 [4,7,8,9,10,11] (l':=[(8,.bool (rKnown ((atX kNd L0 x18).kind) ((atX kNd L0 x18).n))),(7,nI (rNeed ((atX kNd L0 x18).kind) ((atX kNd L0 x18).n))),(11,nI x18),(10,nI ((L0.length:Int))),(9,.slice (some ⟨g37,0,none⟩) L0.length c2),(4,.slice p26 L16.length c27)]) (w':=w59) (by kernel_rfl) ?_
  intro a64 hF63; clear hF62
  refine wpList_nil ?_
  have hS65:=hS61.drop
  clear hS61
  refine thenN (wp_seq (wp_seq (wp_region_lit ?_)))
  refine ev_runK 2 hF63 [4,7,9,10,11,24] (l':=[(24,.bool (!(rKnown ((atX kNd L0 x18).kind) ((atX kNd L0 x18).n)))),(7,nI (rNeed ((atX kNd L0 x18).kind) ((atX kNd L0 x18).n))),(11,nI x18),(10,nI ((L0.length:Int))),(9,.slice (some ⟨g37,0,none⟩) L0.length c2),(4,.slice p26 L16.length c27)]) (w':=w59) (by kernel_rfl) ?_
  intro a67 hF66; clear hF63
  refine wpList_nil (thenN ?_)
  cases hc68:(!(rKnown ((atX kNd L0 x18).kind) ((atX kNd L0 x18).n)))
  case true =>
   rw [hc68] at hF66
   have hm69:=ifYes hc68 hm36; clear hm36
   refine ev_condT hF66 rfl rfl ?_
   refine wp_seq (wp_region_lit ?_)
   have hS71:St w0 F0 (RowP (.slice none 0 0) []::RowP (.slice p26 L16.length c27) L16::RowX kNd (.slice (some ⟨g37,0,none⟩) L0.length c2) L0::ps) w59:=St.nil hS65
   clear hS65
   refine ev_runK 2 hF66 [2,3] (l':=[(3,.bool false),(2,.slice none 0 0)]) (w':=w59) (by kernel_rfl) ?_
   intro a73 hF72; clear hF66
   refine wpList_nil ?_
   have hS74:=hS71.pick1.drop
   clear hS71
   refine thenN ?_
   refine wp_ret ?_
   refine thenR ?_
   refine blockR ?_
   refine thenR (thenR ?_)
   refine blockR ?_
   refine thenR ?_
   have hS75:=hS74.pick1
   clear hS74
   simp only [Option.some.injEq,Prod.mk.injEq] at hm69
   obtain ⟨rfl,rfl⟩:=hm69
   refine ev_ret hF72 [2,3] (.tuple #[.slice none 0 0,.bool false]) rfl rfl rfl ?_
   exact ⟨_,rfl,hS75⟩
  rw [hc68] at hF66
  have hm78:=ifNot hc68 hm36; clear hm36
  refine ev_condF hF66 rfl rfl ?_
  refine wp_skip ?_
  have hF79:=hF66.keep [4,7,9,10,11]
  clear hF66
  refine thenN (wp_region_lit ?_)
  refine ev_runs 3 hF79 (l':=[(27,.slice (some ⟨w59.heap.size,0,none⟩) 1 1),(26,nI (rNeed ((atX kNd L0 x18).kind) ((atX kNd L0 x18).n))),(25,.slice p26 L16.length c27),(7,nI (rNeed ((atX kNd L0 x18).kind) ((atX kNd L0 x18).n))),(11,nI x18),(10,nI ((L0.length:Int))),(9,.slice (some ⟨g37,0,none⟩) L0.length c2),(4,.slice p26 L16.length c27)]) (w':=w59.alloc (.cells #[nI (rNeed ((atX kNd L0 x18).kind) ((atX kNd L0 x18).n))] 3)) (by kernel_rfl) ?_
  intro a81 hF80; clear hF79
  obtain ⟨L82,hx83,hm84⟩:=bind1E hm78; clear hm78
  refine ev_push 28 (.tmp 25) (.tmp 27) hF80 rfl rfl rfl rfl rfl rfl rfl rfl hS65 hx83 ?_
  intro g85 c86 w87 a88 hS89 hF90; clear hF80 hS65
  refine ev_runK 1 hF90 [4,9,10,11] (l':=[(4,nS g85 L82 c86),(11,nI x18),(10,nI ((L0.length:Int))),(9,.slice (some ⟨g37,0,none⟩) L0.length c2)]) (w':=w87) (by kernel_rfl) ?_
  intro a92 hF91; clear hF90
  refine wpList_nil ?_
  refine blockN ?_
  refine thenN (wp_region_lit ?_)
  refine ev_runK 2 hF91 [4,9,10,11] (l':=[(11,nI (IntKind.i64.wrap (x18+1))),(4,nS g85 L82 c86),(10,nI ((L0.length:Int))),(9,.slice (some ⟨g37,0,none⟩) L0.length c2)]) (w':=w87) (by kernel_rfl) ?_
  intro a94 hF93; clear hF91
  refine wpList_nil ?_
  have hF95:Fr 31 a94 [(11,nI (IntKind.i64.wrap (x18+1))),(10,nI ((L0.length:Int))),(9,.slice (some ⟨g37,0,none⟩) L0.length c2),(4,nS g85 L82 c86)]:=Fr.re hF93 (by kernel_rfl)
  clear hF93
  exact thenN ⟨k19,Nat.lt_succ_self _,nS g85 L82 c86,L82,IntKind.i64.wrap (x18+1),hF95,hS89,hm84⟩
 rw [hc32] at hF30
 have hm96:=ifNot hc32 hm25; clear hm25
 refine ev_condF hF30 rfl rfl ?_
 refine wp_exit ?_
 refine thenE ?_
 refine thenE ?_
 refine blockE ?_
 refine thenN (wp_seq (wp_region_lit ?_))
 refine ev_runK 3 hF30 [2,3] (l':=[(3,.bool true),(2,.slice p26 L16.length c27)]) (w':=w21) (by kernel_rfl) ?_
 intro a98 hF97; clear hF30
 refine wpList_nil (thenN ?_)
 refine wp_ret ?_
 have hS99:=hS23.pick1
 clear hS23
 simp only [Option.some.injEq,Prod.mk.injEq] at hm96
 obtain ⟨rfl,rfl⟩:=hm96
 refine ev_ret hF97 [2,3] (.tuple #[.slice p26 L16.length c27,.bool true]) rfl rfl rfl ?_
 exact ⟨_,rfl,hS99⟩
def store_words.l1b (L0:List Int) (rec15:Int→Int→Option (Int)) (x11:Int) (x12:Int):Option (Int):=(if (decide (x11<(L0.length:Int))) then (if (inR x11 L0.length) then rec15 (IntKind.i64.wrap (x11+1)) (IntKind.i64.wrap (x12+(cWords (cOf (atI L0 x11))))) else none) else some (x12))
def store_words.l1 (L0:List Int):Nat→Int→Int→Option (Int)
  | 0=>fun _ _=>none
  | kI+1=>store_words.l1b L0 (store_words.l1 L0 kI)
def store_words.m (k:Nat) (L0:List Int):Option (Int):=store_words.l1 L0 k 0 0
theorem store_words.ok {w0 w:World} {F0:List Nat} {ps:List Piece} {k:Nat} {v0:Value} {L0:List Int} {r0:Int} (hS:St w0 F0 (RowP (v0) L0::ps) w) (hm:store_words.m k L0=some r0) :
    Calls Try.prog 76 #[v0] w fun e w'=>e=.returned (.int .i64 r0)∧St w0 F0 (RowP (v0) L0::ps) w':=by
 refine ev_enterL 25 [v0] Try.func76 rfl rfl (by simp) ?_
 intro a hF
 have hF0:Fr 25 a [(0,v0)]:=hF; clear hF
 unfold store_words.m at hm
 obtain ⟨hl4,p1,c2,rfl,hp3⟩:=St.shape hS 0 rfl
 refine wp_seq (wp_region_lit ?_)
 refine ev_runK 1 hF0 [0] (l':=[(0,.slice p1 L0.length c2)]) (w':=w) (by kernel_rfl) ?_
 intro a6 hF5; clear hF0
 refine wpList_nil (thenN (wp_seq (wp_region_lit ?_)))
 refine ev_runs 1 hF5 (l':=[(3,nI 0),(0,.slice p1 L0.length c2)]) (w':=w) (by kernel_rfl) ?_
 intro a8 hF7; clear hF5
 refine wpList_nil (thenN (wp_seq (wp_seq (wp_region_lit ?_))))
 refine ev_runK 3 hF7 [3,8,9,10] (l':=[(10,nI 0),(9,nI ((L0.length:Int))),(8,.slice p1 L0.length c2),(3,nI 0)]) (w':=w) (by kernel_rfl) ?_
 intro a10 hF9; clear hF7
 refine wpList_nil (thenN ?_)
 refine wp_block ?_
 refine wp_loop_ghost (fun kI aI wI=>∃ (x11:Int) (x12:Int),Fr 25 aI [(10,nI x11),(9,nI ((L0.length:Int))),(8,.slice p1 L0.length c2),(3,nI x12)]∧St w0 F0 (RowP (.slice p1 L0.length c2) L0::ps) wI∧store_words.l1 L0 kI x11 x12=some r0) k ⟨0,0,hF9,hS,hm⟩ ?_
 rintro k13 a14 w15 ⟨x11,x12,hF16,hS17,hm18⟩
 clear hF9 hS hm
 rcases k13 with _ | k13
 · cases hm18
 have hm19:store_words.l1b L0 (store_words.l1 L0 k13) x11 x12=some r0:=hm18
 clear hm18
 unfold store_words.l1b at hm19
 refine wp_seq (wp_region_lit ?_)
 refine ev_runs 1 hF16 (l':=[(11,.bool (decide (x11<(L0.length:Int)))),(10,nI x11),(9,nI ((L0.length:Int))),(8,.slice p1 L0.length c2),(3,nI x12)]) (w':=w15) (by kernel_rfl) ?_
 intro a21 hF20; clear hF16
 refine wpList_nil (thenN (wp_seq ?_))
 cases hc22:(decide (x11<(L0.length:Int)))
 case true =>
  rw [hc22] at hF20
  have hm23:=ifYes hc22 hm19; clear hm19
  refine ev_condT hF20 rfl rfl ?_
  refine wp_skip ?_
  have hF24:=hF20.keep [3,8,9,10]
  clear hF20
  refine thenN (wp_seq ?_)
  refine wp_block ?_
  refine wp_seq (wp_region_lit ?_)
  obtain ⟨hc25,hm26⟩:=ifTE hm23; clear hm23
  obtain ⟨g27,rfl⟩:=hp3.resolve_left (by have:=inR_spec hc25; omega)
  refine ev_one (nP g27 (x11.toNat)) w15 hF24 (by kernel_rfl) rfl (by kernel_rfl) (run_idx rfl rfl rfl rfl rfl (inR_spec hc25).1 (inR_spec hc25).2 _) (l':=[(12,nP g27 (x11.toNat)),(10,nI x11),(9,nI ((L0.length:Int))),(8,.slice (some ⟨g27,0,none⟩) L0.length c2),(3,nI x12)]) (by kernel_rfl) ?_
  intro a29 hF28; clear hF24
  refine ev_one (nI (atI L0 x11)) w15 hF28 (by kernel_rfl) rfl (by kernel_rfl) (run_load1 rfl rfl rfl (hS17.atI 0 rfl hc25)) (l':=[(13,nI (atI L0 x11)),(12,nP g27 (x11.toNat)),(10,nI x11),(9,nI ((L0.length:Int))),(8,.slice (some ⟨g27,0,none⟩) L0.length c2),(3,nI x12)]) (by kernel_rfl) ?_
  intro a31 hF30; clear hF28
  refine ev_runK 1 hF30 [3,5,8,9,10] (l':=[(5,nI (atI L0 x11)),(10,nI x11),(9,nI ((L0.length:Int))),(8,.slice (some ⟨g27,0,none⟩) L0.length c2),(3,nI x12)]) (w':=w15) (by kernel_rfl) ?_
  intro a33 hF32; clear hF30
  refine wpList_nil (thenN (wp_seq (wp_region_lit ?_)))
  refine ev_runs 1 hF32 (l':=[(15,nI (atI L0 x11)),(5,nI (atI L0 x11)),(10,nI x11),(9,nI ((L0.length:Int))),(8,.slice (some ⟨g27,0,none⟩) L0.length c2),(3,nI x12)]) (w':=w15) (by kernel_rfl) ?_
  intro a35 hF34; clear hF32
  refine ev_call 63 #[nI (atI L0 x11)] hF34 rfl rfl (by kernel_rfl) rfl (by kernel_rfl) (fun w=>by kernel_rfl) ?_
  refine (p_cOf hS17).mono ?_
  rintro _ w36 ⟨rfl,hS38⟩ a37 hF39; clear hF34 hS17
  refine ev_runK 5 hF39 [3,6,8,9,10] (l':=[(6,nI (cOf (atI L0 x11))),(10,nI x11),(9,nI ((L0.length:Int))),(8,.slice (some ⟨g27,0,none⟩) L0.length c2),(3,nI x12)]) (w':=w36) (by kernel_rfl) ?_
  intro a41 hF40; clear hF39
  refine wpList_nil (thenN (wp_region_lit ?_))
  refine ev_runs 2 hF40 (l':=[(20,nI (cOf (atI L0 x11))),(19,nI x12),(6,nI (cOf (atI L0 x11))),(10,nI x11),(9,nI ((L0.length:Int))),(8,.slice (some ⟨g27,0,none⟩) L0.length c2),(3,nI x12)]) (w':=w36) (by kernel_rfl) ?_
  intro a43 hF42; clear hF40
  refine ev_call 57 #[nI (cOf (atI L0 x11))] hF42 rfl rfl (by kernel_rfl) rfl (by kernel_rfl) (fun w=>by kernel_rfl) ?_
  refine (p_cWords hS38).mono ?_
  rintro _ w44 ⟨rfl,hS46⟩ a45 hF47; clear hF42 hS38
  refine ev_runK 2 hF47 [3,8,9,10] (l':=[(3,nI (IntKind.i64.wrap (x12+(cWords (cOf (atI L0 x11)))))),(10,nI x11),(9,nI ((L0.length:Int))),(8,.slice (some ⟨g27,0,none⟩) L0.length c2)]) (w':=w44) (by kernel_rfl) ?_
  intro a49 hF48; clear hF47
  refine wpList_nil ?_
  refine blockN ?_
  refine thenN (wp_region_lit ?_)
  refine ev_runK 2 hF48 [3,8,9,10] (l':=[(10,nI (IntKind.i64.wrap (x11+1))),(3,nI (IntKind.i64.wrap (x12+(cWords (cOf (atI L0 x11)))))),(9,nI ((L0.length:Int))),(8,.slice (some ⟨g27,0,none⟩) L0.length c2)]) (w':=w44) (by kernel_rfl) ?_
  intro a51 hF50; clear hF48
  refine wpList_nil ?_
  have hF52:Fr 25 a51 [(10,nI (IntKind.i64.wrap (x11+1))),(9,nI ((L0.length:Int))),(8,.slice (some ⟨g27,0,none⟩) L0.length c2),(3,nI (IntKind.i64.wrap (x12+(cWords (cOf (atI L0 x11))))))]:=Fr.re hF50 (by kernel_rfl)
  clear hF50
  exact thenN ⟨k13,Nat.lt_succ_self _,IntKind.i64.wrap (x11+1),IntKind.i64.wrap (x12+(cWords (cOf (atI L0 x11)))),hF52,hS46,hm26⟩
 rw [hc22] at hF20
 have hm53:=ifNot hc22 hm19; clear hm19
 refine ev_condF hF20 rfl rfl ?_
 refine wp_exit ?_
 refine thenE ?_
 refine thenE ?_
 refine blockE ?_
 refine thenN (wp_seq (wp_region_lit ?_))
 refine ev_runK 2 hF20 [2] (l':=[(2,nI x12)]) (w':=w15) (by kernel_rfl) ?_
 intro a55 hF54; clear hF20
 refine wpList_nil (thenN ?_)
 refine wp_ret ?_
 obtain rfl:=Option.some.inj hm53
 refine ev_ret hF54 [2] (nI x12) rfl rfl rfl ?_
 exact ⟨rfl,hS17⟩
def store_take.l4b (L20:List Int) (rec90:HSt→Int→Option (List Int×Bool×HSt)) (s86:HSt) (x87:Int):Option (List Int×Bool×HSt):=(if (decide (x87 ≥ 0)) then (if (inR x87 L20.length) then bind2 (pFree (atI L20 x87) s86) fun x112 s113=>rec90 s113 (IntKind.i64.wrap (x87 - 1)) else none) else some ([],false,s86))
def store_take.l4 (L20:List Int):Nat→HSt→Int→Option (List Int×Bool×HSt)
  | 0=>fun _ _=>none
  | kI+1=>store_take.l4b L20 (store_take.l4 L20 kI)
def store_take.l3b (L1:List Nd) (L2:List Int) (k:Nat) (rec26:List Int→HSt→Int→Option (List Int×Bool×HSt)) (L20:List Int) (s22:HSt) (x23:Int):Option (List Int×Bool×HSt):=(if (decide (x23<(L1.length:Int))) then (if (inR x23 L1.length) then (if (inR x23 L2.length) then bind3 (pAlloc ((atX kNd L1 x23).kind) (atI L2 x23) s22) fun x68 x69 s70=>(if (x69 != 0) then store_take.l4 L20 k s70 (IntKind.i64.wrap ((L20.length:Int) - 1)) else bind1 (pushM L20 x68) fun L139=>rec26 L139 s70 (IntKind.i64.wrap (x23+1))) else none) else none) else some (L20,true,s22))
def store_take.l3 (L1:List Nd) (L2:List Int) (k:Nat):Nat→List Int→HSt→Int→Option (List Int×Bool×HSt)
  | 0=>fun _ _ _=>none
  | kI+1=>store_take.l3b L1 L2 k (store_take.l3 L1 L2 k kI)
def store_take.m (k:Nat) (s0:HSt) (c0x:Int) (c0y:Int) (c0z:Int) (L1:List Nd) (L2:List Int):Option (List Int×Bool×HSt):=store_take.l3 L1 L2 k k [] s0 0
theorem store_take.ok {w0 w:World} {F0:List Nat} {ps:List Piece} {k:Nat} {bb0 b0 ab0:Nat} {s0:HSt} {c0x c0y c0z:Int} {v1:Value} {L1:List Nd} {v2:Value} {L2:List Int} {r0:List Int} {r1:Bool} {t0:HSt} (hS:St w0 F0 (BlkP bb0 111 #[nP b0 0,nI c0x,nI c0y,nI c0z]::HeapP b0 ab0 s0::RowX kNd (v1) L1::RowP (v2) L2::ps) w) (hm:store_take.m k s0 c0x c0y c0z L1 L2=some (r0,r1,t0)) :
    Calls Try.prog 74 #[nP bb0 0,v1,v2] w fun e w'=>∃ vr0,e=.returned (.tuple #[vr0,.bool r1])∧St w0 F0 (BlkP bb0 111 #[nP b0 0,nI c0x,nI c0y,nI c0z]::HeapP b0 ab0 t0::RowX kNd (v1) L1::RowP (v2) L2::RowP vr0 r0::ps) w':=by
 refine ev_enterL 60 [nP bb0 0,v1,v2] Try.func74 rfl rfl (by simp) ?_
 intro a hF
 have hF0:Fr 60 a [(0,nP bb0 0),(1,v1),(2,v2)]:=hF; clear hF
 unfold store_take.m at hm
 obtain ⟨hl4,p1,c2,rfl,hp3⟩:=St.shapeX hS 2 rfl
 obtain ⟨hl8,p5,c6,rfl,hp7⟩:=St.shape hS 3 rfl
 refine wp_seq (wp_region_lit ?_)
 have hS10:St w0 F0 (RowP (.slice none 0 0) []::BlkP bb0 111 #[nP b0 0,nI c0x,nI c0y,nI c0z]::HeapP b0 ab0 s0::RowX kNd (.slice p1 L1.length c2) L1::RowP (.slice p5 L2.length c6) L2::ps) w:=St.nil hS
 refine ev_runK 2 hF0 [0,1,2] (l':=[(0,nP bb0 0),(1,.slice p1 L1.length c2),(2,.slice p5 L2.length c6)]) (w':=w) (by kernel_rfl) ?_
 intro a12 hF11; clear hF0
 refine wpList_nil ?_
 have hS13:=hS10.drop
 clear hS10
 refine thenN (wp_seq (wp_region_lit ?_))
 have hS15:St w0 F0 (RowP (.slice none 0 0) []::BlkP bb0 111 #[nP b0 0,nI c0x,nI c0y,nI c0z]::HeapP b0 ab0 s0::RowX kNd (.slice p1 L1.length c2) L1::RowP (.slice p5 L2.length c6) L2::ps) w:=St.nil hS13
 clear hS13
 refine ev_runs 1 hF11 (l':=[(8,.slice none 0 0),(0,nP bb0 0),(1,.slice p1 L1.length c2),(2,.slice p5 L2.length c6)]) (w':=w) (by kernel_rfl) ?_
 intro a17 hF16; clear hF11
 refine wpList_nil (thenN (wp_seq (wp_seq (wp_region_lit ?_))))
 refine ev_runK 3 hF16 [0,2,8,14,15,16] (l':=[(16,nI 0),(15,nI ((L1.length:Int))),(14,.slice p1 L1.length c2),(8,.slice none 0 0),(0,nP bb0 0),(2,.slice p5 L2.length c6)]) (w':=w) (by kernel_rfl) ?_
 intro a19 hF18; clear hF16
 refine wpList_nil (thenN ?_)
 refine wp_block ?_
 refine wp_loop_ghost (fun kI aI wI=>∃ (v21:Value) (L20:List Int) (s22:HSt) (x23:Int),Fr 60 aI [(16,nI x23),(15,nI ((L1.length:Int))),(14,.slice p1 L1.length c2),(8,v21),(0,nP bb0 0),(2,.slice p5 L2.length c6)]∧St w0 F0 (RowP (v21) L20::BlkP bb0 111 #[nP b0 0,nI c0x,nI c0y,nI c0z]::HeapP b0 ab0 s22::RowX kNd (.slice p1 L1.length c2) L1::RowP (.slice p5 L2.length c6) L2::ps) wI∧store_take.l3 L1 L2 k kI L20 s22 x23=some (r0,r1,t0)) k ⟨.slice none 0 0,[],s0,0,hF18,hS15,hm⟩ ?_
 rintro k24 a25 w26 ⟨v21,L20,s22,x23,hF27,hS28,hm29⟩
 clear hF18 hS15 hm
 rcases k24 with _ | k24
 · cases hm29
 have hm30:store_take.l3b L1 L2 k (store_take.l3 L1 L2 k k24) L20 s22 x23=some (r0,r1,t0):=hm29
 clear hm29
 unfold store_take.l3b at hm30
 obtain ⟨hl34,p31,c32,rfl,hp33⟩:=St.shape hS28 0 rfl
 refine wp_seq (wp_region_lit ?_)
 refine ev_runs 1 hF27 (l':=[(17,.bool (decide (x23<(L1.length:Int)))),(16,nI x23),(15,nI ((L1.length:Int))),(14,.slice p1 L1.length c2),(8,.slice p31 L20.length c32),(0,nP bb0 0),(2,.slice p5 L2.length c6)]) (w':=w26) (by kernel_rfl) ?_
 intro a36 hF35; clear hF27
 refine wpList_nil (thenN (wp_seq ?_))
 cases hc37:(decide (x23<(L1.length:Int)))
 case true =>
  rw [hc37] at hF35
  have hm38:=ifYes hc37 hm30; clear hm30
  refine ev_condT hF35 rfl rfl ?_
  refine wp_skip ?_
  have hF39:=hF35.keep [0,2,8,14,15,16]
  clear hF35
  refine thenN (wp_seq ?_)
  refine wp_block ?_
  refine wp_seq (wp_region_lit ?_)
  refine ev_runs 1 hF39 (l':=[(18,nI x23),(16,nI x23),(15,nI ((L1.length:Int))),(14,.slice p1 L1.length c2),(8,.slice p31 L20.length c32),(0,nP bb0 0),(2,.slice p5 L2.length c6)]) (w':=w26) (by kernel_rfl) ?_
  intro a41 hF40; clear hF39
  obtain ⟨hc42,hm43⟩:=ifTE hm38; clear hm38
  obtain ⟨g44,rfl⟩:=hp3.resolve_left (by have:=inR_spec hc42; omega)
  refine ev_one (nP g44 ((x23.toNat * 2))) w26 hF40 (by kernel_rfl) rfl (by kernel_rfl) (run_idxX rfl rfl (by kernel_rfl) rfl rfl (inR_spec hc42).1 (inR_spec hc42).2 _) (l':=[(19,nP g44 ((x23.toNat * 2))),(18,nI x23),(16,nI x23),(15,nI ((L1.length:Int))),(14,.slice (some ⟨g44,0,none⟩) L1.length c2),(8,.slice p31 L20.length c32),(0,nP bb0 0),(2,.slice p5 L2.length c6)]) (by kernel_rfl) ?_
  intro a46 hF45; clear hF40
  refine ev_one (.agg #[nI ((atX kNd L1 x23).kind),nI ((atX kNd L1 x23).n)]) w26 hF45 (by kernel_rfl) rfl (by kernel_rfl) (run_loadV rfl rfl (run_loadA (cs:=[nI ((atX kNd L1 x23).kind),nI ((atX kNd L1 x23).n)]) rfl rfl (by kernel_rfl) (St.atX (cs:=[nI ((atX kNd L1 x23).kind),nI ((atX kNd L1 x23).n)]) hS28 3 rfl hc42 rfl))) (l':=[(20,.agg #[nI ((atX kNd L1 x23).kind),nI ((atX kNd L1 x23).n)]),(19,nP g44 ((x23.toNat * 2))),(18,nI x23),(16,nI x23),(15,nI ((L1.length:Int))),(14,.slice (some ⟨g44,0,none⟩) L1.length c2),(8,.slice p31 L20.length c32),(0,nP bb0 0),(2,.slice p5 L2.length c6)]) (by kernel_rfl) ?_
  intro a48 hF47; clear hF45
  refine ev_runs 1 hF47 (l':=[(10,nB w26),(20,.agg #[nI ((atX kNd L1 x23).kind),nI ((atX kNd L1 x23).n)]),(19,nP g44 ((x23.toNat * 2))),(18,nI x23),(16,nI x23),(15,nI ((L1.length:Int))),(14,.slice (some ⟨g44,0,none⟩) L1.length c2),(8,.slice p31 L20.length c32),(0,nP bb0 0),(2,.slice p5 L2.length c6)]) (w':=w26.alloc (.cells #[nI 0,nI 0] 74)) (by kernel_rfl) ?_
  intro a50 hF49; clear hF47
  have hS52:St w0 F0 (BlkP (w26.heap.size) 74 #[nI 0,nI 0]::RowP (.slice p31 L20.length c32) L20::BlkP bb0 111 #[nP b0 0,nI c0x,nI c0y,nI c0z]::HeapP b0 ab0 s22::RowX kNd (.slice (some ⟨g44,0,none⟩) L1.length c2) L1::RowP (.slice p5 L2.length c6) L2::ps) (w26.alloc (.cells #[nI 0,nI 0] 74)):=St.new hS28 #[nI 0,nI 0] 74
  clear hS28
  refine ev_runs 1 hF49 (l':=[(9,nI x23),(10,nB w26),(20,.agg #[nI ((atX kNd L1 x23).kind),nI ((atX kNd L1 x23).n)]),(19,nP g44 ((x23.toNat * 2))),(18,nI x23),(16,nI x23),(15,nI ((L1.length:Int))),(14,.slice (some ⟨g44,0,none⟩) L1.length c2),(8,.slice p31 L20.length c32),(0,nP bb0 0),(2,.slice p5 L2.length c6)]) (w':=w26.alloc (.cells #[nI 0,nI 0] 74)) (by kernel_rfl) ?_
  intro a54 hF53; clear hF49
  refine ev_store (.agg #[nI ((atX kNd L1 x23).kind),nI ((atX kNd L1 x23).n)]) #[nI ((atX kNd L1 x23).kind),nI ((atX kNd L1 x23).n)] hF53 (by kernel_rfl) rfl rfl rfl rfl (by kernel_rfl) hS52 (by kernel_rfl) (by kernel_rfl) (by kernel_rfl) (l':=[(9,nI x23),(10,nB w26),(20,.agg #[nI ((atX kNd L1 x23).kind),nI ((atX kNd L1 x23).n)]),(19,nP g44 ((x23.toNat * 2))),(18,nI x23),(16,nI x23),(15,nI ((L1.length:Int))),(14,.slice (some ⟨g44,0,none⟩) L1.length c2),(8,.slice p31 L20.length c32),(0,nP bb0 0),(2,.slice p5 L2.length c6)]) (by kernel_rfl) ?_
  intro w55 a56 hS57 hF58; clear hF53 hS52
  refine wpList_nil ?_
  have hF59:=hF58.keep [0,2,8,9,10,14,15,16]
  clear hF58
  refine thenN (wp_seq ?_)
  obtain ⟨hc60,hm61⟩:=ifTE hm43; clear hm43
  obtain ⟨g62,rfl⟩:=hp7.resolve_left (by have:=inR_spec hc60; omega)
  have hS63:=hS57.pick5.pick1.pick3
  clear hS57
  have hS64:=hS63.drew; clear hS63
  refine any_start (fun wS=>∃ qs,St w0 F0 (BlkP bb0 111 #[nP b0 0,nI c0x,nI c0y,nI c0z]::BlkP (w26.heap.size) 74 #[nI ((atX kNd L1 x23).kind),nI ((atX kNd L1 x23).n)]::RowP (nS g62 L2 c6) L2::qs) wS) 16 #[false,false,false,false,false,false,false,false,false,false,false,false,false,false,false,false] (by kernel_rfl) (by kernel_rfl) (by kernel_rfl) ?_
  refine any_many 10 [(0,some (nP bb0 0)),(1,some (nP bb0 0)),(2,some (nP bb0 0)),(3,some (nP b0 0)),(4,some (nB w26)),(5,some (nI ((atX kNd L1 x23).kind))),(6,some (nS g62 L2 c6)),(7,some (nI x23)),(8,some (nP g62 (x23.toNat))),(9,some (nI (atI L2 x23)))] [0,2,8,11,12,14,15,16,21,25,27,31,32,33,34] #[true,true,true,true,true,true,true,true,true,true,false,false,false,false,false,false] (by rfl) hF59 (by kernel_rfl) (by kernel_rfl) (by exact ⟨fun wS hw=>by kernel_rfl,fun wS hw=>by kernel_rfl,fun wS hw=>by kernel_rfl,fun wS hw=>hw.elim fun qs hw=>run_loadV rfl rfl (run_loadS rfl rfl (hw.cell 0 rfl 0 rfl)),fun wS hw=>by kernel_rfl,fun wS hw=>hw.elim fun qs hw=>run_loadV rfl rfl (run_loadS rfl rfl (hw.cell 1 rfl 0 rfl)),fun wS hw=>by kernel_rfl,fun wS hw=>by kernel_rfl,fun wS hw=>run_idx rfl rfl rfl rfl rfl (inR_spec hc60).1 (inR_spec hc60).2 _,fun wS hw=>run_load1 rfl rfl rfl (hw.elim fun qs hw=>hw.atI 2 rfl hc60),trivial⟩) (fun _ _ _ _ _ h=>h) ⟨_,hS64⟩ (l':=[(31,nI (atI L2 x23)),(27,nI ((atX kNd L1 x23).kind)),(25,nP b0 0),(16,nI x23),(15,nI ((L1.length:Int))),(14,.slice (some ⟨g44,0,none⟩) L1.length c2),(8,.slice p31 L20.length c32),(0,nP bb0 0),(2,nS g62 L2 c6)]) (by kernel_rfl) ?_
  intro a66 hF65; clear hF59
  have hS67:=hS64.pick4
  clear hS64
  refine any_call 10 #[true,true,true,true,true,true,true,true,true,true,true,false,false,false,false,false] 90 #[nP b0 0,nI ((atX kNd L1 x23).kind),nI (atI L2 x23)] hF65 rfl (by kernel_rfl) rfl rfl (by kernel_rfl) rfl (by kernel_rfl) (fun w=>by kernel_rfl) (by kernel_rfl) ?_
  obtain ⟨x68,x69,s70,hx71,hm72⟩:=bind3E hm61; clear hm61
  refine (p_Alloc hS67 hx71).mono ?_
  rintro _ w73 ⟨rfl,hS75⟩; clear hS67
  refine ⟨⟨_,hS75.pick3.pick3.pick3⟩,?_⟩
  intro a74 hF76; clear hF65
  refine any_many 5 [(11,some (.tuple #[nI x68,nI x69])),(12,some (nI x68)),(13,some (nI x69)),(14,some (nI x68)),(15,some (nI x69))] [0,2,8,11,12,14,15,16] #[true,true,true,true,true,true,true,true,true,true,true,true,true,true,true,true] (by rfl) hF76 (by kernel_rfl) (by kernel_rfl) (by exact ⟨fun wS hw=>by kernel_rfl,fun wS hw=>by kernel_rfl,fun wS hw=>by kernel_rfl,fun wS hw=>by kernel_rfl,fun wS hw=>by kernel_rfl,trivial⟩) (fun _ _ _ _ _ h=>h) ⟨_,hS75.pick3.pick3.pick3⟩ (l':=[(12,nI x69),(11,nI x68),(16,nI x23),(15,nI ((L1.length:Int))),(14,.slice (some ⟨g44,0,none⟩) L1.length c2),(8,.slice p31 L20.length c32),(0,nP bb0 0),(2,nS g62 L2 c6)]) (by kernel_rfl) ?_
  intro a78 hF77; clear hF76
  refine any_done (by kernel_rfl) ?_
  have hS79:=hS75.pick2.drop
  clear hS75
  refine thenN (wp_seq (wp_seq (wp_region_lit ?_)))
  refine ev_runK 2 hF77 [0,2,8,11,14,15,16,36] (l':=[(36,.bool (x69 != 0)),(11,nI x68),(16,nI x23),(15,nI ((L1.length:Int))),(14,.slice (some ⟨g44,0,none⟩) L1.length c2),(8,.slice p31 L20.length c32),(0,nP bb0 0),(2,nS g62 L2 c6)]) (w':=w73) (by kernel_rfl) ?_
  intro a81 hF80; clear hF77
  refine wpList_nil (thenN ?_)
  cases hc82:(x69 != 0)
  case true =>
   rw [hc82] at hF80
   have hm83:=ifYes hc82 hm72; clear hm72
   refine ev_condT hF80 rfl rfl ?_
   refine wp_seq (wp_seq (wp_region_lit ?_))
   refine ev_runK 4 hF80 [0,8,13] (l':=[(13,nI (IntKind.i64.wrap ((L20.length:Int) - 1))),(8,.slice p31 L20.length c32),(0,nP bb0 0)]) (w':=w73) (by kernel_rfl) ?_
   intro a85 hF84; clear hF80
   refine wpList_nil (thenN ?_)
   refine wp_block ?_
   refine wp_loop_ghost (fun kI aI wI=>∃ (s86:HSt) (x87:Int),Fr 60 aI [(13,nI x87),(8,.slice p31 L20.length c32),(0,nP bb0 0)]∧St w0 F0 (HeapP b0 ab0 s86::BlkP bb0 111 #[nP b0 0,nI c0x,nI c0y,nI c0z]::RowP (nS g62 L2 c6) L2::RowP (.slice p31 L20.length c32) L20::RowX kNd (.slice (some ⟨g44,0,none⟩) L1.length c2) L1::ps) wI∧store_take.l4 L20 kI s86 x87=some (r0,r1,t0)) k ⟨s70,IntKind.i64.wrap ((L20.length:Int) - 1),hF84,hS79,hm83⟩ ?_
   rintro k88 a89 w90 ⟨s86,x87,hF91,hS92,hm93⟩
   clear hF84 hS79 hm83
   rcases k88 with _ | k88
   · cases hm93
   have hm94:store_take.l4b L20 (store_take.l4 L20 k88) s86 x87=some (r0,r1,t0):=hm93
   clear hm93
   unfold store_take.l4b at hm94
   refine wp_seq (wp_seq (wp_region_lit ?_))
   refine ev_runK 2 hF91 [0,8,13,41] (l':=[(41,.bool (decide (x87 ≥ 0))),(13,nI x87),(8,.slice p31 L20.length c32),(0,nP bb0 0)]) (w':=w90) (by kernel_rfl) ?_
   intro a96 hF95; clear hF91
   refine wpList_nil (thenN ?_)
   cases hc97:(decide (x87 ≥ 0))
   case true =>
    rw [hc97] at hF95
    have hm98:=ifYes hc97 hm94; clear hm94
    refine ev_condT hF95 rfl rfl ?_
    refine wp_skip ?_
    have hF99:=hF95.keep [0,8,13]
    clear hF95
    refine thenN (wp_seq ?_)
    refine wp_block ?_
    obtain ⟨hc100,hm101⟩:=ifTE hm98; clear hm98
    obtain ⟨g102,rfl⟩:=hp33.resolve_left (by have:=inR_spec hc100; omega)
    have hS103:=hS92.pick3.pick2
    clear hS92
    have hS104:=hS103.drew; clear hS103
    refine any_start (fun wS=>∃ qs,St w0 F0 (BlkP bb0 111 #[nP b0 0,nI c0x,nI c0y,nI c0z]::RowP (nS g102 L20 c32) L20::qs) wS) 10 #[false,false,false,false,false,false,false,false,false,false] (by kernel_rfl) (by kernel_rfl) (by kernel_rfl) ?_
    refine any_many 8 [(0,some (nP bb0 0)),(1,some (nP bb0 0)),(2,some (nP bb0 0)),(3,some (nP b0 0)),(5,some (nS g102 L20 c32)),(6,some (nI x87)),(7,some (nP g102 (x87.toNat))),(8,some (nI (atI L20 x87)))] [0,8,13,47,48,52] #[true,true,true,true,false,true,true,true,true,false] (by rfl) hF99 (by kernel_rfl) (by kernel_rfl) (by exact ⟨fun wS hw=>by kernel_rfl,fun wS hw=>by kernel_rfl,fun wS hw=>by kernel_rfl,fun wS hw=>hw.elim fun qs hw=>run_loadV rfl rfl (run_loadS rfl rfl (hw.cell 0 rfl 0 rfl)),fun wS hw=>by kernel_rfl,fun wS hw=>by kernel_rfl,fun wS hw=>run_idx rfl rfl rfl rfl rfl (inR_spec hc100).1 (inR_spec hc100).2 _,fun wS hw=>run_load1 rfl rfl rfl (hw.elim fun qs hw=>hw.atI 1 rfl hc100),trivial⟩) (fun _ _ _ _ _ h=>h) ⟨_,hS104⟩ (l':=[(52,nI (atI L20 x87)),(47,nP b0 0),(13,nI x87),(8,nS g102 L20 c32),(0,nP bb0 0)]) (by kernel_rfl) ?_
    intro a106 hF105; clear hF99
    have hS107:=hS104.pick2
    clear hS104
    refine any_call 4 #[true,true,true,true,true,true,true,true,true,false] 45 #[nP b0 0] hF105 rfl (by kernel_rfl) rfl rfl (by kernel_rfl) rfl (by kernel_rfl) (fun w=>by kernel_rfl) (by kernel_rfl) ?_
    refine (p_Arena hS107).mono ?_
    rintro _ w108 ⟨rfl,hS110⟩; clear hS107
    refine ⟨⟨_,hS110.pick2.pick2⟩,?_⟩
    intro a109 hF111; clear hF105
    refine any_call 9 #[true,true,true,true,true,true,true,true,true,true] 19 #[nP ab0 0,nI (atI L20 x87)] hF111 rfl (by kernel_rfl) rfl rfl (by kernel_rfl) rfl (by kernel_rfl) (fun w=>by kernel_rfl) (by kernel_rfl) ?_
    obtain ⟨x112,s113,hx114,hm115⟩:=bind2E hm101; clear hm101
    refine (p_Free hS110 hx114).mono ?_
    rintro _ w116 ⟨rfl,hS118⟩; clear hS110
    refine ⟨⟨_,hS118.pick2.pick2⟩,?_⟩
    intro a117 hF119; clear hF111
    refine any_done (by kernel_rfl) ?_
    have hF120:=hF119.keep [0,8,13]
    clear hF119
    refine blockN ?_
    refine thenN (wp_region_lit ?_)
    refine ev_runK 3 hF120 [0,8,13] (l':=[(13,nI (IntKind.i64.wrap (x87 - 1))),(8,nS g102 L20 c32),(0,nP bb0 0)]) (w':=w116) (by kernel_rfl) ?_
    intro a122 hF121; clear hF120
    refine wpList_nil ?_
    have hS123:=hS118.pick4.pick3.pick4.pick4.pick4
    clear hS118
    exact thenN ⟨k88,Nat.lt_succ_self _,s113,IntKind.i64.wrap (x87 - 1),hF121,hS123,hm115⟩
   rw [hc97] at hF95
   have hm124:=ifNot hc97 hm94; clear hm94
   refine ev_condF hF95 rfl rfl ?_
   refine wp_exit ?_
   refine thenE ?_
   refine thenE ?_
   refine blockE ?_
   refine thenN (wp_seq (wp_region_lit ?_))
   have hS126:St w0 F0 (RowP (.slice none 0 0) []::HeapP b0 ab0 s86::BlkP bb0 111 #[nP b0 0,nI c0x,nI c0y,nI c0z]::RowP (nS g62 L2 c6) L2::RowP (.slice p31 L20.length c32) L20::RowX kNd (.slice (some ⟨g44,0,none⟩) L1.length c2) L1::ps) w90:=St.nil hS92
   clear hS92
   refine ev_runK 2 hF95 [6,7] (l':=[(7,.bool false),(6,.slice none 0 0)]) (w':=w90) (by kernel_rfl) ?_
   intro a128 hF127; clear hF95
   refine wpList_nil ?_
   have hS129:=hS126.pick4.drop
   clear hS126
   refine thenN ?_
   refine wp_ret ?_
   refine thenR ?_
   refine blockR ?_
   refine thenR (thenR ?_)
   refine blockR ?_
   refine thenR ?_
   have hS130:=hS129.pick3.pick4.pick3.pick4
   clear hS129
   simp only [Option.some.injEq,Prod.mk.injEq] at hm124
   obtain ⟨rfl,rfl,rfl⟩:=hm124
   refine ev_ret hF127 [6,7] (.tuple #[.slice none 0 0,.bool false]) rfl rfl rfl ?_
   exact ⟨_,rfl,hS130⟩
  rw [hc82] at hF80
  have hm134:=ifNot hc82 hm72; clear hm72
  refine ev_condF hF80 rfl rfl ?_
  refine wp_skip ?_
  have hF135:=hF80.keep [0,2,8,11,14,15,16]
  clear hF80
  refine thenN (wp_region_lit ?_)
  refine ev_runs 3 hF135 (l':=[(56,.slice (some ⟨w73.heap.size,0,none⟩) 1 1),(55,nI x68),(54,.slice p31 L20.length c32),(11,nI x68),(16,nI x23),(15,nI ((L1.length:Int))),(14,.slice (some ⟨g44,0,none⟩) L1.length c2),(8,.slice p31 L20.length c32),(0,nP bb0 0),(2,nS g62 L2 c6)]) (w':=w73.alloc (.cells #[nI x68] 3)) (by kernel_rfl) ?_
  intro a137 hF136; clear hF135
  have hS138:=hS79.pick3
  clear hS79
  obtain ⟨L139,hx140,hm141⟩:=bind1E hm134; clear hm134
  refine ev_push 57 (.tmp 54) (.tmp 56) hF136 rfl rfl rfl rfl rfl rfl rfl rfl hS138 hx140 ?_
  intro g142 c143 w144 a145 hS146 hF147; clear hF136 hS138
  refine ev_runK 1 hF147 [0,2,8,14,15,16] (l':=[(8,nS g142 L139 c143),(16,nI x23),(15,nI ((L1.length:Int))),(14,.slice (some ⟨g44,0,none⟩) L1.length c2),(0,nP bb0 0),(2,nS g62 L2 c6)]) (w':=w144) (by kernel_rfl) ?_
  intro a149 hF148; clear hF147
  refine wpList_nil ?_
  refine blockN ?_
  refine thenN (wp_region_lit ?_)
  refine ev_runK 2 hF148 [0,2,8,14,15,16] (l':=[(16,nI (IntKind.i64.wrap (x23+1))),(8,nS g142 L139 c143),(15,nI ((L1.length:Int))),(14,.slice (some ⟨g44,0,none⟩) L1.length c2),(0,nP bb0 0),(2,nS g62 L2 c6)]) (w':=w144) (by kernel_rfl) ?_
  intro a151 hF150; clear hF148
  refine wpList_nil ?_
  have hF152:Fr 60 a151 [(16,nI (IntKind.i64.wrap (x23+1))),(15,nI ((L1.length:Int))),(14,.slice (some ⟨g44,0,none⟩) L1.length c2),(8,nS g142 L139 c143),(0,nP bb0 0),(2,nS g62 L2 c6)]:=Fr.re hF150 (by kernel_rfl)
  clear hF150
  have hS153:=hS146.pick3.pick4.pick3.pick4.pick4
  clear hS146
  exact thenN ⟨k24,Nat.lt_succ_self _,nS g142 L139 c143,L139,s70,IntKind.i64.wrap (x23+1),hF152,hS153,hm141⟩
 rw [hc37] at hF35
 have hm154:=ifNot hc37 hm30; clear hm30
 refine ev_condF hF35 rfl rfl ?_
 refine wp_exit ?_
 refine thenE ?_
 refine thenE ?_
 refine blockE ?_
 refine thenN (wp_seq (wp_region_lit ?_))
 refine ev_runK 3 hF35 [6,7] (l':=[(7,.bool true),(6,.slice p31 L20.length c32)]) (w':=w26) (by kernel_rfl) ?_
 intro a156 hF155; clear hF35
 refine wpList_nil (thenN ?_)
 refine wp_ret ?_
 have hS157:=hS28.pick4.pick4.pick4.pick4
 clear hS28
 simp only [Option.some.injEq,Prod.mk.injEq] at hm154
 obtain ⟨rfl,rfl,rfl⟩:=hm154
 refine ev_ret hF155 [6,7] (.tuple #[.slice p31 L20.length c32,.bool true]) rfl rfl rfl ?_
 exact ⟨_,rfl,hS157⟩
def store_spin.l1b (rec15:List Gn→HSt→Option (List Gn×HSt)) (L10:List Gn) (s12:HSt):Option (List Gn×HSt):=(if (s12.ph != 0) then bind2 (pStep s12) fun L42 s43=>bind1 (appX L10 L42) fun L57=>rec15 L57 s43 else some (L10,s12))
def store_spin.l1:Nat→List Gn→HSt→Option (List Gn×HSt)
  | 0=>fun _ _=>none
  | kI+1=>store_spin.l1b (store_spin.l1 kI)
def store_spin.m (k:Nat) (s0:HSt) (c0x:Int) (c0y:Int) (c0z:Int):Option (List Gn×HSt):=store_spin.l1 k [] s0
theorem store_spin.ok {w0 w:World} {F0:List Nat} {ps:List Piece} {k:Nat} {bb0 b0 ab0:Nat} {s0:HSt} {c0x c0y c0z:Int} {r0:List Gn} {t0:HSt} (hS:St w0 F0 (BlkP bb0 111 #[nP b0 0,nI c0x,nI c0y,nI c0z]::HeapP b0 ab0 s0::ps) w) (hm:store_spin.m k s0 c0x c0y c0z=some (r0,t0)) :
    Calls Try.prog 91 #[nP bb0 0] w fun e w'=>∃ vr0,e=.returned (vr0)∧St w0 F0 (BlkP bb0 111 #[nP b0 0,nI c0x,nI c0y,nI c0z]::HeapP b0 ab0 t0::GonesP vr0 r0::ps) w':=by
 refine ev_enterL 18 [nP bb0 0] Try.func91 rfl rfl (by simp) ?_
 intro a hF
 have hF0:Fr 18 a [(0,nP bb0 0)]:=hF; clear hF
 unfold store_spin.m at hm
 refine wp_seq (wp_region_lit ?_)
 have hS2:St w0 F0 (GonesP (.slice none 0 0) []::BlkP bb0 111 #[nP b0 0,nI c0x,nI c0y,nI c0z]::HeapP b0 ab0 s0::ps) w:=St.nilG hS
 refine ev_runK 1 hF0 [0] (l':=[(0,nP bb0 0)]) (w':=w) (by kernel_rfl) ?_
 intro a4 hF3; clear hF0
 refine wpList_nil ?_
 have hS5:=hS2.drop
 clear hS2
 refine thenN (wp_seq (wp_region_lit ?_))
 have hS7:St w0 F0 (GonesP (.slice none 0 0) []::BlkP bb0 111 #[nP b0 0,nI c0x,nI c0y,nI c0z]::HeapP b0 ab0 s0::ps) w:=St.nilG hS5
 clear hS5
 refine ev_runs 1 hF3 (l':=[(3,.slice none 0 0),(0,nP bb0 0)]) (w':=w) (by kernel_rfl) ?_
 intro a9 hF8; clear hF3
 refine wpList_nil (thenN (wp_seq ?_))
 refine wp_block ?_
 refine wp_loop_ghost (fun kI aI wI=>∃ (v11:Value) (L10:List Gn) (s12:HSt),Fr 18 aI [(3,v11),(0,nP bb0 0)]∧St w0 F0 (GonesP (v11) L10::BlkP bb0 111 #[nP b0 0,nI c0x,nI c0y,nI c0z]::HeapP b0 ab0 s12::ps) wI∧store_spin.l1 kI L10 s12=some (r0,t0)) k ⟨.slice none 0 0,[],s0,hF8,hS7,hm⟩ ?_
 rintro k13 a14 w15 ⟨v11,L10,s12,hF16,hS17,hm18⟩
 clear hF8 hS7 hm
 rcases k13 with _ | k13
 · cases hm18
 have hm19:store_spin.l1b (store_spin.l1 k13) L10 s12=some (r0,t0):=hm18
 clear hm18
 unfold store_spin.l1b at hm19
 obtain ⟨hl23,p20,c21,rfl,hp22⟩:=St.shapeG (k:=0) hS17 rfl
 refine wp_seq (wp_seq (wp_region_lit ?_))
 refine ev_runs 3 hF16 (l':=[(6,nP bb0 0),(5,nP bb0 0),(4,nP bb0 0),(3,.slice p20 L10.length c21),(0,nP bb0 0)]) (w':=w15) (by kernel_rfl) ?_
 intro a25 hF24; clear hF16
 refine ev_one (nP b0 0) w15 hF24 (by kernel_rfl) rfl (by kernel_rfl) (run_loadV rfl rfl (run_loadS rfl rfl (hS17.cell 1 rfl 0 rfl))) (l':=[(7,nP b0 0),(6,nP bb0 0),(5,nP bb0 0),(4,nP bb0 0),(3,.slice p20 L10.length c21),(0,nP bb0 0)]) (by kernel_rfl) ?_
 intro a27 hF26; clear hF24
 have hS28:=hS17.pick2
 clear hS17
 refine ev_call 44 #[nP b0 0] hF26 rfl rfl (by kernel_rfl) rfl (by kernel_rfl) (fun w=>by kernel_rfl) ?_
 refine (p_Phase hS28).mono ?_
 rintro _ w29 ⟨rfl,hS31⟩ a30 hF32; clear hF26 hS28
 refine ev_runK 1 hF32 [0,3,9] (l':=[(9,.bool (s12.ph != 0)),(3,.slice p20 L10.length c21),(0,nP bb0 0)]) (w':=w29) (by kernel_rfl) ?_
 intro a34 hF33; clear hF32
 refine wpList_nil (thenN ?_)
 cases hc35:(s12.ph != 0)
 case true =>
  rw [hc35] at hF33
  have hm36:=ifYes hc35 hm19; clear hm19
  refine ev_condT hF33 rfl rfl ?_
  refine wp_skip ?_
  have hF37:=hF33.keep [0,3]
  clear hF33
  refine thenN ?_
  refine wp_block ?_
  refine wp_region_lit ?_
  refine ev_runs 4 hF37 (l':=[(13,nP bb0 0),(12,nP bb0 0),(11,nP bb0 0),(10,.slice p20 L10.length c21),(3,.slice p20 L10.length c21),(0,nP bb0 0)]) (w':=w29) (by kernel_rfl) ?_
  intro a39 hF38; clear hF37
  refine ev_one (nP b0 0) w29 hF38 (by kernel_rfl) rfl (by kernel_rfl) (run_loadV rfl rfl (run_loadS rfl rfl (hS31.cell 2 rfl 0 rfl))) (l':=[(14,nP b0 0),(13,nP bb0 0),(12,nP bb0 0),(11,nP bb0 0),(10,.slice p20 L10.length c21),(3,.slice p20 L10.length c21),(0,nP bb0 0)]) (by kernel_rfl) ?_
  intro a41 hF40; clear hF38
  refine ev_call 77 #[nP b0 0] hF40 rfl rfl (by kernel_rfl) rfl (by kernel_rfl) (fun w=>by kernel_rfl) ?_
  obtain ⟨L42,s43,hx44,hm45⟩:=bind2E hm36; clear hm36
  refine (p_Step hS31 hx44).mono ?_
  rintro _ w46 ⟨z50,rfl,hS48⟩ a47 hF49; clear hF40 hS31
  obtain ⟨hl55,p52,c53,rfl,hp54⟩:=St.shapeG (k:=1) hS48 rfl
  have hS56:=hS48.pick1.pick2
  clear hS48
  obtain ⟨L57,hx58,hm59⟩:=bind1E hm45; clear hm45
  refine ev_appG 70 rfl 16 (.tmp 10) (.tmp 15) hF49 rfl rfl (by kernel_rfl) rfl rfl rfl rfl rfl hS56 hx58 ?_
  intro v60 w61 a62 hS63 hF64; clear hF49 hS56
  obtain ⟨hl68,p65,c66,rfl,hp67⟩:=St.shapeG (k:=0) hS63 rfl
  have hF69:=hF64.keep [0,11,12,13,14,16]; clear hF64
  refine ev_runK 1 hF69 [0,3] (l':=[(3,.slice p65 L57.length c66),(0,nP bb0 0)]) (w':=w61) (by kernel_rfl) ?_
  intro a71 hF70; clear hF69
  refine wpList_nil ?_
  refine blockN ?_
  have hS72:=hS63.pick1.pick2.pick2
  clear hS63
  exact thenN ⟨k13,Nat.lt_succ_self _,.slice p65 L57.length c66,L57,s43,hF70,hS72,hm59⟩
 rw [hc35] at hF33
 have hm73:=ifNot hc35 hm19; clear hm19
 refine ev_condF hF33 rfl rfl ?_
 refine wp_exit ?_
 refine thenE ?_
 refine thenE ?_
 refine blockE ?_
 refine thenN (wp_seq (wp_region_lit ?_))
 refine ev_runK 2 hF33 [2] (l':=[(2,.slice p20 L10.length c21)]) (w':=w29) (by kernel_rfl) ?_
 intro a75 hF74; clear hF33
 refine wpList_nil (thenN ?_)
 refine wp_ret ?_
 have hS76:=hS31.pick1.pick1.pick2
 clear hS31
 simp only [Option.some.injEq,Prod.mk.injEq] at hm73
 obtain ⟨rfl,rfl⟩:=hm73
 refine ev_ret hF74 [2] (.slice p20 L10.length c21) rfl rfl rfl ?_
 exact ⟨_,rfl,hS76⟩
def store_of.m (k:Nat) (i0k:Int) (i0a:Int) (i0p:Bool):Option (Option (Int ⊕ Unit)):=(if (i0p) then some ((some (.inl i0a))) else some ((some (.inr ()))))
theorem store_of.ok {w0 w:World} {F0:List Nat} {ps:List Piece} {k:Nat} {i0k i0a:Int} {i0w:Value} {i0p:Bool} {r0:Option (Int ⊕ Unit)} (hS:St w0 F0 (ps) w) (hm:store_of.m k i0k i0a i0p=some r0) :
    Calls Try.prog 92 #[.agg #[nI i0k,nI i0a,i0w,.bool (i0p)]] w fun e w'=>e=.returned (oKfV 143 159 r0)∧St w0 F0 (ps) w':=by
 refine ev_enterL 11 [.agg #[nI i0k,nI i0a,i0w,.bool (i0p)]] Try.func92 rfl rfl (by simp) ?_
 intro a hF
 have hF0:Fr 11 a [(0,.agg #[nI i0k,nI i0a,i0w,.bool (i0p)])]:=hF; clear hF
 unfold store_of.m at hm
 refine wp_seq (wp_region_lit ?_)
 refine ev_runs 1 hF0 (l':=[(1,nB w),(0,.agg #[nI i0k,nI i0a,i0w,.bool (i0p)])]) (w':=w.alloc (.cells #[nI i0k,nI i0a,i0w,.bool (i0p)] 141)) (by kernel_rfl) ?_
 intro a2 hF1; clear hF0
 have hS4:St w0 F0 (BlkP (w.heap.size) 141 #[nI i0k,nI i0a,i0w,.bool (i0p)]::ps) (w.alloc (.cells #[nI i0k,nI i0a,i0w,.bool (i0p)] 141)):=St.new hS #[nI i0k,nI i0a,i0w,.bool (i0p)] 141
 refine ev_runK 1 hF1 [1] (l':=[(1,nB w)]) (w':=w.alloc (.cells #[nI i0k,nI i0a,i0w,.bool (i0p)] 141)) (by kernel_rfl) ?_
 intro a6 hF5; clear hF1
 refine wpList_nil (thenN (wp_seq (wp_seq (wp_region_lit ?_))))
 refine ev_runs 1 hF5 (l':=[(3,nP (w.heap.size) 3),(1,nB w)]) (w':=w.alloc (.cells #[nI i0k,nI i0a,i0w,.bool (i0p)] 141)) (by kernel_rfl) ?_
 intro a8 hF7; clear hF5
 refine ev_one (.bool (i0p)) (w.alloc (.cells #[nI i0k,nI i0a,i0w,.bool (i0p)] 141)) hF7 (by kernel_rfl) rfl (by kernel_rfl) (run_loadV rfl rfl (run_loadS rfl rfl (hS4.cell 0 rfl 3 rfl))) (l':=[(4,.bool (i0p)),(3,nP (w.heap.size) 3),(1,nB w)]) (by kernel_rfl) ?_
 intro a10 hF9; clear hF7
 refine wpList_nil ?_
 have hF11:=hF9.keep [1,4]
 clear hF9
 refine thenN ?_
 cases hc12:(id i0p)
 case true =>
  replace hc12:(i0p)=true:=hc12
  rw [hc12] at hF11
  have hm13:=ifYes hc12 hm; clear hm
  refine ev_condT hF11 rfl rfl ?_
  refine wp_seq (wp_region_lit ?_)
  refine ev_runs 1 hF11 (l':=[(5,nP (w.heap.size) 1),(4,.bool true),(1,nB w)]) (w':=w.alloc (.cells #[nI i0k,nI i0a,i0w,.bool (i0p)] 141)) (by kernel_rfl) ?_
  intro a15 hF14; clear hF11
  refine ev_one (nI i0a) (w.alloc (.cells #[nI i0k,nI i0a,i0w,.bool (i0p)] 141)) hF14 (by kernel_rfl) rfl (by kernel_rfl) (run_loadV rfl rfl (run_loadS rfl rfl (hS4.cell 0 rfl 1 rfl))) (l':=[(6,nI i0a),(5,nP (w.heap.size) 1),(4,.bool true),(1,nB w)]) (by kernel_rfl) ?_
  intro a17 hF16; clear hF14
  refine ev_runK 3 hF16 [2] (l':=[(2,.iface 143 (.agg #[nI i0a]))]) (w':=w.alloc (.cells #[nI i0k,nI i0a,i0w,.bool (i0p)] 141)) (by kernel_rfl) ?_
  intro a19 hF18; clear hF16
  refine wpList_nil ?_
  have hS20:=hS4.drop
  clear hS4
  refine thenN ?_
  refine wp_ret ?_
  refine thenR ?_
  obtain rfl:=Option.some.inj hm13
  refine ev_ret hF18 [2] (.iface 143 (.agg #[nI i0a])) rfl rfl rfl ?_
  exact ⟨rfl,hS20⟩
 replace hc12:(i0p)=false:=hc12
 rw [hc12] at hF11
 have hm22:=ifNot hc12 hm; clear hm
 refine ev_condF hF11 rfl rfl ?_
 refine wp_skip ?_
 have hF23:=hF11.keep []
 clear hF11
 have hS24:=hS4.drop
 clear hS4
 refine thenN (wp_seq (wp_region_lit ?_))
 refine ev_runK 3 hF23 [2] (l':=[(2,.iface 159 (.agg #[]))]) (w':=w.alloc (.cells #[nI i0k,nI i0a,i0w,.bool (i0p)] 141)) (by kernel_rfl) ?_
 intro a26 hF25; clear hF23
 refine wpList_nil (thenN ?_)
 refine wp_ret ?_
 obtain rfl:=Option.some.inj hm22
 refine ev_ret hF25 [2] (.iface 159 (.agg #[])) rfl rfl rfl ?_
 exact ⟨rfl,hS24⟩
def store_force.l1b (c0x:Int) (c0y:Int) (c0z:Int) (k:Nat) (L12:List Gn) (s13:HSt) (rec54:List Int→Int→Option (List Gn×HSt)) (L49:List Int) (x51:Int):Option (List Gn×HSt):=(if (decide (x51<(L12.length:Int))) then (if (inR x51 L12.length) then bind1 (store_of.m k ((atG L12 x51).kind) ((atG L12 x51).at') ((atG L12 x51).kept)) fun o93=>optE o93 (rec54 L49 (IntKind.i64.wrap (x51+1))) fun q118=>sumE q118 (fun q120=>bind1 (pushM L49 q120) fun L143=>rec54 L143 (IntKind.i64.wrap (x51+1))) fun q121=>rec54 L49 (IntKind.i64.wrap (x51+1)) else none) else bind2 (pBegin s13 L49) fun x184 s185=>bind2 (store_spin.m k s185 c0x c0y c0z) fun L197 s198=>bind1 (appX L12 L197) fun L212=>some (L212,s198))
def store_force.l1 (c0x:Int) (c0y:Int) (c0z:Int) (k:Nat) (L12:List Gn) (s13:HSt):Nat→List Int→Int→Option (List Gn×HSt)
  | 0=>fun _ _=>none
  | kI+1=>store_force.l1b c0x c0y c0z k L12 s13 (store_force.l1 c0x c0y c0z k L12 s13 kI)
def store_force.m (k:Nat) (s0:HSt) (c0x:Int) (c0y:Int) (c0z:Int) (L1:List Int):Option (List Gn×HSt):=bind2 (store_spin.m k s0 c0x c0y c0z) fun L12 s13=>bind1 (appM [] L1) fun L33=>store_force.l1 c0x c0y c0z k L12 s13 k L33 0
theorem store_force.ok {w0 w:World} {F0:List Nat} {ps:List Piece} {k:Nat} {bb0 b0 ab0:Nat} {s0:HSt} {c0x c0y c0z:Int} {v1:Value} {L1:List Int} {r0:List Gn} {t0:HSt} (hS:St w0 F0 (BlkP bb0 111 #[nP b0 0,nI c0x,nI c0y,nI c0z]::HeapP b0 ab0 s0::RowP (v1) L1::ps) w) (hm:store_force.m k s0 c0x c0y c0z L1=some (r0,t0)) :
    Calls Try.prog 75 #[nP bb0 0,v1] w fun e w'=>∃ vr0,e=.returned (vr0)∧St w0 F0 (BlkP bb0 111 #[nP b0 0,nI c0x,nI c0y,nI c0z]::HeapP b0 ab0 t0::RowP (v1) L1::GonesP vr0 r0::ps) w':=by
 refine ev_enterL 44 [nP bb0 0,v1] Try.func75 rfl rfl (by simp) ?_
 intro a hF
 have hF0:Fr 44 a [(0,nP bb0 0),(1,v1)]:=hF; clear hF
 unfold store_force.m at hm
 obtain ⟨hl4,p1,c2,rfl,hp3⟩:=St.shape hS 2 rfl
 refine wp_seq (wp_region_lit ?_)
 have hS6:St w0 F0 (GonesP (.slice none 0 0) []::BlkP bb0 111 #[nP b0 0,nI c0x,nI c0y,nI c0z]::HeapP b0 ab0 s0::RowP (.slice p1 L1.length c2) L1::ps) w:=St.nilG hS
 refine ev_runK 1 hF0 [0,1] (l':=[(0,nP bb0 0),(1,.slice p1 L1.length c2)]) (w':=w) (by kernel_rfl) ?_
 intro a8 hF7; clear hF0
 refine wpList_nil ?_
 have hS9:=hS6.drop
 clear hS6
 refine thenN (wp_seq (wp_region_lit ?_))
 refine ev_runs 1 hF7 (l':=[(11,nP bb0 0),(0,nP bb0 0),(1,.slice p1 L1.length c2)]) (w':=w) (by kernel_rfl) ?_
 intro a11 hF10; clear hF7
 refine ev_call 91 #[nP bb0 0] hF10 rfl rfl (by kernel_rfl) rfl (by kernel_rfl) (fun w=>by kernel_rfl) ?_
 obtain ⟨L12,s13,hx14,hm15⟩:=bind2E hm; clear hm
 refine (store_spin.ok hS9 hx14).mono ?_
 rintro _ w16 ⟨z20,rfl,hS18⟩ a17 hF19; clear hF10 hS9
 obtain ⟨hl25,p22,c23,rfl,hp24⟩:=St.shapeG (k:=2) hS18 rfl
 refine ev_runK 1 hF19 [0,1,5] (l':=[(5,.slice p22 L12.length c23),(0,nP bb0 0),(1,.slice p1 L1.length c2)]) (w':=w16) (by kernel_rfl) ?_
 intro a27 hF26; clear hF19
 refine wpList_nil (thenN (wp_seq (wp_region_lit ?_)))
 refine ev_runs 1 hF26 (l':=[(13,.slice p1 L1.length c2),(5,.slice p22 L12.length c23),(0,nP bb0 0),(1,.slice p1 L1.length c2)]) (w':=w16) (by kernel_rfl) ?_
 intro a29 hF28; clear hF26
 have hS31:St w0 F0 (RowP (.slice none 0 0) []::BlkP bb0 111 #[nP b0 0,nI c0x,nI c0y,nI c0z]::HeapP b0 ab0 s13::GonesP (.slice p22 L12.length c23) L12::RowP (.slice p1 L1.length c2) L1::ps) w16:=St.nil hS18
 clear hS18
 have hS32:=hS31.pick4.pick1
 clear hS31
 obtain ⟨L33,hx34,hm35⟩:=bind1E hm15; clear hm15
 refine ev_appM 22 rfl 14 (.const (.slice none 0 0)) (.tmp 13) hF28 rfl rfl (by kernel_rfl) rfl rfl rfl rfl rfl hS32 hx34 ?_
 intro v36 w37 a38 hS39 hF40; clear hF28 hS32
 obtain ⟨hl44,p41,c42,rfl,hp43⟩:=St.shape hS39 0 rfl
 refine ev_runK 1 hF40 [0,5,6] (l':=[(6,.slice p41 L33.length c42),(5,.slice p22 L12.length c23),(0,nP bb0 0)]) (w':=w37) (by kernel_rfl) ?_
 intro a46 hF45; clear hF40
 refine wpList_nil (thenN (wp_seq (wp_seq (wp_region_lit ?_))))
 refine ev_runs 3 hF45 (l':=[(17,nI 0),(16,nI ((L12.length:Int))),(15,.slice p22 L12.length c23),(6,.slice p41 L33.length c42),(5,.slice p22 L12.length c23),(0,nP bb0 0)]) (w':=w37) (by kernel_rfl) ?_
 intro a48 hF47; clear hF45
 refine wpList_nil (thenN ?_)
 refine wp_block ?_
 refine wp_loop_ghost (fun kI aI wI=>∃ (v50:Value) (L49:List Int) (x51:Int),Fr 44 aI [(17,nI x51),(16,nI ((L12.length:Int))),(15,.slice p22 L12.length c23),(6,v50),(5,.slice p22 L12.length c23),(0,nP bb0 0)]∧St w0 F0 (RowP (v50) L49::RowP (.slice p1 L1.length c2) L1::BlkP bb0 111 #[nP b0 0,nI c0x,nI c0y,nI c0z]::HeapP b0 ab0 s13::GonesP (.slice p22 L12.length c23) L12::ps) wI∧store_force.l1 c0x c0y c0z k L12 s13 kI L49 x51=some (r0,t0)) k ⟨.slice p41 L33.length c42,L33,0,hF47,hS39,hm35⟩ ?_
 rintro k52 a53 w54 ⟨v50,L49,x51,hF55,hS56,hm57⟩
 clear hF47 hS39 hm35
 rcases k52 with _ | k52
 · cases hm57
 have hm58:store_force.l1b c0x c0y c0z k L12 s13 (store_force.l1 c0x c0y c0z k L12 s13 k52) L49 x51=some (r0,t0):=hm57
 clear hm57
 unfold store_force.l1b at hm58
 obtain ⟨hl62,p59,c60,rfl,hp61⟩:=St.shape hS56 0 rfl
 refine wp_seq (wp_region_lit ?_)
 refine ev_runs 1 hF55 (l':=[(18,.bool (decide (x51<(L12.length:Int)))),(17,nI x51),(16,nI ((L12.length:Int))),(15,.slice p22 L12.length c23),(6,.slice p59 L49.length c60),(5,.slice p22 L12.length c23),(0,nP bb0 0)]) (w':=w54) (by kernel_rfl) ?_
 intro a64 hF63; clear hF55
 refine wpList_nil (thenN (wp_seq ?_))
 cases hc65:(decide (x51<(L12.length:Int)))
 case true =>
  rw [hc65] at hF63
  have hm66:=ifYes hc65 hm58; clear hm58
  refine ev_condT hF63 rfl rfl ?_
  refine wp_skip ?_
  have hF67:=hF63.keep [0,5,6,15,16,17]
  clear hF63
  refine thenN (wp_seq ?_)
  refine wp_block ?_
  refine wp_seq (wp_region_lit ?_)
  obtain ⟨hc68,hm69⟩:=ifTE hm66; clear hm66
  obtain ⟨g70,rfl⟩:=hp24.resolve_left (by have:=inR_spec hc68; omega)
  refine ev_one (nP g70 ((x51.toNat * 4))) w54 hF67 (by kernel_rfl) rfl (by kernel_rfl) (run_idxX rfl rfl (by kernel_rfl) rfl rfl (inR_spec hc68).1 (inR_spec hc68).2 _) (l':=[(19,nP g70 ((x51.toNat * 4))),(17,nI x51),(16,nI ((L12.length:Int))),(15,.slice (some ⟨g70,0,none⟩) L12.length c23),(6,.slice p59 L49.length c60),(5,.slice (some ⟨g70,0,none⟩) L12.length c23),(0,nP bb0 0)]) (by kernel_rfl) ?_
  intro a72 hF71; clear hF67
  obtain ⟨vv73,hv74,hv75⟩:=St.atG (k:=4) hS56 rfl hc68
  refine ev_one (.agg #[nI ((atG L12 x51).kind),nI ((atG L12 x51).at'),vv73,.bool ((atG L12 x51).kept)]) w54 hF71 (by kernel_rfl) rfl (by kernel_rfl) (run_loadV rfl rfl (run_loadA (cs:=[nI ((atG L12 x51).kind),nI ((atG L12 x51).at'),vv73,.bool ((atG L12 x51).kept)]) rfl rfl (by kernel_rfl) hv75)) (l':=[(20,.agg #[nI ((atG L12 x51).kind),nI ((atG L12 x51).at'),vv73,.bool ((atG L12 x51).kept)]),(19,nP g70 ((x51.toNat * 4))),(17,nI x51),(16,nI ((L12.length:Int))),(15,.slice (some ⟨g70,0,none⟩) L12.length c23),(6,.slice p59 L49.length c60),(5,.slice (some ⟨g70,0,none⟩) L12.length c23),(0,nP bb0 0)]) (by kernel_rfl) ?_
  intro a77 hF76; clear hF71
  refine ev_runs 1 hF76 (l':=[(8,nB w54),(20,.agg #[nI ((atG L12 x51).kind),nI ((atG L12 x51).at'),vv73,.bool ((atG L12 x51).kept)]),(19,nP g70 ((x51.toNat * 4))),(17,nI x51),(16,nI ((L12.length:Int))),(15,.slice (some ⟨g70,0,none⟩) L12.length c23),(6,.slice p59 L49.length c60),(5,.slice (some ⟨g70,0,none⟩) L12.length c23),(0,nP bb0 0)]) (w':=w54.alloc (.cells #[nI 0,nI 0,.slice none 0 0,.bool false] 141)) (by kernel_rfl) ?_
  intro a79 hF78; clear hF76
  have hS81:St w0 F0 (BlkP (w54.heap.size) 141 #[nI 0,nI 0,.slice none 0 0,.bool false]::RowP (.slice p59 L49.length c60) L49::RowP (.slice p1 L1.length c2) L1::BlkP bb0 111 #[nP b0 0,nI c0x,nI c0y,nI c0z]::HeapP b0 ab0 s13::GonesP (.slice (some ⟨g70,0,none⟩) L12.length c23) L12::ps) (w54.alloc (.cells #[nI 0,nI 0,.slice none 0 0,.bool false] 141)):=St.new hS56 #[nI 0,nI 0,.slice none 0 0,.bool false] 141
  clear hS56
  have hS83:St w0 F0 (RowP (.slice none 0 0) []::BlkP (w54.heap.size) 141 #[nI 0,nI 0,.slice none 0 0,.bool false]::RowP (.slice p59 L49.length c60) L49::RowP (.slice p1 L1.length c2) L1::BlkP bb0 111 #[nP b0 0,nI c0x,nI c0y,nI c0z]::HeapP b0 ab0 s13::GonesP (.slice (some ⟨g70,0,none⟩) L12.length c23) L12::ps) (w54.alloc (.cells #[nI 0,nI 0,.slice none 0 0,.bool false] 141)):=St.nil hS81
  clear hS81
  have hS84:=hS83.pick1
  clear hS83
  refine ev_store (.agg #[nI ((atG L12 x51).kind),nI ((atG L12 x51).at'),vv73,.bool ((atG L12 x51).kept)]) #[nI ((atG L12 x51).kind),nI ((atG L12 x51).at'),vv73,.bool ((atG L12 x51).kept)] hF78 (by kernel_rfl) rfl rfl rfl rfl (by kernel_rfl) hS84 (by kernel_rfl) (by show (true && (true && (flatV vv73 && (true && true))))=true; rw [hv74]; rfl) (by kernel_rfl) (l':=[(8,nB w54),(20,.agg #[nI ((atG L12 x51).kind),nI ((atG L12 x51).at'),vv73,.bool ((atG L12 x51).kept)]),(19,nP g70 ((x51.toNat * 4))),(17,nI x51),(16,nI ((L12.length:Int))),(15,.slice (some ⟨g70,0,none⟩) L12.length c23),(6,.slice p59 L49.length c60),(5,.slice (some ⟨g70,0,none⟩) L12.length c23),(0,nP bb0 0)]) (by kernel_rfl) ?_
  intro w85 a86 hS87 hF88; clear hF78 hS84
  refine wpList_nil ?_
  have hF89:=hF88.keep [0,5,6,8,15,16,17]
  clear hF88
  have hS90:=hS87.pick1.drop
  clear hS87
  refine thenN (wp_seq (wp_region_lit ?_))
  refine ev_one (.agg #[nI ((atG L12 x51).kind),nI ((atG L12 x51).at'),vv73,.bool ((atG L12 x51).kept)]) w85 hF89 (by kernel_rfl) rfl (by kernel_rfl) (run_loadV rfl rfl (run_loadA (cs:=[nI ((atG L12 x51).kind),nI ((atG L12 x51).at'),vv73,.bool ((atG L12 x51).kept)]) rfl rfl (by kernel_rfl) (blk_cells hS90 0 rfl rfl))) (l':=[(22,.agg #[nI ((atG L12 x51).kind),nI ((atG L12 x51).at'),vv73,.bool ((atG L12 x51).kept)]),(8,nB w54),(17,nI x51),(16,nI ((L12.length:Int))),(15,.slice (some ⟨g70,0,none⟩) L12.length c23),(6,.slice p59 L49.length c60),(5,.slice (some ⟨g70,0,none⟩) L12.length c23),(0,nP bb0 0)]) (by kernel_rfl) ?_
  intro a92 hF91; clear hF89
  refine ev_call 92 #[.agg #[nI ((atG L12 x51).kind),nI ((atG L12 x51).at'),vv73,.bool ((atG L12 x51).kept)]] hF91 rfl rfl (by kernel_rfl) rfl (by kernel_rfl) (fun w=>by kernel_rfl) ?_
  obtain ⟨o93,hx94,hm95⟩:=bind1E hm69; clear hm69
  refine (store_of.ok hS90 hx94).mono ?_
  rintro _ w96 ⟨rfl,hS98⟩ a97 hF99; clear hF91 hS90
  cases o93 with
  | none =>
   have hm100:=optN hm95; clear hm95
   refine ev_runs 5 hF99 (l':=[(9,nB w96),(26,.bool false),(25,.agg #[nI 0]),(21,.tuple #[.agg #[nI 0],.bool false]),(24,.tuple #[.agg #[nI 0],.bool false]),(23,.nilIface),(22,.agg #[nI ((atG L12 x51).kind),nI ((atG L12 x51).at'),vv73,.bool ((atG L12 x51).kept)]),(8,nB w54),(17,nI x51),(16,nI ((L12.length:Int))),(15,.slice (some ⟨g70,0,none⟩) L12.length c23),(6,.slice p59 L49.length c60),(5,.slice (some ⟨g70,0,none⟩) L12.length c23),(0,nP bb0 0)]) (w':=w96.alloc (.cells #[nI 0] 143)) (by kernel_rfl) ?_
   intro a102 hF101; clear hF99
   have hS104:St w0 F0 (BlkP (w96.heap.size) 143 #[nI 0]::BlkP (w54.heap.size) 141 #[nI ((atG L12 x51).kind),nI ((atG L12 x51).at'),vv73,.bool ((atG L12 x51).kept)]::RowP (.slice p59 L49.length c60) L49::RowP (.slice p1 L1.length c2) L1::BlkP bb0 111 #[nP b0 0,nI c0x,nI c0y,nI c0z]::HeapP b0 ab0 s13::GonesP (.slice (some ⟨g70,0,none⟩) L12.length c23) L12::ps) (w96.alloc (.cells #[nI 0] 143)):=St.new hS98 #[nI 0] 143
   clear hS98
   refine ev_store (.agg #[nI 0]) #[nI 0] hF101 (by kernel_rfl) rfl rfl rfl rfl (by kernel_rfl) hS104 (by kernel_rfl) (by kernel_rfl) (by kernel_rfl) (l':=[(9,nB w96),(26,.bool false),(25,.agg #[nI 0]),(21,.tuple #[.agg #[nI 0],.bool false]),(24,.tuple #[.agg #[nI 0],.bool false]),(23,.nilIface),(22,.agg #[nI ((atG L12 x51).kind),nI ((atG L12 x51).at'),vv73,.bool ((atG L12 x51).kept)]),(8,nB w54),(17,nI x51),(16,nI ((L12.length:Int))),(15,.slice (some ⟨g70,0,none⟩) L12.length c23),(6,.slice p59 L49.length c60),(5,.slice (some ⟨g70,0,none⟩) L12.length c23),(0,nP bb0 0)]) (by kernel_rfl) ?_
   intro w105 a106 hS107 hF108; clear hF101 hS104
   refine ev_runK 1 hF108 [0,5,6,9,10,15,16,17] (l':=[(10,.bool false),(9,nB w96),(17,nI x51),(16,nI ((L12.length:Int))),(15,.slice (some ⟨g70,0,none⟩) L12.length c23),(6,.slice p59 L49.length c60),(5,.slice (some ⟨g70,0,none⟩) L12.length c23),(0,nP bb0 0)]) (w':=w105) (by kernel_rfl) ?_
   intro a110 hF109; clear hF108
   refine wpList_nil ?_
   have hS111:=hS107.pick1.drop
   clear hS107
   refine thenN (wp_seq (wp_region_lit ?_))
   refine ev_runK 1 hF109 [0,5,6,9,15,16,17,27] (l':=[(27,.bool false),(9,nB w96),(17,nI x51),(16,nI ((L12.length:Int))),(15,.slice (some ⟨g70,0,none⟩) L12.length c23),(6,.slice p59 L49.length c60),(5,.slice (some ⟨g70,0,none⟩) L12.length c23),(0,nP bb0 0)]) (w':=w105) (by kernel_rfl) ?_
   intro a113 hF112; clear hF109
   refine wpList_nil (thenN ?_)
   refine ev_condF hF112 rfl rfl ?_
   refine wp_skip ?_
   have hF114:=hF112.keep [0,5,6,15,16,17]
   clear hF112
   have hS115:=hS111.drop
   clear hS111
   refine blockN ?_
   refine thenN (wp_region_lit ?_)
   refine ev_runK 2 hF114 [0,5,6,15,16,17] (l':=[(17,nI (IntKind.i64.wrap (x51+1))),(16,nI ((L12.length:Int))),(15,.slice (some ⟨g70,0,none⟩) L12.length c23),(6,.slice p59 L49.length c60),(5,.slice (some ⟨g70,0,none⟩) L12.length c23),(0,nP bb0 0)]) (w':=w105) (by kernel_rfl) ?_
   intro a117 hF116; clear hF114
   refine wpList_nil ?_
   exact thenN ⟨k52,Nat.lt_succ_self _,.slice p59 L49.length c60,L49,IntKind.i64.wrap (x51+1),hF116,hS115,hm100⟩
  | some q118 =>
   have hm119:=optS hm95; clear hm95
   cases q118 with
   | inl q120 =>
    have hm122:=sumL hm119; clear hm119
    refine ev_runs 5 hF99 (l':=[(9,nB w96),(26,.bool true),(25,.agg #[nI q120]),(21,.tuple #[.agg #[nI q120],.bool true]),(24,.tuple #[.agg #[nI q120],.bool true]),(23,.iface 143 (.agg #[nI q120])),(22,.agg #[nI ((atG L12 x51).kind),nI ((atG L12 x51).at'),vv73,.bool ((atG L12 x51).kept)]),(8,nB w54),(17,nI x51),(16,nI ((L12.length:Int))),(15,.slice (some ⟨g70,0,none⟩) L12.length c23),(6,.slice p59 L49.length c60),(5,.slice (some ⟨g70,0,none⟩) L12.length c23),(0,nP bb0 0)]) (w':=w96.alloc (.cells #[nI 0] 143)) (by kernel_rfl) ?_
    intro a124 hF123; clear hF99
    have hS126:St w0 F0 (BlkP (w96.heap.size) 143 #[nI 0]::BlkP (w54.heap.size) 141 #[nI ((atG L12 x51).kind),nI ((atG L12 x51).at'),vv73,.bool ((atG L12 x51).kept)]::RowP (.slice p59 L49.length c60) L49::RowP (.slice p1 L1.length c2) L1::BlkP bb0 111 #[nP b0 0,nI c0x,nI c0y,nI c0z]::HeapP b0 ab0 s13::GonesP (.slice (some ⟨g70,0,none⟩) L12.length c23) L12::ps) (w96.alloc (.cells #[nI 0] 143)):=St.new hS98 #[nI 0] 143
    clear hS98
    refine ev_store (.agg #[nI q120]) #[nI q120] hF123 (by kernel_rfl) rfl rfl rfl rfl (by kernel_rfl) hS126 (by kernel_rfl) (by kernel_rfl) (by kernel_rfl) (l':=[(9,nB w96),(26,.bool true),(25,.agg #[nI q120]),(21,.tuple #[.agg #[nI q120],.bool true]),(24,.tuple #[.agg #[nI q120],.bool true]),(23,.iface 143 (.agg #[nI q120])),(22,.agg #[nI ((atG L12 x51).kind),nI ((atG L12 x51).at'),vv73,.bool ((atG L12 x51).kept)]),(8,nB w54),(17,nI x51),(16,nI ((L12.length:Int))),(15,.slice (some ⟨g70,0,none⟩) L12.length c23),(6,.slice p59 L49.length c60),(5,.slice (some ⟨g70,0,none⟩) L12.length c23),(0,nP bb0 0)]) (by kernel_rfl) ?_
    intro w127 a128 hS129 hF130; clear hF123 hS126
    refine ev_runK 1 hF130 [0,5,6,9,10,15,16,17] (l':=[(10,.bool true),(9,nB w96),(17,nI x51),(16,nI ((L12.length:Int))),(15,.slice (some ⟨g70,0,none⟩) L12.length c23),(6,.slice p59 L49.length c60),(5,.slice (some ⟨g70,0,none⟩) L12.length c23),(0,nP bb0 0)]) (w':=w127) (by kernel_rfl) ?_
    intro a132 hF131; clear hF130
    refine wpList_nil ?_
    have hS133:=hS129.pick1.drop
    clear hS129
    refine thenN (wp_seq (wp_region_lit ?_))
    refine ev_runK 1 hF131 [0,5,6,9,15,16,17,27] (l':=[(27,.bool true),(9,nB w96),(17,nI x51),(16,nI ((L12.length:Int))),(15,.slice (some ⟨g70,0,none⟩) L12.length c23),(6,.slice p59 L49.length c60),(5,.slice (some ⟨g70,0,none⟩) L12.length c23),(0,nP bb0 0)]) (w':=w127) (by kernel_rfl) ?_
    intro a135 hF134; clear hF131
    refine wpList_nil (thenN ?_)
    refine ev_condT hF134 rfl rfl ?_
    refine wp_region_lit ?_
    refine ev_runs 2 hF134 (l':=[(29,nB w96),(28,.slice p59 L49.length c60),(27,.bool true),(9,nB w96),(17,nI x51),(16,nI ((L12.length:Int))),(15,.slice (some ⟨g70,0,none⟩) L12.length c23),(6,.slice p59 L49.length c60),(5,.slice (some ⟨g70,0,none⟩) L12.length c23),(0,nP bb0 0)]) (w':=w127) (by kernel_rfl) ?_
    intro a137 hF136; clear hF134
    refine ev_one (nI q120) w127 hF136 (by kernel_rfl) rfl (by kernel_rfl) (run_loadV rfl rfl (run_loadS rfl rfl (hS133.cell 0 rfl 0 rfl))) (l':=[(30,nI q120),(29,nB w96),(28,.slice p59 L49.length c60),(27,.bool true),(9,nB w96),(17,nI x51),(16,nI ((L12.length:Int))),(15,.slice (some ⟨g70,0,none⟩) L12.length c23),(6,.slice p59 L49.length c60),(5,.slice (some ⟨g70,0,none⟩) L12.length c23),(0,nP bb0 0)]) (by kernel_rfl) ?_
    intro a139 hF138; clear hF136
    refine ev_runs 1 hF138 (l':=[(31,.slice (some ⟨w127.heap.size,0,none⟩) 1 1),(30,nI q120),(29,nB w96),(28,.slice p59 L49.length c60),(27,.bool true),(9,nB w96),(17,nI x51),(16,nI ((L12.length:Int))),(15,.slice (some ⟨g70,0,none⟩) L12.length c23),(6,.slice p59 L49.length c60),(5,.slice (some ⟨g70,0,none⟩) L12.length c23),(0,nP bb0 0)]) (w':=w127.alloc (.cells #[nI q120] 3)) (by kernel_rfl) ?_
    intro a141 hF140; clear hF138
    have hS142:=hS133.pick1
    clear hS133
    obtain ⟨L143,hx144,hm145⟩:=bind1E hm122; clear hm122
    refine ev_push 32 (.tmp 28) (.tmp 31) hF140 rfl rfl rfl rfl rfl rfl rfl rfl hS142 hx144 ?_
    intro g146 c147 w148 a149 hS150 hF151; clear hF140 hS142
    refine ev_runK 1 hF151 [0,5,6,15,16,17] (l':=[(6,nS g146 L143 c147),(17,nI x51),(16,nI ((L12.length:Int))),(15,.slice (some ⟨g70,0,none⟩) L12.length c23),(5,.slice (some ⟨g70,0,none⟩) L12.length c23),(0,nP bb0 0)]) (w':=w148) (by kernel_rfl) ?_
    intro a153 hF152; clear hF151
    refine wpList_nil ?_
    have hS154:=hS150.pick1.drop
    clear hS150
    refine blockN ?_
    refine thenN (wp_region_lit ?_)
    refine ev_runK 2 hF152 [0,5,6,15,16,17] (l':=[(17,nI (IntKind.i64.wrap (x51+1))),(6,nS g146 L143 c147),(16,nI ((L12.length:Int))),(15,.slice (some ⟨g70,0,none⟩) L12.length c23),(5,.slice (some ⟨g70,0,none⟩) L12.length c23),(0,nP bb0 0)]) (w':=w148) (by kernel_rfl) ?_
    intro a156 hF155; clear hF152
    refine wpList_nil ?_
    have hF157:Fr 44 a156 [(17,nI (IntKind.i64.wrap (x51+1))),(16,nI ((L12.length:Int))),(15,.slice (some ⟨g70,0,none⟩) L12.length c23),(6,nS g146 L143 c147),(5,.slice (some ⟨g70,0,none⟩) L12.length c23),(0,nP bb0 0)]:=Fr.re hF155 (by kernel_rfl)
    clear hF155
    exact thenN ⟨k52,Nat.lt_succ_self _,nS g146 L143 c147,L143,IntKind.i64.wrap (x51+1),hF157,hS154,hm145⟩
   | inr q121 =>
    have hm158:=sumR hm119; clear hm119
    refine ev_runs 5 hF99 (l':=[(9,nB w96),(26,.bool false),(25,.agg #[nI 0]),(21,.tuple #[.agg #[nI 0],.bool false]),(24,.tuple #[.agg #[nI 0],.bool false]),(23,.iface 159 (.agg #[])),(22,.agg #[nI ((atG L12 x51).kind),nI ((atG L12 x51).at'),vv73,.bool ((atG L12 x51).kept)]),(8,nB w54),(17,nI x51),(16,nI ((L12.length:Int))),(15,.slice (some ⟨g70,0,none⟩) L12.length c23),(6,.slice p59 L49.length c60),(5,.slice (some ⟨g70,0,none⟩) L12.length c23),(0,nP bb0 0)]) (w':=w96.alloc (.cells #[nI 0] 143)) (by kernel_rfl) ?_
    intro a160 hF159; clear hF99
    have hS162:St w0 F0 (BlkP (w96.heap.size) 143 #[nI 0]::BlkP (w54.heap.size) 141 #[nI ((atG L12 x51).kind),nI ((atG L12 x51).at'),vv73,.bool ((atG L12 x51).kept)]::RowP (.slice p59 L49.length c60) L49::RowP (.slice p1 L1.length c2) L1::BlkP bb0 111 #[nP b0 0,nI c0x,nI c0y,nI c0z]::HeapP b0 ab0 s13::GonesP (.slice (some ⟨g70,0,none⟩) L12.length c23) L12::ps) (w96.alloc (.cells #[nI 0] 143)):=St.new hS98 #[nI 0] 143
    clear hS98
    refine ev_store (.agg #[nI 0]) #[nI 0] hF159 (by kernel_rfl) rfl rfl rfl rfl (by kernel_rfl) hS162 (by kernel_rfl) (by kernel_rfl) (by kernel_rfl) (l':=[(9,nB w96),(26,.bool false),(25,.agg #[nI 0]),(21,.tuple #[.agg #[nI 0],.bool false]),(24,.tuple #[.agg #[nI 0],.bool false]),(23,.iface 159 (.agg #[])),(22,.agg #[nI ((atG L12 x51).kind),nI ((atG L12 x51).at'),vv73,.bool ((atG L12 x51).kept)]),(8,nB w54),(17,nI x51),(16,nI ((L12.length:Int))),(15,.slice (some ⟨g70,0,none⟩) L12.length c23),(6,.slice p59 L49.length c60),(5,.slice (some ⟨g70,0,none⟩) L12.length c23),(0,nP bb0 0)]) (by kernel_rfl) ?_
    intro w163 a164 hS165 hF166; clear hF159 hS162
    refine ev_runK 1 hF166 [0,5,6,9,10,15,16,17] (l':=[(10,.bool false),(9,nB w96),(17,nI x51),(16,nI ((L12.length:Int))),(15,.slice (some ⟨g70,0,none⟩) L12.length c23),(6,.slice p59 L49.length c60),(5,.slice (some ⟨g70,0,none⟩) L12.length c23),(0,nP bb0 0)]) (w':=w163) (by kernel_rfl) ?_
    intro a168 hF167; clear hF166
    refine wpList_nil ?_
    have hS169:=hS165.pick1.drop
    clear hS165
    refine thenN (wp_seq (wp_region_lit ?_))
    refine ev_runK 1 hF167 [0,5,6,9,15,16,17,27] (l':=[(27,.bool false),(9,nB w96),(17,nI x51),(16,nI ((L12.length:Int))),(15,.slice (some ⟨g70,0,none⟩) L12.length c23),(6,.slice p59 L49.length c60),(5,.slice (some ⟨g70,0,none⟩) L12.length c23),(0,nP bb0 0)]) (w':=w163) (by kernel_rfl) ?_
    intro a171 hF170; clear hF167
    refine wpList_nil (thenN ?_)
    refine ev_condF hF170 rfl rfl ?_
    refine wp_skip ?_
    have hF172:=hF170.keep [0,5,6,15,16,17]
    clear hF170
    have hS173:=hS169.drop
    clear hS169
    refine blockN ?_
    refine thenN (wp_region_lit ?_)
    refine ev_runK 2 hF172 [0,5,6,15,16,17] (l':=[(17,nI (IntKind.i64.wrap (x51+1))),(16,nI ((L12.length:Int))),(15,.slice (some ⟨g70,0,none⟩) L12.length c23),(6,.slice p59 L49.length c60),(5,.slice (some ⟨g70,0,none⟩) L12.length c23),(0,nP bb0 0)]) (w':=w163) (by kernel_rfl) ?_
    intro a175 hF174; clear hF172
    refine wpList_nil ?_
    exact thenN ⟨k52,Nat.lt_succ_self _,.slice p59 L49.length c60,L49,IntKind.i64.wrap (x51+1),hF174,hS173,hm158⟩
 rw [hc65] at hF63
 have hm176:=ifNot hc65 hm58; clear hm58
 refine ev_condF hF63 rfl rfl ?_
 refine wp_exit ?_
 refine thenE ?_
 refine thenE ?_
 refine blockE ?_
 refine thenN (wp_seq (wp_region_lit ?_))
 refine ev_runs 3 hF63 (l':=[(36,nP bb0 0),(35,nP bb0 0),(34,nP bb0 0),(18,.bool false),(17,nI x51),(16,nI ((L12.length:Int))),(15,.slice p22 L12.length c23),(6,.slice p59 L49.length c60),(5,.slice p22 L12.length c23),(0,nP bb0 0)]) (w':=w54) (by kernel_rfl) ?_
 intro a178 hF177; clear hF63
 refine ev_one (nP b0 0) w54 hF177 (by kernel_rfl) rfl (by kernel_rfl) (run_loadV rfl rfl (run_loadS rfl rfl (hS56.cell 2 rfl 0 rfl))) (l':=[(37,nP b0 0),(36,nP bb0 0),(35,nP bb0 0),(34,nP bb0 0),(18,.bool false),(17,nI x51),(16,nI ((L12.length:Int))),(15,.slice p22 L12.length c23),(6,.slice p59 L49.length c60),(5,.slice p22 L12.length c23),(0,nP bb0 0)]) (by kernel_rfl) ?_
 intro a180 hF179; clear hF177
 refine ev_runs 1 hF179 (l':=[(38,.slice p59 L49.length c60),(37,nP b0 0),(36,nP bb0 0),(35,nP bb0 0),(34,nP bb0 0),(18,.bool false),(17,nI x51),(16,nI ((L12.length:Int))),(15,.slice p22 L12.length c23),(6,.slice p59 L49.length c60),(5,.slice p22 L12.length c23),(0,nP bb0 0)]) (w':=w54) (by kernel_rfl) ?_
 intro a182 hF181; clear hF179
 have hS183:=hS56.pick3
 clear hS56
 refine ev_call 73 #[nP b0 0,.slice p59 L49.length c60] hF181 rfl rfl (by kernel_rfl) rfl (by kernel_rfl) (fun w=>by kernel_rfl) ?_
 obtain ⟨x184,s185,hx186,hm187⟩:=bind2E hm176; clear hm176
 refine (p_Begin hS183 hx186).mono ?_
 rintro _ w188 ⟨rfl,hS190⟩ a189 hF191; clear hF181 hS183
 refine wpList_nil ?_
 have hF192:=hF191.keep [0,5]
 clear hF191
 have hS193:=hS190.pick1.drop
 clear hS190
 refine thenN (wp_seq (wp_region_lit ?_))
 refine ev_runs 2 hF192 (l':=[(41,nP bb0 0),(40,.slice p22 L12.length c23),(5,.slice p22 L12.length c23),(0,nP bb0 0)]) (w':=w188) (by kernel_rfl) ?_
 intro a195 hF194; clear hF192
 have hS196:=hS193.pick2
 clear hS193
 refine ev_call 91 #[nP bb0 0] hF194 rfl rfl (by kernel_rfl) rfl (by kernel_rfl) (fun w=>by kernel_rfl) ?_
 obtain ⟨L197,s198,hx199,hm200⟩:=bind2E hm187; clear hm187
 refine (store_spin.ok hS196 hx199).mono ?_
 rintro _ w201 ⟨z205,rfl,hS203⟩ a202 hF204; clear hF194 hS196
 obtain ⟨hl210,p207,c208,rfl,hp209⟩:=St.shapeG (k:=2) hS203 rfl
 have hS211:=hS203.pick2.pick4
 clear hS203
 obtain ⟨L212,hx213,hm214⟩:=bind1E hm200; clear hm200
 refine ev_appG 70 rfl 43 (.tmp 40) (.tmp 42) hF204 rfl rfl (by kernel_rfl) rfl rfl rfl rfl rfl hS211 hx213 ?_
 intro v215 w216 a217 hS218 hF219; clear hF204 hS211
 obtain ⟨hl223,p220,c221,rfl,hp222⟩:=St.shapeG (k:=0) hS218 rfl
 have hF224:=hF219.keep [0,41,43]; clear hF219
 refine ev_runK 1 hF224 [4] (l':=[(4,.slice p220 L212.length c221)]) (w':=w216) (by kernel_rfl) ?_
 intro a226 hF225; clear hF224
 refine wpList_nil (thenN ?_)
 refine wp_ret ?_
 have hS227:=hS218.pick3.pick3.pick3
 clear hS218
 simp only [Option.some.injEq,Prod.mk.injEq] at hm214
 obtain ⟨rfl,rfl⟩:=hm214
 refine ev_ret hF225 [4] (.slice p220 L212.length c221) rfl rfl rfl ?_
 exact ⟨_,rfl,hS227⟩
def store_Alloc.l3b (c0z:Int) (L133:List Int) (x170:Int) (rec186:HSt→List Gn→Int→Option (List Int×List Gn×Int×HSt)) (s180:HSt) (L181:List Gn) (x183:Int):Option (List Int×List Gn×Int×HSt):=(if (decide (x183<(IntKind.i64.wrap (c0z * x170)))) then (if (s180.ph == 0) then some (L133,L181,0,s180) else bind2 (pStep s180) fun L226 s227=>bind1 (appX L181 L226) fun L241=>rec186 s227 L241 (IntKind.i64.wrap (x183+1))) else some (L133,L181,0,s180))
def store_Alloc.l3 (c0z:Int) (L133:List Int) (x170:Int):Nat→HSt→List Gn→Int→Option (List Int×List Gn×Int×HSt)
  | 0=>fun _ _ _=>none
  | kI+1=>store_Alloc.l3b c0z L133 x170 (store_Alloc.l3 c0z L133 x170 kI)
def store_Alloc.l4b (c0z:Int) (L89:List Int) (x274:Int) (rec290:HSt→List Gn→Int→Option (List Int×List Gn×Int×HSt)) (s284:HSt) (L285:List Gn) (x287:Int):Option (List Int×List Gn×Int×HSt):=(if (decide (x287<(IntKind.i64.wrap (c0z * x274)))) then (if (s284.ph == 0) then some (L89,L285,0,s284) else bind2 (pStep s284) fun L330 s331=>bind1 (appX L285 L330) fun L345=>rec290 s331 L345 (IntKind.i64.wrap (x287+1))) else some (L89,L285,0,s284))
def store_Alloc.l4 (c0z:Int) (L89:List Int) (x274:Int):Nat→HSt→List Gn→Int→Option (List Int×List Gn×Int×HSt)
  | 0=>fun _ _ _=>none
  | kI+1=>store_Alloc.l4b c0z L89 x274 (store_Alloc.l4 c0z L89 x274 kI)
def store_Alloc.j2 (c0x:Int) (c0y:Int) (c0z:Int) (L1:List Nd) (L2:List Int) (k:Nat) (L19:List Int) (s74:HSt):Option (List Int×List Gn×Int×HSt):=bind3 (store_take.m k s74 c0x c0y c0z L1 L19) fun L89 y90 s91=>(if (!(y90)) then bind2 (store_force.m k s91 c0x c0y c0z L2) fun L113 s114=>bind3 (store_take.m k s114 c0x c0y c0z L1 L19) fun L133 y134 s135=>(if (!(y134)) then some ([],L113,9,s135) else bind1 (store_words.m k L19) fun x170=>store_Alloc.l3 c0z L133 x170 k s135 L113 0) else bind1 (store_words.m k L19) fun x274=>store_Alloc.l4 c0z L89 x274 k s91 [] 0)
def store_Alloc.j1 (s0:HSt) (c0x:Int) (c0y:Int) (c0z:Int) (L1:List Nd) (L2:List Int) (k:Nat) (L19:List Int) (y66:Bool):Option (List Int×List Gn×Int×HSt):=(if (y66) then bind2 (pBegin s0 L2) fun x381 s382=>store_Alloc.j2 c0x c0y c0z L1 L2 k L19 s382 else store_Alloc.j2 c0x c0y c0z L1 L2 k L19 s0)
def store_Alloc.m (k:Nat) (s0:HSt) (c0x:Int) (c0y:Int) (c0z:Int) (L1:List Nd) (L2:List Int):Option (List Int×List Gn×Int×HSt):=bind2 (store_sizes.m k L1) fun L19 y20=>(if (!(y20)) then some ([],[],1,s0) else (if (s0.ph == 0) then store_Alloc.j1 s0 c0x c0y c0z L1 L2 k L19 (decide ((IntKind.i64.wrap (100 * (sWords s0.a.l))) ≥ (IntKind.i64.wrap (c0y * (s0.a.c.length:Int))))) else store_Alloc.j1 s0 c0x c0y c0z L1 L2 k L19 false))
theorem store_Alloc.ok {w0 w:World} {F0:List Nat} {ps:List Piece} {k:Nat} {bb0 b0 ab0:Nat} {s0:HSt} {c0x c0y c0z:Int} {v1:Value} {L1:List Nd} {v2:Value} {L2:List Int} {r0:List Int} {r1:List Gn} {r2:Int} {t0:HSt} (hS:St w0 F0 (BlkP bb0 111 #[nP b0 0,nI c0x,nI c0y,nI c0z]::HeapP b0 ab0 s0::RowX kNd (v1) L1::RowP (v2) L2::ps) w) (hm:store_Alloc.m k s0 c0x c0y c0z L1 L2=some (r0,r1,r2,t0)) :
    Calls Try.prog 43 #[nP bb0 0,v1,v2] w fun e w'=>∃ vr0 vr1,e=.returned (.tuple #[vr0,vr1,.int .i64 r2])∧St w0 F0 (BlkP bb0 111 #[nP b0 0,nI c0x,nI c0y,nI c0z]::HeapP b0 ab0 t0::RowX kNd (v1) L1::RowP (v2) L2::RowP vr0 r0::GonesP vr1 r1::ps) w':=by
 refine ev_enterL 105 [nP bb0 0,v1,v2] Try.func43 rfl rfl (by simp) ?_
 intro a hF
 have hF0:Fr 105 a [(0,nP bb0 0),(1,v1),(2,v2)]:=hF; clear hF
 unfold store_Alloc.m at hm
 obtain ⟨hl4,p1,c2,rfl,hp3⟩:=St.shapeX hS 2 rfl
 obtain ⟨hl8,p5,c6,rfl,hp7⟩:=St.shape hS 3 rfl
 refine wp_seq (wp_region_lit ?_)
 have hS10:St w0 F0 (RowP (.slice none 0 0) []::BlkP bb0 111 #[nP b0 0,nI c0x,nI c0y,nI c0z]::HeapP b0 ab0 s0::RowX kNd (.slice p1 L1.length c2) L1::RowP (.slice p5 L2.length c6) L2::ps) w:=St.nil hS
 have hS12:St w0 F0 (GonesP (.slice none 0 0) []::RowP (.slice none 0 0) []::BlkP bb0 111 #[nP b0 0,nI c0x,nI c0y,nI c0z]::HeapP b0 ab0 s0::RowX kNd (.slice p1 L1.length c2) L1::RowP (.slice p5 L2.length c6) L2::ps) w:=St.nilG hS10
 clear hS10
 refine ev_runK 3 hF0 [0,1,2] (l':=[(0,nP bb0 0),(1,.slice p1 L1.length c2),(2,.slice p5 L2.length c6)]) (w':=w) (by kernel_rfl) ?_
 intro a14 hF13; clear hF0
 refine wpList_nil ?_
 have hS15:=hS12.drop.drop
 clear hS12
 refine thenN (wp_seq (wp_region_lit ?_))
 refine ev_runs 1 hF13 (l':=[(16,.slice p1 L1.length c2),(0,nP bb0 0),(1,.slice p1 L1.length c2),(2,.slice p5 L2.length c6)]) (w':=w) (by kernel_rfl) ?_
 intro a17 hF16; clear hF13
 have hS18:=hS15.pick2
 clear hS15
 refine ev_call 72 #[.slice p1 L1.length c2] hF16 rfl rfl (by kernel_rfl) rfl (by kernel_rfl) (fun w=>by kernel_rfl) ?_
 obtain ⟨L19,y20,hx21,hm22⟩:=bind2E hm; clear hm
 refine (store_sizes.ok hS18 hx21).mono ?_
 rintro _ w23 ⟨z27,rfl,hS25⟩ a24 hF26; clear hF16 hS18
 obtain ⟨hl32,p29,c30,rfl,hp31⟩:=St.shape hS25 1 rfl
 refine ev_runK 5 hF26 [0,1,2,9,10] (l':=[(10,.bool (y20)),(9,.slice p29 L19.length c30),(0,nP bb0 0),(1,.slice p1 L1.length c2),(2,.slice p5 L2.length c6)]) (w':=w23) (by kernel_rfl) ?_
 intro a34 hF33; clear hF26
 refine wpList_nil (thenN (wp_seq ?_))
 refine wp_block ?_
 refine wp_seq (wp_region_lit ?_)
 refine ev_runK 3 hF33 [0,1,2,9,10,20] (l':=[(20,.bool false),(10,.bool (y20)),(9,.slice p29 L19.length c30),(0,nP bb0 0),(1,.slice p1 L1.length c2),(2,.slice p5 L2.length c6)]) (w':=w23) (by kernel_rfl) ?_
 intro a36 hF35; clear hF33
 refine wpList_nil (thenN ?_)
 refine ev_condF hF35 rfl rfl ?_
 refine wp_seq (wp_region_lit ?_)
 refine ev_runK 3 hF35 [0,1,2,9,23] (l':=[(23,.bool (!(y20))),(9,.slice p29 L19.length c30),(0,nP bb0 0),(1,.slice p1 L1.length c2),(2,.slice p5 L2.length c6)]) (w':=w23) (by kernel_rfl) ?_
 intro a38 hF37; clear hF35
 refine wpList_nil (thenN ?_)
 cases hc39:(!(y20))
 case true =>
  rw [hc39] at hF37
  have hm40:=ifYes hc39 hm22; clear hm22
  refine ev_condT hF37 rfl rfl ?_
  refine wp_seq (wp_region_lit ?_)
  have hS42:St w0 F0 (RowP (.slice none 0 0) []::RowX kNd (.slice p1 L1.length c2) L1::RowP (.slice p29 L19.length c30) L19::BlkP bb0 111 #[nP b0 0,nI c0x,nI c0y,nI c0z]::HeapP b0 ab0 s0::RowP (.slice p5 L2.length c6) L2::ps) w23:=St.nil hS25
  clear hS25
  have hS44:St w0 F0 (GonesP (.slice none 0 0) []::RowP (.slice none 0 0) []::RowX kNd (.slice p1 L1.length c2) L1::RowP (.slice p29 L19.length c30) L19::BlkP bb0 111 #[nP b0 0,nI c0x,nI c0y,nI c0z]::HeapP b0 ab0 s0::RowP (.slice p5 L2.length c6) L2::ps) w23:=St.nilG hS42
  clear hS42
  refine ev_runK 3 hF37 [6,7,8] (l':=[(8,nI 1),(7,.slice none 0 0),(6,.slice none 0 0)]) (w':=w23) (by kernel_rfl) ?_
  intro a46 hF45; clear hF37
  refine wpList_nil ?_
  have hS47:=hS44.pick3.drop
  clear hS44
  refine thenN ?_
  refine wp_ret ?_
  refine blockR ?_
  refine thenR ?_
  have hS48:=hS47.pick1.pick5.pick3.pick5.pick5
  clear hS47
  simp only [Option.some.injEq,Prod.mk.injEq] at hm40
  obtain ⟨rfl,rfl,rfl,rfl⟩:=hm40
  refine ev_ret hF45 [6,7,8] (.tuple #[.slice none 0 0,.slice none 0 0,nI 1]) rfl rfl rfl ?_
  exact ⟨_,_,rfl,hS48⟩
 rw [hc39] at hF37
 have hm53:=ifNot hc39 hm22; clear hm22
 refine ev_condF hF37 rfl rfl ?_
 refine wp_skip ?_
 have hF54:=hF37.keep [0,1,2,9]
 clear hF37
 refine blockN ?_
 refine thenN (wp_seq (wp_seq (wp_region_lit ?_)))
 refine ev_runs 3 hF54 (l':=[(28,nP bb0 0),(27,nP bb0 0),(26,nP bb0 0),(9,.slice p29 L19.length c30),(0,nP bb0 0),(1,.slice p1 L1.length c2),(2,.slice p5 L2.length c6)]) (w':=w23) (by kernel_rfl) ?_
 intro a56 hF55; clear hF54
 refine ev_one (nP b0 0) w23 hF55 (by kernel_rfl) rfl (by kernel_rfl) (run_loadV rfl rfl (run_loadS rfl rfl (hS25.cell 2 rfl 0 rfl))) (l':=[(29,nP b0 0),(28,nP bb0 0),(27,nP bb0 0),(26,nP bb0 0),(9,.slice p29 L19.length c30),(0,nP bb0 0),(1,.slice p1 L1.length c2),(2,.slice p5 L2.length c6)]) (by kernel_rfl) ?_
 intro a58 hF57; clear hF55
 have hS59:=hS25.pick3
 clear hS25
 refine ev_call 45 #[nP b0 0] hF57 rfl rfl (by kernel_rfl) rfl (by kernel_rfl) (fun w=>by kernel_rfl) ?_
 refine (p_Arena hS59).mono ?_
 rintro _ w60 ⟨rfl,hS62⟩ a61 hF63; clear hF57 hS59
 refine ev_runK 1 hF63 [0,1,2,9,11] (l':=[(11,nP ab0 0),(9,.slice p29 L19.length c30),(0,nP bb0 0),(1,.slice p1 L1.length c2),(2,.slice p5 L2.length c6)]) (w':=w60) (by kernel_rfl) ?_
 intro a65 hF64; clear hF63
 refine wpList_nil (thenN (wp_seq ?_))
 refine joinQ (fun aI wI=>∃ (y66:Bool),Fr 105 aI [(50,.bool (y66)),(9,.slice p29 L19.length c30),(0,nP bb0 0),(1,.slice p1 L1.length c2),(2,.slice p5 L2.length c6)]∧St w0 F0 (HeapP b0 ab0 s0::BlkP bb0 111 #[nP b0 0,nI c0x,nI c0y,nI c0z]::RowX kNd (.slice p1 L1.length c2) L1::RowP (.slice p29 L19.length c30) L19::RowP (.slice p5 L2.length c6) L2::ps) wI∧store_Alloc.j1 s0 c0x c0y c0z L1 L2 k L19 y66=some (r0,r1,r2,t0)) ?_ ?_
 rotate_left
 · rintro a68 w69 ⟨y66,hF70,hS71,hm72⟩
   clear hF64 hS62 hm53
   unfold store_Alloc.j1 at hm72
   refine thenN ?_
   refine joinQ (fun aI wI=>∃ (s74:HSt),Fr 105 aI [(9,.slice p29 L19.length c30),(0,nP bb0 0),(1,.slice p1 L1.length c2),(2,.slice p5 L2.length c6)]∧St w0 F0 (HeapP b0 ab0 s74::BlkP bb0 111 #[nP b0 0,nI c0x,nI c0y,nI c0z]::RowX kNd (.slice p1 L1.length c2) L1::RowP (.slice p29 L19.length c30) L19::RowP (.slice p5 L2.length c6) L2::ps) wI∧store_Alloc.j2 c0x c0y c0z L1 L2 k L19 s74=some (r0,r1,r2,t0)) ?_ ?_
   rotate_left
   · rintro a76 w77 ⟨s74,hF78,hS79,hm80⟩
     clear hF70 hS71 hm72
     unfold store_Alloc.j2 at hm80
     refine thenN (wp_seq (wp_region_lit ?_))
     have hS83:St w0 F0 (GonesP (.slice none 0 0) []::HeapP b0 ab0 s74::BlkP bb0 111 #[nP b0 0,nI c0x,nI c0y,nI c0z]::RowX kNd (.slice p1 L1.length c2) L1::RowP (.slice p29 L19.length c30) L19::RowP (.slice p5 L2.length c6) L2::ps) w77:=St.nilG hS79
     clear hS79
     refine ev_runs 1 hF78 (l':=[(12,.slice none 0 0),(9,.slice p29 L19.length c30),(0,nP bb0 0),(1,.slice p1 L1.length c2),(2,.slice p5 L2.length c6)]) (w':=w77) (by kernel_rfl) ?_
     intro a85 hF84; clear hF78
     refine wpList_nil (thenN (wp_seq (wp_region_lit ?_)))
     refine ev_runs 3 hF84 (l':=[(60,.slice p29 L19.length c30),(59,.slice p1 L1.length c2),(58,nP bb0 0),(12,.slice none 0 0),(9,.slice p29 L19.length c30),(0,nP bb0 0),(1,.slice p1 L1.length c2),(2,.slice p5 L2.length c6)]) (w':=w77) (by kernel_rfl) ?_
     intro a87 hF86; clear hF84
     have hS88:=hS83.pick4.pick4.pick3.pick4
     clear hS83
     refine ev_call 74 #[nP bb0 0,.slice p1 L1.length c2,.slice p29 L19.length c30] hF86 rfl rfl (by kernel_rfl) rfl (by kernel_rfl) (fun w=>by kernel_rfl) ?_
     obtain ⟨L89,y90,s91,hx92,hm93⟩:=bind3E hm80; clear hm80
     refine (store_take.ok hS88 hx92).mono ?_
     rintro _ w94 ⟨z98,rfl,hS96⟩ a95 hF97; clear hF86 hS88
     obtain ⟨hl103,p100,c101,rfl,hp102⟩:=St.shape hS96 4 rfl
     refine ev_runK 5 hF97 [0,1,2,9,12,13,14] (l':=[(14,.bool (y90)),(13,.slice p100 L89.length c101),(12,.slice none 0 0),(9,.slice p29 L19.length c30),(0,nP bb0 0),(1,.slice p1 L1.length c2),(2,.slice p5 L2.length c6)]) (w':=w94) (by kernel_rfl) ?_
     intro a105 hF104; clear hF97
     refine wpList_nil (thenN (wp_seq (wp_seq (wp_region_lit ?_))))
     refine ev_runK 2 hF104 [0,1,2,9,12,13,65] (l':=[(65,.bool (!(y90))),(13,.slice p100 L89.length c101),(12,.slice none 0 0),(9,.slice p29 L19.length c30),(0,nP bb0 0),(1,.slice p1 L1.length c2),(2,.slice p5 L2.length c6)]) (w':=w94) (by kernel_rfl) ?_
     intro a107 hF106; clear hF104
     refine wpList_nil (thenN ?_)
     cases hc108:(!(y90))
     case true =>
      rw [hc108] at hF106
      have hm109:=ifYes hc108 hm93; clear hm93
      refine ev_condT hF106 rfl rfl ?_
      refine wp_seq (wp_region_lit ?_)
      refine ev_runs 2 hF106 (l':=[(67,.slice p5 L2.length c6),(66,nP bb0 0),(65,.bool true),(13,.slice p100 L89.length c101),(12,.slice none 0 0),(9,.slice p29 L19.length c30),(0,nP bb0 0),(1,.slice p1 L1.length c2),(2,.slice p5 L2.length c6)]) (w':=w94) (by kernel_rfl) ?_
      intro a111 hF110; clear hF106
      have hS112:=hS96.pick6.pick2.pick2
      clear hS96
      refine ev_call 75 #[nP bb0 0,.slice p5 L2.length c6] hF110 rfl rfl (by kernel_rfl) rfl (by kernel_rfl) (fun w=>by kernel_rfl) ?_
      obtain ⟨L113,s114,hx115,hm116⟩:=bind2E hm109; clear hm109
      refine (store_force.ok hS112 hx115).mono ?_
      rintro _ w117 ⟨z121,rfl,hS119⟩ a118 hF120; clear hF110 hS112
      obtain ⟨hl126,p123,c124,rfl,hp125⟩:=St.shapeG (k:=3) hS119 rfl
      refine ev_runK 1 hF120 [0,1,9,12] (l':=[(12,.slice p123 L113.length c124),(9,.slice p29 L19.length c30),(0,nP bb0 0),(1,.slice p1 L1.length c2)]) (w':=w117) (by kernel_rfl) ?_
      intro a128 hF127; clear hF120
      refine wpList_nil ?_
      have hS129:=hS119.pick6.drop.pick6.drop
      clear hS119
      refine thenN (wp_seq (wp_region_lit ?_))
      refine ev_runs 3 hF127 (l':=[(72,.slice p29 L19.length c30),(71,.slice p1 L1.length c2),(70,nP bb0 0),(12,.slice p123 L113.length c124),(9,.slice p29 L19.length c30),(0,nP bb0 0),(1,.slice p1 L1.length c2)]) (w':=w117) (by kernel_rfl) ?_
      intro a131 hF130; clear hF127
      have hS132:=hS129.pick5.pick5.pick3.pick3
      clear hS129
      refine ev_call 74 #[nP bb0 0,.slice p1 L1.length c2,.slice p29 L19.length c30] hF130 rfl rfl (by kernel_rfl) rfl (by kernel_rfl) (fun w=>by kernel_rfl) ?_
      obtain ⟨L133,y134,s135,hx136,hm137⟩:=bind3E hm116; clear hm116
      refine (store_take.ok hS132 hx136).mono ?_
      rintro _ w138 ⟨z142,rfl,hS140⟩ a139 hF141; clear hF130 hS132
      obtain ⟨hl147,p144,c145,rfl,hp146⟩:=St.shape hS140 4 rfl
      refine ev_runK 5 hF141 [0,9,12,13,14] (l':=[(14,.bool (y134)),(13,.slice p144 L133.length c145),(12,.slice p123 L113.length c124),(9,.slice p29 L19.length c30),(0,nP bb0 0)]) (w':=w138) (by kernel_rfl) ?_
      intro a149 hF148; clear hF141
      refine wpList_nil (thenN (wp_seq (wp_region_lit ?_)))
      refine ev_runK 2 hF148 [0,9,12,13,77] (l':=[(77,.bool (!(y134))),(13,.slice p144 L133.length c145),(12,.slice p123 L113.length c124),(9,.slice p29 L19.length c30),(0,nP bb0 0)]) (w':=w138) (by kernel_rfl) ?_
      intro a151 hF150; clear hF148
      refine wpList_nil (thenN ?_)
      cases hc152:(!(y134))
      case true =>
       rw [hc152] at hF150
       have hm153:=ifYes hc152 hm137; clear hm137
       refine ev_condT hF150 rfl rfl ?_
       refine wp_seq (wp_region_lit ?_)
       have hS155:St w0 F0 (RowP (.slice none 0 0) []::BlkP bb0 111 #[nP b0 0,nI c0x,nI c0y,nI c0z]::HeapP b0 ab0 s135::RowX kNd (.slice p1 L1.length c2) L1::RowP (.slice p29 L19.length c30) L19::RowP (.slice p144 L133.length c145) L133::RowP (.slice p5 L2.length c6) L2::GonesP (.slice p123 L113.length c124) L113::ps) w138:=St.nil hS140
       clear hS140
       refine ev_runK 4 hF150 [6,7,8] (l':=[(8,nI 9),(7,.slice p123 L113.length c124),(6,.slice none 0 0)]) (w':=w138) (by kernel_rfl) ?_
       intro a157 hF156; clear hF150
       refine wpList_nil ?_
       have hS158:=hS155.pick4.drop.pick4.drop
       clear hS155
       refine thenN ?_
       refine wp_ret ?_
       refine thenR ?_
       have hS159:=hS158.pick5.pick1.pick5.pick5.pick5.pick5
       clear hS158
       simp only [Option.some.injEq,Prod.mk.injEq] at hm153
       obtain ⟨rfl,rfl,rfl,rfl⟩:=hm153
       refine ev_ret hF156 [6,7,8] (.tuple #[.slice none 0 0,.slice p123 L113.length c124,nI 9]) rfl rfl rfl ?_
       exact ⟨_,_,rfl,hS159⟩
      rw [hc152] at hF150
      have hm164:=ifNot hc152 hm137; clear hm137
      refine ev_condF hF150 rfl rfl ?_
      refine wp_skip ?_
      have hF165:=hF150.keep [0,9,12,13]
      clear hF150
      refine thenN (wp_seq (wp_seq ?_))
      have hS166:=hS140.drew; clear hS140
      refine any_start (fun wS=>∃ qs,St w0 F0 (BlkP bb0 111 #[nP b0 0,nI c0x,nI c0y,nI c0z]::qs) wS) 9 #[false,false,false,false,false,false,false,false,false] (by kernel_rfl) (by kernel_rfl) (by kernel_rfl) ?_
      refine any_many 7 [(0,some (nP bb0 0)),(1,some (nP bb0 0)),(2,some (nP bb0 1)),(3,some (nP bb0 3)),(4,some (nI c0z)),(5,some (.slice p29 L19.length c30)),(8,some (nI 0))] [0,12,13,83,84,85,86,87] #[true,true,true,true,true,true,false,false,true] (by rfl) hF165 (by kernel_rfl) (by kernel_rfl) (by exact ⟨fun wS hw=>by kernel_rfl,fun wS hw=>by kernel_rfl,fun wS hw=>by kernel_rfl,fun wS hw=>by kernel_rfl,fun wS hw=>hw.elim fun qs hw=>run_loadV rfl rfl (run_loadS rfl rfl (hw.cell 0 rfl 3 rfl)),fun wS hw=>by kernel_rfl,fun wS hw=>by kernel_rfl,trivial⟩) (fun _ _ _ _ _ h=>h) ⟨_,hS166⟩ (l':=[(87,nI 0),(84,.slice p29 L19.length c30),(83,nI c0z),(13,.slice p144 L133.length c145),(12,.slice p123 L113.length c124),(0,nP bb0 0)]) (by kernel_rfl) ?_
      intro a168 hF167; clear hF165
      have hS169:=hS166.pick3
      clear hS166
      refine any_call 6 #[true,true,true,true,true,true,true,false,true] 76 #[.slice p29 L19.length c30] hF167 rfl (by kernel_rfl) rfl rfl (by kernel_rfl) rfl (by kernel_rfl) (fun w=>by kernel_rfl) (by kernel_rfl) ?_
      obtain ⟨x170,hx171,hm172⟩:=bind1E hm164; clear hm164
      refine (store_words.ok hS169 hx171).mono ?_
      rintro _ w173 ⟨rfl,hS175⟩; clear hS169
      refine ⟨⟨_,hS175.pick1⟩,?_⟩
      intro a174 hF176; clear hF167
      refine any_many 1 [(7,some (nI (IntKind.i64.wrap (c0z * x170))))] [0,12,13,86,87] #[true,true,true,true,true,true,true,true,true] (by rfl) hF176 (by kernel_rfl) (by kernel_rfl) (by exact ⟨fun wS hw=>by kernel_rfl,trivial⟩) (fun _ _ _ _ _ h=>h) ⟨_,hS175.pick1⟩ (l':=[(86,nI (IntKind.i64.wrap (c0z * x170))),(87,nI 0),(13,.slice p144 L133.length c145),(12,.slice p123 L113.length c124),(0,nP bb0 0)]) (by kernel_rfl) ?_
      intro a178 hF177; clear hF176
      refine any_done (by kernel_rfl) ?_
      have hS179:=hS175.drop
      clear hS175
      refine thenN ?_
      refine wp_block ?_
      refine wp_loop_ghost (fun kI aI wI=>∃ (s180:HSt) (v182:Value) (L181:List Gn) (x183:Int),Fr 105 aI [(86,nI (IntKind.i64.wrap (c0z * x170))),(87,nI x183),(13,.slice p144 L133.length c145),(12,v182),(0,nP bb0 0)]∧St w0 F0 (BlkP bb0 111 #[nP b0 0,nI c0x,nI c0y,nI c0z]::HeapP b0 ab0 s180::RowX kNd (.slice p1 L1.length c2) L1::RowP (.slice p144 L133.length c145) L133::RowP (.slice p5 L2.length c6) L2::GonesP (v182) L181::ps) wI∧store_Alloc.l3 c0z L133 x170 kI s180 L181 x183=some (r0,r1,r2,t0)) k ⟨s135,.slice p123 L113.length c124,L113,0,hF177,hS179,hm172⟩ ?_
      rintro k184 a185 w186 ⟨s180,v182,L181,x183,hF187,hS188,hm189⟩
      clear hF177 hS179 hm172
      rcases k184 with _ | k184
      · cases hm189
      have hm190:store_Alloc.l3b c0z L133 x170 (store_Alloc.l3 c0z L133 x170 k184) s180 L181 x183=some (r0,r1,r2,t0):=hm189
      clear hm189
      unfold store_Alloc.l3b at hm190
      obtain ⟨hl194,p191,c192,rfl,hp193⟩:=St.shapeG (k:=5) hS188 rfl
      refine wp_seq (wp_region_lit ?_)
      refine ev_runs 1 hF187 (l':=[(88,.bool (decide (x183<(IntKind.i64.wrap (c0z * x170))))),(86,nI (IntKind.i64.wrap (c0z * x170))),(87,nI x183),(13,.slice p144 L133.length c145),(12,.slice p191 L181.length c192),(0,nP bb0 0)]) (w':=w186) (by kernel_rfl) ?_
      intro a196 hF195; clear hF187
      refine wpList_nil (thenN (wp_seq ?_))
      cases hc197:(decide (x183<(IntKind.i64.wrap (c0z * x170))))
      case true =>
       rw [hc197] at hF195
       have hm198:=ifYes hc197 hm190; clear hm190
       refine ev_condT hF195 rfl rfl ?_
       refine wp_skip ?_
       have hF199:=hF195.keep [0,12,13,86,87]
       clear hF195
       refine thenN (wp_seq ?_)
       refine wp_block ?_
       refine wp_seq (wp_seq (wp_region_lit ?_))
       refine ev_runs 3 hF199 (l':=[(91,nP bb0 0),(90,nP bb0 0),(89,nP bb0 0),(86,nI (IntKind.i64.wrap (c0z * x170))),(87,nI x183),(13,.slice p144 L133.length c145),(12,.slice p191 L181.length c192),(0,nP bb0 0)]) (w':=w186) (by kernel_rfl) ?_
       intro a201 hF200; clear hF199
       refine ev_one (nP b0 0) w186 hF200 (by kernel_rfl) rfl (by kernel_rfl) (run_loadV rfl rfl (run_loadS rfl rfl (hS188.cell 0 rfl 0 rfl))) (l':=[(92,nP b0 0),(91,nP bb0 0),(90,nP bb0 0),(89,nP bb0 0),(86,nI (IntKind.i64.wrap (c0z * x170))),(87,nI x183),(13,.slice p144 L133.length c145),(12,.slice p191 L181.length c192),(0,nP bb0 0)]) (by kernel_rfl) ?_
       intro a203 hF202; clear hF200
       have hS204:=hS188.pick1
       clear hS188
       refine ev_call 44 #[nP b0 0] hF202 rfl rfl (by kernel_rfl) rfl (by kernel_rfl) (fun w=>by kernel_rfl) ?_
       refine (p_Phase hS204).mono ?_
       rintro _ w205 ⟨rfl,hS207⟩ a206 hF208; clear hF202 hS204
       refine ev_runK 1 hF208 [0,12,13,86,87,94] (l':=[(94,.bool (s180.ph == 0)),(86,nI (IntKind.i64.wrap (c0z * x170))),(87,nI x183),(13,.slice p144 L133.length c145),(12,.slice p191 L181.length c192),(0,nP bb0 0)]) (w':=w205) (by kernel_rfl) ?_
       intro a210 hF209; clear hF208
       refine wpList_nil (thenN ?_)
       cases hc211:(s180.ph == 0)
       case true =>
        rw [hc211] at hF209
        have hm212:=ifYes hc211 hm198; clear hm198
        refine ev_condT hF209 rfl rfl ?_
        refine wp_exit ?_
        refine thenE ?_
        refine blockX (by decide) ?_
        refine thenE ?_
        refine thenE ?_
        refine blockE ?_
        refine thenN (wp_seq (wp_region_lit ?_))
        refine ev_runK 5 hF209 [6,7,8] (l':=[(8,nI 0),(7,.slice p191 L181.length c192),(6,.slice p144 L133.length c145)]) (w':=w205) (by kernel_rfl) ?_
        intro a214 hF213; clear hF209
        refine wpList_nil (thenN ?_)
        refine wp_ret ?_
        have hS215:=hS207.pick5.pick4.pick5.pick5.pick4.pick5
        clear hS207
        simp only [Option.some.injEq,Prod.mk.injEq] at hm212
        obtain ⟨rfl,rfl,rfl,rfl⟩:=hm212
        refine ev_ret hF213 [6,7,8] (.tuple #[.slice p144 L133.length c145,.slice p191 L181.length c192,nI 0]) rfl rfl rfl ?_
        exact ⟨_,_,rfl,hS215⟩
       rw [hc211] at hF209
       have hm220:=ifNot hc211 hm198; clear hm198
       refine ev_condF hF209 rfl rfl ?_
       refine wp_skip ?_
       have hF221:=hF209.keep [0,12,13,86,87]
       clear hF209
       refine thenN (wp_region_lit ?_)
       refine ev_runs 4 hF221 (l':=[(98,nP bb0 0),(97,nP bb0 0),(96,nP bb0 0),(95,.slice p191 L181.length c192),(86,nI (IntKind.i64.wrap (c0z * x170))),(87,nI x183),(13,.slice p144 L133.length c145),(12,.slice p191 L181.length c192),(0,nP bb0 0)]) (w':=w205) (by kernel_rfl) ?_
       intro a223 hF222; clear hF221
       refine ev_one (nP b0 0) w205 hF222 (by kernel_rfl) rfl (by kernel_rfl) (run_loadV rfl rfl (run_loadS rfl rfl (hS207.cell 1 rfl 0 rfl))) (l':=[(99,nP b0 0),(98,nP bb0 0),(97,nP bb0 0),(96,nP bb0 0),(95,.slice p191 L181.length c192),(86,nI (IntKind.i64.wrap (c0z * x170))),(87,nI x183),(13,.slice p144 L133.length c145),(12,.slice p191 L181.length c192),(0,nP bb0 0)]) (by kernel_rfl) ?_
       intro a225 hF224; clear hF222
       refine ev_call 77 #[nP b0 0] hF224 rfl rfl (by kernel_rfl) rfl (by kernel_rfl) (fun w=>by kernel_rfl) ?_
       obtain ⟨L226,s227,hx228,hm229⟩:=bind2E hm220; clear hm220
       refine (p_Step hS207 hx228).mono ?_
       rintro _ w230 ⟨z234,rfl,hS232⟩ a231 hF233; clear hF224 hS207
       obtain ⟨hl239,p236,c237,rfl,hp238⟩:=St.shapeG (k:=1) hS232 rfl
       have hS240:=hS232.pick1.pick6
       clear hS232
       obtain ⟨L241,hx242,hm243⟩:=bind1E hm229; clear hm229
       refine ev_appG 70 rfl 101 (.tmp 95) (.tmp 100) hF233 rfl rfl (by kernel_rfl) rfl rfl rfl rfl rfl hS240 hx242 ?_
       intro v244 w245 a246 hS247 hF248; clear hF233 hS240
       obtain ⟨hl252,p249,c250,rfl,hp251⟩:=St.shapeG (k:=0) hS247 rfl
       have hF253:=hF248.keep [0,13,86,87,96,97,98,99,101]; clear hF248
       refine ev_runK 1 hF253 [0,12,13,86,87] (l':=[(12,.slice p249 L241.length c250),(86,nI (IntKind.i64.wrap (c0z * x170))),(87,nI x183),(13,.slice p144 L133.length c145),(0,nP bb0 0)]) (w':=w245) (by kernel_rfl) ?_
       intro a255 hF254; clear hF253
       refine wpList_nil ?_
       refine blockN ?_
       refine thenN (wp_region_lit ?_)
       refine ev_runK 2 hF254 [0,12,13,86,87] (l':=[(87,nI (IntKind.i64.wrap (x183+1))),(12,.slice p249 L241.length c250),(86,nI (IntKind.i64.wrap (c0z * x170))),(13,.slice p144 L133.length c145),(0,nP bb0 0)]) (w':=w245) (by kernel_rfl) ?_
       intro a257 hF256; clear hF254
       refine wpList_nil ?_
       have hF258:Fr 105 a257 [(86,nI (IntKind.i64.wrap (c0z * x170))),(87,nI (IntKind.i64.wrap (x183+1))),(13,.slice p144 L133.length c145),(12,.slice p249 L241.length c250),(0,nP bb0 0)]:=Fr.re hF256 (by kernel_rfl)
       clear hF256
       have hS259:=hS247.pick5.pick5.pick5.pick4.pick5
       clear hS247
       exact thenN ⟨k184,Nat.lt_succ_self _,s227,.slice p249 L241.length c250,L241,IntKind.i64.wrap (x183+1),hF258,hS259,hm243⟩
      rw [hc197] at hF195
      have hm260:=ifNot hc197 hm190; clear hm190
      refine ev_condF hF195 rfl rfl ?_
      refine wp_exit ?_
      refine thenE ?_
      refine thenE ?_
      refine blockE ?_
      refine thenN (wp_seq (wp_region_lit ?_))
      refine ev_runK 5 hF195 [6,7,8] (l':=[(8,nI 0),(7,.slice p191 L181.length c192),(6,.slice p144 L133.length c145)]) (w':=w186) (by kernel_rfl) ?_
      intro a262 hF261; clear hF195
      refine wpList_nil (thenN ?_)
      refine wp_ret ?_
      have hS263:=hS188.pick5.pick4.pick5.pick5.pick5.pick5
      clear hS188
      simp only [Option.some.injEq,Prod.mk.injEq] at hm260
      obtain ⟨rfl,rfl,rfl,rfl⟩:=hm260
      refine ev_ret hF261 [6,7,8] (.tuple #[.slice p144 L133.length c145,.slice p191 L181.length c192,nI 0]) rfl rfl rfl ?_
      exact ⟨_,_,rfl,hS263⟩
     rw [hc108] at hF106
     have hm268:=ifNot hc108 hm93; clear hm93
     refine ev_condF hF106 rfl rfl ?_
     refine wp_skip ?_
     have hF269:=hF106.keep [0,9,12,13]
     clear hF106
     refine thenN (wp_seq (wp_seq ?_))
     have hS270:=hS96.drew; clear hS96
     refine any_start (fun wS=>∃ qs,St w0 F0 (BlkP bb0 111 #[nP b0 0,nI c0x,nI c0y,nI c0z]::qs) wS) 9 #[false,false,false,false,false,false,false,false,false] (by kernel_rfl) (by kernel_rfl) (by kernel_rfl) ?_
     refine any_many 7 [(0,some (nP bb0 0)),(1,some (nP bb0 0)),(2,some (nP bb0 1)),(3,some (nP bb0 3)),(4,some (nI c0z)),(5,some (.slice p29 L19.length c30)),(8,some (nI 0))] [0,12,13,83,84,85,86,87] #[true,true,true,true,true,true,false,false,true] (by rfl) hF269 (by kernel_rfl) (by kernel_rfl) (by exact ⟨fun wS hw=>by kernel_rfl,fun wS hw=>by kernel_rfl,fun wS hw=>by kernel_rfl,fun wS hw=>by kernel_rfl,fun wS hw=>hw.elim fun qs hw=>run_loadV rfl rfl (run_loadS rfl rfl (hw.cell 0 rfl 3 rfl)),fun wS hw=>by kernel_rfl,fun wS hw=>by kernel_rfl,trivial⟩) (fun _ _ _ _ _ h=>h) ⟨_,hS270⟩ (l':=[(87,nI 0),(84,.slice p29 L19.length c30),(83,nI c0z),(13,.slice p100 L89.length c101),(12,.slice none 0 0),(0,nP bb0 0)]) (by kernel_rfl) ?_
     intro a272 hF271; clear hF269
     have hS273:=hS270.pick3
     clear hS270
     refine any_call 6 #[true,true,true,true,true,true,true,false,true] 76 #[.slice p29 L19.length c30] hF271 rfl (by kernel_rfl) rfl rfl (by kernel_rfl) rfl (by kernel_rfl) (fun w=>by kernel_rfl) (by kernel_rfl) ?_
     obtain ⟨x274,hx275,hm276⟩:=bind1E hm268; clear hm268
     refine (store_words.ok hS273 hx275).mono ?_
     rintro _ w277 ⟨rfl,hS279⟩; clear hS273
     refine ⟨⟨_,hS279.pick1⟩,?_⟩
     intro a278 hF280; clear hF271
     refine any_many 1 [(7,some (nI (IntKind.i64.wrap (c0z * x274))))] [0,12,13,86,87] #[true,true,true,true,true,true,true,true,true] (by rfl) hF280 (by kernel_rfl) (by kernel_rfl) (by exact ⟨fun wS hw=>by kernel_rfl,trivial⟩) (fun _ _ _ _ _ h=>h) ⟨_,hS279.pick1⟩ (l':=[(86,nI (IntKind.i64.wrap (c0z * x274))),(87,nI 0),(13,.slice p100 L89.length c101),(12,.slice none 0 0),(0,nP bb0 0)]) (by kernel_rfl) ?_
     intro a282 hF281; clear hF280
     refine any_done (by kernel_rfl) ?_
     have hS283:=hS279.drop
     clear hS279
     refine thenN ?_
     refine wp_block ?_
     refine wp_loop_ghost (fun kI aI wI=>∃ (s284:HSt) (v286:Value) (L285:List Gn) (x287:Int),Fr 105 aI [(86,nI (IntKind.i64.wrap (c0z * x274))),(87,nI x287),(13,.slice p100 L89.length c101),(12,v286),(0,nP bb0 0)]∧St w0 F0 (BlkP bb0 111 #[nP b0 0,nI c0x,nI c0y,nI c0z]::HeapP b0 ab0 s284::RowX kNd (.slice p1 L1.length c2) L1::RowP (.slice p100 L89.length c101) L89::GonesP (v286) L285::RowP (.slice p5 L2.length c6) L2::ps) wI∧store_Alloc.l4 c0z L89 x274 kI s284 L285 x287=some (r0,r1,r2,t0)) k ⟨s91,.slice none 0 0,[],0,hF281,hS283,hm276⟩ ?_
     rintro k288 a289 w290 ⟨s284,v286,L285,x287,hF291,hS292,hm293⟩
     clear hF281 hS283 hm276
     rcases k288 with _ | k288
     · cases hm293
     have hm294:store_Alloc.l4b c0z L89 x274 (store_Alloc.l4 c0z L89 x274 k288) s284 L285 x287=some (r0,r1,r2,t0):=hm293
     clear hm293
     unfold store_Alloc.l4b at hm294
     obtain ⟨hl298,p295,c296,rfl,hp297⟩:=St.shapeG (k:=4) hS292 rfl
     refine wp_seq (wp_region_lit ?_)
     refine ev_runs 1 hF291 (l':=[(88,.bool (decide (x287<(IntKind.i64.wrap (c0z * x274))))),(86,nI (IntKind.i64.wrap (c0z * x274))),(87,nI x287),(13,.slice p100 L89.length c101),(12,.slice p295 L285.length c296),(0,nP bb0 0)]) (w':=w290) (by kernel_rfl) ?_
     intro a300 hF299; clear hF291
     refine wpList_nil (thenN (wp_seq ?_))
     cases hc301:(decide (x287<(IntKind.i64.wrap (c0z * x274))))
     case true =>
      rw [hc301] at hF299
      have hm302:=ifYes hc301 hm294; clear hm294
      refine ev_condT hF299 rfl rfl ?_
      refine wp_skip ?_
      have hF303:=hF299.keep [0,12,13,86,87]
      clear hF299
      refine thenN (wp_seq ?_)
      refine wp_block ?_
      refine wp_seq (wp_seq (wp_region_lit ?_))
      refine ev_runs 3 hF303 (l':=[(91,nP bb0 0),(90,nP bb0 0),(89,nP bb0 0),(86,nI (IntKind.i64.wrap (c0z * x274))),(87,nI x287),(13,.slice p100 L89.length c101),(12,.slice p295 L285.length c296),(0,nP bb0 0)]) (w':=w290) (by kernel_rfl) ?_
      intro a305 hF304; clear hF303
      refine ev_one (nP b0 0) w290 hF304 (by kernel_rfl) rfl (by kernel_rfl) (run_loadV rfl rfl (run_loadS rfl rfl (hS292.cell 0 rfl 0 rfl))) (l':=[(92,nP b0 0),(91,nP bb0 0),(90,nP bb0 0),(89,nP bb0 0),(86,nI (IntKind.i64.wrap (c0z * x274))),(87,nI x287),(13,.slice p100 L89.length c101),(12,.slice p295 L285.length c296),(0,nP bb0 0)]) (by kernel_rfl) ?_
      intro a307 hF306; clear hF304
      have hS308:=hS292.pick1
      clear hS292
      refine ev_call 44 #[nP b0 0] hF306 rfl rfl (by kernel_rfl) rfl (by kernel_rfl) (fun w=>by kernel_rfl) ?_
      refine (p_Phase hS308).mono ?_
      rintro _ w309 ⟨rfl,hS311⟩ a310 hF312; clear hF306 hS308
      refine ev_runK 1 hF312 [0,12,13,86,87,94] (l':=[(94,.bool (s284.ph == 0)),(86,nI (IntKind.i64.wrap (c0z * x274))),(87,nI x287),(13,.slice p100 L89.length c101),(12,.slice p295 L285.length c296),(0,nP bb0 0)]) (w':=w309) (by kernel_rfl) ?_
      intro a314 hF313; clear hF312
      refine wpList_nil (thenN ?_)
      cases hc315:(s284.ph == 0)
      case true =>
       rw [hc315] at hF313
       have hm316:=ifYes hc315 hm302; clear hm302
       refine ev_condT hF313 rfl rfl ?_
       refine wp_exit ?_
       refine thenE ?_
       refine blockX (by decide) ?_
       refine thenE ?_
       refine thenE ?_
       refine blockE ?_
       refine thenN (wp_seq (wp_region_lit ?_))
       refine ev_runK 5 hF313 [6,7,8] (l':=[(8,nI 0),(7,.slice p295 L285.length c296),(6,.slice p100 L89.length c101)]) (w':=w309) (by kernel_rfl) ?_
       intro a318 hF317; clear hF313
       refine wpList_nil (thenN ?_)
       refine wp_ret ?_
       have hS319:=hS311.pick4.pick4.pick5.pick5.pick4.pick5
       clear hS311
       simp only [Option.some.injEq,Prod.mk.injEq] at hm316
       obtain ⟨rfl,rfl,rfl,rfl⟩:=hm316
       refine ev_ret hF317 [6,7,8] (.tuple #[.slice p100 L89.length c101,.slice p295 L285.length c296,nI 0]) rfl rfl rfl ?_
       exact ⟨_,_,rfl,hS319⟩
      rw [hc315] at hF313
      have hm324:=ifNot hc315 hm302; clear hm302
      refine ev_condF hF313 rfl rfl ?_
      refine wp_skip ?_
      have hF325:=hF313.keep [0,12,13,86,87]
      clear hF313
      refine thenN (wp_region_lit ?_)
      refine ev_runs 4 hF325 (l':=[(98,nP bb0 0),(97,nP bb0 0),(96,nP bb0 0),(95,.slice p295 L285.length c296),(86,nI (IntKind.i64.wrap (c0z * x274))),(87,nI x287),(13,.slice p100 L89.length c101),(12,.slice p295 L285.length c296),(0,nP bb0 0)]) (w':=w309) (by kernel_rfl) ?_
      intro a327 hF326; clear hF325
      refine ev_one (nP b0 0) w309 hF326 (by kernel_rfl) rfl (by kernel_rfl) (run_loadV rfl rfl (run_loadS rfl rfl (hS311.cell 1 rfl 0 rfl))) (l':=[(99,nP b0 0),(98,nP bb0 0),(97,nP bb0 0),(96,nP bb0 0),(95,.slice p295 L285.length c296),(86,nI (IntKind.i64.wrap (c0z * x274))),(87,nI x287),(13,.slice p100 L89.length c101),(12,.slice p295 L285.length c296),(0,nP bb0 0)]) (by kernel_rfl) ?_
      intro a329 hF328; clear hF326
      refine ev_call 77 #[nP b0 0] hF328 rfl rfl (by kernel_rfl) rfl (by kernel_rfl) (fun w=>by kernel_rfl) ?_
      obtain ⟨L330,s331,hx332,hm333⟩:=bind2E hm324; clear hm324
      refine (p_Step hS311 hx332).mono ?_
      rintro _ w334 ⟨z338,rfl,hS336⟩ a335 hF337; clear hF328 hS311
      obtain ⟨hl343,p340,c341,rfl,hp342⟩:=St.shapeG (k:=1) hS336 rfl
      have hS344:=hS336.pick1.pick5
      clear hS336
      obtain ⟨L345,hx346,hm347⟩:=bind1E hm333; clear hm333
      refine ev_appG 70 rfl 101 (.tmp 95) (.tmp 100) hF337 rfl rfl (by kernel_rfl) rfl rfl rfl rfl rfl hS344 hx346 ?_
      intro v348 w349 a350 hS351 hF352; clear hF337 hS344
      obtain ⟨hl356,p353,c354,rfl,hp355⟩:=St.shapeG (k:=0) hS351 rfl
      have hF357:=hF352.keep [0,13,86,87,96,97,98,99,101]; clear hF352
      refine ev_runK 1 hF357 [0,12,13,86,87] (l':=[(12,.slice p353 L345.length c354),(86,nI (IntKind.i64.wrap (c0z * x274))),(87,nI x287),(13,.slice p100 L89.length c101),(0,nP bb0 0)]) (w':=w349) (by kernel_rfl) ?_
      intro a359 hF358; clear hF357
      refine wpList_nil ?_
      refine blockN ?_
      refine thenN (wp_region_lit ?_)
      refine ev_runK 2 hF358 [0,12,13,86,87] (l':=[(87,nI (IntKind.i64.wrap (x287+1))),(12,.slice p353 L345.length c354),(86,nI (IntKind.i64.wrap (c0z * x274))),(13,.slice p100 L89.length c101),(0,nP bb0 0)]) (w':=w349) (by kernel_rfl) ?_
      intro a361 hF360; clear hF358
      refine wpList_nil ?_
      have hF362:Fr 105 a361 [(86,nI (IntKind.i64.wrap (c0z * x274))),(87,nI (IntKind.i64.wrap (x287+1))),(13,.slice p100 L89.length c101),(12,.slice p353 L345.length c354),(0,nP bb0 0)]:=Fr.re hF360 (by kernel_rfl)
      clear hF360
      have hS363:=hS351.pick5.pick1.pick5.pick5.pick4.pick5
      clear hS351
      exact thenN ⟨k288,Nat.lt_succ_self _,s331,.slice p353 L345.length c354,L345,IntKind.i64.wrap (x287+1),hF362,hS363,hm347⟩
     rw [hc301] at hF299
     have hm364:=ifNot hc301 hm294; clear hm294
     refine ev_condF hF299 rfl rfl ?_
     refine wp_exit ?_
     refine thenE ?_
     refine thenE ?_
     refine blockE ?_
     refine thenN (wp_seq (wp_region_lit ?_))
     refine ev_runK 5 hF299 [6,7,8] (l':=[(8,nI 0),(7,.slice p295 L285.length c296),(6,.slice p100 L89.length c101)]) (w':=w290) (by kernel_rfl) ?_
     intro a366 hF365; clear hF299
     refine wpList_nil (thenN ?_)
     refine wp_ret ?_
     have hS367:=hS292.pick4.pick4.pick5.pick5.pick5.pick5
     clear hS292
     simp only [Option.some.injEq,Prod.mk.injEq] at hm364
     obtain ⟨rfl,rfl,rfl,rfl⟩:=hm364
     refine ev_ret hF365 [6,7,8] (.tuple #[.slice p100 L89.length c101,.slice p295 L285.length c296,nI 0]) rfl rfl rfl ?_
     exact ⟨_,_,rfl,hS367⟩
   · skip
     cases hc372:(y66)
     case true =>
      rw [hc372] at hF70
      have hm373:=ifYes hc372 hm72; clear hm72
      refine ev_condT hF70 rfl rfl ?_
      refine wp_region_lit ?_
      refine ev_runs 3 hF70 (l':=[(53,nP bb0 0),(52,nP bb0 0),(51,nP bb0 0),(50,.bool true),(9,.slice p29 L19.length c30),(0,nP bb0 0),(1,.slice p1 L1.length c2),(2,.slice p5 L2.length c6)]) (w':=w69) (by kernel_rfl) ?_
      intro a375 hF374; clear hF70
      refine ev_one (nP b0 0) w69 hF374 (by kernel_rfl) rfl (by kernel_rfl) (run_loadV rfl rfl (run_loadS rfl rfl (hS71.cell 1 rfl 0 rfl))) (l':=[(54,nP b0 0),(53,nP bb0 0),(52,nP bb0 0),(51,nP bb0 0),(50,.bool true),(9,.slice p29 L19.length c30),(0,nP bb0 0),(1,.slice p1 L1.length c2),(2,.slice p5 L2.length c6)]) (by kernel_rfl) ?_
      intro a377 hF376; clear hF374
      refine ev_runs 1 hF376 (l':=[(55,.slice p5 L2.length c6),(54,nP b0 0),(53,nP bb0 0),(52,nP bb0 0),(51,nP bb0 0),(50,.bool true),(9,.slice p29 L19.length c30),(0,nP bb0 0),(1,.slice p1 L1.length c2),(2,.slice p5 L2.length c6)]) (w':=w69) (by kernel_rfl) ?_
      intro a379 hF378; clear hF376
      have hS380:=hS71.pick4.pick1
      clear hS71
      refine ev_call 73 #[nP b0 0,.slice p5 L2.length c6] hF378 rfl rfl (by kernel_rfl) rfl (by kernel_rfl) (fun w=>by kernel_rfl) ?_
      obtain ⟨x381,s382,hx383,hm384⟩:=bind2E hm373; clear hm373
      refine (p_Begin hS380 hx383).mono ?_
      rintro _ w385 ⟨rfl,hS387⟩ a386 hF388; clear hF378 hS380
      refine wpList_nil ?_
      have hF389:=hF388.keep [0,1,2,9]
      clear hF388
      have hS390:=hS387.pick1.pick4.pick4.pick4.pick4
      clear hS387
      exact thenN ⟨s382,hF389,hS390,hm384⟩
     rw [hc372] at hF70
     have hm391:=ifNot hc372 hm72; clear hm72
     refine ev_condF hF70 rfl rfl ?_
     refine wp_skip ?_
     have hF392:=hF70.keep [0,1,2,9]
     clear hF70
     exact thenN ⟨s0,hF392,hS71,hm391⟩
 · skip
   have hS393:=hS62.pick3
   clear hS62
   have hS394:=hS393.drew; clear hS393
   refine any_start (fun wS=>∃ qs,St w0 F0 (BlkP bb0 111 #[nP b0 0,nI c0x,nI c0y,nI c0z]::qs) wS) 20 #[false,false,false,false,false,false,false,false,false,false,false,false,false,false,false,false,false,false,false,false] (by kernel_rfl) (by kernel_rfl) (by kernel_rfl) ?_
   refine any_many 4 [(0,some (nP bb0 0)),(1,some (nP bb0 0)),(2,some (nP bb0 0)),(3,some (nP b0 0))] [0,1,2,9,11,34,35,36,37,38,39,40,41,42,43,44,45,46,47,48,49,50] #[true,true,true,true,false,false,false,false,false,false,false,false,false,false,false,false,false,false,false,false] (by rfl) hF64 (by kernel_rfl) (by kernel_rfl) (by exact ⟨fun wS hw=>by kernel_rfl,fun wS hw=>by kernel_rfl,fun wS hw=>by kernel_rfl,fun wS hw=>hw.elim fun qs hw=>run_loadV rfl rfl (run_loadS rfl rfl (hw.cell 0 rfl 0 rfl)),trivial⟩) (fun _ _ _ _ _ h=>h) ⟨_,hS394⟩ (l':=[(34,nP b0 0),(11,nP ab0 0),(9,.slice p29 L19.length c30),(0,nP bb0 0),(1,.slice p1 L1.length c2),(2,.slice p5 L2.length c6)]) (by kernel_rfl) ?_
   intro a396 hF395; clear hF64
   have hS397:=hS394.pick1
   clear hS394
   refine any_call 4 #[true,true,true,true,true,false,false,false,false,false,false,false,false,false,false,false,false,false,false,false] 44 #[nP b0 0] hF395 rfl (by kernel_rfl) rfl rfl (by kernel_rfl) rfl (by kernel_rfl) (fun w=>by kernel_rfl) (by kernel_rfl) ?_
   refine (p_Phase hS397).mono ?_
   rintro _ w398 ⟨rfl,hS400⟩; clear hS397
   refine ⟨⟨_,hS400.pick1⟩,?_⟩
   intro a399 hF401; clear hF395
   refine any_many 2 [(5,some (.bool (s0.ph == 0))),(6,some (.bool (s0.ph == 0)))] [0,1,2,9,11,37,38,39,40,41,42,43,44,45,46,47,48,49,50] #[true,true,true,true,true,true,true,false,false,false,false,false,false,false,false,false,false,false,false,false] (by rfl) hF401 (by kernel_rfl) (by kernel_rfl) (by exact ⟨fun wS hw=>by kernel_rfl,fun wS hw=>by kernel_rfl,trivial⟩) (fun _ _ _ _ _ h=>h) ⟨_,hS400.pick1⟩ (l':=[(37,.bool (s0.ph == 0)),(11,nP ab0 0),(9,.slice p29 L19.length c30),(0,nP bb0 0),(1,.slice p1 L1.length c2),(2,.slice p5 L2.length c6)]) (by kernel_rfl) ?_
   intro a403 hF402; clear hF401
   cases hc404:(s0.ph == 0)
   case true =>
    rw [hc404] at hF402
    have hm405:=ifYes hc404 hm53; clear hm53
    refine any_many 7 [(7,some (nP ab0 0)),(10,some (nP bb0 0)),(11,some (nP bb0 0)),(12,some (nP bb0 1)),(13,some (nP bb0 2)),(14,some (nI c0y)),(15,some (nP ab0 0))] [0,1,2,9,37,38,39,40,45,46,47,48,49,50] #[true,true,true,true,true,true,true,true,false,false,true,true,true,true,true,true,false,false,false,false] (by rfl) hF402 (by kernel_rfl) (by kernel_rfl) (by exact ⟨fun wS hw=>by kernel_rfl,fun wS hw=>by kernel_rfl,fun wS hw=>by kernel_rfl,fun wS hw=>by kernel_rfl,fun wS hw=>by kernel_rfl,fun wS hw=>hw.elim fun qs hw=>run_loadV rfl rfl (run_loadS rfl rfl (hw.cell 0 rfl 2 rfl)),fun wS hw=>by kernel_rfl,trivial⟩) (fun _ _ _ _ _ h=>h) ⟨_,hS400.pick1⟩ (l':=[(46,nP ab0 0),(45,nI c0y),(38,nP ab0 0),(37,.bool true),(9,.slice p29 L19.length c30),(0,nP bb0 0),(1,.slice p1 L1.length c2),(2,.slice p5 L2.length c6)]) (by kernel_rfl) ?_
    intro a407 hF406; clear hF402
    refine any_call 8 #[true,true,true,true,true,true,true,true,true,false,true,true,true,true,true,true,false,false,false,false] 27 #[nP ab0 0] hF406 rfl (by kernel_rfl) rfl rfl (by kernel_rfl) rfl (by kernel_rfl) (fun w=>by kernel_rfl) (by kernel_rfl) ?_
    refine (p_Used hS400).mono ?_
    rintro _ w408 ⟨rfl,hS410⟩; clear hS400
    refine ⟨⟨_,hS410.pick1⟩,?_⟩
    intro a409 hF411; clear hF406
    refine any_many 1 [(9,some (nI (IntKind.i64.wrap (100 * (sWords s0.a.l)))))] [0,1,2,9,37,40,45,46,47,48,49,50] #[true,true,true,true,true,true,true,true,true,true,true,true,true,true,true,true,false,false,false,false] (by rfl) hF411 (by kernel_rfl) (by kernel_rfl) (by exact ⟨fun wS hw=>by kernel_rfl,trivial⟩) (fun _ _ _ _ _ h=>h) ⟨_,hS410.pick1⟩ (l':=[(40,nI (IntKind.i64.wrap (100 * (sWords s0.a.l)))),(46,nP ab0 0),(45,nI c0y),(37,.bool true),(9,.slice p29 L19.length c30),(0,nP bb0 0),(1,.slice p1 L1.length c2),(2,.slice p5 L2.length c6)]) (by kernel_rfl) ?_
    intro a413 hF412; clear hF411
    refine any_call 16 #[true,true,true,true,true,true,true,true,true,true,true,true,true,true,true,true,true,false,false,false] 29 #[nP ab0 0] hF412 rfl (by kernel_rfl) rfl rfl (by kernel_rfl) rfl (by kernel_rfl) (fun w=>by kernel_rfl) (by kernel_rfl) ?_
    refine (p_Words hS410).mono ?_
    rintro _ w414 ⟨rfl,hS416⟩; clear hS410
    refine ⟨⟨_,hS416.pick1⟩,?_⟩
    intro a415 hF417; clear hF412
    refine any_many 3 [(17,some (nI (IntKind.i64.wrap (c0y * (s0.a.c.length:Int))))),(18,some (.bool (decide ((IntKind.i64.wrap (100 * (sWords s0.a.l))) ≥ (IntKind.i64.wrap (c0y * (s0.a.c.length:Int))))))),(19,some (.bool (decide ((IntKind.i64.wrap (100 * (sWords s0.a.l))) ≥ (IntKind.i64.wrap (c0y * (s0.a.c.length:Int)))))))] [0,1,2,9,50] #[true,true,true,true,true,true,true,true,true,true,true,true,true,true,true,true,true,true,true,true] (by rfl) hF417 (by kernel_rfl) (by kernel_rfl) (by exact ⟨fun wS hw=>by kernel_rfl,fun wS hw=>by kernel_rfl,fun wS hw=>by kernel_rfl,trivial⟩) (fun _ _ _ _ _ h=>h) ⟨_,hS416.pick1⟩ (l':=[(50,.bool (decide ((IntKind.i64.wrap (100 * (sWords s0.a.l))) ≥ (IntKind.i64.wrap (c0y * (s0.a.c.length:Int)))))),(9,.slice p29 L19.length c30),(0,nP bb0 0),(1,.slice p1 L1.length c2),(2,.slice p5 L2.length c6)]) (by kernel_rfl) ?_
    intro a419 hF418; clear hF417
    refine any_done (by kernel_rfl) ?_
    exact thenN ⟨decide ((IntKind.i64.wrap (100 * (sWords s0.a.l))) ≥ (IntKind.i64.wrap (c0y * (s0.a.c.length:Int)))),hF418,hS416,hm405⟩
   rw [hc404] at hF402
   have hm420:=ifNot hc404 hm53; clear hm53
   refine any_many 13 [(7,none),(8,none),(9,none),(10,none),(11,none),(12,none),(13,none),(14,none),(15,none),(16,none),(17,none),(18,none),(19,some (.bool false))] [0,1,2,9,50] #[true,true,true,true,true,true,true,true,true,true,true,true,true,true,true,true,true,true,true,true] (by rfl) hF402 (by kernel_rfl) (by kernel_rfl) (by exact (And.intro trivial (And.intro trivial (And.intro trivial (And.intro trivial (And.intro trivial (And.intro trivial (And.intro trivial (And.intro trivial (And.intro trivial (And.intro trivial (And.intro trivial (And.intro trivial (And.intro (fun wS hw=>by kernel_rfl) trivial)))))))))))))) (fun _ _ _ _ _ h=>h) ⟨_,hS400.pick1⟩ (l':=[(50,.bool false),(9,.slice p29 L19.length c30),(0,nP bb0 0),(1,.slice p1 L1.length c2),(2,.slice p5 L2.length c6)]) (by kernel_rfl) ?_
   intro a422 hF421; clear hF402
   refine any_done (by kernel_rfl) ?_
   exact thenN ⟨false,hF421,hS400,hm420⟩
end Go.Proofs.Ytffnjpapggidlaa
namespace Go.Proofs.Ytffnjpapggidlaa
open Go.RowKit
set_option linter.unusedVariables false
def play_Wide.m (k:Nat):Option (Cf):=some ((⟨100,100,0⟩:Cf))
set_option maxRecDepth 100000 in
set_option maxHeartbeats 1500000 in
theorem play_Wide.ok {w0 w:World} {F0:List Nat} {ps:List Piece} {k:Nat}  {r0:Cf} (hS:St w0 F0 (ps) w) (hm:play_Wide.m k=some r0) :
    Calls Try.prog 69 #[] w fun e w'=>e=.returned (.agg #[nI (r0.spans),nI (r0.start),nI (r0.assist)])∧St w0 F0 (ps) w':=by
 refine ev_enterL 2 [] Try.func69 rfl rfl (by simp) ?_
 intro a hF
 have hF0:Fr 2 a []:=hF; clear hF
 unfold play_Wide.m at hm
 refine wp_seq (wp_region_lit ?_)
 refine ev_runs 1 hF0 (l':=[(0,nB w)]) (w':=w.alloc (.cells #[nI 0,nI 0,nI 0] 60)) (by kernel_rfl) ?_
 intro a2 hF1; clear hF0
 have hS4:St w0 F0 (BlkP (w.heap.size) 60 #[nI 0,nI 0,nI 0]::ps) (w.alloc (.cells #[nI 0,nI 0,nI 0] 60)):=St.new hS #[nI 0,nI 0,nI 0] 60
 refine wpList_nil (thenN (wp_seq (wp_region_lit ?_)))
 refine ev_runs 1 hF1 (l':=[(1,.agg #[nI 100,nI 100,nI 0]),(0,nB w)]) (w':=w.alloc (.cells #[nI 0,nI 0,nI 0] 60)) (by kernel_rfl) ?_
 intro a6 hF5; clear hF1
 refine ev_store (.agg #[nI 100,nI 100,nI 0]) #[nI 100,nI 100,nI 0] hF5 (by kernel_rfl) rfl rfl rfl rfl (by kernel_rfl) hS4 (by kernel_rfl) (by kernel_rfl) (by kernel_rfl) (l':=[(1,.agg #[nI 100,nI 100,nI 0]),(0,nB w)]) (by kernel_rfl) ?_
 intro w7 a8 hS9 hF10; clear hF5 hS4
 refine wpList_nil ?_
 have hF11:=hF10.keep [0]
 clear hF10
 refine thenN ?_
 refine wp_ret ?_
 obtain rfl:=Option.some.inj hm
 refine ev_retC hF11 _ [.agg #[nI 100,nI 100,nI 0]] (.agg #[nI 100,nI 100,nI 0]) rfl ⟨⟨rfl,_,rfl,(run_loadA (cs:=[nI 100,nI 100,nI 0]) rfl rfl (by kernel_rfl) (blk_cells hS9 0 rfl rfl))⟩,trivial⟩ rfl ?_
 have hS13:=hS9.drop
 clear hS9
 exact ⟨rfl,hS13⟩
def law21_awake.j2 (y77:Bool):Option (Bool):=some (y77)
def law21_awake.j1 (k:Nat) (x11:Int) (x12:Int) (x13:Int) (s28:HSt) (y29:Bool):Option (Bool):=(if (y29) then some (false) else bind4 (store_Alloc.m k s28 x11 x12 x13 [(⟨5,0⟩:Nd),(⟨2,2⟩:Nd)] []) fun L52 L53 x54 s55=>(if (x54 == 0) then (if ((L53.length:Int) == 0) then (if ((L52.length:Int) == 2) then (if (inR (1:Int) L52.length) then bind1 (store_Heap.m k s55 x11 x12 x13) fun s108=>(if ((aKind s108.a.c (atI L52 (1:Int))) == 2) then bind2 (store_Collect.m k s108 x11 x12 x13 []) fun L133 s134=>(if ((L133.length:Int) == 0) then bind1 (store_Heap.m k s134 x11 x12 x13) fun s153=>law21_awake.j2 (s153.ph == 1) else law21_awake.j2 false) else law21_awake.j2 false) else none) else law21_awake.j2 false) else law21_awake.j2 false) else law21_awake.j2 false))
def law21_awake.m (k:Nat):Option (Bool):=bind1 (play_Wide.m k ) fun q3=>bind5 (store_New.m k (⟨q3.spans,q3.start,q3.assist⟩:Cf)) fun s10 x11 x12 x13 x14=>(if (x14 != 0) then law21_awake.j1 k x11 x12 x13 s10 true else bind1 (store_Heap.m k s10 x11 x12 x13) fun s197=>bind1 (store_Heap.m k s197 x11 x12 x13) fun s206=>law21_awake.j1 k x11 x12 x13 s206 false)
set_option maxRecDepth 100000 in
set_option maxHeartbeats 1500000 in
theorem law21_awake.ok {w0 w:World} {F0:List Nat} {ps:List Piece} {k:Nat}  {r0:Bool} (hS:St w0 F0 (ps) w) (hm:law21_awake.m k=some r0) :
    Calls Try.prog 38 #[] w fun e w'=>e=.returned (.bool r0)∧St w0 F0 (ps) w':=by
 refine ev_enterL 71 [] Try.func38 rfl rfl (by simp) ?_
 intro a hF
 have hF0:Fr 71 a []:=hF; clear hF
 unfold law21_awake.m at hm
 refine wp_seq (wp_region_lit ?_)
 refine ev_runK 1 hF0 [] (l':=[]) (w':=w) (by kernel_rfl) ?_
 intro a2 hF1; clear hF0
 refine wpList_nil (thenN (wp_seq (wp_region_lit ?_)))
 refine ev_call 69 #[] hF1 rfl rfl (by kernel_rfl) rfl (by kernel_rfl) (fun w=>by kernel_rfl) ?_
 obtain ⟨q3,hx4,hm5⟩:=bind1E hm; clear hm
 refine (play_Wide.ok hS hx4).mono ?_
 rintro _ w6 ⟨rfl,hS8⟩ a7 hF9; clear hF1 hS
 refine ev_call 37 #[.agg #[nI (q3.spans),nI (q3.start),nI (q3.assist)]] hF9 rfl rfl (by kernel_rfl) rfl (by kernel_rfl) (fun w=>by kernel_rfl) ?_
 obtain ⟨s10,x11,x12,x13,x14,hx15,hm16⟩:=bind5E hm5; clear hm5
 refine (store_New.ok hS8 hx15).mono ?_
 rintro _ w17 ⟨z21,z22,z23,rfl,hS19⟩ a18 hF20; clear hF9 hS8
 refine ev_runK 5 hF20 [1,2] (l':=[(2,nI x14),(1,nP z21 0)]) (w':=w17) (by kernel_rfl) ?_
 intro a27 hF26; clear hF20
 refine wpList_nil (thenN (wp_seq (wp_seq ?_)))
 refine joinQ (fun aI wI=>∃ (s28:HSt) (y29:Bool),Fr 71 aI [(27,.bool (y29)),(1,nP z21 0)]∧St w0 F0 (BlkP z21 111 #[nP z22 0,nI x11,nI x12,nI x13]::HeapP z22 z23 s28::ps) wI∧law21_awake.j1 k x11 x12 x13 s28 y29=some r0) ?_ ?_
 rotate_left
 · rintro a31 w32 ⟨s28,y29,hF33,hS34,hm35⟩
   clear hF26 hS19 hm16
   unfold law21_awake.j1 at hm35
   refine thenN ?_
   cases hc37:(y29)
   case true =>
    rw [hc37] at hF33
    have hm38:=ifYes hc37 hm35; clear hm35
    refine ev_condT hF33 rfl rfl ?_
    refine wp_seq (wp_region_lit ?_)
    refine ev_runK 1 hF33 [0] (l':=[(0,.bool false)]) (w':=w32) (by kernel_rfl) ?_
    intro a40 hF39; clear hF33
    refine wpList_nil ?_
    have hS41:=hS34.drop.drop
    clear hS34
    refine thenN ?_
    refine wp_ret ?_
    refine thenR ?_
    obtain rfl:=Option.some.inj hm38
    refine ev_ret hF39 [0] (.bool false) rfl rfl rfl ?_
    exact ⟨rfl,hS41⟩
   rw [hc37] at hF33
   have hm43:=ifNot hc37 hm35; clear hm35
   refine ev_condF hF33 rfl rfl ?_
   refine wp_skip ?_
   have hF44:=hF33.keep [1]
   clear hF33
   refine thenN (wp_seq (wp_region_lit ?_))
   refine ev_runs 4 hF44 (l':=[(32,.slice (some ⟨w32.heap.size,0,none⟩) 2 2),(31,.agg #[nI 2,nI 2]),(30,.agg #[nI 5,nI 0]),(29,nP z21 0),(1,nP z21 0)]) (w':=w32.alloc (.cells #[nI 5,nI 0,nI 2,nI 2] 74)) (by kernel_rfl) ?_
   intro a47 hF46; clear hF44
   have hS48:St w0 F0 (RowX kNd (.slice (some ⟨w32.heap.size,0,none⟩) 2 2) [(⟨5,0⟩:Nd),(⟨2,2⟩:Nd)]::BlkP z21 111 #[nP z22 0,nI x11,nI x12,nI x13]::HeapP z22 z23 s28::ps) (w32.alloc (.cells #[nI 5,nI 0,nI 2,nI 2] 74)):=St.litX kNd hS34 [(⟨5,0⟩:Nd),(⟨2,2⟩:Nd)] (by unfold maxLen; simp)
   clear hS34
   have hS50:St w0 F0 (RowP (.slice none 0 0) []::RowX kNd (.slice (some ⟨w32.heap.size,0,none⟩) 2 2) [(⟨5,0⟩:Nd),(⟨2,2⟩:Nd)]::BlkP z21 111 #[nP z22 0,nI x11,nI x12,nI x13]::HeapP z22 z23 s28::ps) (w32.alloc (.cells #[nI 5,nI 0,nI 2,nI 2] 74)):=St.nil hS48
   clear hS48
   have hS51:=hS50.pick1.pick3.pick3
   clear hS50
   refine ev_call 43 #[nP z21 0,.slice (some ⟨w32.heap.size,0,none⟩) 2 2,.slice none 0 0] hF46 rfl rfl (by kernel_rfl) rfl (by kernel_rfl) (fun w=>by kernel_rfl) ?_
   obtain ⟨L52,L53,x54,s55,hx56,hm57⟩:=bind4E hm43; clear hm43
   refine (store_Alloc.ok hS51 hx56).mono ?_
   rintro _ w58 ⟨z62,z63,rfl,hS60⟩ a59 hF61; clear hF46 hS51
   obtain ⟨hl69,p66,c67,rfl,hp68⟩:=St.shape hS60 4 rfl
   obtain ⟨hl73,p70,c71,rfl,hp72⟩:=St.shapeG (k:=5) hS60 rfl
   refine ev_runK 7 hF61 [1,3,4,5] (l':=[(5,nI x54),(4,.slice p70 L53.length c71),(3,.slice p66 L52.length c67),(1,nP z21 0)]) (w':=w58) (by kernel_rfl) ?_
   intro a75 hF74; clear hF61
   refine wpList_nil ?_
   have hS76:=hS60.pick2.drop.pick2.drop
   clear hS60
   refine thenN (wp_seq ?_)
   refine joinQ (fun aI wI=>∃ (y77:Bool),Fr 71 aI [(0,.bool (y77))]∧St w0 F0 (ps) wI∧law21_awake.j2 y77=some r0) ?_ ?_
   rotate_left
   · rintro a79 w80 ⟨y77,hF81,hS82,hm83⟩
     clear hF74 hS76 hm57
     unfold law21_awake.j2 at hm83
     refine thenN ?_
     refine wp_ret ?_
     obtain rfl:=Option.some.inj hm83
     refine ev_ret hF81 [0] (.bool (y77)) rfl rfl rfl ?_
     exact ⟨rfl,hS82⟩
   · skip
     have hS86:=hS76.pick2
     clear hS76
     have hS87:=hS86.drew; clear hS86
     refine any_start (fun wS=>∃ qs,St w0 F0 (RowP (.slice p66 L52.length c67) L52::qs) wS) 35 #[false,false,false,false,false,false,false,false,false,false,false,false,false,false,false,false,false,false,false,false,false,false,false,false,false,false,false,false,false,false,false,false,false,false,false] (by kernel_rfl) (by kernel_rfl) (by kernel_rfl) ?_
     refine any_many 3 [(0,some (nI x54)),(1,some (.bool (x54 == 0))),(2,some (.bool (x54 == 0)))] [0,1,3,4,39,40,41,42,43,44,45,46,47,48,49,50,51,52,53,54,55,56,57,58,59,60,61,62,63,64,65,66,67,68,69,70] #[true,true,true,false,false,false,false,false,false,false,false,false,false,false,false,false,false,false,false,false,false,false,false,false,false,false,false,false,false,false,false,false,false,false,false] (by rfl) hF74 (by kernel_rfl) (by kernel_rfl) (by exact ⟨fun wS hw=>by kernel_rfl,fun wS hw=>by kernel_rfl,fun wS hw=>by kernel_rfl,trivial⟩) (fun _ _ _ _ _ h=>h) ⟨_,hS87⟩ (l':=[(39,.bool (x54 == 0)),(4,.slice p70 L53.length c71),(3,.slice p66 L52.length c67),(1,nP z21 0)]) (by kernel_rfl) ?_
     intro a89 hF88; clear hF74
     cases hc90:(x54 == 0)
     case true =>
      rw [hc90] at hF88
      have hm91:=ifYes hc90 hm57; clear hm57
      refine any_many 5 [(3,some (.slice p70 L53.length c71)),(4,some (nI ((L53.length:Int)))),(5,some (.bool ((L53.length:Int) == 0))),(6,some (.bool ((L53.length:Int) == 0))),(7,some (.bool ((L53.length:Int) == 0)))] [0,1,3,44,45,46,47,48,49,50,51,52,53,54,55,56,57,58,59,60,61,62,63,64,65,66,67,68,69,70] #[true,true,true,true,true,true,true,true,false,false,false,false,false,false,false,false,false,false,false,false,false,false,false,false,false,false,false,false,false,false,false,false,false,false,false] (by rfl) hF88 (by kernel_rfl) (by kernel_rfl) (by exact ⟨fun wS hw=>by kernel_rfl,fun wS hw=>by kernel_rfl,fun wS hw=>by kernel_rfl,fun wS hw=>by kernel_rfl,fun wS hw=>by kernel_rfl,trivial⟩) (fun _ _ _ _ _ h=>h) ⟨_,hS87⟩ (l':=[(44,.bool ((L53.length:Int) == 0)),(3,.slice p66 L52.length c67),(1,nP z21 0)]) (by kernel_rfl) ?_
      intro a93 hF92; clear hF88
      cases hc94:((L53.length:Int) == 0)
      case true =>
       rw [hc94] at hF92
       have hm95:=ifYes hc94 hm91; clear hm91
       refine any_many 5 [(8,some (.slice p66 L52.length c67)),(9,some (nI ((L52.length:Int)))),(10,some (.bool ((L52.length:Int) == 2))),(11,some (.bool ((L52.length:Int) == 2))),(12,some (.bool ((L52.length:Int) == 2)))] [0,1,3,49,50,51,52,53,54,55,56,57,58,59,60,61,62,63,64,65,66,67,68,69,70] #[true,true,true,true,true,true,true,true,true,true,true,true,true,false,false,false,false,false,false,false,false,false,false,false,false,false,false,false,false,false,false,false,false,false,false] (by rfl) hF92 (by kernel_rfl) (by kernel_rfl) (by exact ⟨fun wS hw=>by kernel_rfl,fun wS hw=>by kernel_rfl,fun wS hw=>by kernel_rfl,fun wS hw=>by kernel_rfl,fun wS hw=>by kernel_rfl,trivial⟩) (fun _ _ _ _ _ h=>h) ⟨_,hS87⟩ (l':=[(49,.bool ((L52.length:Int) == 2)),(3,.slice p66 L52.length c67),(1,nP z21 0)]) (by kernel_rfl) ?_
       intro a97 hF96; clear hF92
       cases hc98:((L52.length:Int) == 2)
       case true =>
        rw [hc98] at hF96
        have hm99:=ifYes hc98 hm95; clear hm95
        refine any_many 2 [(13,some (nP z21 0)),(16,some (.slice p66 L52.length c67))] [0,1,49,50,51,52,53,54,55,56,57,58,59,60,61,62,63,64,65,66,67,68,69,70] #[true,true,true,true,true,true,true,true,true,true,true,true,true,true,false,false,true,false,false,false,false,false,false,false,false,false,false,false,false,false,false,false,false,false,false] (by rfl) hF96 (by kernel_rfl) (by kernel_rfl) (by exact ⟨fun wS hw=>by kernel_rfl,fun wS hw=>by kernel_rfl,trivial⟩) (fun _ _ _ _ _ h=>h) ⟨_,hS87⟩ (l':=[(53,.slice p66 L52.length c67),(50,nP z21 0),(49,.bool true),(1,nP z21 0)]) (by kernel_rfl) ?_
        intro a101 hF100; clear hF96
        obtain ⟨hc102,hm103⟩:=ifTE hm99; clear hm99
        obtain ⟨g104,rfl⟩:=hp68.resolve_left (by have:=inR_spec hc102; omega)
        refine any_many 2 [(17,some (nP g104 ((1:Int).toNat))),(18,some (nI (atI L52 (1:Int))))] [0,1,49,50,51,52,55,56,57,58,59,60,61,62,63,64,65,66,67,68,69,70] #[true,true,true,true,true,true,true,true,true,true,true,true,true,true,false,false,true,true,true,false,false,false,false,false,false,false,false,false,false,false,false,false,false,false,false] (by rfl) hF100 (by kernel_rfl) (by kernel_rfl) (by exact ⟨fun wS hw=>run_idx rfl rfl rfl rfl rfl (inR_spec hc102).1 (inR_spec hc102).2 _,fun wS hw=>run_load1 rfl rfl rfl (hw.elim fun qs hw=>hw.atI 0 rfl hc102),trivial⟩) (fun _ _ _ _ _ h=>h) ⟨_,hS87⟩ (l':=[(55,nI (atI L52 (1:Int))),(50,nP z21 0),(49,.bool true),(1,nP z21 0)]) (by kernel_rfl) ?_
        intro a106 hF105; clear hF100
        have hS107:=hS87.pick2.pick2
        clear hS87
        refine any_call 14 #[true,true,true,true,true,true,true,true,true,true,true,true,true,true,true,false,true,true,true,false,false,false,false,false,false,false,false,false,false,false,false,false,false,false,false] 39 #[nP z21 0] hF105 rfl (by kernel_rfl) rfl rfl (by kernel_rfl) rfl (by kernel_rfl) (fun w=>by kernel_rfl) (by kernel_rfl) ?_
        obtain ⟨s108,hx109,hm110⟩:=bind1E hm103; clear hm103
        refine (store_Heap.ok hS107 hx109).mono ?_
        rintro _ w111 ⟨rfl,hS113⟩; clear hS107
        refine ⟨⟨_,hS113.pick2⟩,?_⟩
        intro a112 hF114; clear hF105
        have hS115:=hS113.pick1
        clear hS113
        refine any_call 15 #[true,true,true,true,true,true,true,true,true,true,true,true,true,true,true,true,true,true,true,false,false,false,false,false,false,false,false,false,false,false,false,false,false,false,false] 45 #[nP z22 0] hF114 rfl (by kernel_rfl) rfl rfl (by kernel_rfl) rfl (by kernel_rfl) (fun w=>by kernel_rfl) (by kernel_rfl) ?_
        refine (p_Arena hS115).mono ?_
        rintro _ w116 ⟨rfl,hS118⟩; clear hS115
        refine ⟨⟨_,hS118.pick2⟩,?_⟩
        intro a117 hF119; clear hF114
        refine any_call 19 #[true,true,true,true,true,true,true,true,true,true,true,true,true,true,true,true,true,true,true,true,false,false,false,false,false,false,false,false,false,false,false,false,false,false,false] 30 #[nP z23 0,nI (atI L52 (1:Int))] hF119 rfl (by kernel_rfl) rfl rfl (by kernel_rfl) rfl (by kernel_rfl) (fun w=>by kernel_rfl) (by kernel_rfl) ?_
        refine (p_Kind hS118).mono ?_
        rintro _ w120 ⟨rfl,hS122⟩; clear hS118
        refine ⟨⟨_,hS122.pick2⟩,?_⟩
        intro a121 hF123; clear hF119
        refine any_many 3 [(20,some (.bool ((aKind s108.a.c (atI L52 (1:Int))) == 2))),(21,some (.bool ((aKind s108.a.c (atI L52 (1:Int))) == 2))),(22,some (.bool ((aKind s108.a.c (atI L52 (1:Int))) == 2)))] [0,1,59,60,61,62,63,64,65,66,67,68,69,70] #[true,true,true,true,true,true,true,true,true,true,true,true,true,true,true,true,true,true,true,true,true,true,true,false,false,false,false,false,false,false,false,false,false,false,false] (by rfl) hF123 (by kernel_rfl) (by kernel_rfl) (by exact ⟨fun wS hw=>by kernel_rfl,fun wS hw=>by kernel_rfl,fun wS hw=>by kernel_rfl,trivial⟩) (fun _ _ _ _ _ h=>h) ⟨_,hS122.pick2⟩ (l':=[(59,.bool ((aKind s108.a.c (atI L52 (1:Int))) == 2)),(1,nP z21 0)]) (by kernel_rfl) ?_
        intro a125 hF124; clear hF123
        cases hc126:((aKind s108.a.c (atI L52 (1:Int))) == 2)
        case true =>
         rw [hc126] at hF124
         have hm127:=ifYes hc126 hm110; clear hm110
         refine any_many 1 [(23,some (nP z21 0))] [0,1,59,60,61,62,63,64,65,66,67,68,69,70] #[true,true,true,true,true,true,true,true,true,true,true,true,true,true,true,true,true,true,true,true,true,true,true,true,false,false,false,false,false,false,false,false,false,false,false] (by rfl) hF124 (by kernel_rfl) (by kernel_rfl) (by exact ⟨fun wS hw=>by kernel_rfl,trivial⟩) (fun _ _ _ _ _ h=>h) ⟨_,hS122.pick2⟩ (l':=[(60,nP z21 0),(59,.bool true),(1,nP z21 0)]) (by kernel_rfl) ?_
         intro a129 hF128; clear hF124
         have hS131:St w0 F0 (RowP (.slice none 0 0) []::HeapP z22 z23 s108::BlkP z21 111 #[nP z22 0,nI x11,nI x12,nI x13]::RowP (nS g104 L52 c67) L52::GonesP (.slice p70 L53.length c71) L53::ps) w120:=St.nil hS122
         clear hS122
         have hS132:=hS131.pick1.pick2
         clear hS131
         refine any_call 24 #[true,true,true,true,true,true,true,true,true,true,true,true,true,true,true,true,true,true,true,true,true,true,true,true,true,false,false,false,false,false,false,false,false,false,false] 70 #[nP z21 0,.slice none 0 0] hF128 rfl (by kernel_rfl) rfl rfl (by kernel_rfl) rfl (by kernel_rfl) (fun w=>by kernel_rfl) (by kernel_rfl) ?_
         obtain ⟨L133,s134,hx135,hm136⟩:=bind2E hm127; clear hm127
         refine (store_Collect.ok hS132 hx135).mono ?_
         rintro _ w137 ⟨z141,rfl,hS139⟩; clear hS132
         obtain ⟨hl146,p143,c144,rfl,hp145⟩:=St.shapeG (k:=3) hS139 rfl
         refine ⟨⟨_,hS139.pick4⟩,?_⟩
         intro a138 hF140; clear hF128
         refine any_many 4 [(25,some (nI ((L133.length:Int)))),(26,some (.bool ((L133.length:Int) == 0))),(27,some (.bool ((L133.length:Int) == 0))),(28,some (.bool ((L133.length:Int) == 0)))] [0,1,65,66,67,68,69,70] #[true,true,true,true,true,true,true,true,true,true,true,true,true,true,true,true,true,true,true,true,true,true,true,true,true,true,true,true,true,false,false,false,false,false,false] (by rfl) hF140 (by kernel_rfl) (by kernel_rfl) (by exact ⟨fun wS hw=>by kernel_rfl,fun wS hw=>by kernel_rfl,fun wS hw=>by kernel_rfl,fun wS hw=>by kernel_rfl,trivial⟩) (fun _ _ _ _ _ h=>h) ⟨_,hS139.pick4⟩ (l':=[(65,.bool ((L133.length:Int) == 0)),(1,nP z21 0)]) (by kernel_rfl) ?_
         intro a148 hF147; clear hF140
         cases hc149:((L133.length:Int) == 0)
         case true =>
          rw [hc149] at hF147
          have hm150:=ifYes hc149 hm136; clear hm136
          refine any_many 1 [(29,some (nP z21 0))] [0,65,66,67,68,69,70] #[true,true,true,true,true,true,true,true,true,true,true,true,true,true,true,true,true,true,true,true,true,true,true,true,true,true,true,true,true,true,false,false,false,false,false] (by rfl) hF147 (by kernel_rfl) (by kernel_rfl) (by exact ⟨fun wS hw=>by kernel_rfl,trivial⟩) (fun _ _ _ _ _ h=>h) ⟨_,hS139.pick4⟩ (l':=[(66,nP z21 0),(65,.bool true)]) (by kernel_rfl) ?_
          intro a152 hF151; clear hF147
          refine any_call 30 #[true,true,true,true,true,true,true,true,true,true,true,true,true,true,true,true,true,true,true,true,true,true,true,true,true,true,true,true,true,true,true,false,false,false,false] 39 #[nP z21 0] hF151 rfl (by kernel_rfl) rfl rfl (by kernel_rfl) rfl (by kernel_rfl) (fun w=>by kernel_rfl) (by kernel_rfl) ?_
          obtain ⟨s153,hx154,hm155⟩:=bind1E hm150; clear hm150
          refine (store_Heap.ok hS139 hx154).mono ?_
          rintro _ w156 ⟨rfl,hS158⟩; clear hS139
          refine ⟨⟨_,hS158.pick4⟩,?_⟩
          intro a157 hF159; clear hF151
          have hS160:=hS158.pick1
          clear hS158
          refine any_call 31 #[true,true,true,true,true,true,true,true,true,true,true,true,true,true,true,true,true,true,true,true,true,true,true,true,true,true,true,true,true,true,true,true,false,false,false] 44 #[nP z22 0] hF159 rfl (by kernel_rfl) rfl rfl (by kernel_rfl) rfl (by kernel_rfl) (fun w=>by kernel_rfl) (by kernel_rfl) ?_
          refine (p_Phase hS160).mono ?_
          rintro _ w161 ⟨rfl,hS163⟩; clear hS160
          refine ⟨⟨_,hS163.pick4⟩,?_⟩
          intro a162 hF164; clear hF159
          refine any_many 3 [(32,some (.bool (s153.ph == 1))),(33,some (.bool (s153.ph == 1))),(34,some (.bool (s153.ph == 1)))] [0] #[true,true,true,true,true,true,true,true,true,true,true,true,true,true,true,true,true,true,true,true,true,true,true,true,true,true,true,true,true,true,true,true,true,true,true] (by rfl) hF164 (by kernel_rfl) (by kernel_rfl) (by exact ⟨fun wS hw=>by kernel_rfl,fun wS hw=>by kernel_rfl,fun wS hw=>by kernel_rfl,trivial⟩) (fun _ _ _ _ _ h=>h) ⟨_,hS163.pick4⟩ (l':=[(0,.bool (s153.ph == 1))]) (by kernel_rfl) ?_
          intro a166 hF165; clear hF164
          refine any_done (by kernel_rfl) ?_
          have hS167:=hS163.drop.drop.drop.drop.drop.drop
          clear hS163
          exact thenN ⟨s153.ph == 1,hF165,hS167,hm155⟩
         rw [hc149] at hF147
         have hm168:=ifNot hc149 hm136; clear hm136
         refine any_many 6 [(29,none),(30,none),(31,none),(32,none),(33,some (.bool false)),(34,some (.bool false))] [0] #[true,true,true,true,true,true,true,true,true,true,true,true,true,true,true,true,true,true,true,true,true,true,true,true,true,true,true,true,true,true,true,true,true,true,true] (by rfl) hF147 (by kernel_rfl) (by kernel_rfl) (by exact (And.intro trivial (And.intro trivial (And.intro trivial (And.intro trivial (And.intro (fun wS hw=>by kernel_rfl) (And.intro (fun wS hw=>by kernel_rfl) trivial))))))) (fun _ _ _ _ _ h=>h) ⟨_,hS139.pick4⟩ (l':=[(0,.bool false)]) (by kernel_rfl) ?_
         intro a170 hF169; clear hF147
         refine any_done (by kernel_rfl) ?_
         have hS171:=hS139.drop.drop.drop.drop.drop.drop
         clear hS139
         exact thenN ⟨false,hF169,hS171,hm168⟩
        rw [hc126] at hF124
        have hm172:=ifNot hc126 hm110; clear hm110
        refine any_many 12 [(23,none),(24,none),(25,none),(26,none),(27,some (.bool false)),(28,some (.bool false)),(29,none),(30,none),(31,none),(32,none),(33,some (.bool false)),(34,some (.bool false))] [0] #[true,true,true,true,true,true,true,true,true,true,true,true,true,true,true,true,true,true,true,true,true,true,true,true,true,true,true,true,true,true,true,true,true,true,true] (by rfl) hF124 (by kernel_rfl) (by kernel_rfl) (by exact (And.intro trivial (And.intro trivial (And.intro trivial (And.intro trivial (And.intro (fun wS hw=>by kernel_rfl) (And.intro (fun wS hw=>by kernel_rfl) (And.intro trivial (And.intro trivial (And.intro trivial (And.intro trivial (And.intro (fun wS hw=>by kernel_rfl) (And.intro (fun wS hw=>by kernel_rfl) trivial))))))))))))) (fun _ _ _ _ _ h=>h) ⟨_,hS122.pick2⟩ (l':=[(0,.bool false)]) (by kernel_rfl) ?_
        intro a174 hF173; clear hF124
        refine any_done (by kernel_rfl) ?_
        have hS175:=hS122.drop.drop.drop.drop
        clear hS122
        exact thenN ⟨false,hF173,hS175,hm172⟩
       rw [hc98] at hF96
       have hm176:=ifNot hc98 hm95; clear hm95
       refine any_many 22 [(13,none),(14,none),(15,none),(16,none),(17,none),(18,none),(19,none),(20,none),(21,some (.bool false)),(22,some (.bool false)),(23,none),(24,none),(25,none),(26,none),(27,some (.bool false)),(28,some (.bool false)),(29,none),(30,none),(31,none),(32,none),(33,some (.bool false)),(34,some (.bool false))] [0] #[true,true,true,true,true,true,true,true,true,true,true,true,true,true,true,true,true,true,true,true,true,true,true,true,true,true,true,true,true,true,true,true,true,true,true] (by rfl) hF96 (by kernel_rfl) (by kernel_rfl) (by exact (And.intro trivial (And.intro trivial (And.intro trivial (And.intro trivial (And.intro trivial (And.intro trivial (And.intro trivial (And.intro trivial (And.intro (fun wS hw=>by kernel_rfl) (And.intro (fun wS hw=>by kernel_rfl) (And.intro trivial (And.intro trivial (And.intro trivial (And.intro trivial (And.intro (fun wS hw=>by kernel_rfl) (And.intro (fun wS hw=>by kernel_rfl) (And.intro trivial (And.intro trivial (And.intro trivial (And.intro trivial (And.intro (fun wS hw=>by kernel_rfl) (And.intro (fun wS hw=>by kernel_rfl) trivial))))))))))))))))))))))) (fun _ _ _ _ _ h=>h) ⟨_,hS87⟩ (l':=[(0,.bool false)]) (by kernel_rfl) ?_
       intro a178 hF177; clear hF96
       refine any_done (by kernel_rfl) ?_
       have hS179:=hS87.drop.drop.drop.drop
       clear hS87
       exact thenN ⟨false,hF177,hS179,hm176⟩
      rw [hc94] at hF92
      have hm180:=ifNot hc94 hm91; clear hm91
      refine any_many 27 [(8,none),(9,none),(10,none),(11,some (.bool false)),(12,some (.bool false)),(13,none),(14,none),(15,none),(16,none),(17,none),(18,none),(19,none),(20,none),(21,some (.bool false)),(22,some (.bool false)),(23,none),(24,none),(25,none),(26,none),(27,some (.bool false)),(28,some (.bool false)),(29,none),(30,none),(31,none),(32,none),(33,some (.bool false)),(34,some (.bool false))] [0] #[true,true,true,true,true,true,true,true,true,true,true,true,true,true,true,true,true,true,true,true,true,true,true,true,true,true,true,true,true,true,true,true,true,true,true] (by rfl) hF92 (by kernel_rfl) (by kernel_rfl) (by exact (And.intro trivial (And.intro trivial (And.intro trivial (And.intro (fun wS hw=>by kernel_rfl) (And.intro (fun wS hw=>by kernel_rfl) (And.intro trivial (And.intro trivial (And.intro trivial (And.intro trivial (And.intro trivial (And.intro trivial (And.intro trivial (And.intro trivial (And.intro (fun wS hw=>by kernel_rfl) (And.intro (fun wS hw=>by kernel_rfl) (And.intro trivial (And.intro trivial (And.intro trivial (And.intro trivial (And.intro (fun wS hw=>by kernel_rfl) (And.intro (fun wS hw=>by kernel_rfl) (And.intro trivial (And.intro trivial (And.intro trivial (And.intro trivial (And.intro (fun wS hw=>by kernel_rfl) (And.intro (fun wS hw=>by kernel_rfl) trivial)))))))))))))))))))))))))))) (fun _ _ _ _ _ h=>h) ⟨_,hS87⟩ (l':=[(0,.bool false)]) (by kernel_rfl) ?_
      intro a182 hF181; clear hF92
      refine any_done (by kernel_rfl) ?_
      have hS183:=hS87.drop.drop.drop.drop
      clear hS87
      exact thenN ⟨false,hF181,hS183,hm180⟩
     rw [hc90] at hF88
     have hm184:=ifNot hc90 hm57; clear hm57
     refine any_many 32 [(3,none),(4,none),(5,none),(6,some (.bool false)),(7,some (.bool false)),(8,none),(9,none),(10,none),(11,some (.bool false)),(12,some (.bool false)),(13,none),(14,none),(15,none),(16,none),(17,none),(18,none),(19,none),(20,none),(21,some (.bool false)),(22,some (.bool false)),(23,none),(24,none),(25,none),(26,none),(27,some (.bool false)),(28,some (.bool false)),(29,none),(30,none),(31,none),(32,none),(33,some (.bool false)),(34,some (.bool false))] [0] #[true,true,true,true,true,true,true,true,true,true,true,true,true,true,true,true,true,true,true,true,true,true,true,true,true,true,true,true,true,true,true,true,true,true,true] (by rfl) hF88 (by kernel_rfl) (by kernel_rfl) (by exact (And.intro trivial (And.intro trivial (And.intro trivial (And.intro (fun wS hw=>by kernel_rfl) (And.intro (fun wS hw=>by kernel_rfl) (And.intro trivial (And.intro trivial (And.intro trivial (And.intro (fun wS hw=>by kernel_rfl) (And.intro (fun wS hw=>by kernel_rfl) (And.intro trivial (And.intro trivial (And.intro trivial (And.intro trivial (And.intro trivial (And.intro trivial (And.intro trivial (And.intro trivial (And.intro (fun wS hw=>by kernel_rfl) (And.intro (fun wS hw=>by kernel_rfl) (And.intro trivial (And.intro trivial (And.intro trivial (And.intro trivial (And.intro (fun wS hw=>by kernel_rfl) (And.intro (fun wS hw=>by kernel_rfl) (And.intro trivial (And.intro trivial (And.intro trivial (And.intro trivial (And.intro (fun wS hw=>by kernel_rfl) (And.intro (fun wS hw=>by kernel_rfl) trivial))))))))))))))))))))))))))))))))) (fun _ _ _ _ _ h=>h) ⟨_,hS87⟩ (l':=[(0,.bool false)]) (by kernel_rfl) ?_
     intro a186 hF185; clear hF88
     refine any_done (by kernel_rfl) ?_
     have hS187:=hS87.drop.drop.drop.drop
     clear hS87
     exact thenN ⟨false,hF185,hS187,hm184⟩
 · skip
   refine wp_region_lit ?_
   refine ev_runs 3 hF26 (l':=[(13,.bool (x14 != 0)),(12,.bool (x14 != 0)),(11,nI x14),(2,nI x14),(1,nP z21 0)]) (w':=w17) (by kernel_rfl) ?_
   intro a189 hF188; clear hF26
   cases hc190:(x14 != 0)
   case true =>
    rw [hc190] at hF188
    have hm191:=ifYes hc190 hm16; clear hm16
    refine ev_runK 14 hF188 [1,27] (l':=[(27,.bool true),(1,nP z21 0)]) (w':=w17) (by kernel_rfl) ?_
    intro a193 hF192; clear hF188
    refine wpList_nil ?_
    exact thenN ⟨s10,true,hF192,hS19,hm191⟩
   rw [hc190] at hF188
   have hm194:=ifNot hc190 hm16; clear hm16
   refine ev_runs 5 hF188 (l':=[(18,nP z21 0),(17,.bool false),(16,.bool false),(15,.bool false),(14,nP z21 0),(13,.bool false),(12,.bool false),(11,nI x14),(2,nI x14),(1,nP z21 0)]) (w':=w17) (by kernel_rfl) ?_
   intro a196 hF195; clear hF188
   refine ev_call 39 #[nP z21 0] hF195 rfl rfl (by kernel_rfl) rfl (by kernel_rfl) (fun w=>by kernel_rfl) ?_
   obtain ⟨s197,hx198,hm199⟩:=bind1E hm194; clear hm194
   refine (store_Heap.ok hS19 hx198).mono ?_
   rintro _ w200 ⟨rfl,hS202⟩ a201 hF203; clear hF195 hS19
   refine ev_runs 4 hF203 (l':=[(23,nP z21 0),(22,.bool false),(21,.bool false),(20,.bool false),(19,nP z22 0),(18,nP z21 0),(17,.bool false),(16,.bool false),(15,.bool false),(14,nP z21 0),(13,.bool false),(12,.bool false),(11,nI x14),(2,nI x14),(1,nP z21 0)]) (w':=w200) (by kernel_rfl) ?_
   intro a205 hF204; clear hF203
   refine ev_call 39 #[nP z21 0] hF204 rfl rfl (by kernel_rfl) rfl (by kernel_rfl) (fun w=>by kernel_rfl) ?_
   obtain ⟨s206,hx207,hm208⟩:=bind1E hm199; clear hm199
   refine (store_Heap.ok hS202 hx207).mono ?_
   rintro _ w209 ⟨rfl,hS211⟩ a210 hF212; clear hF204 hS202
   have hS213:=hS211.pick1
   clear hS211
   refine ev_call 45 #[nP z22 0] hF212 rfl rfl (by kernel_rfl) rfl (by kernel_rfl) (fun w=>by kernel_rfl) ?_
   refine (p_Arena hS213).mono ?_
   rintro _ w214 ⟨rfl,hS216⟩ a215 hF217; clear hF212 hS213
   refine ev_runK 2 hF217 [1,27] (l':=[(27,.bool false),(1,nP z21 0)]) (w':=w214) (by kernel_rfl) ?_
   intro a219 hF218; clear hF217
   refine wpList_nil ?_
   have hS220:=hS216.pick1
   clear hS216
   exact thenN ⟨s206,false,hF218,hS220,hm208⟩
end Go.Proofs.Ytffnjpapggidlaa
