/- GList GWake -/
import Derived.Test.YtjdlnmbfomojdaaGreatKGView
import Derived.Deep.LoopGhost
import Derived.KernelRfl
namespace Go.Proofs.YtjdlnmbfomojdaaGreat
open Go.RowKit
set_option maxRecDepth 100000
set_option maxHeartbeats 40000000
set_option linter.unusedVariables false
def slices_Index.l1b (L0:List Int) (i1:Int) (rec12:Int→Option (Int)) (x9:Int):Option (Int):=(if (decide (x9<(L0.length:Int))) then (if (inR x9 L0.length) then (if (i1 == (atI L0 x9)) then some (x9) else rec12 (IntKind.i64.wrap (x9+1))) else none) else some (-1))
def slices_Index.l1 (L0:List Int) (i1:Int):Nat→Int→Option (Int)
  | 0=>fun _=>none
  | kI+1=>slices_Index.l1b L0 i1 (slices_Index.l1 L0 i1 kI)
def slices_Index.m (k:Nat) (L0:List Int) (i1:Int):Option (Int):=slices_Index.l1 L0 i1 k 0
theorem slices_Index.ok {w0 w:World} {F0:List Nat} {ps:List Piece} {k:Nat} {v0:Value} {L0:List Int} {i1:Int} {r0:Int} (hS:St w0 F0 (RowP (v0) L0::ps) w) (hm:slices_Index.m k L0 i1=some r0) :
    Calls Tryz.prog 93 #[v0,nI i1] w fun e w'=>e=.returned (.int .i64 r0)∧St w0 F0 (RowP (v0) L0::ps) w':=by
 refine ev_enterL 19 [v0,nI i1] Tryz.func93 rfl rfl (by simp) ?_
 intro a hF
 have hF0:Fr 19 a [(0,v0),(1,nI i1)]:=hF; clear hF
 unfold slices_Index.m at hm
 obtain ⟨hl4,p1,c2,rfl,hp3⟩:=St.shape hS 0 rfl
 refine wp_seq (wp_region_lit ?_)
 refine ev_runK 1 hF0 [0,1] (l':=[(0,.slice p1 L0.length c2),(1,nI i1)]) (w':=w) (by kernel_rfl) ?_
 intro a6 hF5; clear hF0
 refine wpList_nil (thenN (wp_seq (wp_seq (wp_region_lit ?_))))
 refine ev_runK 3 hF5 [0,1,7,8] (l':=[(8,nI 0),(7,nI ((L0.length:Int))),(0,.slice p1 L0.length c2),(1,nI i1)]) (w':=w) (by kernel_rfl) ?_
 intro a8 hF7; clear hF5
 refine wpList_nil (thenN ?_)
 refine wp_block ?_
 refine wp_loop_ghost (fun kI aI wI=>∃ (x9:Int),Fr 19 aI [(8,nI x9),(7,nI ((L0.length:Int))),(0,.slice p1 L0.length c2),(1,nI i1)]∧St w0 F0 (RowP (.slice p1 L0.length c2) L0::ps) wI∧slices_Index.l1 L0 i1 kI x9=some r0) k ⟨0,hF7,hS,hm⟩ ?_
 rintro k10 a11 w12 ⟨x9,hF13,hS14,hm15⟩
 clear hF7 hS hm
 rcases k10 with _ | k10
 · cases hm15
 have hm16:slices_Index.l1b L0 i1 (slices_Index.l1 L0 i1 k10) x9=some r0:=hm15
 clear hm15
 unfold slices_Index.l1b at hm16
 refine wp_seq (wp_region_lit ?_)
 refine ev_runs 1 hF13 (l':=[(9,.bool (decide (x9<(L0.length:Int)))),(8,nI x9),(7,nI ((L0.length:Int))),(0,.slice p1 L0.length c2),(1,nI i1)]) (w':=w12) (by kernel_rfl) ?_
 intro a18 hF17; clear hF13
 refine wpList_nil (thenN (wp_seq ?_))
 cases hc19:(decide (x9<(L0.length:Int)))
 case true =>
  rw [hc19] at hF17
  have hm20:=ifYes hc19 hm16; clear hm16
  refine ev_condT hF17 rfl rfl ?_
  refine wp_skip ?_
  have hF21:=hF17.keep [0,1,7,8]
  clear hF17
  refine thenN (wp_seq ?_)
  refine wp_block ?_
  refine wp_seq (wp_region_lit ?_)
  refine ev_runK 2 hF21 [0,1,5,7,8] (l':=[(5,nI x9),(8,nI x9),(7,nI ((L0.length:Int))),(0,.slice p1 L0.length c2),(1,nI i1)]) (w':=w12) (by kernel_rfl) ?_
  intro a23 hF22; clear hF21
  refine wpList_nil (thenN (wp_seq (wp_region_lit ?_)))
  refine ev_runs 3 hF22 (l':=[(13,nI x9),(12,.slice p1 L0.length c2),(11,nI i1),(5,nI x9),(8,nI x9),(7,nI ((L0.length:Int))),(0,.slice p1 L0.length c2),(1,nI i1)]) (w':=w12) (by kernel_rfl) ?_
  intro a25 hF24; clear hF22
  obtain ⟨hc26,hm27⟩:=ifTE hm20; clear hm20
  obtain ⟨g28,rfl⟩:=hp3.resolve_left (by have:=inR_spec hc26; omega)
  refine ev_one (nP g28 (x9.toNat)) w12 hF24 (by kernel_rfl) rfl (by kernel_rfl) (run_idx rfl rfl rfl rfl rfl (inR_spec hc26).1 (inR_spec hc26).2 _) (l':=[(14,nP g28 (x9.toNat)),(13,nI x9),(12,nS g28 L0 c2),(11,nI i1),(5,nI x9),(8,nI x9),(7,nI ((L0.length:Int))),(0,nS g28 L0 c2),(1,nI i1)]) (by kernel_rfl) ?_
  intro a30 hF29; clear hF24
  refine ev_one (nI (atI L0 x9)) w12 hF29 (by kernel_rfl) rfl (by kernel_rfl) (run_load1 rfl rfl rfl (hS14.atI 0 rfl hc26)) (l':=[(15,nI (atI L0 x9)),(14,nP g28 (x9.toNat)),(13,nI x9),(12,nS g28 L0 c2),(11,nI i1),(5,nI x9),(8,nI x9),(7,nI ((L0.length:Int))),(0,nS g28 L0 c2),(1,nI i1)]) (by kernel_rfl) ?_
  intro a32 hF31; clear hF29
  refine ev_runK 1 hF31 [0,1,5,7,8,16] (l':=[(16,.bool (i1 == (atI L0 x9))),(5,nI x9),(8,nI x9),(7,nI ((L0.length:Int))),(0,nS g28 L0 c2),(1,nI i1)]) (w':=w12) (by kernel_rfl) ?_
  intro a34 hF33; clear hF31
  refine wpList_nil (thenN ?_)
  cases hc35:(i1 == (atI L0 x9))
  case true =>
   rw [hc35] at hF33
   have hm36:=ifYes hc35 hm27; clear hm27
   refine ev_condT hF33 rfl rfl ?_
   refine wp_seq (wp_region_lit ?_)
   refine ev_runK 2 hF33 [4] (l':=[(4,nI x9)]) (w':=w12) (by kernel_rfl) ?_
   intro a38 hF37; clear hF33
   refine wpList_nil (thenN ?_)
   refine wp_ret ?_
   refine blockR ?_
   refine thenR (thenR ?_)
   refine blockR ?_
   refine thenR ?_
   obtain rfl:=Option.some.inj hm36
   refine ev_ret hF37 [4] (nI x9) rfl rfl rfl ?_
   exact ⟨rfl,hS14⟩
  rw [hc35] at hF33
  have hm40:=ifNot hc35 hm27; clear hm27
  refine ev_condF hF33 rfl rfl ?_
  refine wp_skip ?_
  have hF41:=hF33.keep [0,1,7,8]
  clear hF33
  refine blockN ?_
  refine thenN (wp_region_lit ?_)
  refine ev_runK 2 hF41 [0,1,7,8] (l':=[(8,nI (IntKind.i64.wrap (x9+1))),(7,nI ((L0.length:Int))),(0,nS g28 L0 c2),(1,nI i1)]) (w':=w12) (by kernel_rfl) ?_
  intro a43 hF42; clear hF41
  refine wpList_nil ?_
  exact thenN ⟨k10,Nat.lt_succ_self _,IntKind.i64.wrap (x9+1),hF42,hS14,hm40⟩
 rw [hc19] at hF17
 have hm44:=ifNot hc19 hm16; clear hm16
 refine ev_condF hF17 rfl rfl ?_
 refine wp_exit ?_
 refine thenE ?_
 refine thenE ?_
 refine blockE ?_
 refine thenN (wp_seq (wp_region_lit ?_))
 refine ev_runK 1 hF17 [4] (l':=[(4,nI (-1))]) (w':=w12) (by kernel_rfl) ?_
 intro a46 hF45; clear hF17
 refine wpList_nil (thenN ?_)
 refine wp_ret ?_
 obtain rfl:=Option.some.inj hm44
 refine ev_ret hF45 [4] (nI (-1)) rfl rfl rfl ?_
 exact ⟨rfl,hS14⟩
def slices_Contains.m (k:Nat) (L0:List Int) (i1:Int):Option (Bool):=bind1 (slices_Index.m k L0 i1) fun x9=>some (decide (x9 ≥ 0))
theorem slices_Contains.ok {w0 w:World} {F0:List Nat} {ps:List Piece} {k:Nat} {v0:Value} {L0:List Int} {i1:Int} {r0:Bool} (hS:St w0 F0 (RowP (v0) L0::ps) w) (hm:slices_Contains.m k L0 i1=some r0) :
    Calls Tryz.prog 76 #[v0,nI i1] w fun e w'=>e=.returned (.bool r0)∧St w0 F0 (RowP (v0) L0::ps) w':=by
 refine ev_enterL 9 [v0,nI i1] Tryz.func76 rfl rfl (by simp) ?_
 intro a hF
 have hF0:Fr 9 a [(0,v0),(1,nI i1)]:=hF; clear hF
 unfold slices_Contains.m at hm
 obtain ⟨hl4,p1,c2,rfl,hp3⟩:=St.shape hS 0 rfl
 refine wp_seq (wp_region_lit ?_)
 refine ev_runK 1 hF0 [0,1] (l':=[(0,.slice p1 L0.length c2),(1,nI i1)]) (w':=w) (by kernel_rfl) ?_
 intro a6 hF5; clear hF0
 refine wpList_nil (thenN (wp_seq (wp_region_lit ?_)))
 refine ev_runs 2 hF5 (l':=[(6,nI i1),(5,.slice p1 L0.length c2),(0,.slice p1 L0.length c2),(1,nI i1)]) (w':=w) (by kernel_rfl) ?_
 intro a8 hF7; clear hF5
 refine ev_call 93 #[.slice p1 L0.length c2,nI i1] hF7 rfl rfl (by kernel_rfl) rfl (by kernel_rfl) (fun w=>by kernel_rfl) ?_
 obtain ⟨x9,hx10,hm11⟩:=bind1E hm; clear hm
 refine (slices_Index.ok hS hx10).mono ?_
 rintro _ w12 ⟨rfl,hS14⟩ a13 hF15; clear hF7 hS
 refine ev_runK 2 hF15 [4] (l':=[(4,.bool (decide (x9 ≥ 0)))]) (w':=w12) (by kernel_rfl) ?_
 intro a17 hF16; clear hF15
 refine wpList_nil (thenN ?_)
 refine wp_ret ?_
 obtain rfl:=Option.some.inj hm11
 refine ev_ret hF16 [4] (.bool (decide (x9 ≥ 0))) rfl rfl rfl ?_
 exact ⟨rfl,hS14⟩
def list_of.m (k:Nat) (i0:Ch) (i1:Bool):Option (En):=(if (i1) then some ((⟨i0.sh,i0.st⟩:En)) else some ((⟨i0.th,i0.tt⟩:En)))
theorem list_of.ok {w0 w:World} {F0:List Nat} {ps:List Piece} {k:Nat} {i0:Ch} {i1:Bool} {r0:En} (hS:St w0 F0 (ps) w) (hm:list_of.m k i0 i1=some r0) :
    Calls Tryz.prog 75 #[.agg #[nI (i0.cap),nI (i0.closed),nI (i0.count),nI (i0.start),nI (i0.buf),nI (i0.th),nI (i0.tt),nI (i0.sh),nI (i0.st)],.bool (i1)] w fun e w'=>e=.returned (.agg #[nI (r0.head),nI (r0.tail)])∧St w0 F0 (ps) w':=by
 refine ev_enterL 16 [.agg #[nI (i0.cap),nI (i0.closed),nI (i0.count),nI (i0.start),nI (i0.buf),nI (i0.th),nI (i0.tt),nI (i0.sh),nI (i0.st)],.bool (i1)] Tryz.func75 rfl rfl (by simp) ?_
 intro a hF
 have hF0:Fr 16 a [(0,.agg #[nI (i0.cap),nI (i0.closed),nI (i0.count),nI (i0.start),nI (i0.buf),nI (i0.th),nI (i0.tt),nI (i0.sh),nI (i0.st)]),(1,.bool (i1))]:=hF; clear hF
 unfold list_of.m at hm
 refine wp_seq (wp_region_lit ?_)
 refine ev_runs 1 hF0 (l':=[(2,nB w),(0,.agg #[nI (i0.cap),nI (i0.closed),nI (i0.count),nI (i0.start),nI (i0.buf),nI (i0.th),nI (i0.tt),nI (i0.sh),nI (i0.st)]),(1,.bool (i1))]) (w':=w.alloc (.cells #[nI (i0.cap),nI (i0.closed),nI (i0.count),nI (i0.start),nI (i0.buf),nI (i0.th),nI (i0.tt),nI (i0.sh),nI (i0.st)] 49)) (by kernel_rfl) ?_
 intro a2 hF1; clear hF0
 have hS4:St w0 F0 (BlkP (w.heap.size) 49 #[nI (i0.cap),nI (i0.closed),nI (i0.count),nI (i0.start),nI (i0.buf),nI (i0.th),nI (i0.tt),nI (i0.sh),nI (i0.st)]::ps) (w.alloc (.cells #[nI (i0.cap),nI (i0.closed),nI (i0.count),nI (i0.start),nI (i0.buf),nI (i0.th),nI (i0.tt),nI (i0.sh),nI (i0.st)] 49)):=St.new hS #[nI (i0.cap),nI (i0.closed),nI (i0.count),nI (i0.start),nI (i0.buf),nI (i0.th),nI (i0.tt),nI (i0.sh),nI (i0.st)] 49
 refine ev_runs 1 hF1 (l':=[(4,nP ((w.alloc (.cells #[nI (i0.cap),nI (i0.closed),nI (i0.count),nI (i0.start),nI (i0.buf),nI (i0.th),nI (i0.tt),nI (i0.sh),nI (i0.st)] 49)).heap.size) 0),(2,nB w),(0,.agg #[nI (i0.cap),nI (i0.closed),nI (i0.count),nI (i0.start),nI (i0.buf),nI (i0.th),nI (i0.tt),nI (i0.sh),nI (i0.st)]),(1,.bool (i1))]) (w':=(w.alloc (.cells #[nI (i0.cap),nI (i0.closed),nI (i0.count),nI (i0.start),nI (i0.buf),nI (i0.th),nI (i0.tt),nI (i0.sh),nI (i0.st)] 49)).alloc (.cells #[nI 0,nI 0] 144)) (by kernel_rfl) ?_
 intro a6 hF5; clear hF1
 have hS8:St w0 F0 (BlkP ((w.alloc (.cells #[nI (i0.cap),nI (i0.closed),nI (i0.count),nI (i0.start),nI (i0.buf),nI (i0.th),nI (i0.tt),nI (i0.sh),nI (i0.st)] 49)).heap.size) 144 #[nI 0,nI 0]::BlkP (w.heap.size) 49 #[nI (i0.cap),nI (i0.closed),nI (i0.count),nI (i0.start),nI (i0.buf),nI (i0.th),nI (i0.tt),nI (i0.sh),nI (i0.st)]::ps) ((w.alloc (.cells #[nI (i0.cap),nI (i0.closed),nI (i0.count),nI (i0.start),nI (i0.buf),nI (i0.th),nI (i0.tt),nI (i0.sh),nI (i0.st)] 49)).alloc (.cells #[nI 0,nI 0] 144)):=St.new hS4 #[nI 0,nI 0] 144
 clear hS4
 refine wpList_nil ?_
 have hF9:=hF5.keep [1,2,4]
 clear hF5
 refine thenN (wp_seq (wp_seq (wp_region_lit ?_)))
 refine ev_runK 1 hF9 [2,4,5] (l':=[(5,.bool (i1)),(4,nP ((w.alloc (.cells #[nI (i0.cap),nI (i0.closed),nI (i0.count),nI (i0.start),nI (i0.buf),nI (i0.th),nI (i0.tt),nI (i0.sh),nI (i0.st)] 49)).heap.size) 0),(2,nB w)]) (w':=(w.alloc (.cells #[nI (i0.cap),nI (i0.closed),nI (i0.count),nI (i0.start),nI (i0.buf),nI (i0.th),nI (i0.tt),nI (i0.sh),nI (i0.st)] 49)).alloc (.cells #[nI 0,nI 0] 144)) (by kernel_rfl) ?_
 intro a11 hF10; clear hF9
 refine wpList_nil (thenN ?_)
 cases hc12:(i1)
 case true =>
  rw [hc12] at hF10
  have hm13:=ifYes hc12 hm; clear hm
  refine ev_condT hF10 rfl rfl ?_
  refine wp_seq (wp_region_lit ?_)
  refine ev_runs 1 hF10 (l':=[(6,nP (w.heap.size) 7),(5,.bool true),(4,nP ((w.alloc (.cells #[nI (i0.cap),nI (i0.closed),nI (i0.count),nI (i0.start),nI (i0.buf),nI (i0.th),nI (i0.tt),nI (i0.sh),nI (i0.st)] 49)).heap.size) 0),(2,nB w)]) (w':=(w.alloc (.cells #[nI (i0.cap),nI (i0.closed),nI (i0.count),nI (i0.start),nI (i0.buf),nI (i0.th),nI (i0.tt),nI (i0.sh),nI (i0.st)] 49)).alloc (.cells #[nI 0,nI 0] 144)) (by kernel_rfl) ?_
  intro a15 hF14; clear hF10
  refine ev_one (nI (i0.sh)) ((w.alloc (.cells #[nI (i0.cap),nI (i0.closed),nI (i0.count),nI (i0.start),nI (i0.buf),nI (i0.th),nI (i0.tt),nI (i0.sh),nI (i0.st)] 49)).alloc (.cells #[nI 0,nI 0] 144)) hF14 (by kernel_rfl) rfl (by kernel_rfl) (run_loadV rfl rfl (run_loadS rfl rfl (hS8.cell 1 rfl 7 rfl))) (l':=[(7,nI (i0.sh)),(6,nP (w.heap.size) 7),(5,.bool true),(4,nP ((w.alloc (.cells #[nI (i0.cap),nI (i0.closed),nI (i0.count),nI (i0.start),nI (i0.buf),nI (i0.th),nI (i0.tt),nI (i0.sh),nI (i0.st)] 49)).heap.size) 0),(2,nB w)]) (by kernel_rfl) ?_
  intro a17 hF16; clear hF14
  refine ev_runs 1 hF16 (l':=[(8,nP (w.heap.size) 8),(7,nI (i0.sh)),(6,nP (w.heap.size) 7),(5,.bool true),(4,nP ((w.alloc (.cells #[nI (i0.cap),nI (i0.closed),nI (i0.count),nI (i0.start),nI (i0.buf),nI (i0.th),nI (i0.tt),nI (i0.sh),nI (i0.st)] 49)).heap.size) 0),(2,nB w)]) (w':=(w.alloc (.cells #[nI (i0.cap),nI (i0.closed),nI (i0.count),nI (i0.start),nI (i0.buf),nI (i0.th),nI (i0.tt),nI (i0.sh),nI (i0.st)] 49)).alloc (.cells #[nI 0,nI 0] 144)) (by kernel_rfl) ?_
  intro a19 hF18; clear hF16
  refine ev_one (nI (i0.st)) ((w.alloc (.cells #[nI (i0.cap),nI (i0.closed),nI (i0.count),nI (i0.start),nI (i0.buf),nI (i0.th),nI (i0.tt),nI (i0.sh),nI (i0.st)] 49)).alloc (.cells #[nI 0,nI 0] 144)) hF18 (by kernel_rfl) rfl (by kernel_rfl) (run_loadV rfl rfl (run_loadS rfl rfl (hS8.cell 1 rfl 8 rfl))) (l':=[(9,nI (i0.st)),(8,nP (w.heap.size) 8),(7,nI (i0.sh)),(6,nP (w.heap.size) 7),(5,.bool true),(4,nP ((w.alloc (.cells #[nI (i0.cap),nI (i0.closed),nI (i0.count),nI (i0.start),nI (i0.buf),nI (i0.th),nI (i0.tt),nI (i0.sh),nI (i0.st)] 49)).heap.size) 0),(2,nB w)]) (by kernel_rfl) ?_
  intro a21 hF20; clear hF18
  refine ev_runs 1 hF20 (l':=[(10,.agg #[nI (i0.sh),nI (i0.st)]),(9,nI (i0.st)),(8,nP (w.heap.size) 8),(7,nI (i0.sh)),(6,nP (w.heap.size) 7),(5,.bool true),(4,nP ((w.alloc (.cells #[nI (i0.cap),nI (i0.closed),nI (i0.count),nI (i0.start),nI (i0.buf),nI (i0.th),nI (i0.tt),nI (i0.sh),nI (i0.st)] 49)).heap.size) 0),(2,nB w)]) (w':=(w.alloc (.cells #[nI (i0.cap),nI (i0.closed),nI (i0.count),nI (i0.start),nI (i0.buf),nI (i0.th),nI (i0.tt),nI (i0.sh),nI (i0.st)] 49)).alloc (.cells #[nI 0,nI 0] 144)) (by kernel_rfl) ?_
  intro a23 hF22; clear hF20
  refine ev_store (.agg #[nI (i0.sh),nI (i0.st)]) #[nI (i0.sh),nI (i0.st)] hF22 (by kernel_rfl) rfl rfl rfl rfl (by kernel_rfl) hS8 (by kernel_rfl) (by kernel_rfl) (by kernel_rfl) (l':=[(10,.agg #[nI (i0.sh),nI (i0.st)]),(9,nI (i0.st)),(8,nP (w.heap.size) 8),(7,nI (i0.sh)),(6,nP (w.heap.size) 7),(5,.bool true),(4,nP ((w.alloc (.cells #[nI (i0.cap),nI (i0.closed),nI (i0.count),nI (i0.start),nI (i0.buf),nI (i0.th),nI (i0.tt),nI (i0.sh),nI (i0.st)] 49)).heap.size) 0),(2,nB w)]) (by kernel_rfl) ?_
  intro w24 a25 hS26 hF27; clear hF22 hS8
  refine wpList_nil ?_
  have hF28:=hF27.keep [4]
  clear hF27
  have hS29:=hS26.pick1.drop
  clear hS26
  refine thenN ?_
  refine wp_ret ?_
  refine thenR ?_
  obtain rfl:=Option.some.inj hm13
  refine ev_retC hF28 _ [.agg #[nI (i0.sh),nI (i0.st)]] (.agg #[nI (i0.sh),nI (i0.st)]) rfl ⟨⟨rfl,_,rfl,(run_loadA (cs:=[nI (i0.sh),nI (i0.st)]) rfl rfl (by kernel_rfl) (blk_cells hS29 0 rfl rfl))⟩,trivial⟩ rfl ?_
  have hS31:=hS29.drop
  clear hS29
  exact ⟨rfl,hS31⟩
 rw [hc12] at hF10
 have hm32:=ifNot hc12 hm; clear hm
 refine ev_condF hF10 rfl rfl ?_
 refine wp_skip ?_
 have hF33:=hF10.keep [2,4]
 clear hF10
 refine thenN (wp_seq (wp_region_lit ?_))
 refine ev_runs 1 hF33 (l':=[(11,nP (w.heap.size) 5),(4,nP ((w.alloc (.cells #[nI (i0.cap),nI (i0.closed),nI (i0.count),nI (i0.start),nI (i0.buf),nI (i0.th),nI (i0.tt),nI (i0.sh),nI (i0.st)] 49)).heap.size) 0),(2,nB w)]) (w':=(w.alloc (.cells #[nI (i0.cap),nI (i0.closed),nI (i0.count),nI (i0.start),nI (i0.buf),nI (i0.th),nI (i0.tt),nI (i0.sh),nI (i0.st)] 49)).alloc (.cells #[nI 0,nI 0] 144)) (by kernel_rfl) ?_
 intro a35 hF34; clear hF33
 refine ev_one (nI (i0.th)) ((w.alloc (.cells #[nI (i0.cap),nI (i0.closed),nI (i0.count),nI (i0.start),nI (i0.buf),nI (i0.th),nI (i0.tt),nI (i0.sh),nI (i0.st)] 49)).alloc (.cells #[nI 0,nI 0] 144)) hF34 (by kernel_rfl) rfl (by kernel_rfl) (run_loadV rfl rfl (run_loadS rfl rfl (hS8.cell 1 rfl 5 rfl))) (l':=[(12,nI (i0.th)),(11,nP (w.heap.size) 5),(4,nP ((w.alloc (.cells #[nI (i0.cap),nI (i0.closed),nI (i0.count),nI (i0.start),nI (i0.buf),nI (i0.th),nI (i0.tt),nI (i0.sh),nI (i0.st)] 49)).heap.size) 0),(2,nB w)]) (by kernel_rfl) ?_
 intro a37 hF36; clear hF34
 refine ev_runs 1 hF36 (l':=[(13,nP (w.heap.size) 6),(12,nI (i0.th)),(11,nP (w.heap.size) 5),(4,nP ((w.alloc (.cells #[nI (i0.cap),nI (i0.closed),nI (i0.count),nI (i0.start),nI (i0.buf),nI (i0.th),nI (i0.tt),nI (i0.sh),nI (i0.st)] 49)).heap.size) 0),(2,nB w)]) (w':=(w.alloc (.cells #[nI (i0.cap),nI (i0.closed),nI (i0.count),nI (i0.start),nI (i0.buf),nI (i0.th),nI (i0.tt),nI (i0.sh),nI (i0.st)] 49)).alloc (.cells #[nI 0,nI 0] 144)) (by kernel_rfl) ?_
 intro a39 hF38; clear hF36
 refine ev_one (nI (i0.tt)) ((w.alloc (.cells #[nI (i0.cap),nI (i0.closed),nI (i0.count),nI (i0.start),nI (i0.buf),nI (i0.th),nI (i0.tt),nI (i0.sh),nI (i0.st)] 49)).alloc (.cells #[nI 0,nI 0] 144)) hF38 (by kernel_rfl) rfl (by kernel_rfl) (run_loadV rfl rfl (run_loadS rfl rfl (hS8.cell 1 rfl 6 rfl))) (l':=[(14,nI (i0.tt)),(13,nP (w.heap.size) 6),(12,nI (i0.th)),(11,nP (w.heap.size) 5),(4,nP ((w.alloc (.cells #[nI (i0.cap),nI (i0.closed),nI (i0.count),nI (i0.start),nI (i0.buf),nI (i0.th),nI (i0.tt),nI (i0.sh),nI (i0.st)] 49)).heap.size) 0),(2,nB w)]) (by kernel_rfl) ?_
 intro a41 hF40; clear hF38
 refine ev_runs 1 hF40 (l':=[(15,.agg #[nI (i0.th),nI (i0.tt)]),(14,nI (i0.tt)),(13,nP (w.heap.size) 6),(12,nI (i0.th)),(11,nP (w.heap.size) 5),(4,nP ((w.alloc (.cells #[nI (i0.cap),nI (i0.closed),nI (i0.count),nI (i0.start),nI (i0.buf),nI (i0.th),nI (i0.tt),nI (i0.sh),nI (i0.st)] 49)).heap.size) 0),(2,nB w)]) (w':=(w.alloc (.cells #[nI (i0.cap),nI (i0.closed),nI (i0.count),nI (i0.start),nI (i0.buf),nI (i0.th),nI (i0.tt),nI (i0.sh),nI (i0.st)] 49)).alloc (.cells #[nI 0,nI 0] 144)) (by kernel_rfl) ?_
 intro a43 hF42; clear hF40
 refine ev_store (.agg #[nI (i0.th),nI (i0.tt)]) #[nI (i0.th),nI (i0.tt)] hF42 (by kernel_rfl) rfl rfl rfl rfl (by kernel_rfl) hS8 (by kernel_rfl) (by kernel_rfl) (by kernel_rfl) (l':=[(15,.agg #[nI (i0.th),nI (i0.tt)]),(14,nI (i0.tt)),(13,nP (w.heap.size) 6),(12,nI (i0.th)),(11,nP (w.heap.size) 5),(4,nP ((w.alloc (.cells #[nI (i0.cap),nI (i0.closed),nI (i0.count),nI (i0.start),nI (i0.buf),nI (i0.th),nI (i0.tt),nI (i0.sh),nI (i0.st)] 49)).heap.size) 0),(2,nB w)]) (by kernel_rfl) ?_
 intro w44 a45 hS46 hF47; clear hF42 hS8
 refine wpList_nil ?_
 have hF48:=hF47.keep [4]
 clear hF47
 have hS49:=hS46.pick1.drop
 clear hS46
 refine thenN ?_
 refine wp_ret ?_
 obtain rfl:=Option.some.inj hm32
 refine ev_retC hF48 _ [.agg #[nI (i0.th),nI (i0.tt)]] (.agg #[nI (i0.th),nI (i0.tt)]) rfl ⟨⟨rfl,_,rfl,(run_loadA (cs:=[nI (i0.th),nI (i0.tt)]) rfl rfl (by kernel_rfl) (blk_cells hS49 0 rfl rfl))⟩,trivial⟩ rfl ?_
 have hS51:=hS49.drop
 clear hS49
 exact ⟨rfl,hS51⟩
def list_look.m (k:Nat) (s0:HSt) (i1:Int):Option (Option Su×HSt):=bind2 (pSudog i1 s0) fun q5 x6=>(if (x6 != 0) then some (none,s0) else some ((some (⟨q5.gor,q5.chan,q5.value,q5.next,q5.to,q5.reg,q5.more⟩:Su)),s0))
theorem list_look.ok {w0 w:World} {F0:List Nat} {ps:List Piece} {k:Nat} {b0 ab0:Nat} {s0:HSt} {i1:Int} {r0:Option Su} {t0:HSt} (hS:St w0 F0 (HeapP b0 ab0 s0::ps) w) (hm:list_look.m k s0 i1=some (r0,t0)) :
    Calls Tryz.prog 77 #[nP b0 0,nI i1] w fun e w'=>e=.returned (oSuV 148 r0)∧St w0 F0 (HeapP b0 ab0 t0::ps) w':=by
 refine ev_enterL 17 [nP b0 0,nI i1] Tryz.func77 rfl rfl (by simp) ?_
 intro a hF
 have hF0:Fr 17 a [(0,nP b0 0),(1,nI i1)]:=hF; clear hF
 unfold list_look.m at hm
 refine wp_seq (wp_region_lit ?_)
 refine ev_runK 1 hF0 [0,1] (l':=[(0,nP b0 0),(1,nI i1)]) (w':=w) (by kernel_rfl) ?_
 intro a2 hF1; clear hF0
 refine wpList_nil (thenN (wp_seq (wp_region_lit ?_)))
 refine ev_runs 2 hF1 (l':=[(9,nI i1),(8,nP b0 0),(0,nP b0 0),(1,nI i1)]) (w':=w) (by kernel_rfl) ?_
 intro a4 hF3; clear hF1
 refine ev_call 94 #[nP b0 0,nI i1] hF3 rfl rfl (by kernel_rfl) rfl (by kernel_rfl) (fun w=>by kernel_rfl) ?_
 obtain ⟨q5,x6,hx7,hm8⟩:=bind2E hm; clear hm
 refine (p_Sudog hS hx7).mono ?_
 rintro _ w9 ⟨rfl,hS11⟩ a10 hF12; clear hF3 hS
 refine ev_runs 4 hF12 (l':=[(5,nB w9),(12,nI x6),(11,.agg #[nI (q5.gor),nI (q5.chan),nI (q5.value),nI (q5.next),nI (q5.to),nI (q5.reg),nI (q5.more)]),(7,.tuple #[.agg #[nI (q5.gor),nI (q5.chan),nI (q5.value),nI (q5.next),nI (q5.to),nI (q5.reg),nI (q5.more)],nI x6]),(10,.tuple #[.agg #[nI (q5.gor),nI (q5.chan),nI (q5.value),nI (q5.next),nI (q5.to),nI (q5.reg),nI (q5.more)],nI x6]),(9,nI i1),(8,nP b0 0),(0,nP b0 0),(1,nI i1)]) (w':=w9.alloc (.cells #[nI 0,nI 0,nI 0,nI 0,nI 0,nI 0,nI 0] 148)) (by kernel_rfl) ?_
 intro a14 hF13; clear hF12
 have hS16:St w0 F0 (BlkP (w9.heap.size) 148 #[nI 0,nI 0,nI 0,nI 0,nI 0,nI 0,nI 0]::HeapP b0 ab0 s0::ps) (w9.alloc (.cells #[nI 0,nI 0,nI 0,nI 0,nI 0,nI 0,nI 0] 148)):=St.new hS11 #[nI 0,nI 0,nI 0,nI 0,nI 0,nI 0,nI 0] 148
 clear hS11
 refine ev_store (.agg #[nI (q5.gor),nI (q5.chan),nI (q5.value),nI (q5.next),nI (q5.to),nI (q5.reg),nI (q5.more)]) #[nI (q5.gor),nI (q5.chan),nI (q5.value),nI (q5.next),nI (q5.to),nI (q5.reg),nI (q5.more)] hF13 (by kernel_rfl) rfl rfl rfl rfl (by kernel_rfl) hS16 (by kernel_rfl) (by kernel_rfl) (by kernel_rfl) (l':=[(5,nB w9),(12,nI x6),(11,.agg #[nI (q5.gor),nI (q5.chan),nI (q5.value),nI (q5.next),nI (q5.to),nI (q5.reg),nI (q5.more)]),(7,.tuple #[.agg #[nI (q5.gor),nI (q5.chan),nI (q5.value),nI (q5.next),nI (q5.to),nI (q5.reg),nI (q5.more)],nI x6]),(10,.tuple #[.agg #[nI (q5.gor),nI (q5.chan),nI (q5.value),nI (q5.next),nI (q5.to),nI (q5.reg),nI (q5.more)],nI x6]),(9,nI i1),(8,nP b0 0),(0,nP b0 0),(1,nI i1)]) (by kernel_rfl) ?_
 intro w17 a18 hS19 hF20; clear hF13 hS16
 refine ev_runK 1 hF20 [5,6] (l':=[(6,nI x6),(5,nB w9)]) (w':=w17) (by kernel_rfl) ?_
 intro a22 hF21; clear hF20
 refine wpList_nil (thenN (wp_seq (wp_seq (wp_region_lit ?_))))
 refine ev_runK 2 hF21 [5,14] (l':=[(14,.bool (x6 != 0)),(5,nB w9)]) (w':=w17) (by kernel_rfl) ?_
 intro a24 hF23; clear hF21
 refine wpList_nil (thenN ?_)
 cases hc25:(x6 != 0)
 case true =>
  rw [hc25] at hF23
  have hm26:=ifYes hc25 hm8; clear hm8
  refine ev_condT hF23 rfl rfl ?_
  refine wp_seq (wp_region_lit ?_)
  refine ev_runK 1 hF23 [4] (l':=[(4,.nilIface)]) (w':=w17) (by kernel_rfl) ?_
  intro a28 hF27; clear hF23
  refine wpList_nil ?_
  have hS29:=hS19.drop
  clear hS19
  refine thenN ?_
  refine wp_ret ?_
  refine thenR ?_
  simp only [Option.some.injEq,Prod.mk.injEq] at hm26
  obtain ⟨rfl,rfl⟩:=hm26
  refine ev_ret hF27 [4] (.nilIface) rfl rfl rfl ?_
  exact ⟨rfl,hS29⟩
 rw [hc25] at hF23
 have hm32:=ifNot hc25 hm8; clear hm8
 refine ev_condF hF23 rfl rfl ?_
 refine wp_skip ?_
 have hF33:=hF23.keep [5]
 clear hF23
 refine thenN (wp_seq (wp_region_lit ?_))
 refine ev_one (.agg #[nI (q5.gor),nI (q5.chan),nI (q5.value),nI (q5.next),nI (q5.to),nI (q5.reg),nI (q5.more)]) w17 hF33 (by kernel_rfl) rfl (by kernel_rfl) (run_loadV rfl rfl (run_loadA (cs:=[nI (q5.gor),nI (q5.chan),nI (q5.value),nI (q5.next),nI (q5.to),nI (q5.reg),nI (q5.more)]) rfl rfl (by kernel_rfl) (blk_cells hS19 0 rfl rfl))) (l':=[(15,.agg #[nI (q5.gor),nI (q5.chan),nI (q5.value),nI (q5.next),nI (q5.to),nI (q5.reg),nI (q5.more)]),(5,nB w9)]) (by kernel_rfl) ?_
 intro a35 hF34; clear hF33
 refine ev_runK 2 hF34 [4] (l':=[(4,.iface 148 (.agg #[nI (q5.gor),nI (q5.chan),nI (q5.value),nI (q5.next),nI (q5.to),nI (q5.reg),nI (q5.more)]))]) (w':=w17) (by kernel_rfl) ?_
 intro a37 hF36; clear hF34
 refine wpList_nil ?_
 have hS38:=hS19.drop
 clear hS19
 refine thenN ?_
 refine wp_ret ?_
 simp only [Option.some.injEq,Prod.mk.injEq] at hm32
 obtain ⟨rfl,rfl⟩:=hm32
 refine ev_ret hF36 [4] (.iface 148 (.agg #[nI (q5.gor),nI (q5.chan),nI (q5.value),nI (q5.next),nI (q5.to),nI (q5.reg),nI (q5.more)])) rfl rfl rfl ?_
 exact ⟨rfl,hS38⟩
def list_All.l1b (k:Nat) (rec64:List Int→HSt→Int→Option (List Int×HSt)) (L58:List Int) (s60:HSt) (x61:Int):Option (List Int×HSt):=bind1 (slices_Contains.m k L58 x61) fun y75=>(if (!(y75)) then bind2 (list_look.m k s60 x61) fun o90 s91=>optE o90 (some (L58,s91)) fun q116=>bind1 (pushM L58 x61) fun L134=>rec64 L134 s91 q116.next else some (L58,s60))
def list_All.l1 (k:Nat):Nat→List Int→HSt→Int→Option (List Int×HSt)
  | 0=>fun _ _ _=>none
  | kI+1=>list_All.l1b k (list_All.l1 k kI)
def list_All.m (k:Nat) (s0:HSt) (i1:Int) (i2:Bool):Option (List Int×HSt):=bind2 (pChan i1 s0) fun q8 x9=>(if (x9 != 0) then some ([],s0) else bind1 (list_of.m k (⟨q8.cap,q8.closed,q8.count,q8.start,q8.buf,q8.th,q8.tt,q8.sh,q8.st⟩:Ch) (i2)) fun q48=>list_All.l1 k k [] s0 q48.head)
theorem list_All.ok {w0 w:World} {F0:List Nat} {ps:List Piece} {k:Nat} {b0 ab0:Nat} {s0:HSt} {i1:Int} {i2:Bool} {r0:List Int} {t0:HSt} (hS:St w0 F0 (HeapP b0 ab0 s0::ps) w) (hm:list_All.m k s0 i1 i2=some (r0,t0)) :
    Calls Tryz.prog 53 #[nP b0 0,nI i1,.bool (i2)] w fun e w'=>∃ vr0,e=.returned (vr0)∧St w0 F0 (HeapP b0 ab0 t0::RowP vr0 r0::ps) w':=by
 refine ev_enterL 45 [nP b0 0,nI i1,.bool (i2)] Tryz.func53 rfl rfl (by simp) ?_
 intro a hF
 have hF0:Fr 45 a [(0,nP b0 0),(1,nI i1),(2,.bool (i2))]:=hF; clear hF
 unfold list_All.m at hm
 refine wp_seq (wp_region_lit ?_)
 have hS2:St w0 F0 (RowP (.slice none 0 0) []::HeapP b0 ab0 s0::ps) w:=St.nil hS
 refine ev_runK 1 hF0 [0,1,2] (l':=[(0,nP b0 0),(1,nI i1),(2,.bool (i2))]) (w':=w) (by kernel_rfl) ?_
 intro a4 hF3; clear hF0
 refine wpList_nil ?_
 have hS5:=hS2.drop
 clear hS2
 refine thenN (wp_seq (wp_region_lit ?_))
 refine ev_runs 2 hF3 (l':=[(15,nI i1),(14,nP b0 0),(0,nP b0 0),(1,nI i1),(2,.bool (i2))]) (w':=w) (by kernel_rfl) ?_
 intro a7 hF6; clear hF3
 refine ev_call 50 #[nP b0 0,nI i1] hF6 rfl rfl (by kernel_rfl) rfl (by kernel_rfl) (fun w=>by kernel_rfl) ?_
 obtain ⟨q8,x9,hx10,hm11⟩:=bind2E hm; clear hm
 refine (p_Chan hS5 hx10).mono ?_
 rintro _ w12 ⟨rfl,hS14⟩ a13 hF15; clear hF6 hS5
 refine ev_runs 4 hF15 (l':=[(7,nB w12),(18,nI x9),(17,.agg #[nI (q8.cap),nI (q8.closed),nI (q8.count),nI (q8.start),nI (q8.buf),nI (q8.th),nI (q8.tt),nI (q8.sh),nI (q8.st)]),(13,.tuple #[.agg #[nI (q8.cap),nI (q8.closed),nI (q8.count),nI (q8.start),nI (q8.buf),nI (q8.th),nI (q8.tt),nI (q8.sh),nI (q8.st)],nI x9]),(16,.tuple #[.agg #[nI (q8.cap),nI (q8.closed),nI (q8.count),nI (q8.start),nI (q8.buf),nI (q8.th),nI (q8.tt),nI (q8.sh),nI (q8.st)],nI x9]),(15,nI i1),(14,nP b0 0),(0,nP b0 0),(1,nI i1),(2,.bool (i2))]) (w':=w12.alloc (.cells #[nI 0,nI 0,nI 0,nI 0,nI 0,nI 0,nI 0,nI 0,nI 0] 49)) (by kernel_rfl) ?_
 intro a17 hF16; clear hF15
 have hS19:St w0 F0 (BlkP (w12.heap.size) 49 #[nI 0,nI 0,nI 0,nI 0,nI 0,nI 0,nI 0,nI 0,nI 0]::HeapP b0 ab0 s0::ps) (w12.alloc (.cells #[nI 0,nI 0,nI 0,nI 0,nI 0,nI 0,nI 0,nI 0,nI 0] 49)):=St.new hS14 #[nI 0,nI 0,nI 0,nI 0,nI 0,nI 0,nI 0,nI 0,nI 0] 49
 clear hS14
 refine ev_store (.agg #[nI (q8.cap),nI (q8.closed),nI (q8.count),nI (q8.start),nI (q8.buf),nI (q8.th),nI (q8.tt),nI (q8.sh),nI (q8.st)]) #[nI (q8.cap),nI (q8.closed),nI (q8.count),nI (q8.start),nI (q8.buf),nI (q8.th),nI (q8.tt),nI (q8.sh),nI (q8.st)] hF16 (by kernel_rfl) rfl rfl rfl rfl (by kernel_rfl) hS19 (by kernel_rfl) (by kernel_rfl) (by kernel_rfl) (l':=[(7,nB w12),(18,nI x9),(17,.agg #[nI (q8.cap),nI (q8.closed),nI (q8.count),nI (q8.start),nI (q8.buf),nI (q8.th),nI (q8.tt),nI (q8.sh),nI (q8.st)]),(13,.tuple #[.agg #[nI (q8.cap),nI (q8.closed),nI (q8.count),nI (q8.start),nI (q8.buf),nI (q8.th),nI (q8.tt),nI (q8.sh),nI (q8.st)],nI x9]),(16,.tuple #[.agg #[nI (q8.cap),nI (q8.closed),nI (q8.count),nI (q8.start),nI (q8.buf),nI (q8.th),nI (q8.tt),nI (q8.sh),nI (q8.st)],nI x9]),(15,nI i1),(14,nP b0 0),(0,nP b0 0),(1,nI i1),(2,.bool (i2))]) (by kernel_rfl) ?_
 intro w20 a21 hS22 hF23; clear hF16 hS19
 refine ev_runK 1 hF23 [0,2,7,8] (l':=[(8,nI x9),(7,nB w12),(0,nP b0 0),(2,.bool (i2))]) (w':=w20) (by kernel_rfl) ?_
 intro a25 hF24; clear hF23
 refine wpList_nil (thenN (wp_seq (wp_seq (wp_region_lit ?_))))
 refine ev_runK 2 hF24 [0,2,7,20] (l':=[(20,.bool (x9 != 0)),(7,nB w12),(0,nP b0 0),(2,.bool (i2))]) (w':=w20) (by kernel_rfl) ?_
 intro a27 hF26; clear hF24
 refine wpList_nil (thenN ?_)
 cases hc28:(x9 != 0)
 case true =>
  rw [hc28] at hF26
  have hm29:=ifYes hc28 hm11; clear hm11
  refine ev_condT hF26 rfl rfl ?_
  refine wp_seq (wp_region_lit ?_)
  have hS31:St w0 F0 (RowP (.slice none 0 0) []::BlkP (w12.heap.size) 49 #[nI (q8.cap),nI (q8.closed),nI (q8.count),nI (q8.start),nI (q8.buf),nI (q8.th),nI (q8.tt),nI (q8.sh),nI (q8.st)]::HeapP b0 ab0 s0::ps) w20:=St.nil hS22
  clear hS22
  refine ev_runK 1 hF26 [6] (l':=[(6,.slice none 0 0)]) (w':=w20) (by kernel_rfl) ?_
  intro a33 hF32; clear hF26
  refine wpList_nil ?_
  have hS34:=hS31.pick1.drop
  clear hS31
  refine thenN ?_
  refine wp_ret ?_
  refine thenR ?_
  have hS35:=hS34.pick1
  clear hS34
  simp only [Option.some.injEq,Prod.mk.injEq] at hm29
  obtain ⟨rfl,rfl⟩:=hm29
  refine ev_ret hF32 [6] (.slice none 0 0) rfl rfl rfl ?_
  exact ⟨_,rfl,hS35⟩
 rw [hc28] at hF26
 have hm38:=ifNot hc28 hm11; clear hm11
 refine ev_condF hF26 rfl rfl ?_
 refine wp_skip ?_
 have hF39:=hF26.keep [0,2,7]
 clear hF26
 refine thenN (wp_seq (wp_region_lit ?_))
 have hS41:St w0 F0 (RowP (.slice none 0 0) []::BlkP (w12.heap.size) 49 #[nI (q8.cap),nI (q8.closed),nI (q8.count),nI (q8.start),nI (q8.buf),nI (q8.th),nI (q8.tt),nI (q8.sh),nI (q8.st)]::HeapP b0 ab0 s0::ps) w20:=St.nil hS22
 clear hS22
 refine ev_runs 1 hF39 (l':=[(9,.slice none 0 0),(7,nB w12),(0,nP b0 0),(2,.bool (i2))]) (w':=w20) (by kernel_rfl) ?_
 intro a43 hF42; clear hF39
 refine wpList_nil (thenN (wp_seq (wp_seq (wp_region_lit ?_))))
 refine ev_one (.agg #[nI (q8.cap),nI (q8.closed),nI (q8.count),nI (q8.start),nI (q8.buf),nI (q8.th),nI (q8.tt),nI (q8.sh),nI (q8.st)]) w20 hF42 (by kernel_rfl) rfl (by kernel_rfl) (run_loadV rfl rfl (run_loadA (cs:=[nI (q8.cap),nI (q8.closed),nI (q8.count),nI (q8.start),nI (q8.buf),nI (q8.th),nI (q8.tt),nI (q8.sh),nI (q8.st)]) rfl rfl (by kernel_rfl) (blk_cells hS41 1 rfl rfl))) (l':=[(21,.agg #[nI (q8.cap),nI (q8.closed),nI (q8.count),nI (q8.start),nI (q8.buf),nI (q8.th),nI (q8.tt),nI (q8.sh),nI (q8.st)]),(9,.slice none 0 0),(7,nB w12),(0,nP b0 0),(2,.bool (i2))]) (by kernel_rfl) ?_
 intro a45 hF44; clear hF42
 refine ev_runs 1 hF44 (l':=[(22,.bool (i2)),(21,.agg #[nI (q8.cap),nI (q8.closed),nI (q8.count),nI (q8.start),nI (q8.buf),nI (q8.th),nI (q8.tt),nI (q8.sh),nI (q8.st)]),(9,.slice none 0 0),(7,nB w12),(0,nP b0 0),(2,.bool (i2))]) (w':=w20) (by kernel_rfl) ?_
 intro a47 hF46; clear hF44
 refine ev_call 75 #[.agg #[nI (q8.cap),nI (q8.closed),nI (q8.count),nI (q8.start),nI (q8.buf),nI (q8.th),nI (q8.tt),nI (q8.sh),nI (q8.st)],.bool (i2)] hF46 rfl rfl (by kernel_rfl) rfl (by kernel_rfl) (fun w=>by kernel_rfl) ?_
 obtain ⟨q48,hx49,hm50⟩:=bind1E hm38; clear hm38
 refine (list_of.ok hS41 hx49).mono ?_
 rintro _ w51 ⟨rfl,hS53⟩ a52 hF54; clear hF46 hS41
 refine ev_runK 2 hF54 [0,9,10] (l':=[(10,nI (q48.head)),(9,.slice none 0 0),(0,nP b0 0)]) (w':=w51) (by kernel_rfl) ?_
 intro a56 hF55; clear hF54
 refine wpList_nil ?_
 have hS57:=hS53.pick1.drop
 clear hS53
 refine thenN ?_
 refine wp_block ?_
 refine wp_loop_ghost (fun kI aI wI=>∃ (v59:Value) (L58:List Int) (s60:HSt) (x61:Int),Fr 45 aI [(10,nI x61),(9,v59),(0,nP b0 0)]∧St w0 F0 (RowP (v59) L58::HeapP b0 ab0 s60::ps) wI∧list_All.l1 k kI L58 s60 x61=some (r0,t0)) k ⟨.slice none 0 0,[],s0,q48.head,hF55,hS57,hm50⟩ ?_
 rintro k62 a63 w64 ⟨v59,L58,s60,x61,hF65,hS66,hm67⟩
 clear hF55 hS57 hm50
 rcases k62 with _ | k62
 · cases hm67
 have hm68:list_All.l1b k (list_All.l1 k k62) L58 s60 x61=some (r0,t0):=hm67
 clear hm67
 unfold list_All.l1b at hm68
 obtain ⟨hl72,p69,c70,rfl,hp71⟩:=St.shape hS66 0 rfl
 refine wp_seq (wp_seq (wp_region_lit ?_))
 refine ev_runs 2 hF65 (l':=[(26,nI x61),(25,.slice p69 L58.length c70),(10,nI x61),(9,.slice p69 L58.length c70),(0,nP b0 0)]) (w':=w64) (by kernel_rfl) ?_
 intro a74 hF73; clear hF65
 refine ev_call 76 #[.slice p69 L58.length c70,nI x61] hF73 rfl rfl (by kernel_rfl) rfl (by kernel_rfl) (fun w=>by kernel_rfl) ?_
 obtain ⟨y75,hx76,hm77⟩:=bind1E hm68; clear hm68
 refine (slices_Contains.ok hS66 hx76).mono ?_
 rintro _ w78 ⟨rfl,hS80⟩ a79 hF81; clear hF73 hS66
 refine ev_runK 1 hF81 [0,9,10,28] (l':=[(28,.bool (!(y75))),(10,nI x61),(9,.slice p69 L58.length c70),(0,nP b0 0)]) (w':=w78) (by kernel_rfl) ?_
 intro a83 hF82; clear hF81
 refine wpList_nil (thenN ?_)
 cases hc84:(!(y75))
 case true =>
  rw [hc84] at hF82
  have hm85:=ifYes hc84 hm77; clear hm77
  refine ev_condT hF82 rfl rfl ?_
  refine wp_skip ?_
  have hF86:=hF82.keep [0,9,10]
  clear hF82
  refine thenN ?_
  refine wp_block ?_
  refine wp_seq (wp_region_lit ?_)
  refine ev_runs 2 hF86 (l':=[(31,nI x61),(30,nP b0 0),(10,nI x61),(9,.slice p69 L58.length c70),(0,nP b0 0)]) (w':=w78) (by kernel_rfl) ?_
  intro a88 hF87; clear hF86
  have hS89:=hS80.pick1
  clear hS80
  refine ev_call 77 #[nP b0 0,nI x61] hF87 rfl rfl (by kernel_rfl) rfl (by kernel_rfl) (fun w=>by kernel_rfl) ?_
  obtain ⟨o90,s91,hx92,hm93⟩:=bind2E hm85; clear hm85
  refine (list_look.ok hS89 hx92).mono ?_
  rintro _ w94 ⟨rfl,hS96⟩ a95 hF97; clear hF87 hS89
  cases o90 with
  | none =>
   have hm98:=optN hm93; clear hm93
   refine ev_runs 5 hF97 (l':=[(11,nB w94),(35,.bool false),(34,.agg #[nI 0,nI 0,nI 0,nI 0,nI 0,nI 0,nI 0]),(29,.tuple #[.agg #[nI 0,nI 0,nI 0,nI 0,nI 0,nI 0,nI 0],.bool false]),(33,.tuple #[.agg #[nI 0,nI 0,nI 0,nI 0,nI 0,nI 0,nI 0],.bool false]),(32,.nilIface),(31,nI x61),(30,nP b0 0),(10,nI x61),(9,.slice p69 L58.length c70),(0,nP b0 0)]) (w':=w94.alloc (.cells #[nI 0,nI 0,nI 0,nI 0,nI 0,nI 0,nI 0] 148)) (by kernel_rfl) ?_
   intro a100 hF99; clear hF97
   have hS102:St w0 F0 (BlkP (w94.heap.size) 148 #[nI 0,nI 0,nI 0,nI 0,nI 0,nI 0,nI 0]::HeapP b0 ab0 s91::RowP (.slice p69 L58.length c70) L58::ps) (w94.alloc (.cells #[nI 0,nI 0,nI 0,nI 0,nI 0,nI 0,nI 0] 148)):=St.new hS96 #[nI 0,nI 0,nI 0,nI 0,nI 0,nI 0,nI 0] 148
   clear hS96
   refine ev_store (.agg #[nI 0,nI 0,nI 0,nI 0,nI 0,nI 0,nI 0]) #[nI 0,nI 0,nI 0,nI 0,nI 0,nI 0,nI 0] hF99 (by kernel_rfl) rfl rfl rfl rfl (by kernel_rfl) hS102 (by kernel_rfl) (by kernel_rfl) (by kernel_rfl) (l':=[(11,nB w94),(35,.bool false),(34,.agg #[nI 0,nI 0,nI 0,nI 0,nI 0,nI 0,nI 0]),(29,.tuple #[.agg #[nI 0,nI 0,nI 0,nI 0,nI 0,nI 0,nI 0],.bool false]),(33,.tuple #[.agg #[nI 0,nI 0,nI 0,nI 0,nI 0,nI 0,nI 0],.bool false]),(32,.nilIface),(31,nI x61),(30,nP b0 0),(10,nI x61),(9,.slice p69 L58.length c70),(0,nP b0 0)]) (by kernel_rfl) ?_
   intro w103 a104 hS105 hF106; clear hF99 hS102
   refine ev_runK 1 hF106 [0,9,10,11,12] (l':=[(12,.bool false),(11,nB w94),(10,nI x61),(9,.slice p69 L58.length c70),(0,nP b0 0)]) (w':=w103) (by kernel_rfl) ?_
   intro a108 hF107; clear hF106
   refine wpList_nil (thenN (wp_seq (wp_seq (wp_region_lit ?_))))
   refine ev_runK 2 hF107 [0,9,10,11,37] (l':=[(37,.bool true),(11,nB w94),(10,nI x61),(9,.slice p69 L58.length c70),(0,nP b0 0)]) (w':=w103) (by kernel_rfl) ?_
   intro a110 hF109; clear hF107
   refine wpList_nil (thenN ?_)
   refine ev_condT hF109 rfl rfl ?_
   refine wp_exit ?_
   refine thenE ?_
   refine blockX (by decide) ?_
   refine thenE ?_
   refine blockE ?_
   refine thenN (wp_seq (wp_region_lit ?_))
   refine ev_runK 2 hF109 [6] (l':=[(6,.slice p69 L58.length c70)]) (w':=w103) (by kernel_rfl) ?_
   intro a112 hF111; clear hF109
   refine wpList_nil ?_
   have hS113:=hS105.drop
   clear hS105
   refine thenN ?_
   refine wp_ret ?_
   simp only [Option.some.injEq,Prod.mk.injEq] at hm98
   obtain ⟨rfl,rfl⟩:=hm98
   refine ev_ret hF111 [6] (.slice p69 L58.length c70) rfl rfl rfl ?_
   exact ⟨_,rfl,hS113⟩
  | some q116 =>
   have hm117:=optS hm93; clear hm93
   refine ev_runs 5 hF97 (l':=[(11,nB w94),(35,.bool true),(34,.agg #[nI (q116.gor),nI (q116.chan),nI (q116.value),nI (q116.next),nI (q116.to),nI (q116.reg),nI (q116.more)]),(29,.tuple #[.agg #[nI (q116.gor),nI (q116.chan),nI (q116.value),nI (q116.next),nI (q116.to),nI (q116.reg),nI (q116.more)],.bool true]),(33,.tuple #[.agg #[nI (q116.gor),nI (q116.chan),nI (q116.value),nI (q116.next),nI (q116.to),nI (q116.reg),nI (q116.more)],.bool true]),(32,.iface 148 (.agg #[nI (q116.gor),nI (q116.chan),nI (q116.value),nI (q116.next),nI (q116.to),nI (q116.reg),nI (q116.more)])),(31,nI x61),(30,nP b0 0),(10,nI x61),(9,.slice p69 L58.length c70),(0,nP b0 0)]) (w':=w94.alloc (.cells #[nI 0,nI 0,nI 0,nI 0,nI 0,nI 0,nI 0] 148)) (by kernel_rfl) ?_
   intro a119 hF118; clear hF97
   have hS121:St w0 F0 (BlkP (w94.heap.size) 148 #[nI 0,nI 0,nI 0,nI 0,nI 0,nI 0,nI 0]::HeapP b0 ab0 s91::RowP (.slice p69 L58.length c70) L58::ps) (w94.alloc (.cells #[nI 0,nI 0,nI 0,nI 0,nI 0,nI 0,nI 0] 148)):=St.new hS96 #[nI 0,nI 0,nI 0,nI 0,nI 0,nI 0,nI 0] 148
   clear hS96
   refine ev_store (.agg #[nI (q116.gor),nI (q116.chan),nI (q116.value),nI (q116.next),nI (q116.to),nI (q116.reg),nI (q116.more)]) #[nI (q116.gor),nI (q116.chan),nI (q116.value),nI (q116.next),nI (q116.to),nI (q116.reg),nI (q116.more)] hF118 (by kernel_rfl) rfl rfl rfl rfl (by kernel_rfl) hS121 (by kernel_rfl) (by kernel_rfl) (by kernel_rfl) (l':=[(11,nB w94),(35,.bool true),(34,.agg #[nI (q116.gor),nI (q116.chan),nI (q116.value),nI (q116.next),nI (q116.to),nI (q116.reg),nI (q116.more)]),(29,.tuple #[.agg #[nI (q116.gor),nI (q116.chan),nI (q116.value),nI (q116.next),nI (q116.to),nI (q116.reg),nI (q116.more)],.bool true]),(33,.tuple #[.agg #[nI (q116.gor),nI (q116.chan),nI (q116.value),nI (q116.next),nI (q116.to),nI (q116.reg),nI (q116.more)],.bool true]),(32,.iface 148 (.agg #[nI (q116.gor),nI (q116.chan),nI (q116.value),nI (q116.next),nI (q116.to),nI (q116.reg),nI (q116.more)])),(31,nI x61),(30,nP b0 0),(10,nI x61),(9,.slice p69 L58.length c70),(0,nP b0 0)]) (by kernel_rfl) ?_
   intro w122 a123 hS124 hF125; clear hF118 hS121
   refine ev_runK 1 hF125 [0,9,10,11,12] (l':=[(12,.bool true),(11,nB w94),(10,nI x61),(9,.slice p69 L58.length c70),(0,nP b0 0)]) (w':=w122) (by kernel_rfl) ?_
   intro a127 hF126; clear hF125
   refine wpList_nil (thenN (wp_seq (wp_seq (wp_region_lit ?_))))
   refine ev_runK 2 hF126 [0,9,10,11,37] (l':=[(37,.bool false),(11,nB w94),(10,nI x61),(9,.slice p69 L58.length c70),(0,nP b0 0)]) (w':=w122) (by kernel_rfl) ?_
   intro a129 hF128; clear hF126
   refine wpList_nil (thenN ?_)
   refine ev_condF hF128 rfl rfl ?_
   refine wp_skip ?_
   have hF130:=hF128.keep [0,9,10,11]
   clear hF128
   refine thenN (wp_seq (wp_region_lit ?_))
   refine ev_runs 3 hF130 (l':=[(40,.slice (some ⟨w122.heap.size,0,none⟩) 1 1),(39,nI x61),(38,.slice p69 L58.length c70),(11,nB w94),(10,nI x61),(9,.slice p69 L58.length c70),(0,nP b0 0)]) (w':=w122.alloc (.cells #[nI x61] 3)) (by kernel_rfl) ?_
   intro a132 hF131; clear hF130
   have hS133:=hS124.pick2
   clear hS124
   obtain ⟨L134,hx135,hm136⟩:=bind1E hm117; clear hm117
   refine ev_push 41 (.tmp 38) (.tmp 40) hF131 rfl rfl rfl rfl rfl rfl rfl rfl hS133 hx135 ?_
   intro g137 c138 w139 a140 hS141 hF142; clear hF131 hS133
   refine ev_runK 1 hF142 [0,9,11] (l':=[(9,nS g137 L134 c138),(11,nB w94),(0,nP b0 0)]) (w':=w139) (by kernel_rfl) ?_
   intro a144 hF143; clear hF142
   refine wpList_nil (thenN (wp_region_lit ?_))
   refine ev_runs 1 hF143 (l':=[(42,nP (w94.heap.size) 3),(9,nS g137 L134 c138),(11,nB w94),(0,nP b0 0)]) (w':=w139) (by kernel_rfl) ?_
   intro a146 hF145; clear hF143
   refine ev_one (nI (q116.next)) w139 hF145 (by kernel_rfl) rfl (by kernel_rfl) (run_loadV rfl rfl (run_loadS rfl rfl (hS141.cell 1 rfl 3 rfl))) (l':=[(43,nI (q116.next)),(42,nP (w94.heap.size) 3),(9,nS g137 L134 c138),(11,nB w94),(0,nP b0 0)]) (by kernel_rfl) ?_
   intro a148 hF147; clear hF145
   refine ev_runK 1 hF147 [0,9,10] (l':=[(10,nI (q116.next)),(9,nS g137 L134 c138),(0,nP b0 0)]) (w':=w139) (by kernel_rfl) ?_
   intro a150 hF149; clear hF147
   refine wpList_nil ?_
   have hS151:=hS141.pick1.drop
   clear hS141
   refine blockN ?_
   exact thenN ⟨k62,Nat.lt_succ_self _,nS g137 L134 c138,L134,s91,q116.next,hF149,hS151,hm136⟩
 rw [hc84] at hF82
 have hm152:=ifNot hc84 hm77; clear hm77
 refine ev_condF hF82 rfl rfl ?_
 refine wp_exit ?_
 refine thenE ?_
 refine thenE ?_
 refine blockE ?_
 refine thenN (wp_seq (wp_region_lit ?_))
 refine ev_runK 2 hF82 [6] (l':=[(6,.slice p69 L58.length c70)]) (w':=w78) (by kernel_rfl) ?_
 intro a154 hF153; clear hF82
 refine wpList_nil (thenN ?_)
 refine wp_ret ?_
 have hS155:=hS80.pick1
 clear hS80
 simp only [Option.some.injEq,Prod.mk.injEq] at hm152
 obtain ⟨rfl,rfl⟩:=hm152
 refine ev_ret hF153 [6] (.slice p69 L58.length c70) rfl rfl rfl ?_
 exact ⟨_,rfl,hS155⟩
end Go.Proofs.YtjdlnmbfomojdaaGreat
namespace Go.Proofs.YtjdlnmbfomojdaaGreat
open Go.RowKit
set_option linter.unusedVariables false
end Go.Proofs.YtjdlnmbfomojdaaGreat
