/- GView GList GListN -/
import Derived.Test.YtaojmbkmicjecaaGreatKPrimV
import Derived.Test.YtaojmbkmicjecaaGreatKGHelp
import Derived.Deep.LoopGhost
import Derived.KernelRfl
namespace Go.Proofs.YtaojmbkmicjecaaGreat
open Go.RowKit
set_option linter.unusedVariables false
end Go.Proofs.YtaojmbkmicjecaaGreat
namespace Go.Proofs.YtaojmbkmicjecaaGreat
open Go.RowKit
set_option maxRecDepth 100000
set_option maxHeartbeats 40000000
set_option linter.unusedVariables false
def slices_Index.l1b (L0:List Int) (i1:Int) (rec12:Int→Option (Int)) (x9:Int):Option (Int):=(if (decide (x9<(L0.length:Int))) then (if (inR x9 L0.length) then (if (i1 == (atI L0 x9)) then some (x9) else rec12 (IntKind.i64.wrap (x9+1))) else none) else some (-1))
def slices_Index.l1 (L0:List Int) (i1:Int):Nat→Int→Option (Int)
  | 0=>fun _=>none
  | kI+1=>slices_Index.l1b L0 i1 (slices_Index.l1 L0 i1 kI)
def slices_Index.m (k:Nat) (L0:List Int) (i1:Int):Option (Int):=slices_Index.l1 L0 i1 k 0
theorem slices_Index.ok {w0 w:World} {F0:List Nat} {ps:List Piece} {k:Nat} {v0:Value} {L0:List Int} {i1:Int} {r0:Int} (hS:St w0 F0 (RowP (v0) L0::ps) w) (hm:slices_Index.m k L0 i1=some r0) :
    Calls Tryz.prog 82 #[v0,nI i1] w fun e w'=>e=.returned (.int .i64 r0)∧St w0 F0 (RowP (v0) L0::ps) w':=by
 refine ev_enterL 19 [v0,nI i1] Tryz.func82 rfl rfl (by simp) ?_
 intro a hF
 have hF0:Fr 19 a [(0,v0),(1,nI i1)]:=hF; clear hF
 unfold slices_Index.m at hm
 obtain ⟨hl4,p1,c2,rfl,hp3⟩:=St.shape hS 0 rfl
 refine wp_seq (wp_region_lit ?_)
 refine ev_runK 1 hF0 [0,1] (l':=[(0,.slice p1 L0.length c2),(1,nI i1)]) (w':=w) (by kernel_rfl) ?_
 intro a6 hF5; clear hF0
 refine wpList_nil (thenN (wp_seq (wp_seq (wp_region_lit ?_))))
 refine ev_runK 3 hF5 [0,1,7,8] (l':=[(8,nI 0),(7,nI ((L0.length:Int))),(0,.slice p1 L0.length c2),(1,nI i1)]) (w':=w) (by kernel_rfl) ?_
 intro a8 hF7; clear hF5
 refine wpList_nil (thenN ?_)
 refine wp_block ?_
 refine wp_loop_ghost (fun kI aI wI=>∃ (x9:Int),Fr 19 aI [(8,nI x9),(7,nI ((L0.length:Int))),(0,.slice p1 L0.length c2),(1,nI i1)]∧St w0 F0 (RowP (.slice p1 L0.length c2) L0::ps) wI∧slices_Index.l1 L0 i1 kI x9=some r0) k ⟨0,hF7,hS,hm⟩ ?_
 rintro k10 a11 w12 ⟨x9,hF13,hS14,hm15⟩
 clear hF7 hS hm
 rcases k10 with _ | k10
 · cases hm15
 have hm16:slices_Index.l1b L0 i1 (slices_Index.l1 L0 i1 k10) x9=some r0:=hm15
 clear hm15
 unfold slices_Index.l1b at hm16
 refine wp_seq (wp_region_lit ?_)
 refine ev_runs 1 hF13 (l':=[(9,.bool (decide (x9<(L0.length:Int)))),(8,nI x9),(7,nI ((L0.length:Int))),(0,.slice p1 L0.length c2),(1,nI i1)]) (w':=w12) (by kernel_rfl) ?_
 intro a18 hF17; clear hF13
 refine wpList_nil (thenN (wp_seq ?_))
 cases hc19:(decide (x9<(L0.length:Int)))
 case true =>
  rw [hc19] at hF17
  have hm20:=ifYes hc19 hm16; clear hm16
  refine ev_condT hF17 rfl rfl ?_
  refine wp_skip ?_
  have hF21:=hF17.keep [0,1,7,8]
  clear hF17
  refine thenN (wp_seq ?_)
  refine wp_block ?_
  refine wp_seq (wp_region_lit ?_)
  refine ev_runK 2 hF21 [0,1,5,7,8] (l':=[(5,nI x9),(8,nI x9),(7,nI ((L0.length:Int))),(0,.slice p1 L0.length c2),(1,nI i1)]) (w':=w12) (by kernel_rfl) ?_
  intro a23 hF22; clear hF21
  refine wpList_nil (thenN (wp_seq (wp_region_lit ?_)))
  refine ev_runs 3 hF22 (l':=[(13,nI x9),(12,.slice p1 L0.length c2),(11,nI i1),(5,nI x9),(8,nI x9),(7,nI ((L0.length:Int))),(0,.slice p1 L0.length c2),(1,nI i1)]) (w':=w12) (by kernel_rfl) ?_
  intro a25 hF24; clear hF22
  obtain ⟨hc26,hm27⟩:=ifTE hm20; clear hm20
  obtain ⟨g28,rfl⟩:=hp3.resolve_left (by have:=inR_spec hc26; omega)
  refine ev_one (nP g28 (x9.toNat)) w12 hF24 (by kernel_rfl) rfl (by kernel_rfl) (run_idx rfl rfl rfl rfl rfl (inR_spec hc26).1 (inR_spec hc26).2 _) (l':=[(14,nP g28 (x9.toNat)),(13,nI x9),(12,nS g28 L0 c2),(11,nI i1),(5,nI x9),(8,nI x9),(7,nI ((L0.length:Int))),(0,nS g28 L0 c2),(1,nI i1)]) (by kernel_rfl) ?_
  intro a30 hF29; clear hF24
  refine ev_one (nI (atI L0 x9)) w12 hF29 (by kernel_rfl) rfl (by kernel_rfl) (run_load1 rfl rfl rfl (hS14.atI 0 rfl hc26)) (l':=[(15,nI (atI L0 x9)),(14,nP g28 (x9.toNat)),(13,nI x9),(12,nS g28 L0 c2),(11,nI i1),(5,nI x9),(8,nI x9),(7,nI ((L0.length:Int))),(0,nS g28 L0 c2),(1,nI i1)]) (by kernel_rfl) ?_
  intro a32 hF31; clear hF29
  refine ev_runK 1 hF31 [0,1,5,7,8,16] (l':=[(16,.bool (i1 == (atI L0 x9))),(5,nI x9),(8,nI x9),(7,nI ((L0.length:Int))),(0,nS g28 L0 c2),(1,nI i1)]) (w':=w12) (by kernel_rfl) ?_
  intro a34 hF33; clear hF31
  refine wpList_nil (thenN ?_)
  cases hc35:(i1 == (atI L0 x9))
  case true =>
   rw [hc35] at hF33
   have hm36:=ifYes hc35 hm27; clear hm27
   refine ev_condT hF33 rfl rfl ?_
   refine wp_seq (wp_region_lit ?_)
   refine ev_runK 2 hF33 [4] (l':=[(4,nI x9)]) (w':=w12) (by kernel_rfl) ?_
   intro a38 hF37; clear hF33
   refine wpList_nil (thenN ?_)
   refine wp_ret ?_
   refine blockR ?_
   refine thenR (thenR ?_)
   refine blockR ?_
   refine thenR ?_
   obtain rfl:=Option.some.inj hm36
   refine ev_ret hF37 [4] (nI x9) rfl rfl rfl ?_
   exact ⟨rfl,hS14⟩
  rw [hc35] at hF33
  have hm40:=ifNot hc35 hm27; clear hm27
  refine ev_condF hF33 rfl rfl ?_
  refine wp_skip ?_
  have hF41:=hF33.keep [0,1,7,8]
  clear hF33
  refine blockN ?_
  refine thenN (wp_region_lit ?_)
  refine ev_runK 2 hF41 [0,1,7,8] (l':=[(8,nI (IntKind.i64.wrap (x9+1))),(7,nI ((L0.length:Int))),(0,nS g28 L0 c2),(1,nI i1)]) (w':=w12) (by kernel_rfl) ?_
  intro a43 hF42; clear hF41
  refine wpList_nil ?_
  exact thenN ⟨k10,Nat.lt_succ_self _,IntKind.i64.wrap (x9+1),hF42,hS14,hm40⟩
 rw [hc19] at hF17
 have hm44:=ifNot hc19 hm16; clear hm16
 refine ev_condF hF17 rfl rfl ?_
 refine wp_exit ?_
 refine thenE ?_
 refine thenE ?_
 refine blockE ?_
 refine thenN (wp_seq (wp_region_lit ?_))
 refine ev_runK 1 hF17 [4] (l':=[(4,nI (-1))]) (w':=w12) (by kernel_rfl) ?_
 intro a46 hF45; clear hF17
 refine wpList_nil (thenN ?_)
 refine wp_ret ?_
 obtain rfl:=Option.some.inj hm44
 refine ev_ret hF45 [4] (nI (-1)) rfl rfl rfl ?_
 exact ⟨rfl,hS14⟩
def slices_Contains.m (k:Nat) (L0:List Int) (i1:Int):Option (Bool):=bind1 (slices_Index.m k L0 i1) fun x9=>some (decide (x9 ≥ 0))
theorem slices_Contains.ok {w0 w:World} {F0:List Nat} {ps:List Piece} {k:Nat} {v0:Value} {L0:List Int} {i1:Int} {r0:Bool} (hS:St w0 F0 (RowP (v0) L0::ps) w) (hm:slices_Contains.m k L0 i1=some r0) :
    Calls Tryz.prog 83 #[v0,nI i1] w fun e w'=>e=.returned (.bool r0)∧St w0 F0 (RowP (v0) L0::ps) w':=by
 refine ev_enterL 9 [v0,nI i1] Tryz.func83 rfl rfl (by simp) ?_
 intro a hF
 have hF0:Fr 9 a [(0,v0),(1,nI i1)]:=hF; clear hF
 unfold slices_Contains.m at hm
 obtain ⟨hl4,p1,c2,rfl,hp3⟩:=St.shape hS 0 rfl
 refine wp_seq (wp_region_lit ?_)
 refine ev_runK 1 hF0 [0,1] (l':=[(0,.slice p1 L0.length c2),(1,nI i1)]) (w':=w) (by kernel_rfl) ?_
 intro a6 hF5; clear hF0
 refine wpList_nil (thenN (wp_seq (wp_region_lit ?_)))
 refine ev_runs 2 hF5 (l':=[(6,nI i1),(5,.slice p1 L0.length c2),(0,.slice p1 L0.length c2),(1,nI i1)]) (w':=w) (by kernel_rfl) ?_
 intro a8 hF7; clear hF5
 refine ev_call 82 #[.slice p1 L0.length c2,nI i1] hF7 rfl rfl (by kernel_rfl) rfl (by kernel_rfl) (fun w=>by kernel_rfl) ?_
 obtain ⟨x9,hx10,hm11⟩:=bind1E hm; clear hm
 refine (slices_Index.ok hS hx10).mono ?_
 rintro _ w12 ⟨rfl,hS14⟩ a13 hF15; clear hF7 hS
 refine ev_runK 2 hF15 [4] (l':=[(4,.bool (decide (x9 ≥ 0)))]) (w':=w12) (by kernel_rfl) ?_
 intro a17 hF16; clear hF15
 refine wpList_nil (thenN ?_)
 refine wp_ret ?_
 obtain rfl:=Option.some.inj hm11
 refine ev_ret hF16 [4] (.bool (decide (x9 ≥ 0))) rfl rfl rfl ?_
 exact ⟨rfl,hS14⟩
def list_of.m (k:Nat) (i0:Ch) (i1:Bool):Option (En):=(if (i1) then some ((⟨i0.sh,i0.st⟩:En)) else some ((⟨i0.th,i0.tt⟩:En)))
theorem list_of.ok {w0 w:World} {F0:List Nat} {ps:List Piece} {k:Nat} {i0:Ch} {i1:Bool} {r0:En} (hS:St w0 F0 (ps) w) (hm:list_of.m k i0 i1=some r0) :
    Calls Tryz.prog 78 #[.agg #[nI (i0.cap),nI (i0.closed),nI (i0.count),nI (i0.start),nI (i0.buf),nI (i0.th),nI (i0.tt),nI (i0.sh),nI (i0.st)],.bool (i1)] w fun e w'=>e=.returned (.agg #[nI (r0.head),nI (r0.tail)])∧St w0 F0 (ps) w':=by
 refine ev_enterL 16 [.agg #[nI (i0.cap),nI (i0.closed),nI (i0.count),nI (i0.start),nI (i0.buf),nI (i0.th),nI (i0.tt),nI (i0.sh),nI (i0.st)],.bool (i1)] Tryz.func78 rfl rfl (by simp) ?_
 intro a hF
 have hF0:Fr 16 a [(0,.agg #[nI (i0.cap),nI (i0.closed),nI (i0.count),nI (i0.start),nI (i0.buf),nI (i0.th),nI (i0.tt),nI (i0.sh),nI (i0.st)]),(1,.bool (i1))]:=hF; clear hF
 unfold list_of.m at hm
 refine wp_seq (wp_region_lit ?_)
 refine ev_runs 1 hF0 (l':=[(2,nB w),(0,.agg #[nI (i0.cap),nI (i0.closed),nI (i0.count),nI (i0.start),nI (i0.buf),nI (i0.th),nI (i0.tt),nI (i0.sh),nI (i0.st)]),(1,.bool (i1))]) (w':=w.alloc (.cells #[nI (i0.cap),nI (i0.closed),nI (i0.count),nI (i0.start),nI (i0.buf),nI (i0.th),nI (i0.tt),nI (i0.sh),nI (i0.st)] 37)) (by kernel_rfl) ?_
 intro a2 hF1; clear hF0
 have hS4:St w0 F0 (BlkP (w.heap.size) 37 #[nI (i0.cap),nI (i0.closed),nI (i0.count),nI (i0.start),nI (i0.buf),nI (i0.th),nI (i0.tt),nI (i0.sh),nI (i0.st)]::ps) (w.alloc (.cells #[nI (i0.cap),nI (i0.closed),nI (i0.count),nI (i0.start),nI (i0.buf),nI (i0.th),nI (i0.tt),nI (i0.sh),nI (i0.st)] 37)):=St.new hS #[nI (i0.cap),nI (i0.closed),nI (i0.count),nI (i0.start),nI (i0.buf),nI (i0.th),nI (i0.tt),nI (i0.sh),nI (i0.st)] 37
 refine ev_runs 1 hF1 (l':=[(4,nP ((w.alloc (.cells #[nI (i0.cap),nI (i0.closed),nI (i0.count),nI (i0.start),nI (i0.buf),nI (i0.th),nI (i0.tt),nI (i0.sh),nI (i0.st)] 37)).heap.size) 0),(2,nB w),(0,.agg #[nI (i0.cap),nI (i0.closed),nI (i0.count),nI (i0.start),nI (i0.buf),nI (i0.th),nI (i0.tt),nI (i0.sh),nI (i0.st)]),(1,.bool (i1))]) (w':=(w.alloc (.cells #[nI (i0.cap),nI (i0.closed),nI (i0.count),nI (i0.start),nI (i0.buf),nI (i0.th),nI (i0.tt),nI (i0.sh),nI (i0.st)] 37)).alloc (.cells #[nI 0,nI 0] 122)) (by kernel_rfl) ?_
 intro a6 hF5; clear hF1
 have hS8:St w0 F0 (BlkP ((w.alloc (.cells #[nI (i0.cap),nI (i0.closed),nI (i0.count),nI (i0.start),nI (i0.buf),nI (i0.th),nI (i0.tt),nI (i0.sh),nI (i0.st)] 37)).heap.size) 122 #[nI 0,nI 0]::BlkP (w.heap.size) 37 #[nI (i0.cap),nI (i0.closed),nI (i0.count),nI (i0.start),nI (i0.buf),nI (i0.th),nI (i0.tt),nI (i0.sh),nI (i0.st)]::ps) ((w.alloc (.cells #[nI (i0.cap),nI (i0.closed),nI (i0.count),nI (i0.start),nI (i0.buf),nI (i0.th),nI (i0.tt),nI (i0.sh),nI (i0.st)] 37)).alloc (.cells #[nI 0,nI 0] 122)):=St.new hS4 #[nI 0,nI 0] 122
 clear hS4
 refine wpList_nil ?_
 have hF9:=hF5.keep [1,2,4]
 clear hF5
 refine thenN (wp_seq (wp_seq (wp_region_lit ?_)))
 refine ev_runK 1 hF9 [2,4,5] (l':=[(5,.bool (i1)),(4,nP ((w.alloc (.cells #[nI (i0.cap),nI (i0.closed),nI (i0.count),nI (i0.start),nI (i0.buf),nI (i0.th),nI (i0.tt),nI (i0.sh),nI (i0.st)] 37)).heap.size) 0),(2,nB w)]) (w':=(w.alloc (.cells #[nI (i0.cap),nI (i0.closed),nI (i0.count),nI (i0.start),nI (i0.buf),nI (i0.th),nI (i0.tt),nI (i0.sh),nI (i0.st)] 37)).alloc (.cells #[nI 0,nI 0] 122)) (by kernel_rfl) ?_
 intro a11 hF10; clear hF9
 refine wpList_nil (thenN ?_)
 cases hc12:(i1)
 case true =>
  rw [hc12] at hF10
  have hm13:=ifYes hc12 hm; clear hm
  refine ev_condT hF10 rfl rfl ?_
  refine wp_seq (wp_region_lit ?_)
  refine ev_runs 1 hF10 (l':=[(6,nP (w.heap.size) 7),(5,.bool true),(4,nP ((w.alloc (.cells #[nI (i0.cap),nI (i0.closed),nI (i0.count),nI (i0.start),nI (i0.buf),nI (i0.th),nI (i0.tt),nI (i0.sh),nI (i0.st)] 37)).heap.size) 0),(2,nB w)]) (w':=(w.alloc (.cells #[nI (i0.cap),nI (i0.closed),nI (i0.count),nI (i0.start),nI (i0.buf),nI (i0.th),nI (i0.tt),nI (i0.sh),nI (i0.st)] 37)).alloc (.cells #[nI 0,nI 0] 122)) (by kernel_rfl) ?_
  intro a15 hF14; clear hF10
  refine ev_one (nI (i0.sh)) ((w.alloc (.cells #[nI (i0.cap),nI (i0.closed),nI (i0.count),nI (i0.start),nI (i0.buf),nI (i0.th),nI (i0.tt),nI (i0.sh),nI (i0.st)] 37)).alloc (.cells #[nI 0,nI 0] 122)) hF14 (by kernel_rfl) rfl (by kernel_rfl) (run_loadV rfl rfl (run_loadS rfl rfl (hS8.cell 1 rfl 7 rfl))) (l':=[(7,nI (i0.sh)),(6,nP (w.heap.size) 7),(5,.bool true),(4,nP ((w.alloc (.cells #[nI (i0.cap),nI (i0.closed),nI (i0.count),nI (i0.start),nI (i0.buf),nI (i0.th),nI (i0.tt),nI (i0.sh),nI (i0.st)] 37)).heap.size) 0),(2,nB w)]) (by kernel_rfl) ?_
  intro a17 hF16; clear hF14
  refine ev_runs 1 hF16 (l':=[(8,nP (w.heap.size) 8),(7,nI (i0.sh)),(6,nP (w.heap.size) 7),(5,.bool true),(4,nP ((w.alloc (.cells #[nI (i0.cap),nI (i0.closed),nI (i0.count),nI (i0.start),nI (i0.buf),nI (i0.th),nI (i0.tt),nI (i0.sh),nI (i0.st)] 37)).heap.size) 0),(2,nB w)]) (w':=(w.alloc (.cells #[nI (i0.cap),nI (i0.closed),nI (i0.count),nI (i0.start),nI (i0.buf),nI (i0.th),nI (i0.tt),nI (i0.sh),nI (i0.st)] 37)).alloc (.cells #[nI 0,nI 0] 122)) (by kernel_rfl) ?_
  intro a19 hF18; clear hF16
  refine ev_one (nI (i0.st)) ((w.alloc (.cells #[nI (i0.cap),nI (i0.closed),nI (i0.count),nI (i0.start),nI (i0.buf),nI (i0.th),nI (i0.tt),nI (i0.sh),nI (i0.st)] 37)).alloc (.cells #[nI 0,nI 0] 122)) hF18 (by kernel_rfl) rfl (by kernel_rfl) (run_loadV rfl rfl (run_loadS rfl rfl (hS8.cell 1 rfl 8 rfl))) (l':=[(9,nI (i0.st)),(8,nP (w.heap.size) 8),(7,nI (i0.sh)),(6,nP (w.heap.size) 7),(5,.bool true),(4,nP ((w.alloc (.cells #[nI (i0.cap),nI (i0.closed),nI (i0.count),nI (i0.start),nI (i0.buf),nI (i0.th),nI (i0.tt),nI (i0.sh),nI (i0.st)] 37)).heap.size) 0),(2,nB w)]) (by kernel_rfl) ?_
  intro a21 hF20; clear hF18
  refine ev_runs 1 hF20 (l':=[(10,.agg #[nI (i0.sh),nI (i0.st)]),(9,nI (i0.st)),(8,nP (w.heap.size) 8),(7,nI (i0.sh)),(6,nP (w.heap.size) 7),(5,.bool true),(4,nP ((w.alloc (.cells #[nI (i0.cap),nI (i0.closed),nI (i0.count),nI (i0.start),nI (i0.buf),nI (i0.th),nI (i0.tt),nI (i0.sh),nI (i0.st)] 37)).heap.size) 0),(2,nB w)]) (w':=(w.alloc (.cells #[nI (i0.cap),nI (i0.closed),nI (i0.count),nI (i0.start),nI (i0.buf),nI (i0.th),nI (i0.tt),nI (i0.sh),nI (i0.st)] 37)).alloc (.cells #[nI 0,nI 0] 122)) (by kernel_rfl) ?_
  intro a23 hF22; clear hF20
  refine ev_store (.agg #[nI (i0.sh),nI (i0.st)]) #[nI (i0.sh),nI (i0.st)] hF22 (by kernel_rfl) rfl rfl rfl rfl (by kernel_rfl) hS8 (by kernel_rfl) (by kernel_rfl) (by kernel_rfl) (l':=[(10,.agg #[nI (i0.sh),nI (i0.st)]),(9,nI (i0.st)),(8,nP (w.heap.size) 8),(7,nI (i0.sh)),(6,nP (w.heap.size) 7),(5,.bool true),(4,nP ((w.alloc (.cells #[nI (i0.cap),nI (i0.closed),nI (i0.count),nI (i0.start),nI (i0.buf),nI (i0.th),nI (i0.tt),nI (i0.sh),nI (i0.st)] 37)).heap.size) 0),(2,nB w)]) (by kernel_rfl) ?_
  intro w24 a25 hS26 hF27; clear hF22 hS8
  refine wpList_nil ?_
  have hF28:=hF27.keep [4]
  clear hF27
  have hS29:=hS26.pick1.drop
  clear hS26
  refine thenN ?_
  refine wp_ret ?_
  refine thenR ?_
  obtain rfl:=Option.some.inj hm13
  refine ev_retC hF28 _ [.agg #[nI (i0.sh),nI (i0.st)]] (.agg #[nI (i0.sh),nI (i0.st)]) rfl ⟨⟨rfl,_,rfl,(run_loadA (cs:=[nI (i0.sh),nI (i0.st)]) rfl rfl (by kernel_rfl) (blk_cells hS29 0 rfl rfl))⟩,trivial⟩ rfl ?_
  have hS31:=hS29.drop
  clear hS29
  exact ⟨rfl,hS31⟩
 rw [hc12] at hF10
 have hm32:=ifNot hc12 hm; clear hm
 refine ev_condF hF10 rfl rfl ?_
 refine wp_skip ?_
 have hF33:=hF10.keep [2,4]
 clear hF10
 refine thenN (wp_seq (wp_region_lit ?_))
 refine ev_runs 1 hF33 (l':=[(11,nP (w.heap.size) 5),(4,nP ((w.alloc (.cells #[nI (i0.cap),nI (i0.closed),nI (i0.count),nI (i0.start),nI (i0.buf),nI (i0.th),nI (i0.tt),nI (i0.sh),nI (i0.st)] 37)).heap.size) 0),(2,nB w)]) (w':=(w.alloc (.cells #[nI (i0.cap),nI (i0.closed),nI (i0.count),nI (i0.start),nI (i0.buf),nI (i0.th),nI (i0.tt),nI (i0.sh),nI (i0.st)] 37)).alloc (.cells #[nI 0,nI 0] 122)) (by kernel_rfl) ?_
 intro a35 hF34; clear hF33
 refine ev_one (nI (i0.th)) ((w.alloc (.cells #[nI (i0.cap),nI (i0.closed),nI (i0.count),nI (i0.start),nI (i0.buf),nI (i0.th),nI (i0.tt),nI (i0.sh),nI (i0.st)] 37)).alloc (.cells #[nI 0,nI 0] 122)) hF34 (by kernel_rfl) rfl (by kernel_rfl) (run_loadV rfl rfl (run_loadS rfl rfl (hS8.cell 1 rfl 5 rfl))) (l':=[(12,nI (i0.th)),(11,nP (w.heap.size) 5),(4,nP ((w.alloc (.cells #[nI (i0.cap),nI (i0.closed),nI (i0.count),nI (i0.start),nI (i0.buf),nI (i0.th),nI (i0.tt),nI (i0.sh),nI (i0.st)] 37)).heap.size) 0),(2,nB w)]) (by kernel_rfl) ?_
 intro a37 hF36; clear hF34
 refine ev_runs 1 hF36 (l':=[(13,nP (w.heap.size) 6),(12,nI (i0.th)),(11,nP (w.heap.size) 5),(4,nP ((w.alloc (.cells #[nI (i0.cap),nI (i0.closed),nI (i0.count),nI (i0.start),nI (i0.buf),nI (i0.th),nI (i0.tt),nI (i0.sh),nI (i0.st)] 37)).heap.size) 0),(2,nB w)]) (w':=(w.alloc (.cells #[nI (i0.cap),nI (i0.closed),nI (i0.count),nI (i0.start),nI (i0.buf),nI (i0.th),nI (i0.tt),nI (i0.sh),nI (i0.st)] 37)).alloc (.cells #[nI 0,nI 0] 122)) (by kernel_rfl) ?_
 intro a39 hF38; clear hF36
 refine ev_one (nI (i0.tt)) ((w.alloc (.cells #[nI (i0.cap),nI (i0.closed),nI (i0.count),nI (i0.start),nI (i0.buf),nI (i0.th),nI (i0.tt),nI (i0.sh),nI (i0.st)] 37)).alloc (.cells #[nI 0,nI 0] 122)) hF38 (by kernel_rfl) rfl (by kernel_rfl) (run_loadV rfl rfl (run_loadS rfl rfl (hS8.cell 1 rfl 6 rfl))) (l':=[(14,nI (i0.tt)),(13,nP (w.heap.size) 6),(12,nI (i0.th)),(11,nP (w.heap.size) 5),(4,nP ((w.alloc (.cells #[nI (i0.cap),nI (i0.closed),nI (i0.count),nI (i0.start),nI (i0.buf),nI (i0.th),nI (i0.tt),nI (i0.sh),nI (i0.st)] 37)).heap.size) 0),(2,nB w)]) (by kernel_rfl) ?_
 intro a41 hF40; clear hF38
 refine ev_runs 1 hF40 (l':=[(15,.agg #[nI (i0.th),nI (i0.tt)]),(14,nI (i0.tt)),(13,nP (w.heap.size) 6),(12,nI (i0.th)),(11,nP (w.heap.size) 5),(4,nP ((w.alloc (.cells #[nI (i0.cap),nI (i0.closed),nI (i0.count),nI (i0.start),nI (i0.buf),nI (i0.th),nI (i0.tt),nI (i0.sh),nI (i0.st)] 37)).heap.size) 0),(2,nB w)]) (w':=(w.alloc (.cells #[nI (i0.cap),nI (i0.closed),nI (i0.count),nI (i0.start),nI (i0.buf),nI (i0.th),nI (i0.tt),nI (i0.sh),nI (i0.st)] 37)).alloc (.cells #[nI 0,nI 0] 122)) (by kernel_rfl) ?_
 intro a43 hF42; clear hF40
 refine ev_store (.agg #[nI (i0.th),nI (i0.tt)]) #[nI (i0.th),nI (i0.tt)] hF42 (by kernel_rfl) rfl rfl rfl rfl (by kernel_rfl) hS8 (by kernel_rfl) (by kernel_rfl) (by kernel_rfl) (l':=[(15,.agg #[nI (i0.th),nI (i0.tt)]),(14,nI (i0.tt)),(13,nP (w.heap.size) 6),(12,nI (i0.th)),(11,nP (w.heap.size) 5),(4,nP ((w.alloc (.cells #[nI (i0.cap),nI (i0.closed),nI (i0.count),nI (i0.start),nI (i0.buf),nI (i0.th),nI (i0.tt),nI (i0.sh),nI (i0.st)] 37)).heap.size) 0),(2,nB w)]) (by kernel_rfl) ?_
 intro w44 a45 hS46 hF47; clear hF42 hS8
 refine wpList_nil ?_
 have hF48:=hF47.keep [4]
 clear hF47
 have hS49:=hS46.pick1.drop
 clear hS46
 refine thenN ?_
 refine wp_ret ?_
 obtain rfl:=Option.some.inj hm32
 refine ev_retC hF48 _ [.agg #[nI (i0.th),nI (i0.tt)]] (.agg #[nI (i0.th),nI (i0.tt)]) rfl ⟨⟨rfl,_,rfl,(run_loadA (cs:=[nI (i0.th),nI (i0.tt)]) rfl rfl (by kernel_rfl) (blk_cells hS49 0 rfl rfl))⟩,trivial⟩ rfl ?_
 have hS51:=hS49.drop
 clear hS49
 exact ⟨rfl,hS51⟩
def list_into.j1 (i0:Ch) (x16:Int) (x17:Int) (x18:Int) (x19:Int):Option (Ch):=some ((⟨i0.cap,i0.closed,i0.count,i0.start,i0.buf,x16,x17,x18,x19⟩:Ch))
def list_into.m (k:Nat) (i0:Ch) (i1:Bool) (i2:En):Option (Ch):=(if (i1) then list_into.j1 i0 i0.th i0.tt i2.head i2.tail else list_into.j1 i0 i2.head i2.tail i0.sh i0.st)
theorem list_into.ok {w0 w:World} {F0:List Nat} {ps:List Piece} {k:Nat} {i0:Ch} {i1:Bool} {i2:En} {r0:Ch} (hS:St w0 F0 (ps) w) (hm:list_into.m k i0 i1 i2=some r0) :
    Calls Tryz.prog 80 #[.agg #[nI (i0.cap),nI (i0.closed),nI (i0.count),nI (i0.start),nI (i0.buf),nI (i0.th),nI (i0.tt),nI (i0.sh),nI (i0.st)],.bool (i1),.agg #[nI (i2.head),nI (i2.tail)]] w fun e w'=>e=.returned (.agg #[nI (r0.cap),nI (r0.closed),nI (r0.count),nI (r0.start),nI (r0.buf),nI (r0.th),nI (r0.tt),nI (r0.sh),nI (r0.st)])∧St w0 F0 (ps) w':=by
 refine ev_enterL 21 [.agg #[nI (i0.cap),nI (i0.closed),nI (i0.count),nI (i0.start),nI (i0.buf),nI (i0.th),nI (i0.tt),nI (i0.sh),nI (i0.st)],.bool (i1),.agg #[nI (i2.head),nI (i2.tail)]] Tryz.func80 rfl rfl (by simp) ?_
 intro a hF
 have hF0:Fr 21 a [(0,.agg #[nI (i0.cap),nI (i0.closed),nI (i0.count),nI (i0.start),nI (i0.buf),nI (i0.th),nI (i0.tt),nI (i0.sh),nI (i0.st)]),(1,.bool (i1)),(2,.agg #[nI (i2.head),nI (i2.tail)])]:=hF; clear hF
 unfold list_into.m at hm
 refine wp_seq (wp_region_lit ?_)
 refine ev_runs 1 hF0 (l':=[(3,nB w),(0,.agg #[nI (i0.cap),nI (i0.closed),nI (i0.count),nI (i0.start),nI (i0.buf),nI (i0.th),nI (i0.tt),nI (i0.sh),nI (i0.st)]),(1,.bool (i1)),(2,.agg #[nI (i2.head),nI (i2.tail)])]) (w':=w.alloc (.cells #[nI (i0.cap),nI (i0.closed),nI (i0.count),nI (i0.start),nI (i0.buf),nI (i0.th),nI (i0.tt),nI (i0.sh),nI (i0.st)] 37)) (by kernel_rfl) ?_
 intro a2 hF1; clear hF0
 have hS4:St w0 F0 (BlkP (w.heap.size) 37 #[nI (i0.cap),nI (i0.closed),nI (i0.count),nI (i0.start),nI (i0.buf),nI (i0.th),nI (i0.tt),nI (i0.sh),nI (i0.st)]::ps) (w.alloc (.cells #[nI (i0.cap),nI (i0.closed),nI (i0.count),nI (i0.start),nI (i0.buf),nI (i0.th),nI (i0.tt),nI (i0.sh),nI (i0.st)] 37)):=St.new hS #[nI (i0.cap),nI (i0.closed),nI (i0.count),nI (i0.start),nI (i0.buf),nI (i0.th),nI (i0.tt),nI (i0.sh),nI (i0.st)] 37
 refine ev_runs 1 hF1 (l':=[(5,nP ((w.alloc (.cells #[nI (i0.cap),nI (i0.closed),nI (i0.count),nI (i0.start),nI (i0.buf),nI (i0.th),nI (i0.tt),nI (i0.sh),nI (i0.st)] 37)).heap.size) 0),(3,nB w),(0,.agg #[nI (i0.cap),nI (i0.closed),nI (i0.count),nI (i0.start),nI (i0.buf),nI (i0.th),nI (i0.tt),nI (i0.sh),nI (i0.st)]),(1,.bool (i1)),(2,.agg #[nI (i2.head),nI (i2.tail)])]) (w':=(w.alloc (.cells #[nI (i0.cap),nI (i0.closed),nI (i0.count),nI (i0.start),nI (i0.buf),nI (i0.th),nI (i0.tt),nI (i0.sh),nI (i0.st)] 37)).alloc (.cells #[nI (i2.head),nI (i2.tail)] 122)) (by kernel_rfl) ?_
 intro a6 hF5; clear hF1
 have hS8:St w0 F0 (BlkP ((w.alloc (.cells #[nI (i0.cap),nI (i0.closed),nI (i0.count),nI (i0.start),nI (i0.buf),nI (i0.th),nI (i0.tt),nI (i0.sh),nI (i0.st)] 37)).heap.size) 122 #[nI (i2.head),nI (i2.tail)]::BlkP (w.heap.size) 37 #[nI (i0.cap),nI (i0.closed),nI (i0.count),nI (i0.start),nI (i0.buf),nI (i0.th),nI (i0.tt),nI (i0.sh),nI (i0.st)]::ps) ((w.alloc (.cells #[nI (i0.cap),nI (i0.closed),nI (i0.count),nI (i0.start),nI (i0.buf),nI (i0.th),nI (i0.tt),nI (i0.sh),nI (i0.st)] 37)).alloc (.cells #[nI (i2.head),nI (i2.tail)] 122)):=St.new hS4 #[nI (i2.head),nI (i2.tail)] 122
 clear hS4
 refine ev_runs 1 hF5 (l':=[(6,nP (((w.alloc (.cells #[nI (i0.cap),nI (i0.closed),nI (i0.count),nI (i0.start),nI (i0.buf),nI (i0.th),nI (i0.tt),nI (i0.sh),nI (i0.st)] 37)).alloc (.cells #[nI (i2.head),nI (i2.tail)] 122)).heap.size) 0),(5,nP ((w.alloc (.cells #[nI (i0.cap),nI (i0.closed),nI (i0.count),nI (i0.start),nI (i0.buf),nI (i0.th),nI (i0.tt),nI (i0.sh),nI (i0.st)] 37)).heap.size) 0),(3,nB w),(0,.agg #[nI (i0.cap),nI (i0.closed),nI (i0.count),nI (i0.start),nI (i0.buf),nI (i0.th),nI (i0.tt),nI (i0.sh),nI (i0.st)]),(1,.bool (i1)),(2,.agg #[nI (i2.head),nI (i2.tail)])]) (w':=((w.alloc (.cells #[nI (i0.cap),nI (i0.closed),nI (i0.count),nI (i0.start),nI (i0.buf),nI (i0.th),nI (i0.tt),nI (i0.sh),nI (i0.st)] 37)).alloc (.cells #[nI (i2.head),nI (i2.tail)] 122)).alloc (.cells #[nI 0,nI 0,nI 0,nI 0,nI 0,nI 0,nI 0,nI 0,nI 0] 37)) (by kernel_rfl) ?_
 intro a10 hF9; clear hF5
 have hS12:St w0 F0 (BlkP (((w.alloc (.cells #[nI (i0.cap),nI (i0.closed),nI (i0.count),nI (i0.start),nI (i0.buf),nI (i0.th),nI (i0.tt),nI (i0.sh),nI (i0.st)] 37)).alloc (.cells #[nI (i2.head),nI (i2.tail)] 122)).heap.size) 37 #[nI 0,nI 0,nI 0,nI 0,nI 0,nI 0,nI 0,nI 0,nI 0]::BlkP ((w.alloc (.cells #[nI (i0.cap),nI (i0.closed),nI (i0.count),nI (i0.start),nI (i0.buf),nI (i0.th),nI (i0.tt),nI (i0.sh),nI (i0.st)] 37)).heap.size) 122 #[nI (i2.head),nI (i2.tail)]::BlkP (w.heap.size) 37 #[nI (i0.cap),nI (i0.closed),nI (i0.count),nI (i0.start),nI (i0.buf),nI (i0.th),nI (i0.tt),nI (i0.sh),nI (i0.st)]::ps) (((w.alloc (.cells #[nI (i0.cap),nI (i0.closed),nI (i0.count),nI (i0.start),nI (i0.buf),nI (i0.th),nI (i0.tt),nI (i0.sh),nI (i0.st)] 37)).alloc (.cells #[nI (i2.head),nI (i2.tail)] 122)).alloc (.cells #[nI 0,nI 0,nI 0,nI 0,nI 0,nI 0,nI 0,nI 0,nI 0] 37)):=St.new hS8 #[nI 0,nI 0,nI 0,nI 0,nI 0,nI 0,nI 0,nI 0,nI 0] 37
 clear hS8
 refine wpList_nil ?_
 have hF13:=hF9.keep [1,3,5,6]
 clear hF9
 refine thenN (wp_seq (wp_seq (wp_region_lit ?_)))
 refine ev_runK 1 hF13 [3,5,6,7] (l':=[(7,.bool (i1)),(6,nP (((w.alloc (.cells #[nI (i0.cap),nI (i0.closed),nI (i0.count),nI (i0.start),nI (i0.buf),nI (i0.th),nI (i0.tt),nI (i0.sh),nI (i0.st)] 37)).alloc (.cells #[nI (i2.head),nI (i2.tail)] 122)).heap.size) 0),(5,nP ((w.alloc (.cells #[nI (i0.cap),nI (i0.closed),nI (i0.count),nI (i0.start),nI (i0.buf),nI (i0.th),nI (i0.tt),nI (i0.sh),nI (i0.st)] 37)).heap.size) 0),(3,nB w)]) (w':=((w.alloc (.cells #[nI (i0.cap),nI (i0.closed),nI (i0.count),nI (i0.start),nI (i0.buf),nI (i0.th),nI (i0.tt),nI (i0.sh),nI (i0.st)] 37)).alloc (.cells #[nI (i2.head),nI (i2.tail)] 122)).alloc (.cells #[nI 0,nI 0,nI 0,nI 0,nI 0,nI 0,nI 0,nI 0,nI 0] 37)) (by kernel_rfl) ?_
 intro a15 hF14; clear hF13
 refine wpList_nil (thenN ?_)
 refine joinQ (fun aI wI=>∃ (x16:Int) (x17:Int) (x18:Int) (x19:Int),Fr 21 aI [(6,nP (((w.alloc (.cells #[nI (i0.cap),nI (i0.closed),nI (i0.count),nI (i0.start),nI (i0.buf),nI (i0.th),nI (i0.tt),nI (i0.sh),nI (i0.st)] 37)).alloc (.cells #[nI (i2.head),nI (i2.tail)] 122)).heap.size) 0),(3,nB w)]∧St w0 F0 (BlkP (w.heap.size) 37 #[nI (i0.cap),nI (i0.closed),nI (i0.count),nI (i0.start),nI (i0.buf),nI x16,nI x17,nI x18,nI x19]::BlkP (((w.alloc (.cells #[nI (i0.cap),nI (i0.closed),nI (i0.count),nI (i0.start),nI (i0.buf),nI (i0.th),nI (i0.tt),nI (i0.sh),nI (i0.st)] 37)).alloc (.cells #[nI (i2.head),nI (i2.tail)] 122)).heap.size) 37 #[nI 0,nI 0,nI 0,nI 0,nI 0,nI 0,nI 0,nI 0,nI 0]::ps) wI∧list_into.j1 i0 x16 x17 x18 x19=some r0) ?_ ?_
 rotate_left
 · rintro a21 w22 ⟨x16,x17,x18,x19,hF23,hS24,hm25⟩
   clear hF14 hS12 hm
   unfold list_into.j1 at hm25
   refine thenN (wp_seq (wp_region_lit ?_))
   refine ev_one (.agg #[nI (i0.cap),nI (i0.closed),nI (i0.count),nI (i0.start),nI (i0.buf),nI x16,nI x17,nI x18,nI x19]) w22 hF23 (by kernel_rfl) rfl (by kernel_rfl) (run_loadV rfl rfl (run_loadA (cs:=[nI (i0.cap),nI (i0.closed),nI (i0.count),nI (i0.start),nI (i0.buf),nI x16,nI x17,nI x18,nI x19]) rfl rfl (by kernel_rfl) (blk_cells hS24 0 rfl rfl))) (l':=[(20,.agg #[nI (i0.cap),nI (i0.closed),nI (i0.count),nI (i0.start),nI (i0.buf),nI x16,nI x17,nI x18,nI x19]),(6,nP (((w.alloc (.cells #[nI (i0.cap),nI (i0.closed),nI (i0.count),nI (i0.start),nI (i0.buf),nI (i0.th),nI (i0.tt),nI (i0.sh),nI (i0.st)] 37)).alloc (.cells #[nI (i2.head),nI (i2.tail)] 122)).heap.size) 0),(3,nB w)]) (by kernel_rfl) ?_
   intro a28 hF27; clear hF23
   have hS29:=hS24.pick1
   clear hS24
   refine ev_store (.agg #[nI (i0.cap),nI (i0.closed),nI (i0.count),nI (i0.start),nI (i0.buf),nI x16,nI x17,nI x18,nI x19]) #[nI (i0.cap),nI (i0.closed),nI (i0.count),nI (i0.start),nI (i0.buf),nI x16,nI x17,nI x18,nI x19] hF27 (by kernel_rfl) rfl rfl rfl rfl (by kernel_rfl) hS29 (by kernel_rfl) (by kernel_rfl) (by kernel_rfl) (l':=[(20,.agg #[nI (i0.cap),nI (i0.closed),nI (i0.count),nI (i0.start),nI (i0.buf),nI x16,nI x17,nI x18,nI x19]),(6,nP (((w.alloc (.cells #[nI (i0.cap),nI (i0.closed),nI (i0.count),nI (i0.start),nI (i0.buf),nI (i0.th),nI (i0.tt),nI (i0.sh),nI (i0.st)] 37)).alloc (.cells #[nI (i2.head),nI (i2.tail)] 122)).heap.size) 0),(3,nB w)]) (by kernel_rfl) ?_
   intro w30 a31 hS32 hF33; clear hF27 hS29
   refine wpList_nil ?_
   have hF34:=hF33.keep [6]
   clear hF33
   have hS35:=hS32.pick1.drop
   clear hS32
   refine thenN ?_
   refine wp_ret ?_
   obtain rfl:=Option.some.inj hm25
   refine ev_retC hF34 _ [.agg #[nI (i0.cap),nI (i0.closed),nI (i0.count),nI (i0.start),nI (i0.buf),nI x16,nI x17,nI x18,nI x19]] (.agg #[nI (i0.cap),nI (i0.closed),nI (i0.count),nI (i0.start),nI (i0.buf),nI x16,nI x17,nI x18,nI x19]) rfl ⟨⟨rfl,_,rfl,(run_loadA (cs:=[nI (i0.cap),nI (i0.closed),nI (i0.count),nI (i0.start),nI (i0.buf),nI x16,nI x17,nI x18,nI x19]) rfl rfl (by kernel_rfl) (blk_cells hS35 0 rfl rfl))⟩,trivial⟩ rfl ?_
   have hS37:=hS35.drop
   clear hS35
   exact ⟨rfl,hS37⟩
 · skip
   cases hc38:(i1)
   case true =>
    rw [hc38] at hF14
    have hm39:=ifYes hc38 hm; clear hm
    refine ev_condT hF14 rfl rfl ?_
    have hS40:=hS12.pick1
    clear hS12
    have hS41:=hS40.drew; clear hS40
    refine any_start (fun wS=>∃ qs,St w0 F0 (BlkP ((w.alloc (.cells #[nI (i0.cap),nI (i0.closed),nI (i0.count),nI (i0.start),nI (i0.buf),nI (i0.th),nI (i0.tt),nI (i0.sh),nI (i0.st)] 37)).heap.size) 122 #[nI (i2.head),nI (i2.tail)]::qs) wS) 8 #[false,false,false,false,false,false,false,false] (by kernel_rfl) (by kernel_rfl) (by kernel_rfl) ?_
    refine any_many 5 [(0,some (nP ((w.alloc (.cells #[nI (i0.cap),nI (i0.closed),nI (i0.count),nI (i0.start),nI (i0.buf),nI (i0.th),nI (i0.tt),nI (i0.sh),nI (i0.st)] 37)).heap.size) 0)),(1,some (nI (i2.head))),(2,some (nP ((w.alloc (.cells #[nI (i0.cap),nI (i0.closed),nI (i0.count),nI (i0.start),nI (i0.buf),nI (i0.th),nI (i0.tt),nI (i0.sh),nI (i0.st)] 37)).heap.size) 1)),(3,some (nI (i2.tail))),(4,some (nP (w.heap.size) 7))] [3,6,9,11,12,13] #[true,true,true,true,true,false,false,false] (by rfl) hF14 (by kernel_rfl) (by kernel_rfl) (by exact ⟨fun wS hw=>by kernel_rfl,fun wS hw=>hw.elim fun qs hw=>run_loadV rfl rfl (run_loadS rfl rfl (hw.cell 0 rfl 0 rfl)),fun wS hw=>by kernel_rfl,fun wS hw=>hw.elim fun qs hw=>run_loadV rfl rfl (run_loadS rfl rfl (hw.cell 0 rfl 1 rfl)),fun wS hw=>by kernel_rfl,trivial⟩) (fun _ _ _ _ _ h=>h) ⟨_,hS41⟩ (l':=[(12,nP (w.heap.size) 7),(11,nI (i2.tail)),(9,nI (i2.head)),(6,nP (((w.alloc (.cells #[nI (i0.cap),nI (i0.closed),nI (i0.count),nI (i0.start),nI (i0.buf),nI (i0.th),nI (i0.tt),nI (i0.sh),nI (i0.st)] 37)).alloc (.cells #[nI (i2.head),nI (i2.tail)] 122)).heap.size) 0),(3,nB w)]) (by kernel_rfl) ?_
    intro a43 hF42; clear hF14
    refine any_one 5 (by kernel_rfl) ?_
    have hS44:=hS41.pick2
    clear hS41
    refine op_store 5 #[true,true,true,true,true,true,false,false] (nI (i2.head)) #[nI (i0.cap),nI (i0.closed),nI (i0.count),nI (i0.start),nI (i0.buf),nI (i0.th),nI (i0.tt),nI (i2.head),nI (i0.st)] hF42 rfl (by kernel_rfl) rfl rfl rfl rfl (by kernel_rfl) hS44 (by kernel_rfl) (by kernel_rfl) (by kernel_rfl) (l':=[(12,nP (w.heap.size) 7),(11,nI (i2.tail)),(9,nI (i2.head)),(6,nP (((w.alloc (.cells #[nI (i0.cap),nI (i0.closed),nI (i0.count),nI (i0.start),nI (i0.buf),nI (i0.th),nI (i0.tt),nI (i0.sh),nI (i0.st)] 37)).alloc (.cells #[nI (i2.head),nI (i2.tail)] 122)).heap.size) 0),(3,nB w)]) (by kernel_rfl) (by kernel_rfl) ?_
    intro w45 a46 hS47 hF48; clear hF42 hS44
    refine ⟨⟨_,hS47.pick1⟩,?_⟩
    refine any_many 1 [(6,some (nP (w.heap.size) 8))] [3,6,11,13] #[true,true,true,true,true,true,true,false] (by rfl) hF48 (by kernel_rfl) (by kernel_rfl) (by exact ⟨fun wS hw=>by kernel_rfl,trivial⟩) (fun _ _ _ _ _ h=>h) ⟨_,hS47.pick1⟩ (l':=[(13,nP (w.heap.size) 8),(11,nI (i2.tail)),(6,nP (((w.alloc (.cells #[nI (i0.cap),nI (i0.closed),nI (i0.count),nI (i0.start),nI (i0.buf),nI (i0.th),nI (i0.tt),nI (i0.sh),nI (i0.st)] 37)).alloc (.cells #[nI (i2.head),nI (i2.tail)] 122)).heap.size) 0),(3,nB w)]) (by kernel_rfl) ?_
    intro a50 hF49; clear hF48
    refine any_one 7 (by kernel_rfl) ?_
    refine op_store 7 #[true,true,true,true,true,true,true,true] (nI (i2.tail)) #[nI (i0.cap),nI (i0.closed),nI (i0.count),nI (i0.start),nI (i0.buf),nI (i0.th),nI (i0.tt),nI (i2.head),nI (i2.tail)] hF49 rfl (by kernel_rfl) rfl rfl rfl rfl (by kernel_rfl) hS47 (by kernel_rfl) (by kernel_rfl) (by kernel_rfl) (l':=[(13,nP (w.heap.size) 8),(11,nI (i2.tail)),(6,nP (((w.alloc (.cells #[nI (i0.cap),nI (i0.closed),nI (i0.count),nI (i0.start),nI (i0.buf),nI (i0.th),nI (i0.tt),nI (i0.sh),nI (i0.st)] 37)).alloc (.cells #[nI (i2.head),nI (i2.tail)] 122)).heap.size) 0),(3,nB w)]) (by kernel_rfl) (by kernel_rfl) ?_
    intro w51 a52 hS53 hF54; clear hF49 hS47
    refine ⟨⟨_,hS53.pick1⟩,?_⟩
    refine any_done (by kernel_rfl) ?_
    have hF55:=hF54.keep [3,6]
    clear hF54
    have hS56:=hS53.pick1.drop
    clear hS53
    exact thenN ⟨i0.th,i0.tt,i2.head,i2.tail,hF55,hS56,hm39⟩
   rw [hc38] at hF14
   have hm57:=ifNot hc38 hm; clear hm
   refine ev_condF hF14 rfl rfl ?_
   have hS58:=hS12.pick1
   clear hS12
   have hS59:=hS58.drew; clear hS58
   refine any_start (fun wS=>∃ qs,St w0 F0 (BlkP ((w.alloc (.cells #[nI (i0.cap),nI (i0.closed),nI (i0.count),nI (i0.start),nI (i0.buf),nI (i0.th),nI (i0.tt),nI (i0.sh),nI (i0.st)] 37)).heap.size) 122 #[nI (i2.head),nI (i2.tail)]::qs) wS) 8 #[false,false,false,false,false,false,false,false] (by kernel_rfl) (by kernel_rfl) (by kernel_rfl) ?_
   refine any_many 5 [(0,some (nP ((w.alloc (.cells #[nI (i0.cap),nI (i0.closed),nI (i0.count),nI (i0.start),nI (i0.buf),nI (i0.th),nI (i0.tt),nI (i0.sh),nI (i0.st)] 37)).heap.size) 0)),(1,some (nI (i2.head))),(2,some (nP ((w.alloc (.cells #[nI (i0.cap),nI (i0.closed),nI (i0.count),nI (i0.start),nI (i0.buf),nI (i0.th),nI (i0.tt),nI (i0.sh),nI (i0.st)] 37)).heap.size) 1)),(3,some (nI (i2.tail))),(4,some (nP (w.heap.size) 5))] [3,6,15,17,18,19] #[true,true,true,true,true,false,false,false] (by rfl) hF14 (by kernel_rfl) (by kernel_rfl) (by exact ⟨fun wS hw=>by kernel_rfl,fun wS hw=>hw.elim fun qs hw=>run_loadV rfl rfl (run_loadS rfl rfl (hw.cell 0 rfl 0 rfl)),fun wS hw=>by kernel_rfl,fun wS hw=>hw.elim fun qs hw=>run_loadV rfl rfl (run_loadS rfl rfl (hw.cell 0 rfl 1 rfl)),fun wS hw=>by kernel_rfl,trivial⟩) (fun _ _ _ _ _ h=>h) ⟨_,hS59⟩ (l':=[(18,nP (w.heap.size) 5),(17,nI (i2.tail)),(15,nI (i2.head)),(6,nP (((w.alloc (.cells #[nI (i0.cap),nI (i0.closed),nI (i0.count),nI (i0.start),nI (i0.buf),nI (i0.th),nI (i0.tt),nI (i0.sh),nI (i0.st)] 37)).alloc (.cells #[nI (i2.head),nI (i2.tail)] 122)).heap.size) 0),(3,nB w)]) (by kernel_rfl) ?_
   intro a61 hF60; clear hF14
   refine any_one 5 (by kernel_rfl) ?_
   have hS62:=hS59.pick2
   clear hS59
   refine op_store 5 #[true,true,true,true,true,true,false,false] (nI (i2.head)) #[nI (i0.cap),nI (i0.closed),nI (i0.count),nI (i0.start),nI (i0.buf),nI (i2.head),nI (i0.tt),nI (i0.sh),nI (i0.st)] hF60 rfl (by kernel_rfl) rfl rfl rfl rfl (by kernel_rfl) hS62 (by kernel_rfl) (by kernel_rfl) (by kernel_rfl) (l':=[(18,nP (w.heap.size) 5),(17,nI (i2.tail)),(15,nI (i2.head)),(6,nP (((w.alloc (.cells #[nI (i0.cap),nI (i0.closed),nI (i0.count),nI (i0.start),nI (i0.buf),nI (i0.th),nI (i0.tt),nI (i0.sh),nI (i0.st)] 37)).alloc (.cells #[nI (i2.head),nI (i2.tail)] 122)).heap.size) 0),(3,nB w)]) (by kernel_rfl) (by kernel_rfl) ?_
   intro w63 a64 hS65 hF66; clear hF60 hS62
   refine ⟨⟨_,hS65.pick1⟩,?_⟩
   refine any_many 1 [(6,some (nP (w.heap.size) 6))] [3,6,17,19] #[true,true,true,true,true,true,true,false] (by rfl) hF66 (by kernel_rfl) (by kernel_rfl) (by exact ⟨fun wS hw=>by kernel_rfl,trivial⟩) (fun _ _ _ _ _ h=>h) ⟨_,hS65.pick1⟩ (l':=[(19,nP (w.heap.size) 6),(17,nI (i2.tail)),(6,nP (((w.alloc (.cells #[nI (i0.cap),nI (i0.closed),nI (i0.count),nI (i0.start),nI (i0.buf),nI (i0.th),nI (i0.tt),nI (i0.sh),nI (i0.st)] 37)).alloc (.cells #[nI (i2.head),nI (i2.tail)] 122)).heap.size) 0),(3,nB w)]) (by kernel_rfl) ?_
   intro a68 hF67; clear hF66
   refine any_one 7 (by kernel_rfl) ?_
   refine op_store 7 #[true,true,true,true,true,true,true,true] (nI (i2.tail)) #[nI (i0.cap),nI (i0.closed),nI (i0.count),nI (i0.start),nI (i0.buf),nI (i2.head),nI (i2.tail),nI (i0.sh),nI (i0.st)] hF67 rfl (by kernel_rfl) rfl rfl rfl rfl (by kernel_rfl) hS65 (by kernel_rfl) (by kernel_rfl) (by kernel_rfl) (l':=[(19,nP (w.heap.size) 6),(17,nI (i2.tail)),(6,nP (((w.alloc (.cells #[nI (i0.cap),nI (i0.closed),nI (i0.count),nI (i0.start),nI (i0.buf),nI (i0.th),nI (i0.tt),nI (i0.sh),nI (i0.st)] 37)).alloc (.cells #[nI (i2.head),nI (i2.tail)] 122)).heap.size) 0),(3,nB w)]) (by kernel_rfl) (by kernel_rfl) ?_
   intro w69 a70 hS71 hF72; clear hF67 hS65
   refine ⟨⟨_,hS71.pick1⟩,?_⟩
   refine any_done (by kernel_rfl) ?_
   have hF73:=hF72.keep [3,6]
   clear hF72
   have hS74:=hS71.pick1.drop
   clear hS71
   exact thenN ⟨i2.head,i2.tail,i0.sh,i0.st,hF73,hS74,hm57⟩
def list_look.m (k:Nat) (s0:HSt) (i1:Int):Option (Option Su×HSt):=bind2 (pSudog i1 s0) fun q5 x6=>(if (x6 != 0) then some (none,s0) else some ((some (⟨q5.gor,q5.chan,q5.value,q5.next,q5.to,q5.reg,q5.more⟩:Su)),s0))
theorem list_look.ok {w0 w:World} {F0:List Nat} {ps:List Piece} {k:Nat} {b0 ab0:Nat} {s0:HSt} {i1:Int} {r0:Option Su} {t0:HSt} (hS:St w0 F0 (HeapP b0 ab0 s0::ps) w) (hm:list_look.m k s0 i1=some (r0,t0)) :
    Calls Tryz.prog 81 #[nP b0 0,nI i1] w fun e w'=>e=.returned (oSuV 54 r0)∧St w0 F0 (HeapP b0 ab0 t0::ps) w':=by
 refine ev_enterL 17 [nP b0 0,nI i1] Tryz.func81 rfl rfl (by simp) ?_
 intro a hF
 have hF0:Fr 17 a [(0,nP b0 0),(1,nI i1)]:=hF; clear hF
 unfold list_look.m at hm
 refine wp_seq (wp_region_lit ?_)
 refine ev_runK 1 hF0 [0,1] (l':=[(0,nP b0 0),(1,nI i1)]) (w':=w) (by kernel_rfl) ?_
 intro a2 hF1; clear hF0
 refine wpList_nil (thenN (wp_seq (wp_region_lit ?_)))
 refine ev_runs 2 hF1 (l':=[(9,nI i1),(8,nP b0 0),(0,nP b0 0),(1,nI i1)]) (w':=w) (by kernel_rfl) ?_
 intro a4 hF3; clear hF1
 refine ev_call 30 #[nP b0 0,nI i1] hF3 rfl rfl (by kernel_rfl) rfl (by kernel_rfl) (fun w=>by kernel_rfl) ?_
 obtain ⟨q5,x6,hx7,hm8⟩:=bind2E hm; clear hm
 refine (p_Sudog hS hx7).mono ?_
 rintro _ w9 ⟨rfl,hS11⟩ a10 hF12; clear hF3 hS
 refine ev_runs 4 hF12 (l':=[(5,nB w9),(12,nI x6),(11,.agg #[nI (q5.gor),nI (q5.chan),nI (q5.value),nI (q5.next),nI (q5.to),nI (q5.reg),nI (q5.more)]),(7,.tuple #[.agg #[nI (q5.gor),nI (q5.chan),nI (q5.value),nI (q5.next),nI (q5.to),nI (q5.reg),nI (q5.more)],nI x6]),(10,.tuple #[.agg #[nI (q5.gor),nI (q5.chan),nI (q5.value),nI (q5.next),nI (q5.to),nI (q5.reg),nI (q5.more)],nI x6]),(9,nI i1),(8,nP b0 0),(0,nP b0 0),(1,nI i1)]) (w':=w9.alloc (.cells #[nI 0,nI 0,nI 0,nI 0,nI 0,nI 0,nI 0] 54)) (by kernel_rfl) ?_
 intro a14 hF13; clear hF12
 have hS16:St w0 F0 (BlkP (w9.heap.size) 54 #[nI 0,nI 0,nI 0,nI 0,nI 0,nI 0,nI 0]::HeapP b0 ab0 s0::ps) (w9.alloc (.cells #[nI 0,nI 0,nI 0,nI 0,nI 0,nI 0,nI 0] 54)):=St.new hS11 #[nI 0,nI 0,nI 0,nI 0,nI 0,nI 0,nI 0] 54
 clear hS11
 refine ev_store (.agg #[nI (q5.gor),nI (q5.chan),nI (q5.value),nI (q5.next),nI (q5.to),nI (q5.reg),nI (q5.more)]) #[nI (q5.gor),nI (q5.chan),nI (q5.value),nI (q5.next),nI (q5.to),nI (q5.reg),nI (q5.more)] hF13 (by kernel_rfl) rfl rfl rfl rfl (by kernel_rfl) hS16 (by kernel_rfl) (by kernel_rfl) (by kernel_rfl) (l':=[(5,nB w9),(12,nI x6),(11,.agg #[nI (q5.gor),nI (q5.chan),nI (q5.value),nI (q5.next),nI (q5.to),nI (q5.reg),nI (q5.more)]),(7,.tuple #[.agg #[nI (q5.gor),nI (q5.chan),nI (q5.value),nI (q5.next),nI (q5.to),nI (q5.reg),nI (q5.more)],nI x6]),(10,.tuple #[.agg #[nI (q5.gor),nI (q5.chan),nI (q5.value),nI (q5.next),nI (q5.to),nI (q5.reg),nI (q5.more)],nI x6]),(9,nI i1),(8,nP b0 0),(0,nP b0 0),(1,nI i1)]) (by kernel_rfl) ?_
 intro w17 a18 hS19 hF20; clear hF13 hS16
 refine ev_runK 1 hF20 [5,6] (l':=[(6,nI x6),(5,nB w9)]) (w':=w17) (by kernel_rfl) ?_
 intro a22 hF21; clear hF20
 refine wpList_nil (thenN (wp_seq (wp_seq (wp_region_lit ?_))))
 refine ev_runK 2 hF21 [5,14] (l':=[(14,.bool (x6 != 0)),(5,nB w9)]) (w':=w17) (by kernel_rfl) ?_
 intro a24 hF23; clear hF21
 refine wpList_nil (thenN ?_)
 cases hc25:(x6 != 0)
 case true =>
  rw [hc25] at hF23
  have hm26:=ifYes hc25 hm8; clear hm8
  refine ev_condT hF23 rfl rfl ?_
  refine wp_seq (wp_region_lit ?_)
  refine ev_runK 1 hF23 [4] (l':=[(4,.nilIface)]) (w':=w17) (by kernel_rfl) ?_
  intro a28 hF27; clear hF23
  refine wpList_nil ?_
  have hS29:=hS19.drop
  clear hS19
  refine thenN ?_
  refine wp_ret ?_
  refine thenR ?_
  simp only [Option.some.injEq,Prod.mk.injEq] at hm26
  obtain ⟨rfl,rfl⟩:=hm26
  refine ev_ret hF27 [4] (.nilIface) rfl rfl rfl ?_
  exact ⟨rfl,hS29⟩
 rw [hc25] at hF23
 have hm32:=ifNot hc25 hm8; clear hm8
 refine ev_condF hF23 rfl rfl ?_
 refine wp_skip ?_
 have hF33:=hF23.keep [5]
 clear hF23
 refine thenN (wp_seq (wp_region_lit ?_))
 refine ev_one (.agg #[nI (q5.gor),nI (q5.chan),nI (q5.value),nI (q5.next),nI (q5.to),nI (q5.reg),nI (q5.more)]) w17 hF33 (by kernel_rfl) rfl (by kernel_rfl) (run_loadV rfl rfl (run_loadA (cs:=[nI (q5.gor),nI (q5.chan),nI (q5.value),nI (q5.next),nI (q5.to),nI (q5.reg),nI (q5.more)]) rfl rfl (by kernel_rfl) (blk_cells hS19 0 rfl rfl))) (l':=[(15,.agg #[nI (q5.gor),nI (q5.chan),nI (q5.value),nI (q5.next),nI (q5.to),nI (q5.reg),nI (q5.more)]),(5,nB w9)]) (by kernel_rfl) ?_
 intro a35 hF34; clear hF33
 refine ev_runK 2 hF34 [4] (l':=[(4,.iface 54 (.agg #[nI (q5.gor),nI (q5.chan),nI (q5.value),nI (q5.next),nI (q5.to),nI (q5.reg),nI (q5.more)]))]) (w':=w17) (by kernel_rfl) ?_
 intro a37 hF36; clear hF34
 refine wpList_nil ?_
 have hS38:=hS19.drop
 clear hS19
 refine thenN ?_
 refine wp_ret ?_
 simp only [Option.some.injEq,Prod.mk.injEq] at hm32
 obtain ⟨rfl,rfl⟩:=hm32
 refine ev_ret hF36 [4] (.iface 54 (.agg #[nI (q5.gor),nI (q5.chan),nI (q5.value),nI (q5.next),nI (q5.to),nI (q5.reg),nI (q5.more)])) rfl rfl rfl ?_
 exact ⟨rfl,hS38⟩
def list_follow.m (k:Nat) (s0:HSt) (i1:Int) (i2:Int):Option (HSt):=bind2 (list_look.m k s0 i1) fun o3 s4=>optE o3 (some (s4)) fun q27=>bind2 (pPutSudog i1 (⟨q27.gor,q27.chan,q27.value,i2,q27.to,q27.reg,q27.more⟩:Su) s4) fun x53 s54=>some (s54)
theorem list_follow.ok {w0 w:World} {F0:List Nat} {ps:List Piece} {k:Nat} {b0 ab0:Nat} {s0:HSt} {i1:Int} {i2:Int} {t0:HSt} (hS:St w0 F0 (HeapP b0 ab0 s0::ps) w) (hm:list_follow.m k s0 i1 i2=some t0) :
    Calls Tryz.prog 79 #[nP b0 0,nI i1,nI i2] w fun e w'=>e=.returned (.tuple #[])∧St w0 F0 (HeapP b0 ab0 t0::ps) w':=by
 refine ev_enterL 22 [nP b0 0,nI i1,nI i2] Tryz.func79 rfl rfl (by simp) ?_
 intro a hF
 have hF0:Fr 22 a [(0,nP b0 0),(1,nI i1),(2,nI i2)]:=hF; clear hF
 unfold list_follow.m at hm
 refine wp_seq (wp_region_lit ?_)
 refine ev_runs 2 hF0 (l':=[(10,nI i1),(9,nP b0 0),(0,nP b0 0),(1,nI i1),(2,nI i2)]) (w':=w) (by kernel_rfl) ?_
 intro a2 hF1; clear hF0
 refine ev_call 81 #[nP b0 0,nI i1] hF1 rfl rfl (by kernel_rfl) rfl (by kernel_rfl) (fun w=>by kernel_rfl) ?_
 obtain ⟨o3,s4,hx5,hm6⟩:=bind2E hm; clear hm
 refine (list_look.ok hS hx5).mono ?_
 rintro _ w7 ⟨rfl,hS9⟩ a8 hF10; clear hF1 hS
 cases o3 with
 | none =>
  have hm11:=optN hm6; clear hm6
  refine ev_runs 5 hF10 (l':=[(6,nB w7),(14,.bool false),(13,.agg #[nI 0,nI 0,nI 0,nI 0,nI 0,nI 0,nI 0]),(8,.tuple #[.agg #[nI 0,nI 0,nI 0,nI 0,nI 0,nI 0,nI 0],.bool false]),(12,.tuple #[.agg #[nI 0,nI 0,nI 0,nI 0,nI 0,nI 0,nI 0],.bool false]),(11,.nilIface),(10,nI i1),(9,nP b0 0),(0,nP b0 0),(1,nI i1),(2,nI i2)]) (w':=w7.alloc (.cells #[nI 0,nI 0,nI 0,nI 0,nI 0,nI 0,nI 0] 54)) (by kernel_rfl) ?_
  intro a13 hF12; clear hF10
  have hS15:St w0 F0 (BlkP (w7.heap.size) 54 #[nI 0,nI 0,nI 0,nI 0,nI 0,nI 0,nI 0]::HeapP b0 ab0 s4::ps) (w7.alloc (.cells #[nI 0,nI 0,nI 0,nI 0,nI 0,nI 0,nI 0] 54)):=St.new hS9 #[nI 0,nI 0,nI 0,nI 0,nI 0,nI 0,nI 0] 54
  clear hS9
  refine ev_store (.agg #[nI 0,nI 0,nI 0,nI 0,nI 0,nI 0,nI 0]) #[nI 0,nI 0,nI 0,nI 0,nI 0,nI 0,nI 0] hF12 (by kernel_rfl) rfl rfl rfl rfl (by kernel_rfl) hS15 (by kernel_rfl) (by kernel_rfl) (by kernel_rfl) (l':=[(6,nB w7),(14,.bool false),(13,.agg #[nI 0,nI 0,nI 0,nI 0,nI 0,nI 0,nI 0]),(8,.tuple #[.agg #[nI 0,nI 0,nI 0,nI 0,nI 0,nI 0,nI 0],.bool false]),(12,.tuple #[.agg #[nI 0,nI 0,nI 0,nI 0,nI 0,nI 0,nI 0],.bool false]),(11,.nilIface),(10,nI i1),(9,nP b0 0),(0,nP b0 0),(1,nI i1),(2,nI i2)]) (by kernel_rfl) ?_
  intro w16 a17 hS18 hF19; clear hF12 hS15
  refine ev_runK 1 hF19 [0,1,2,6,7] (l':=[(7,.bool false),(6,nB w7),(0,nP b0 0),(1,nI i1),(2,nI i2)]) (w':=w16) (by kernel_rfl) ?_
  intro a21 hF20; clear hF19
  refine wpList_nil (thenN (wp_seq (wp_region_lit ?_)))
  refine ev_runK 1 hF20 [0,1,2,6,15] (l':=[(15,.bool false),(6,nB w7),(0,nP b0 0),(1,nI i1),(2,nI i2)]) (w':=w16) (by kernel_rfl) ?_
  intro a23 hF22; clear hF20
  refine wpList_nil (thenN ?_)
  refine ev_condF hF22 rfl rfl ?_
  refine wp_skip ?_
  have hF24:=hF22.keep []
  clear hF22
  have hS25:=hS18.drop
  clear hS18
  obtain rfl:=Option.some.inj hm11
  refine ev_retN hF24 [] (.tuple #[]) rfl rfl rfl ?_
  exact ⟨rfl,hS25⟩
 | some q27 =>
  have hm28:=optS hm6; clear hm6
  refine ev_runs 5 hF10 (l':=[(6,nB w7),(14,.bool true),(13,.agg #[nI (q27.gor),nI (q27.chan),nI (q27.value),nI (q27.next),nI (q27.to),nI (q27.reg),nI (q27.more)]),(8,.tuple #[.agg #[nI (q27.gor),nI (q27.chan),nI (q27.value),nI (q27.next),nI (q27.to),nI (q27.reg),nI (q27.more)],.bool true]),(12,.tuple #[.agg #[nI (q27.gor),nI (q27.chan),nI (q27.value),nI (q27.next),nI (q27.to),nI (q27.reg),nI (q27.more)],.bool true]),(11,.iface 54 (.agg #[nI (q27.gor),nI (q27.chan),nI (q27.value),nI (q27.next),nI (q27.to),nI (q27.reg),nI (q27.more)])),(10,nI i1),(9,nP b0 0),(0,nP b0 0),(1,nI i1),(2,nI i2)]) (w':=w7.alloc (.cells #[nI 0,nI 0,nI 0,nI 0,nI 0,nI 0,nI 0] 54)) (by kernel_rfl) ?_
  intro a30 hF29; clear hF10
  have hS32:St w0 F0 (BlkP (w7.heap.size) 54 #[nI 0,nI 0,nI 0,nI 0,nI 0,nI 0,nI 0]::HeapP b0 ab0 s4::ps) (w7.alloc (.cells #[nI 0,nI 0,nI 0,nI 0,nI 0,nI 0,nI 0] 54)):=St.new hS9 #[nI 0,nI 0,nI 0,nI 0,nI 0,nI 0,nI 0] 54
  clear hS9
  refine ev_store (.agg #[nI (q27.gor),nI (q27.chan),nI (q27.value),nI (q27.next),nI (q27.to),nI (q27.reg),nI (q27.more)]) #[nI (q27.gor),nI (q27.chan),nI (q27.value),nI (q27.next),nI (q27.to),nI (q27.reg),nI (q27.more)] hF29 (by kernel_rfl) rfl rfl rfl rfl (by kernel_rfl) hS32 (by kernel_rfl) (by kernel_rfl) (by kernel_rfl) (l':=[(6,nB w7),(14,.bool true),(13,.agg #[nI (q27.gor),nI (q27.chan),nI (q27.value),nI (q27.next),nI (q27.to),nI (q27.reg),nI (q27.more)]),(8,.tuple #[.agg #[nI (q27.gor),nI (q27.chan),nI (q27.value),nI (q27.next),nI (q27.to),nI (q27.reg),nI (q27.more)],.bool true]),(12,.tuple #[.agg #[nI (q27.gor),nI (q27.chan),nI (q27.value),nI (q27.next),nI (q27.to),nI (q27.reg),nI (q27.more)],.bool true]),(11,.iface 54 (.agg #[nI (q27.gor),nI (q27.chan),nI (q27.value),nI (q27.next),nI (q27.to),nI (q27.reg),nI (q27.more)])),(10,nI i1),(9,nP b0 0),(0,nP b0 0),(1,nI i1),(2,nI i2)]) (by kernel_rfl) ?_
  intro w33 a34 hS35 hF36; clear hF29 hS32
  refine ev_runK 1 hF36 [0,1,2,6,7] (l':=[(7,.bool true),(6,nB w7),(0,nP b0 0),(1,nI i1),(2,nI i2)]) (w':=w33) (by kernel_rfl) ?_
  intro a38 hF37; clear hF36
  refine wpList_nil (thenN (wp_seq (wp_region_lit ?_)))
  refine ev_runK 1 hF37 [0,1,2,6,15] (l':=[(15,.bool true),(6,nB w7),(0,nP b0 0),(1,nI i1),(2,nI i2)]) (w':=w33) (by kernel_rfl) ?_
  intro a40 hF39; clear hF37
  refine wpList_nil (thenN ?_)
  refine ev_condT hF39 rfl rfl ?_
  refine wp_seq (wp_region_lit ?_)
  refine ev_runs 2 hF39 (l':=[(17,nP (w7.heap.size) 3),(16,nI i2),(15,.bool true),(6,nB w7),(0,nP b0 0),(1,nI i1),(2,nI i2)]) (w':=w33) (by kernel_rfl) ?_
  intro a42 hF41; clear hF39
  refine ev_store (nI i2) #[nI (q27.gor),nI (q27.chan),nI (q27.value),nI i2,nI (q27.to),nI (q27.reg),nI (q27.more)] hF41 (by kernel_rfl) rfl rfl rfl rfl (by kernel_rfl) hS35 (by kernel_rfl) (by kernel_rfl) (by kernel_rfl) (l':=[(17,nP (w7.heap.size) 3),(16,nI i2),(15,.bool true),(6,nB w7),(0,nP b0 0),(1,nI i1),(2,nI i2)]) (by kernel_rfl) ?_
  intro w43 a44 hS45 hF46; clear hF41 hS35
  refine wpList_nil ?_
  have hF47:=hF46.keep [0,1,6]
  clear hF46
  refine thenN (wp_region_lit ?_)
  refine ev_runs 2 hF47 (l':=[(19,nI i1),(18,nP b0 0),(6,nB w7),(0,nP b0 0),(1,nI i1)]) (w':=w43) (by kernel_rfl) ?_
  intro a49 hF48; clear hF47
  refine ev_one (.agg #[nI (q27.gor),nI (q27.chan),nI (q27.value),nI i2,nI (q27.to),nI (q27.reg),nI (q27.more)]) w43 hF48 (by kernel_rfl) rfl (by kernel_rfl) (run_loadV rfl rfl (run_loadA (cs:=[nI (q27.gor),nI (q27.chan),nI (q27.value),nI i2,nI (q27.to),nI (q27.reg),nI (q27.more)]) rfl rfl (by kernel_rfl) (blk_cells hS45 0 rfl rfl))) (l':=[(20,.agg #[nI (q27.gor),nI (q27.chan),nI (q27.value),nI i2,nI (q27.to),nI (q27.reg),nI (q27.more)]),(19,nI i1),(18,nP b0 0),(6,nB w7),(0,nP b0 0),(1,nI i1)]) (by kernel_rfl) ?_
  intro a51 hF50; clear hF48
  have hS52:=hS45.pick1
  clear hS45
  refine ev_call 41 #[nP b0 0,nI i1,.agg #[nI (q27.gor),nI (q27.chan),nI (q27.value),nI i2,nI (q27.to),nI (q27.reg),nI (q27.more)]] hF50 rfl rfl (by kernel_rfl) rfl (by kernel_rfl) (fun w=>by kernel_rfl) ?_
  obtain ⟨x53,s54,hx55,hm56⟩:=bind2E hm28; clear hm28
  refine (p_PutSudog hS52 hx55).mono ?_
  rintro _ w57 ⟨rfl,hS59⟩ a58 hF60; clear hF50 hS52
  refine wpList_nil ?_
  have hF61:=hF60.keep []
  clear hF60
  have hS62:=hS59.pick1.drop
  clear hS59
  obtain rfl:=Option.some.inj hm56
  refine ev_retN hF61 [] (.tuple #[]) rfl rfl rfl ?_
  exact ⟨rfl,hS62⟩
def list_All.l1b (k:Nat) (rec64:List Int→HSt→Int→Option (List Int×HSt)) (L58:List Int) (s60:HSt) (x61:Int):Option (List Int×HSt):=bind1 (slices_Contains.m k L58 x61) fun y75=>(if (!(y75)) then bind2 (list_look.m k s60 x61) fun o90 s91=>optE o90 (some (L58,s91)) fun q116=>bind1 (pushM L58 x61) fun L134=>rec64 L134 s91 q116.next else some (L58,s60))
def list_All.l1 (k:Nat):Nat→List Int→HSt→Int→Option (List Int×HSt)
  | 0=>fun _ _ _=>none
  | kI+1=>list_All.l1b k (list_All.l1 k kI)
def list_All.m (k:Nat) (s0:HSt) (i1:Int) (i2:Bool):Option (List Int×HSt):=bind2 (pChan i1 s0) fun q8 x9=>(if (x9 != 0) then some ([],s0) else bind1 (list_of.m k (⟨q8.cap,q8.closed,q8.count,q8.start,q8.buf,q8.th,q8.tt,q8.sh,q8.st⟩:Ch) (i2)) fun q48=>list_All.l1 k k [] s0 q48.head)
theorem list_All.ok {w0 w:World} {F0:List Nat} {ps:List Piece} {k:Nat} {b0 ab0:Nat} {s0:HSt} {i1:Int} {i2:Bool} {r0:List Int} {t0:HSt} (hS:St w0 F0 (HeapP b0 ab0 s0::ps) w) (hm:list_All.m k s0 i1 i2=some (r0,t0)) :
    Calls Tryz.prog 34 #[nP b0 0,nI i1,.bool (i2)] w fun e w'=>∃ vr0,e=.returned (vr0)∧St w0 F0 (HeapP b0 ab0 t0::RowP vr0 r0::ps) w':=by
 refine ev_enterL 45 [nP b0 0,nI i1,.bool (i2)] Tryz.func34 rfl rfl (by simp) ?_
 intro a hF
 have hF0:Fr 45 a [(0,nP b0 0),(1,nI i1),(2,.bool (i2))]:=hF; clear hF
 unfold list_All.m at hm
 refine wp_seq (wp_region_lit ?_)
 have hS2:St w0 F0 (RowP (.slice none 0 0) []::HeapP b0 ab0 s0::ps) w:=St.nil hS
 refine ev_runK 1 hF0 [0,1,2] (l':=[(0,nP b0 0),(1,nI i1),(2,.bool (i2))]) (w':=w) (by kernel_rfl) ?_
 intro a4 hF3; clear hF0
 refine wpList_nil ?_
 have hS5:=hS2.drop
 clear hS2
 refine thenN (wp_seq (wp_region_lit ?_))
 refine ev_runs 2 hF3 (l':=[(15,nI i1),(14,nP b0 0),(0,nP b0 0),(1,nI i1),(2,.bool (i2))]) (w':=w) (by kernel_rfl) ?_
 intro a7 hF6; clear hF3
 refine ev_call 19 #[nP b0 0,nI i1] hF6 rfl rfl (by kernel_rfl) rfl (by kernel_rfl) (fun w=>by kernel_rfl) ?_
 obtain ⟨q8,x9,hx10,hm11⟩:=bind2E hm; clear hm
 refine (p_Chan hS5 hx10).mono ?_
 rintro _ w12 ⟨rfl,hS14⟩ a13 hF15; clear hF6 hS5
 refine ev_runs 4 hF15 (l':=[(7,nB w12),(18,nI x9),(17,.agg #[nI (q8.cap),nI (q8.closed),nI (q8.count),nI (q8.start),nI (q8.buf),nI (q8.th),nI (q8.tt),nI (q8.sh),nI (q8.st)]),(13,.tuple #[.agg #[nI (q8.cap),nI (q8.closed),nI (q8.count),nI (q8.start),nI (q8.buf),nI (q8.th),nI (q8.tt),nI (q8.sh),nI (q8.st)],nI x9]),(16,.tuple #[.agg #[nI (q8.cap),nI (q8.closed),nI (q8.count),nI (q8.start),nI (q8.buf),nI (q8.th),nI (q8.tt),nI (q8.sh),nI (q8.st)],nI x9]),(15,nI i1),(14,nP b0 0),(0,nP b0 0),(1,nI i1),(2,.bool (i2))]) (w':=w12.alloc (.cells #[nI 0,nI 0,nI 0,nI 0,nI 0,nI 0,nI 0,nI 0,nI 0] 37)) (by kernel_rfl) ?_
 intro a17 hF16; clear hF15
 have hS19:St w0 F0 (BlkP (w12.heap.size) 37 #[nI 0,nI 0,nI 0,nI 0,nI 0,nI 0,nI 0,nI 0,nI 0]::HeapP b0 ab0 s0::ps) (w12.alloc (.cells #[nI 0,nI 0,nI 0,nI 0,nI 0,nI 0,nI 0,nI 0,nI 0] 37)):=St.new hS14 #[nI 0,nI 0,nI 0,nI 0,nI 0,nI 0,nI 0,nI 0,nI 0] 37
 clear hS14
 refine ev_store (.agg #[nI (q8.cap),nI (q8.closed),nI (q8.count),nI (q8.start),nI (q8.buf),nI (q8.th),nI (q8.tt),nI (q8.sh),nI (q8.st)]) #[nI (q8.cap),nI (q8.closed),nI (q8.count),nI (q8.start),nI (q8.buf),nI (q8.th),nI (q8.tt),nI (q8.sh),nI (q8.st)] hF16 (by kernel_rfl) rfl rfl rfl rfl (by kernel_rfl) hS19 (by kernel_rfl) (by kernel_rfl) (by kernel_rfl) (l':=[(7,nB w12),(18,nI x9),(17,.agg #[nI (q8.cap),nI (q8.closed),nI (q8.count),nI (q8.start),nI (q8.buf),nI (q8.th),nI (q8.tt),nI (q8.sh),nI (q8.st)]),(13,.tuple #[.agg #[nI (q8.cap),nI (q8.closed),nI (q8.count),nI (q8.start),nI (q8.buf),nI (q8.th),nI (q8.tt),nI (q8.sh),nI (q8.st)],nI x9]),(16,.tuple #[.agg #[nI (q8.cap),nI (q8.closed),nI (q8.count),nI (q8.start),nI (q8.buf),nI (q8.th),nI (q8.tt),nI (q8.sh),nI (q8.st)],nI x9]),(15,nI i1),(14,nP b0 0),(0,nP b0 0),(1,nI i1),(2,.bool (i2))]) (by kernel_rfl) ?_
 intro w20 a21 hS22 hF23; clear hF16 hS19
 refine ev_runK 1 hF23 [0,2,7,8] (l':=[(8,nI x9),(7,nB w12),(0,nP b0 0),(2,.bool (i2))]) (w':=w20) (by kernel_rfl) ?_
 intro a25 hF24; clear hF23
 refine wpList_nil (thenN (wp_seq (wp_seq (wp_region_lit ?_))))
 refine ev_runK 2 hF24 [0,2,7,20] (l':=[(20,.bool (x9 != 0)),(7,nB w12),(0,nP b0 0),(2,.bool (i2))]) (w':=w20) (by kernel_rfl) ?_
 intro a27 hF26; clear hF24
 refine wpList_nil (thenN ?_)
 cases hc28:(x9 != 0)
 case true =>
  rw [hc28] at hF26
  have hm29:=ifYes hc28 hm11; clear hm11
  refine ev_condT hF26 rfl rfl ?_
  refine wp_seq (wp_region_lit ?_)
  have hS31:St w0 F0 (RowP (.slice none 0 0) []::BlkP (w12.heap.size) 37 #[nI (q8.cap),nI (q8.closed),nI (q8.count),nI (q8.start),nI (q8.buf),nI (q8.th),nI (q8.tt),nI (q8.sh),nI (q8.st)]::HeapP b0 ab0 s0::ps) w20:=St.nil hS22
  clear hS22
  refine ev_runK 1 hF26 [6] (l':=[(6,.slice none 0 0)]) (w':=w20) (by kernel_rfl) ?_
  intro a33 hF32; clear hF26
  refine wpList_nil ?_
  have hS34:=hS31.pick1.drop
  clear hS31
  refine thenN ?_
  refine wp_ret ?_
  refine thenR ?_
  have hS35:=hS34.pick1
  clear hS34
  simp only [Option.some.injEq,Prod.mk.injEq] at hm29
  obtain ⟨rfl,rfl⟩:=hm29
  refine ev_ret hF32 [6] (.slice none 0 0) rfl rfl rfl ?_
  exact ⟨_,rfl,hS35⟩
 rw [hc28] at hF26
 have hm38:=ifNot hc28 hm11; clear hm11
 refine ev_condF hF26 rfl rfl ?_
 refine wp_skip ?_
 have hF39:=hF26.keep [0,2,7]
 clear hF26
 refine thenN (wp_seq (wp_region_lit ?_))
 have hS41:St w0 F0 (RowP (.slice none 0 0) []::BlkP (w12.heap.size) 37 #[nI (q8.cap),nI (q8.closed),nI (q8.count),nI (q8.start),nI (q8.buf),nI (q8.th),nI (q8.tt),nI (q8.sh),nI (q8.st)]::HeapP b0 ab0 s0::ps) w20:=St.nil hS22
 clear hS22
 refine ev_runs 1 hF39 (l':=[(9,.slice none 0 0),(7,nB w12),(0,nP b0 0),(2,.bool (i2))]) (w':=w20) (by kernel_rfl) ?_
 intro a43 hF42; clear hF39
 refine wpList_nil (thenN (wp_seq (wp_seq (wp_region_lit ?_))))
 refine ev_one (.agg #[nI (q8.cap),nI (q8.closed),nI (q8.count),nI (q8.start),nI (q8.buf),nI (q8.th),nI (q8.tt),nI (q8.sh),nI (q8.st)]) w20 hF42 (by kernel_rfl) rfl (by kernel_rfl) (run_loadV rfl rfl (run_loadA (cs:=[nI (q8.cap),nI (q8.closed),nI (q8.count),nI (q8.start),nI (q8.buf),nI (q8.th),nI (q8.tt),nI (q8.sh),nI (q8.st)]) rfl rfl (by kernel_rfl) (blk_cells hS41 1 rfl rfl))) (l':=[(21,.agg #[nI (q8.cap),nI (q8.closed),nI (q8.count),nI (q8.start),nI (q8.buf),nI (q8.th),nI (q8.tt),nI (q8.sh),nI (q8.st)]),(9,.slice none 0 0),(7,nB w12),(0,nP b0 0),(2,.bool (i2))]) (by kernel_rfl) ?_
 intro a45 hF44; clear hF42
 refine ev_runs 1 hF44 (l':=[(22,.bool (i2)),(21,.agg #[nI (q8.cap),nI (q8.closed),nI (q8.count),nI (q8.start),nI (q8.buf),nI (q8.th),nI (q8.tt),nI (q8.sh),nI (q8.st)]),(9,.slice none 0 0),(7,nB w12),(0,nP b0 0),(2,.bool (i2))]) (w':=w20) (by kernel_rfl) ?_
 intro a47 hF46; clear hF44
 refine ev_call 78 #[.agg #[nI (q8.cap),nI (q8.closed),nI (q8.count),nI (q8.start),nI (q8.buf),nI (q8.th),nI (q8.tt),nI (q8.sh),nI (q8.st)],.bool (i2)] hF46 rfl rfl (by kernel_rfl) rfl (by kernel_rfl) (fun w=>by kernel_rfl) ?_
 obtain ⟨q48,hx49,hm50⟩:=bind1E hm38; clear hm38
 refine (list_of.ok hS41 hx49).mono ?_
 rintro _ w51 ⟨rfl,hS53⟩ a52 hF54; clear hF46 hS41
 refine ev_runK 2 hF54 [0,9,10] (l':=[(10,nI (q48.head)),(9,.slice none 0 0),(0,nP b0 0)]) (w':=w51) (by kernel_rfl) ?_
 intro a56 hF55; clear hF54
 refine wpList_nil ?_
 have hS57:=hS53.pick1.drop
 clear hS53
 refine thenN ?_
 refine wp_block ?_
 refine wp_loop_ghost (fun kI aI wI=>∃ (v59:Value) (L58:List Int) (s60:HSt) (x61:Int),Fr 45 aI [(10,nI x61),(9,v59),(0,nP b0 0)]∧St w0 F0 (RowP (v59) L58::HeapP b0 ab0 s60::ps) wI∧list_All.l1 k kI L58 s60 x61=some (r0,t0)) k ⟨.slice none 0 0,[],s0,q48.head,hF55,hS57,hm50⟩ ?_
 rintro k62 a63 w64 ⟨v59,L58,s60,x61,hF65,hS66,hm67⟩
 clear hF55 hS57 hm50
 rcases k62 with _ | k62
 · cases hm67
 have hm68:list_All.l1b k (list_All.l1 k k62) L58 s60 x61=some (r0,t0):=hm67
 clear hm67
 unfold list_All.l1b at hm68
 obtain ⟨hl72,p69,c70,rfl,hp71⟩:=St.shape hS66 0 rfl
 refine wp_seq (wp_seq (wp_region_lit ?_))
 refine ev_runs 2 hF65 (l':=[(26,nI x61),(25,.slice p69 L58.length c70),(10,nI x61),(9,.slice p69 L58.length c70),(0,nP b0 0)]) (w':=w64) (by kernel_rfl) ?_
 intro a74 hF73; clear hF65
 refine ev_call 83 #[.slice p69 L58.length c70,nI x61] hF73 rfl rfl (by kernel_rfl) rfl (by kernel_rfl) (fun w=>by kernel_rfl) ?_
 obtain ⟨y75,hx76,hm77⟩:=bind1E hm68; clear hm68
 refine (slices_Contains.ok hS66 hx76).mono ?_
 rintro _ w78 ⟨rfl,hS80⟩ a79 hF81; clear hF73 hS66
 refine ev_runK 1 hF81 [0,9,10,28] (l':=[(28,.bool (!(y75))),(10,nI x61),(9,.slice p69 L58.length c70),(0,nP b0 0)]) (w':=w78) (by kernel_rfl) ?_
 intro a83 hF82; clear hF81
 refine wpList_nil (thenN ?_)
 cases hc84:(!(y75))
 case true =>
  rw [hc84] at hF82
  have hm85:=ifYes hc84 hm77; clear hm77
  refine ev_condT hF82 rfl rfl ?_
  refine wp_skip ?_
  have hF86:=hF82.keep [0,9,10]
  clear hF82
  refine thenN ?_
  refine wp_block ?_
  refine wp_seq (wp_region_lit ?_)
  refine ev_runs 2 hF86 (l':=[(31,nI x61),(30,nP b0 0),(10,nI x61),(9,.slice p69 L58.length c70),(0,nP b0 0)]) (w':=w78) (by kernel_rfl) ?_
  intro a88 hF87; clear hF86
  have hS89:=hS80.pick1
  clear hS80
  refine ev_call 81 #[nP b0 0,nI x61] hF87 rfl rfl (by kernel_rfl) rfl (by kernel_rfl) (fun w=>by kernel_rfl) ?_
  obtain ⟨o90,s91,hx92,hm93⟩:=bind2E hm85; clear hm85
  refine (list_look.ok hS89 hx92).mono ?_
  rintro _ w94 ⟨rfl,hS96⟩ a95 hF97; clear hF87 hS89
  cases o90 with
  | none =>
   have hm98:=optN hm93; clear hm93
   refine ev_runs 5 hF97 (l':=[(11,nB w94),(35,.bool false),(34,.agg #[nI 0,nI 0,nI 0,nI 0,nI 0,nI 0,nI 0]),(29,.tuple #[.agg #[nI 0,nI 0,nI 0,nI 0,nI 0,nI 0,nI 0],.bool false]),(33,.tuple #[.agg #[nI 0,nI 0,nI 0,nI 0,nI 0,nI 0,nI 0],.bool false]),(32,.nilIface),(31,nI x61),(30,nP b0 0),(10,nI x61),(9,.slice p69 L58.length c70),(0,nP b0 0)]) (w':=w94.alloc (.cells #[nI 0,nI 0,nI 0,nI 0,nI 0,nI 0,nI 0] 54)) (by kernel_rfl) ?_
   intro a100 hF99; clear hF97
   have hS102:St w0 F0 (BlkP (w94.heap.size) 54 #[nI 0,nI 0,nI 0,nI 0,nI 0,nI 0,nI 0]::HeapP b0 ab0 s91::RowP (.slice p69 L58.length c70) L58::ps) (w94.alloc (.cells #[nI 0,nI 0,nI 0,nI 0,nI 0,nI 0,nI 0] 54)):=St.new hS96 #[nI 0,nI 0,nI 0,nI 0,nI 0,nI 0,nI 0] 54
   clear hS96
   refine ev_store (.agg #[nI 0,nI 0,nI 0,nI 0,nI 0,nI 0,nI 0]) #[nI 0,nI 0,nI 0,nI 0,nI 0,nI 0,nI 0] hF99 (by kernel_rfl) rfl rfl rfl rfl (by kernel_rfl) hS102 (by kernel_rfl) (by kernel_rfl) (by kernel_rfl) (l':=[(11,nB w94),(35,.bool false),(34,.agg #[nI 0,nI 0,nI 0,nI 0,nI 0,nI 0,nI 0]),(29,.tuple #[.agg #[nI 0,nI 0,nI 0,nI 0,nI 0,nI 0,nI 0],.bool false]),(33,.tuple #[.agg #[nI 0,nI 0,nI 0,nI 0,nI 0,nI 0,nI 0],.bool false]),(32,.nilIface),(31,nI x61),(30,nP b0 0),(10,nI x61),(9,.slice p69 L58.length c70),(0,nP b0 0)]) (by kernel_rfl) ?_
   intro w103 a104 hS105 hF106; clear hF99 hS102
   refine ev_runK 1 hF106 [0,9,10,11,12] (l':=[(12,.bool false),(11,nB w94),(10,nI x61),(9,.slice p69 L58.length c70),(0,nP b0 0)]) (w':=w103) (by kernel_rfl) ?_
   intro a108 hF107; clear hF106
   refine wpList_nil (thenN (wp_seq (wp_seq (wp_region_lit ?_))))
   refine ev_runK 2 hF107 [0,9,10,11,37] (l':=[(37,.bool true),(11,nB w94),(10,nI x61),(9,.slice p69 L58.length c70),(0,nP b0 0)]) (w':=w103) (by kernel_rfl) ?_
   intro a110 hF109; clear hF107
   refine wpList_nil (thenN ?_)
   refine ev_condT hF109 rfl rfl ?_
   refine wp_exit ?_
   refine thenE ?_
   refine blockX (by decide) ?_
   refine thenE ?_
   refine blockE ?_
   refine thenN (wp_seq (wp_region_lit ?_))
   refine ev_runK 2 hF109 [6] (l':=[(6,.slice p69 L58.length c70)]) (w':=w103) (by kernel_rfl) ?_
   intro a112 hF111; clear hF109
   refine wpList_nil ?_
   have hS113:=hS105.drop
   clear hS105
   refine thenN ?_
   refine wp_ret ?_
   simp only [Option.some.injEq,Prod.mk.injEq] at hm98
   obtain ⟨rfl,rfl⟩:=hm98
   refine ev_ret hF111 [6] (.slice p69 L58.length c70) rfl rfl rfl ?_
   exact ⟨_,rfl,hS113⟩
  | some q116 =>
   have hm117:=optS hm93; clear hm93
   refine ev_runs 5 hF97 (l':=[(11,nB w94),(35,.bool true),(34,.agg #[nI (q116.gor),nI (q116.chan),nI (q116.value),nI (q116.next),nI (q116.to),nI (q116.reg),nI (q116.more)]),(29,.tuple #[.agg #[nI (q116.gor),nI (q116.chan),nI (q116.value),nI (q116.next),nI (q116.to),nI (q116.reg),nI (q116.more)],.bool true]),(33,.tuple #[.agg #[nI (q116.gor),nI (q116.chan),nI (q116.value),nI (q116.next),nI (q116.to),nI (q116.reg),nI (q116.more)],.bool true]),(32,.iface 54 (.agg #[nI (q116.gor),nI (q116.chan),nI (q116.value),nI (q116.next),nI (q116.to),nI (q116.reg),nI (q116.more)])),(31,nI x61),(30,nP b0 0),(10,nI x61),(9,.slice p69 L58.length c70),(0,nP b0 0)]) (w':=w94.alloc (.cells #[nI 0,nI 0,nI 0,nI 0,nI 0,nI 0,nI 0] 54)) (by kernel_rfl) ?_
   intro a119 hF118; clear hF97
   have hS121:St w0 F0 (BlkP (w94.heap.size) 54 #[nI 0,nI 0,nI 0,nI 0,nI 0,nI 0,nI 0]::HeapP b0 ab0 s91::RowP (.slice p69 L58.length c70) L58::ps) (w94.alloc (.cells #[nI 0,nI 0,nI 0,nI 0,nI 0,nI 0,nI 0] 54)):=St.new hS96 #[nI 0,nI 0,nI 0,nI 0,nI 0,nI 0,nI 0] 54
   clear hS96
   refine ev_store (.agg #[nI (q116.gor),nI (q116.chan),nI (q116.value),nI (q116.next),nI (q116.to),nI (q116.reg),nI (q116.more)]) #[nI (q116.gor),nI (q116.chan),nI (q116.value),nI (q116.next),nI (q116.to),nI (q116.reg),nI (q116.more)] hF118 (by kernel_rfl) rfl rfl rfl rfl (by kernel_rfl) hS121 (by kernel_rfl) (by kernel_rfl) (by kernel_rfl) (l':=[(11,nB w94),(35,.bool true),(34,.agg #[nI (q116.gor),nI (q116.chan),nI (q116.value),nI (q116.next),nI (q116.to),nI (q116.reg),nI (q116.more)]),(29,.tuple #[.agg #[nI (q116.gor),nI (q116.chan),nI (q116.value),nI (q116.next),nI (q116.to),nI (q116.reg),nI (q116.more)],.bool true]),(33,.tuple #[.agg #[nI (q116.gor),nI (q116.chan),nI (q116.value),nI (q116.next),nI (q116.to),nI (q116.reg),nI (q116.more)],.bool true]),(32,.iface 54 (.agg #[nI (q116.gor),nI (q116.chan),nI (q116.value),nI (q116.next),nI (q116.to),nI (q116.reg),nI (q116.more)])),(31,nI x61),(30,nP b0 0),(10,nI x61),(9,.slice p69 L58.length c70),(0,nP b0 0)]) (by kernel_rfl) ?_
   intro w122 a123 hS124 hF125; clear hF118 hS121
   refine ev_runK 1 hF125 [0,9,10,11,12] (l':=[(12,.bool true),(11,nB w94),(10,nI x61),(9,.slice p69 L58.length c70),(0,nP b0 0)]) (w':=w122) (by kernel_rfl) ?_
   intro a127 hF126; clear hF125
   refine wpList_nil (thenN (wp_seq (wp_seq (wp_region_lit ?_))))
   refine ev_runK 2 hF126 [0,9,10,11,37] (l':=[(37,.bool false),(11,nB w94),(10,nI x61),(9,.slice p69 L58.length c70),(0,nP b0 0)]) (w':=w122) (by kernel_rfl) ?_
   intro a129 hF128; clear hF126
   refine wpList_nil (thenN ?_)
   refine ev_condF hF128 rfl rfl ?_
   refine wp_skip ?_
   have hF130:=hF128.keep [0,9,10,11]
   clear hF128
   refine thenN (wp_seq (wp_region_lit ?_))
   refine ev_runs 3 hF130 (l':=[(40,.slice (some ⟨w122.heap.size,0,none⟩) 1 1),(39,nI x61),(38,.slice p69 L58.length c70),(11,nB w94),(10,nI x61),(9,.slice p69 L58.length c70),(0,nP b0 0)]) (w':=w122.alloc (.cells #[nI x61] 3)) (by kernel_rfl) ?_
   intro a132 hF131; clear hF130
   have hS133:=hS124.pick2
   clear hS124
   obtain ⟨L134,hx135,hm136⟩:=bind1E hm117; clear hm117
   refine ev_push 41 (.tmp 38) (.tmp 40) hF131 rfl rfl rfl rfl rfl rfl rfl rfl hS133 hx135 ?_
   intro g137 c138 w139 a140 hS141 hF142; clear hF131 hS133
   refine ev_runK 1 hF142 [0,9,11] (l':=[(9,nS g137 L134 c138),(11,nB w94),(0,nP b0 0)]) (w':=w139) (by kernel_rfl) ?_
   intro a144 hF143; clear hF142
   refine wpList_nil (thenN (wp_region_lit ?_))
   refine ev_runs 1 hF143 (l':=[(42,nP (w94.heap.size) 3),(9,nS g137 L134 c138),(11,nB w94),(0,nP b0 0)]) (w':=w139) (by kernel_rfl) ?_
   intro a146 hF145; clear hF143
   refine ev_one (nI (q116.next)) w139 hF145 (by kernel_rfl) rfl (by kernel_rfl) (run_loadV rfl rfl (run_loadS rfl rfl (hS141.cell 1 rfl 3 rfl))) (l':=[(43,nI (q116.next)),(42,nP (w94.heap.size) 3),(9,nS g137 L134 c138),(11,nB w94),(0,nP b0 0)]) (by kernel_rfl) ?_
   intro a148 hF147; clear hF145
   refine ev_runK 1 hF147 [0,9,10] (l':=[(10,nI (q116.next)),(9,nS g137 L134 c138),(0,nP b0 0)]) (w':=w139) (by kernel_rfl) ?_
   intro a150 hF149; clear hF147
   refine wpList_nil ?_
   have hS151:=hS141.pick1.drop
   clear hS141
   refine blockN ?_
   exact thenN ⟨k62,Nat.lt_succ_self _,nS g137 L134 c138,L134,s91,q116.next,hF149,hS151,hm136⟩
 rw [hc84] at hF82
 have hm152:=ifNot hc84 hm77; clear hm77
 refine ev_condF hF82 rfl rfl ?_
 refine wp_exit ?_
 refine thenE ?_
 refine thenE ?_
 refine blockE ?_
 refine thenN (wp_seq (wp_region_lit ?_))
 refine ev_runK 2 hF82 [6] (l':=[(6,.slice p69 L58.length c70)]) (w':=w78) (by kernel_rfl) ?_
 intro a154 hF153; clear hF82
 refine wpList_nil (thenN ?_)
 refine wp_ret ?_
 have hS155:=hS80.pick1
 clear hS80
 simp only [Option.some.injEq,Prod.mk.injEq] at hm152
 obtain ⟨rfl,rfl⟩:=hm152
 refine ev_ret hF153 [6] (.slice p69 L58.length c70) rfl rfl rfl ?_
 exact ⟨_,rfl,hS155⟩
def list_Push.j1 (i1:Int) (i2:Bool) (i3:Int) (k:Nat) (q5:Ch) (s99:HSt) (x100:Int):Option (Int×HSt):=bind1 (list_follow.m k s99 i3 (-1)) fun s118=>bind1 (list_into.m k (⟨q5.cap,q5.closed,q5.count,q5.start,q5.buf,q5.th,q5.tt,q5.sh,q5.st⟩:Ch) (i2) (⟨x100,i3⟩:En)) fun q134=>bind2 (pPutChan i1 (⟨q134.cap,q134.closed,q134.count,q134.start,q134.buf,q134.th,q134.tt,q134.sh,q134.st⟩:Ch) s118) fun x141 s142=>some (x141,s142)
def list_Push.m (k:Nat) (s0:HSt) (i1:Int) (i2:Bool) (i3:Int):Option (Int×HSt):=bind2 (pChan i1 s0) fun q5 x6=>(if (x6 != 0) then some (x6,s0) else bind2 (pSudog i3 s0) fun q37 x38=>(if (x38 != 0) then some (x38,s0) else bind1 (list_of.m k (⟨q5.cap,q5.closed,q5.count,q5.start,q5.buf,q5.th,q5.tt,q5.sh,q5.st⟩:Ch) (i2)) fun q62=>bind2 (list_All.m k s0 i1 (i2)) fun L81 s82=>(if (decide ((L81.length:Int) > 0)) then (if (inR (IntKind.i64.wrap ((L81.length:Int) - 1)) L81.length) then bind1 (list_follow.m k s82 (atI L81 (IntKind.i64.wrap ((L81.length:Int) - 1))) i3) fun s167=>list_Push.j1 i1 i2 i3 k q5 s167 q62.head else none) else list_Push.j1 i1 i2 i3 k q5 s82 i3)))
theorem list_Push.ok {w0 w:World} {F0:List Nat} {ps:List Piece} {k:Nat} {b0 ab0:Nat} {s0:HSt} {i1:Int} {i2:Bool} {i3:Int} {r0:Int} {t0:HSt} (hS:St w0 F0 (HeapP b0 ab0 s0::ps) w) (hm:list_Push.m k s0 i1 i2 i3=some (r0,t0)) :
    Calls Tryz.prog 29 #[nP b0 0,nI i1,.bool (i2),nI i3] w fun e w'=>e=.returned (.int .i64 r0)∧St w0 F0 (HeapP b0 ab0 t0::ps) w':=by
 refine ev_enterL 64 [nP b0 0,nI i1,.bool (i2),nI i3] Tryz.func29 rfl rfl (by simp) ?_
 intro a hF
 have hF0:Fr 64 a [(0,nP b0 0),(1,nI i1),(2,.bool (i2)),(3,nI i3)]:=hF; clear hF
 unfold list_Push.m at hm
 refine wp_seq (wp_region_lit ?_)
 refine ev_runK 1 hF0 [0,1,2,3] (l':=[(0,nP b0 0),(1,nI i1),(2,.bool (i2)),(3,nI i3)]) (w':=w) (by kernel_rfl) ?_
 intro a2 hF1; clear hF0
 refine wpList_nil (thenN (wp_seq (wp_region_lit ?_)))
 refine ev_runs 2 hF1 (l':=[(15,nI i1),(14,nP b0 0),(0,nP b0 0),(1,nI i1),(2,.bool (i2)),(3,nI i3)]) (w':=w) (by kernel_rfl) ?_
 intro a4 hF3; clear hF1
 refine ev_call 19 #[nP b0 0,nI i1] hF3 rfl rfl (by kernel_rfl) rfl (by kernel_rfl) (fun w=>by kernel_rfl) ?_
 obtain ⟨q5,x6,hx7,hm8⟩:=bind2E hm; clear hm
 refine (p_Chan hS hx7).mono ?_
 rintro _ w9 ⟨rfl,hS11⟩ a10 hF12; clear hF3 hS
 refine ev_runs 4 hF12 (l':=[(9,nB w9),(18,nI x6),(17,.agg #[nI (q5.cap),nI (q5.closed),nI (q5.count),nI (q5.start),nI (q5.buf),nI (q5.th),nI (q5.tt),nI (q5.sh),nI (q5.st)]),(13,.tuple #[.agg #[nI (q5.cap),nI (q5.closed),nI (q5.count),nI (q5.start),nI (q5.buf),nI (q5.th),nI (q5.tt),nI (q5.sh),nI (q5.st)],nI x6]),(16,.tuple #[.agg #[nI (q5.cap),nI (q5.closed),nI (q5.count),nI (q5.start),nI (q5.buf),nI (q5.th),nI (q5.tt),nI (q5.sh),nI (q5.st)],nI x6]),(15,nI i1),(14,nP b0 0),(0,nP b0 0),(1,nI i1),(2,.bool (i2)),(3,nI i3)]) (w':=w9.alloc (.cells #[nI 0,nI 0,nI 0,nI 0,nI 0,nI 0,nI 0,nI 0,nI 0] 37)) (by kernel_rfl) ?_
 intro a14 hF13; clear hF12
 have hS16:St w0 F0 (BlkP (w9.heap.size) 37 #[nI 0,nI 0,nI 0,nI 0,nI 0,nI 0,nI 0,nI 0,nI 0]::HeapP b0 ab0 s0::ps) (w9.alloc (.cells #[nI 0,nI 0,nI 0,nI 0,nI 0,nI 0,nI 0,nI 0,nI 0] 37)):=St.new hS11 #[nI 0,nI 0,nI 0,nI 0,nI 0,nI 0,nI 0,nI 0,nI 0] 37
 clear hS11
 refine ev_store (.agg #[nI (q5.cap),nI (q5.closed),nI (q5.count),nI (q5.start),nI (q5.buf),nI (q5.th),nI (q5.tt),nI (q5.sh),nI (q5.st)]) #[nI (q5.cap),nI (q5.closed),nI (q5.count),nI (q5.start),nI (q5.buf),nI (q5.th),nI (q5.tt),nI (q5.sh),nI (q5.st)] hF13 (by kernel_rfl) rfl rfl rfl rfl (by kernel_rfl) hS16 (by kernel_rfl) (by kernel_rfl) (by kernel_rfl) (l':=[(9,nB w9),(18,nI x6),(17,.agg #[nI (q5.cap),nI (q5.closed),nI (q5.count),nI (q5.start),nI (q5.buf),nI (q5.th),nI (q5.tt),nI (q5.sh),nI (q5.st)]),(13,.tuple #[.agg #[nI (q5.cap),nI (q5.closed),nI (q5.count),nI (q5.start),nI (q5.buf),nI (q5.th),nI (q5.tt),nI (q5.sh),nI (q5.st)],nI x6]),(16,.tuple #[.agg #[nI (q5.cap),nI (q5.closed),nI (q5.count),nI (q5.start),nI (q5.buf),nI (q5.th),nI (q5.tt),nI (q5.sh),nI (q5.st)],nI x6]),(15,nI i1),(14,nP b0 0),(0,nP b0 0),(1,nI i1),(2,.bool (i2)),(3,nI i3)]) (by kernel_rfl) ?_
 intro w17 a18 hS19 hF20; clear hF13 hS16
 refine ev_runK 1 hF20 [0,1,2,3,9,10] (l':=[(10,nI x6),(9,nB w9),(0,nP b0 0),(1,nI i1),(2,.bool (i2)),(3,nI i3)]) (w':=w17) (by kernel_rfl) ?_
 intro a22 hF21; clear hF20
 refine wpList_nil (thenN (wp_seq (wp_seq (wp_region_lit ?_))))
 refine ev_runK 2 hF21 [0,1,2,3,9,10,20] (l':=[(20,.bool (x6 != 0)),(10,nI x6),(9,nB w9),(0,nP b0 0),(1,nI i1),(2,.bool (i2)),(3,nI i3)]) (w':=w17) (by kernel_rfl) ?_
 intro a24 hF23; clear hF21
 refine wpList_nil (thenN ?_)
 cases hc25:(x6 != 0)
 case true =>
  rw [hc25] at hF23
  have hm26:=ifYes hc25 hm8; clear hm8
  refine ev_condT hF23 rfl rfl ?_
  refine wp_seq (wp_region_lit ?_)
  refine ev_runK 2 hF23 [8] (l':=[(8,nI x6)]) (w':=w17) (by kernel_rfl) ?_
  intro a28 hF27; clear hF23
  refine wpList_nil ?_
  have hS29:=hS19.drop
  clear hS19
  refine thenN ?_
  refine wp_ret ?_
  refine thenR ?_
  simp only [Option.some.injEq,Prod.mk.injEq] at hm26
  obtain ⟨rfl,rfl⟩:=hm26
  refine ev_ret hF27 [8] (nI x6) rfl rfl rfl ?_
  exact ⟨rfl,hS29⟩
 rw [hc25] at hF23
 have hm32:=ifNot hc25 hm8; clear hm8
 refine ev_condF hF23 rfl rfl ?_
 refine wp_skip ?_
 have hF33:=hF23.keep [0,1,2,3,9]
 clear hF23
 refine thenN (wp_seq (wp_seq (wp_region_lit ?_)))
 refine ev_runs 2 hF33 (l':=[(24,nI i3),(23,nP b0 0),(9,nB w9),(0,nP b0 0),(1,nI i1),(2,.bool (i2)),(3,nI i3)]) (w':=w17) (by kernel_rfl) ?_
 intro a35 hF34; clear hF33
 have hS36:=hS19.pick1
 clear hS19
 refine ev_call 30 #[nP b0 0,nI i3] hF34 rfl rfl (by kernel_rfl) rfl (by kernel_rfl) (fun w=>by kernel_rfl) ?_
 obtain ⟨q37,x38,hx39,hm40⟩:=bind2E hm32; clear hm32
 refine (p_Sudog hS36 hx39).mono ?_
 rintro _ w41 ⟨rfl,hS43⟩ a42 hF44; clear hF34 hS36
 refine ev_runK 4 hF44 [0,1,2,3,9,10] (l':=[(10,nI x38),(9,nB w9),(0,nP b0 0),(1,nI i1),(2,.bool (i2)),(3,nI i3)]) (w':=w41) (by kernel_rfl) ?_
 intro a46 hF45; clear hF44
 refine wpList_nil (thenN (wp_seq (wp_region_lit ?_)))
 refine ev_runK 2 hF45 [0,1,2,3,9,10,29] (l':=[(29,.bool (x38 != 0)),(10,nI x38),(9,nB w9),(0,nP b0 0),(1,nI i1),(2,.bool (i2)),(3,nI i3)]) (w':=w41) (by kernel_rfl) ?_
 intro a48 hF47; clear hF45
 refine wpList_nil (thenN ?_)
 cases hc49:(x38 != 0)
 case true =>
  rw [hc49] at hF47
  have hm50:=ifYes hc49 hm40; clear hm40
  refine ev_condT hF47 rfl rfl ?_
  refine wp_seq (wp_region_lit ?_)
  refine ev_runK 2 hF47 [8] (l':=[(8,nI x38)]) (w':=w41) (by kernel_rfl) ?_
  intro a52 hF51; clear hF47
  refine wpList_nil ?_
  have hS53:=hS43.pick1.drop
  clear hS43
  refine thenN ?_
  refine wp_ret ?_
  refine thenR ?_
  simp only [Option.some.injEq,Prod.mk.injEq] at hm50
  obtain ⟨rfl,rfl⟩:=hm50
  refine ev_ret hF51 [8] (nI x38) rfl rfl rfl ?_
  exact ⟨rfl,hS53⟩
 rw [hc49] at hF47
 have hm56:=ifNot hc49 hm40; clear hm40
 refine ev_condF hF47 rfl rfl ?_
 refine wp_skip ?_
 have hF57:=hF47.keep [0,1,2,3,9]
 clear hF47
 refine thenN (wp_seq (wp_region_lit ?_))
 refine ev_one (.agg #[nI (q5.cap),nI (q5.closed),nI (q5.count),nI (q5.start),nI (q5.buf),nI (q5.th),nI (q5.tt),nI (q5.sh),nI (q5.st)]) w41 hF57 (by kernel_rfl) rfl (by kernel_rfl) (run_loadV rfl rfl (run_loadA (cs:=[nI (q5.cap),nI (q5.closed),nI (q5.count),nI (q5.start),nI (q5.buf),nI (q5.th),nI (q5.tt),nI (q5.sh),nI (q5.st)]) rfl rfl (by kernel_rfl) (blk_cells hS43 1 rfl rfl))) (l':=[(31,.agg #[nI (q5.cap),nI (q5.closed),nI (q5.count),nI (q5.start),nI (q5.buf),nI (q5.th),nI (q5.tt),nI (q5.sh),nI (q5.st)]),(9,nB w9),(0,nP b0 0),(1,nI i1),(2,.bool (i2)),(3,nI i3)]) (by kernel_rfl) ?_
 intro a59 hF58; clear hF57
 refine ev_runs 1 hF58 (l':=[(32,.bool (i2)),(31,.agg #[nI (q5.cap),nI (q5.closed),nI (q5.count),nI (q5.start),nI (q5.buf),nI (q5.th),nI (q5.tt),nI (q5.sh),nI (q5.st)]),(9,nB w9),(0,nP b0 0),(1,nI i1),(2,.bool (i2)),(3,nI i3)]) (w':=w41) (by kernel_rfl) ?_
 intro a61 hF60; clear hF58
 refine ev_call 78 #[.agg #[nI (q5.cap),nI (q5.closed),nI (q5.count),nI (q5.start),nI (q5.buf),nI (q5.th),nI (q5.tt),nI (q5.sh),nI (q5.st)],.bool (i2)] hF60 rfl rfl (by kernel_rfl) rfl (by kernel_rfl) (fun w=>by kernel_rfl) ?_
 obtain ⟨q62,hx63,hm64⟩:=bind1E hm56; clear hm56
 refine (list_of.ok hS43 hx63).mono ?_
 rintro _ w65 ⟨rfl,hS67⟩ a66 hF68; clear hF60 hS43
 refine ev_runs 1 hF68 (l':=[(11,nB w65),(33,.agg #[nI (q62.head),nI (q62.tail)]),(32,.bool (i2)),(31,.agg #[nI (q5.cap),nI (q5.closed),nI (q5.count),nI (q5.start),nI (q5.buf),nI (q5.th),nI (q5.tt),nI (q5.sh),nI (q5.st)]),(9,nB w9),(0,nP b0 0),(1,nI i1),(2,.bool (i2)),(3,nI i3)]) (w':=w65.alloc (.cells #[nI 0,nI 0] 122)) (by kernel_rfl) ?_
 intro a70 hF69; clear hF68
 have hS72:St w0 F0 (BlkP (w65.heap.size) 122 #[nI 0,nI 0]::HeapP b0 ab0 s0::BlkP (w9.heap.size) 37 #[nI (q5.cap),nI (q5.closed),nI (q5.count),nI (q5.start),nI (q5.buf),nI (q5.th),nI (q5.tt),nI (q5.sh),nI (q5.st)]::ps) (w65.alloc (.cells #[nI 0,nI 0] 122)):=St.new hS67 #[nI 0,nI 0] 122
 clear hS67
 refine ev_store (.agg #[nI (q62.head),nI (q62.tail)]) #[nI (q62.head),nI (q62.tail)] hF69 (by kernel_rfl) rfl rfl rfl rfl (by kernel_rfl) hS72 (by kernel_rfl) (by kernel_rfl) (by kernel_rfl) (l':=[(11,nB w65),(33,.agg #[nI (q62.head),nI (q62.tail)]),(32,.bool (i2)),(31,.agg #[nI (q5.cap),nI (q5.closed),nI (q5.count),nI (q5.start),nI (q5.buf),nI (q5.th),nI (q5.tt),nI (q5.sh),nI (q5.st)]),(9,nB w9),(0,nP b0 0),(1,nI i1),(2,.bool (i2)),(3,nI i3)]) (by kernel_rfl) ?_
 intro w73 a74 hS75 hF76; clear hF69 hS72
 refine wpList_nil ?_
 have hF77:=hF76.keep [0,1,2,3,9,11]
 clear hF76
 refine thenN (wp_seq (wp_seq (wp_region_lit ?_)))
 refine ev_runs 3 hF77 (l':=[(36,.bool (i2)),(35,nI i1),(34,nP b0 0),(11,nB w65),(9,nB w9),(0,nP b0 0),(1,nI i1),(2,.bool (i2)),(3,nI i3)]) (w':=w73) (by kernel_rfl) ?_
 intro a79 hF78; clear hF77
 have hS80:=hS75.pick1
 clear hS75
 refine ev_call 34 #[nP b0 0,nI i1,.bool (i2)] hF78 rfl rfl (by kernel_rfl) rfl (by kernel_rfl) (fun w=>by kernel_rfl) ?_
 obtain ⟨L81,s82,hx83,hm84⟩:=bind2E hm64; clear hm64
 refine (list_All.ok hS80 hx83).mono ?_
 rintro _ w85 ⟨z89,rfl,hS87⟩ a86 hF88; clear hF78 hS80
 obtain ⟨hl94,p91,c92,rfl,hp93⟩:=St.shape hS87 1 rfl
 refine ev_runK 1 hF88 [0,1,2,3,9,11,12] (l':=[(12,.slice p91 L81.length c92),(11,nB w65),(9,nB w9),(0,nP b0 0),(1,nI i1),(2,.bool (i2)),(3,nI i3)]) (w':=w85) (by kernel_rfl) ?_
 intro a96 hF95; clear hF88
 refine wpList_nil (thenN (wp_seq (wp_region_lit ?_)))
 refine ev_runK 3 hF95 [0,1,2,3,9,11,12,40] (l':=[(40,.bool (decide ((L81.length:Int) > 0))),(12,.slice p91 L81.length c92),(11,nB w65),(9,nB w9),(0,nP b0 0),(1,nI i1),(2,.bool (i2)),(3,nI i3)]) (w':=w85) (by kernel_rfl) ?_
 intro a98 hF97; clear hF95
 refine wpList_nil (thenN ?_)
 refine joinQ (fun aI wI=>∃ (s99:HSt) (x100:Int),Fr 64 aI [(11,nB w65),(9,nB w9),(0,nP b0 0),(1,nI i1),(2,.bool (i2)),(3,nI i3)]∧St w0 F0 (BlkP (w65.heap.size) 122 #[nI x100,nI (q62.tail)]::HeapP b0 ab0 s99::BlkP (w9.heap.size) 37 #[nI (q5.cap),nI (q5.closed),nI (q5.count),nI (q5.start),nI (q5.buf),nI (q5.th),nI (q5.tt),nI (q5.sh),nI (q5.st)]::ps) wI∧list_Push.j1 i1 i2 i3 k q5 s99 x100=some (r0,t0)) ?_ ?_
 rotate_left
 · rintro a102 w103 ⟨s99,x100,hF104,hS105,hm106⟩
   clear hF97 hS87 hm84
   unfold list_Push.j1 at hm106
   refine thenN (wp_seq (wp_region_lit ?_))
   refine ev_runs 2 hF104 (l':=[(53,nP (w65.heap.size) 1),(52,nI i3),(11,nB w65),(9,nB w9),(0,nP b0 0),(1,nI i1),(2,.bool (i2)),(3,nI i3)]) (w':=w103) (by kernel_rfl) ?_
   intro a109 hF108; clear hF104
   refine ev_store (nI i3) #[nI x100,nI i3] hF108 (by kernel_rfl) rfl rfl rfl rfl (by kernel_rfl) hS105 (by kernel_rfl) (by kernel_rfl) (by kernel_rfl) (l':=[(53,nP (w65.heap.size) 1),(52,nI i3),(11,nB w65),(9,nB w9),(0,nP b0 0),(1,nI i1),(2,.bool (i2)),(3,nI i3)]) (by kernel_rfl) ?_
   intro w110 a111 hS112 hF113; clear hF108 hS105
   refine wpList_nil ?_
   have hF114:=hF113.keep [0,1,2,3,9,11]
   clear hF113
   refine thenN (wp_seq (wp_region_lit ?_))
   refine ev_runs 2 hF114 (l':=[(55,nI i3),(54,nP b0 0),(11,nB w65),(9,nB w9),(0,nP b0 0),(1,nI i1),(2,.bool (i2)),(3,nI i3)]) (w':=w110) (by kernel_rfl) ?_
   intro a116 hF115; clear hF114
   have hS117:=hS112.pick1
   clear hS112
   refine ev_call 79 #[nP b0 0,nI i3,nI (-1)] hF115 rfl rfl (by kernel_rfl) rfl (by kernel_rfl) (fun w=>by kernel_rfl) ?_
   obtain ⟨s118,hx119,hm120⟩:=bind1E hm106; clear hm106
   refine (list_follow.ok hS117 hx119).mono ?_
   rintro _ w121 ⟨rfl,hS123⟩ a122 hF124; clear hF115 hS117
   refine wpList_nil ?_
   have hF125:=hF124.keep [0,1,2,9,11]
   clear hF124
   refine thenN (wp_seq (wp_region_lit ?_))
   refine ev_runs 2 hF125 (l':=[(58,nI i1),(57,nP b0 0),(11,nB w65),(9,nB w9),(0,nP b0 0),(1,nI i1),(2,.bool (i2))]) (w':=w121) (by kernel_rfl) ?_
   intro a127 hF126; clear hF125
   refine ev_one (.agg #[nI (q5.cap),nI (q5.closed),nI (q5.count),nI (q5.start),nI (q5.buf),nI (q5.th),nI (q5.tt),nI (q5.sh),nI (q5.st)]) w121 hF126 (by kernel_rfl) rfl (by kernel_rfl) (run_loadV rfl rfl (run_loadA (cs:=[nI (q5.cap),nI (q5.closed),nI (q5.count),nI (q5.start),nI (q5.buf),nI (q5.th),nI (q5.tt),nI (q5.sh),nI (q5.st)]) rfl rfl (by kernel_rfl) (blk_cells hS123 2 rfl rfl))) (l':=[(59,.agg #[nI (q5.cap),nI (q5.closed),nI (q5.count),nI (q5.start),nI (q5.buf),nI (q5.th),nI (q5.tt),nI (q5.sh),nI (q5.st)]),(58,nI i1),(57,nP b0 0),(11,nB w65),(9,nB w9),(0,nP b0 0),(1,nI i1),(2,.bool (i2))]) (by kernel_rfl) ?_
   intro a129 hF128; clear hF126
   refine ev_runs 1 hF128 (l':=[(60,.bool (i2)),(59,.agg #[nI (q5.cap),nI (q5.closed),nI (q5.count),nI (q5.start),nI (q5.buf),nI (q5.th),nI (q5.tt),nI (q5.sh),nI (q5.st)]),(58,nI i1),(57,nP b0 0),(11,nB w65),(9,nB w9),(0,nP b0 0),(1,nI i1),(2,.bool (i2))]) (w':=w121) (by kernel_rfl) ?_
   intro a131 hF130; clear hF128
   refine ev_one (.agg #[nI x100,nI i3]) w121 hF130 (by kernel_rfl) rfl (by kernel_rfl) (run_loadV rfl rfl (run_loadA (cs:=[nI x100,nI i3]) rfl rfl (by kernel_rfl) (blk_cells hS123 1 rfl rfl))) (l':=[(61,.agg #[nI x100,nI i3]),(60,.bool (i2)),(59,.agg #[nI (q5.cap),nI (q5.closed),nI (q5.count),nI (q5.start),nI (q5.buf),nI (q5.th),nI (q5.tt),nI (q5.sh),nI (q5.st)]),(58,nI i1),(57,nP b0 0),(11,nB w65),(9,nB w9),(0,nP b0 0),(1,nI i1),(2,.bool (i2))]) (by kernel_rfl) ?_
   intro a133 hF132; clear hF130
   refine ev_call 80 #[.agg #[nI (q5.cap),nI (q5.closed),nI (q5.count),nI (q5.start),nI (q5.buf),nI (q5.th),nI (q5.tt),nI (q5.sh),nI (q5.st)],.bool (i2),.agg #[nI x100,nI i3]] hF132 rfl rfl (by kernel_rfl) rfl (by kernel_rfl) (fun w=>by kernel_rfl) ?_
   obtain ⟨q134,hx135,hm136⟩:=bind1E hm120; clear hm120
   refine (list_into.ok hS123 hx135).mono ?_
   rintro _ w137 ⟨rfl,hS139⟩ a138 hF140; clear hF132 hS123
   refine ev_call 23 #[nP b0 0,nI i1,.agg #[nI (q134.cap),nI (q134.closed),nI (q134.count),nI (q134.start),nI (q134.buf),nI (q134.th),nI (q134.tt),nI (q134.sh),nI (q134.st)]] hF140 rfl rfl (by kernel_rfl) rfl (by kernel_rfl) (fun w=>by kernel_rfl) ?_
   obtain ⟨x141,s142,hx143,hm144⟩:=bind2E hm136; clear hm136
   refine (p_PutChan hS139 hx143).mono ?_
   rintro _ w145 ⟨rfl,hS147⟩ a146 hF148; clear hF140 hS139
   refine ev_runK 1 hF148 [8] (l':=[(8,nI x141)]) (w':=w145) (by kernel_rfl) ?_
   intro a150 hF149; clear hF148
   refine wpList_nil ?_
   have hS151:=hS147.pick1.drop.pick1.drop
   clear hS147
   refine thenN ?_
   refine wp_ret ?_
   simp only [Option.some.injEq,Prod.mk.injEq] at hm144
   obtain ⟨rfl,rfl⟩:=hm144
   refine ev_ret hF149 [8] (nI x141) rfl rfl rfl ?_
   exact ⟨rfl,hS151⟩
 · skip
   cases hc154:(decide ((L81.length:Int) > 0))
   case true =>
    rw [hc154] at hF97
    have hm155:=ifYes hc154 hm84; clear hm84
    refine ev_condT hF97 rfl rfl ?_
    refine wp_region_lit ?_
    refine ev_runs 5 hF97 (l':=[(45,nI (IntKind.i64.wrap ((L81.length:Int) - 1))),(44,nI ((L81.length:Int))),(43,.slice p91 L81.length c92),(42,.slice p91 L81.length c92),(41,nP b0 0),(40,.bool true),(12,.slice p91 L81.length c92),(11,nB w65),(9,nB w9),(0,nP b0 0),(1,nI i1),(2,.bool (i2)),(3,nI i3)]) (w':=w85) (by kernel_rfl) ?_
    intro a157 hF156; clear hF97
    obtain ⟨hc158,hm159⟩:=ifTE hm155; clear hm155
    obtain ⟨g160,rfl⟩:=hp93.resolve_left (by have:=inR_spec hc158; omega)
    refine ev_one (nP g160 ((IntKind.i64.wrap ((L81.length:Int) - 1)).toNat)) w85 hF156 (by kernel_rfl) rfl (by kernel_rfl) (run_idx rfl rfl rfl rfl rfl (inR_spec hc158).1 (inR_spec hc158).2 _) (l':=[(46,nP g160 ((IntKind.i64.wrap ((L81.length:Int) - 1)).toNat)),(45,nI (IntKind.i64.wrap ((L81.length:Int) - 1))),(44,nI ((L81.length:Int))),(43,nS g160 L81 c92),(42,nS g160 L81 c92),(41,nP b0 0),(40,.bool true),(12,nS g160 L81 c92),(11,nB w65),(9,nB w9),(0,nP b0 0),(1,nI i1),(2,.bool (i2)),(3,nI i3)]) (by kernel_rfl) ?_
    intro a162 hF161; clear hF156
    refine ev_one (nI (atI L81 (IntKind.i64.wrap ((L81.length:Int) - 1)))) w85 hF161 (by kernel_rfl) rfl (by kernel_rfl) (run_load1 rfl rfl rfl (hS87.atI 1 rfl hc158)) (l':=[(47,nI (atI L81 (IntKind.i64.wrap ((L81.length:Int) - 1)))),(46,nP g160 ((IntKind.i64.wrap ((L81.length:Int) - 1)).toNat)),(45,nI (IntKind.i64.wrap ((L81.length:Int) - 1))),(44,nI ((L81.length:Int))),(43,nS g160 L81 c92),(42,nS g160 L81 c92),(41,nP b0 0),(40,.bool true),(12,nS g160 L81 c92),(11,nB w65),(9,nB w9),(0,nP b0 0),(1,nI i1),(2,.bool (i2)),(3,nI i3)]) (by kernel_rfl) ?_
    intro a164 hF163; clear hF161
    refine ev_runs 1 hF163 (l':=[(48,nI i3),(47,nI (atI L81 (IntKind.i64.wrap ((L81.length:Int) - 1)))),(46,nP g160 ((IntKind.i64.wrap ((L81.length:Int) - 1)).toNat)),(45,nI (IntKind.i64.wrap ((L81.length:Int) - 1))),(44,nI ((L81.length:Int))),(43,nS g160 L81 c92),(42,nS g160 L81 c92),(41,nP b0 0),(40,.bool true),(12,nS g160 L81 c92),(11,nB w65),(9,nB w9),(0,nP b0 0),(1,nI i1),(2,.bool (i2)),(3,nI i3)]) (w':=w85) (by kernel_rfl) ?_
    intro a166 hF165; clear hF163
    refine ev_call 79 #[nP b0 0,nI (atI L81 (IntKind.i64.wrap ((L81.length:Int) - 1))),nI i3] hF165 rfl rfl (by kernel_rfl) rfl (by kernel_rfl) (fun w=>by kernel_rfl) ?_
    obtain ⟨s167,hx168,hm169⟩:=bind1E hm159; clear hm159
    refine (list_follow.ok hS87 hx168).mono ?_
    rintro _ w170 ⟨rfl,hS172⟩ a171 hF173; clear hF165 hS87
    refine wpList_nil ?_
    have hF174:=hF173.keep [0,1,2,3,9,11]
    clear hF173
    have hS175:=hS172.pick1.drop
    clear hS172
    have hS176:=hS175.pick2.pick1.pick2
    clear hS175
    exact thenN ⟨s167,q62.head,hF174,hS176,hm169⟩
   rw [hc154] at hF97
   have hm177:=ifNot hc154 hm84; clear hm84
   refine ev_condF hF97 rfl rfl ?_
   refine wp_region_lit ?_
   refine ev_runs 2 hF97 (l':=[(51,nB w65),(50,nI i3),(40,.bool false),(12,.slice p91 L81.length c92),(11,nB w65),(9,nB w9),(0,nP b0 0),(1,nI i1),(2,.bool (i2)),(3,nI i3)]) (w':=w85) (by kernel_rfl) ?_
   intro a179 hF178; clear hF97
   have hS180:=hS87.pick2
   clear hS87
   refine ev_store (nI i3) #[nI i3,nI (q62.tail)] hF178 (by kernel_rfl) rfl rfl rfl rfl (by kernel_rfl) hS180 (by kernel_rfl) (by kernel_rfl) (by kernel_rfl) (l':=[(51,nB w65),(50,nI i3),(40,.bool false),(12,.slice p91 L81.length c92),(11,nB w65),(9,nB w9),(0,nP b0 0),(1,nI i1),(2,.bool (i2)),(3,nI i3)]) (by kernel_rfl) ?_
   intro w181 a182 hS183 hF184; clear hF178 hS180
   refine wpList_nil ?_
   have hF185:=hF184.keep [0,1,2,3,9,11]
   clear hF184
   have hS186:=hS183.pick2.drop
   clear hS183
   exact thenN ⟨s82,i3,hF185,hS186,hm177⟩
def list_Pop.j1 (i1:Int) (i2:Bool) (k:Nat) (q5:Ch) (q39:En) (s65:HSt) (q91:Su) (x125:Int):Option (Int×Bool×HSt):=bind1 (list_into.m k (⟨q5.cap,q5.closed,q5.count,q5.start,q5.buf,q5.th,q5.tt,q5.sh,q5.st⟩:Ch) (i2) (⟨q91.next,x125⟩:En)) fun q141=>bind2 (pPutChan i1 (⟨q141.cap,q141.closed,q141.count,q141.start,q141.buf,q141.th,q141.tt,q141.sh,q141.st⟩:Ch) s65) fun x149 s150=>bind1 (list_follow.m k s150 q39.head (-1)) fun s161=>some (q39.head,true,s161)
def list_Pop.m (k:Nat) (s0:HSt) (i1:Int) (i2:Bool):Option (Int×Bool×HSt):=bind2 (pChan i1 s0) fun q5 x6=>(if (x6 != 0) then some (0,false,s0) else bind1 (list_of.m k (⟨q5.cap,q5.closed,q5.count,q5.start,q5.buf,q5.th,q5.tt,q5.sh,q5.st⟩:Ch) (i2)) fun q39=>bind2 (list_look.m k s0 q39.head) fun o64 s65=>optE o64 (some (0,false,s65)) fun q91=>(if (q91.next == (-1)) then list_Pop.j1 i1 i2 k q5 q39 s65 q91 (-1) else list_Pop.j1 i1 i2 k q5 q39 s65 q91 q39.tail))
theorem list_Pop.ok {w0 w:World} {F0:List Nat} {ps:List Piece} {k:Nat} {b0 ab0:Nat} {s0:HSt} {i1:Int} {i2:Bool} {r0:Int} {r1:Bool} {t0:HSt} (hS:St w0 F0 (HeapP b0 ab0 s0::ps) w) (hm:list_Pop.m k s0 i1 i2=some (r0,r1,t0)) :
    Calls Tryz.prog 32 #[nP b0 0,nI i1,.bool (i2)] w fun e w'=>e=.returned (.tuple #[.int .i64 r0,.bool r1])∧St w0 F0 (HeapP b0 ab0 t0::ps) w':=by
 refine ev_enterL 54 [nP b0 0,nI i1,.bool (i2)] Tryz.func32 rfl rfl (by simp) ?_
 intro a hF
 have hF0:Fr 54 a [(0,nP b0 0),(1,nI i1),(2,.bool (i2))]:=hF; clear hF
 unfold list_Pop.m at hm
 refine wp_seq (wp_region_lit ?_)
 refine ev_runK 2 hF0 [0,1,2] (l':=[(0,nP b0 0),(1,nI i1),(2,.bool (i2))]) (w':=w) (by kernel_rfl) ?_
 intro a2 hF1; clear hF0
 refine wpList_nil (thenN (wp_seq (wp_region_lit ?_)))
 refine ev_runs 2 hF1 (l':=[(16,nI i1),(15,nP b0 0),(0,nP b0 0),(1,nI i1),(2,.bool (i2))]) (w':=w) (by kernel_rfl) ?_
 intro a4 hF3; clear hF1
 refine ev_call 19 #[nP b0 0,nI i1] hF3 rfl rfl (by kernel_rfl) rfl (by kernel_rfl) (fun w=>by kernel_rfl) ?_
 obtain ⟨q5,x6,hx7,hm8⟩:=bind2E hm; clear hm
 refine (p_Chan hS hx7).mono ?_
 rintro _ w9 ⟨rfl,hS11⟩ a10 hF12; clear hF3 hS
 refine ev_runs 4 hF12 (l':=[(8,nB w9),(19,nI x6),(18,.agg #[nI (q5.cap),nI (q5.closed),nI (q5.count),nI (q5.start),nI (q5.buf),nI (q5.th),nI (q5.tt),nI (q5.sh),nI (q5.st)]),(14,.tuple #[.agg #[nI (q5.cap),nI (q5.closed),nI (q5.count),nI (q5.start),nI (q5.buf),nI (q5.th),nI (q5.tt),nI (q5.sh),nI (q5.st)],nI x6]),(17,.tuple #[.agg #[nI (q5.cap),nI (q5.closed),nI (q5.count),nI (q5.start),nI (q5.buf),nI (q5.th),nI (q5.tt),nI (q5.sh),nI (q5.st)],nI x6]),(16,nI i1),(15,nP b0 0),(0,nP b0 0),(1,nI i1),(2,.bool (i2))]) (w':=w9.alloc (.cells #[nI 0,nI 0,nI 0,nI 0,nI 0,nI 0,nI 0,nI 0,nI 0] 37)) (by kernel_rfl) ?_
 intro a14 hF13; clear hF12
 have hS16:St w0 F0 (BlkP (w9.heap.size) 37 #[nI 0,nI 0,nI 0,nI 0,nI 0,nI 0,nI 0,nI 0,nI 0]::HeapP b0 ab0 s0::ps) (w9.alloc (.cells #[nI 0,nI 0,nI 0,nI 0,nI 0,nI 0,nI 0,nI 0,nI 0] 37)):=St.new hS11 #[nI 0,nI 0,nI 0,nI 0,nI 0,nI 0,nI 0,nI 0,nI 0] 37
 clear hS11
 refine ev_store (.agg #[nI (q5.cap),nI (q5.closed),nI (q5.count),nI (q5.start),nI (q5.buf),nI (q5.th),nI (q5.tt),nI (q5.sh),nI (q5.st)]) #[nI (q5.cap),nI (q5.closed),nI (q5.count),nI (q5.start),nI (q5.buf),nI (q5.th),nI (q5.tt),nI (q5.sh),nI (q5.st)] hF13 (by kernel_rfl) rfl rfl rfl rfl (by kernel_rfl) hS16 (by kernel_rfl) (by kernel_rfl) (by kernel_rfl) (l':=[(8,nB w9),(19,nI x6),(18,.agg #[nI (q5.cap),nI (q5.closed),nI (q5.count),nI (q5.start),nI (q5.buf),nI (q5.th),nI (q5.tt),nI (q5.sh),nI (q5.st)]),(14,.tuple #[.agg #[nI (q5.cap),nI (q5.closed),nI (q5.count),nI (q5.start),nI (q5.buf),nI (q5.th),nI (q5.tt),nI (q5.sh),nI (q5.st)],nI x6]),(17,.tuple #[.agg #[nI (q5.cap),nI (q5.closed),nI (q5.count),nI (q5.start),nI (q5.buf),nI (q5.th),nI (q5.tt),nI (q5.sh),nI (q5.st)],nI x6]),(16,nI i1),(15,nP b0 0),(0,nP b0 0),(1,nI i1),(2,.bool (i2))]) (by kernel_rfl) ?_
 intro w17 a18 hS19 hF20; clear hF13 hS16
 refine ev_runK 1 hF20 [0,1,2,8,9] (l':=[(9,nI x6),(8,nB w9),(0,nP b0 0),(1,nI i1),(2,.bool (i2))]) (w':=w17) (by kernel_rfl) ?_
 intro a22 hF21; clear hF20
 refine wpList_nil (thenN (wp_seq (wp_seq (wp_region_lit ?_))))
 refine ev_runK 2 hF21 [0,1,2,8,21] (l':=[(21,.bool (x6 != 0)),(8,nB w9),(0,nP b0 0),(1,nI i1),(2,.bool (i2))]) (w':=w17) (by kernel_rfl) ?_
 intro a24 hF23; clear hF21
 refine wpList_nil (thenN ?_)
 cases hc25:(x6 != 0)
 case true =>
  rw [hc25] at hF23
  have hm26:=ifYes hc25 hm8; clear hm8
  refine ev_condT hF23 rfl rfl ?_
  refine wp_seq (wp_region_lit ?_)
  refine ev_runK 2 hF23 [6,7] (l':=[(7,.bool false),(6,nI 0)]) (w':=w17) (by kernel_rfl) ?_
  intro a28 hF27; clear hF23
  refine wpList_nil ?_
  have hS29:=hS19.drop
  clear hS19
  refine thenN ?_
  refine wp_ret ?_
  refine thenR ?_
  simp only [Option.some.injEq,Prod.mk.injEq] at hm26
  obtain ⟨rfl,rfl,rfl⟩:=hm26
  refine ev_ret hF27 [6,7] (.tuple #[nI 0,.bool false]) rfl rfl rfl ?_
  exact ⟨rfl,hS29⟩
 rw [hc25] at hF23
 have hm33:=ifNot hc25 hm8; clear hm8
 refine ev_condF hF23 rfl rfl ?_
 refine wp_skip ?_
 have hF34:=hF23.keep [0,1,2,8]
 clear hF23
 refine thenN (wp_seq (wp_region_lit ?_))
 refine ev_one (.agg #[nI (q5.cap),nI (q5.closed),nI (q5.count),nI (q5.start),nI (q5.buf),nI (q5.th),nI (q5.tt),nI (q5.sh),nI (q5.st)]) w17 hF34 (by kernel_rfl) rfl (by kernel_rfl) (run_loadV rfl rfl (run_loadA (cs:=[nI (q5.cap),nI (q5.closed),nI (q5.count),nI (q5.start),nI (q5.buf),nI (q5.th),nI (q5.tt),nI (q5.sh),nI (q5.st)]) rfl rfl (by kernel_rfl) (blk_cells hS19 0 rfl rfl))) (l':=[(22,.agg #[nI (q5.cap),nI (q5.closed),nI (q5.count),nI (q5.start),nI (q5.buf),nI (q5.th),nI (q5.tt),nI (q5.sh),nI (q5.st)]),(8,nB w9),(0,nP b0 0),(1,nI i1),(2,.bool (i2))]) (by kernel_rfl) ?_
 intro a36 hF35; clear hF34
 refine ev_runs 1 hF35 (l':=[(23,.bool (i2)),(22,.agg #[nI (q5.cap),nI (q5.closed),nI (q5.count),nI (q5.start),nI (q5.buf),nI (q5.th),nI (q5.tt),nI (q5.sh),nI (q5.st)]),(8,nB w9),(0,nP b0 0),(1,nI i1),(2,.bool (i2))]) (w':=w17) (by kernel_rfl) ?_
 intro a38 hF37; clear hF35
 refine ev_call 78 #[.agg #[nI (q5.cap),nI (q5.closed),nI (q5.count),nI (q5.start),nI (q5.buf),nI (q5.th),nI (q5.tt),nI (q5.sh),nI (q5.st)],.bool (i2)] hF37 rfl rfl (by kernel_rfl) rfl (by kernel_rfl) (fun w=>by kernel_rfl) ?_
 obtain ⟨q39,hx40,hm41⟩:=bind1E hm33; clear hm33
 refine (list_of.ok hS19 hx40).mono ?_
 rintro _ w42 ⟨rfl,hS44⟩ a43 hF45; clear hF37 hS19
 refine ev_runs 1 hF45 (l':=[(10,nB w42),(24,.agg #[nI (q39.head),nI (q39.tail)]),(23,.bool (i2)),(22,.agg #[nI (q5.cap),nI (q5.closed),nI (q5.count),nI (q5.start),nI (q5.buf),nI (q5.th),nI (q5.tt),nI (q5.sh),nI (q5.st)]),(8,nB w9),(0,nP b0 0),(1,nI i1),(2,.bool (i2))]) (w':=w42.alloc (.cells #[nI 0,nI 0] 122)) (by kernel_rfl) ?_
 intro a47 hF46; clear hF45
 have hS49:St w0 F0 (BlkP (w42.heap.size) 122 #[nI 0,nI 0]::BlkP (w9.heap.size) 37 #[nI (q5.cap),nI (q5.closed),nI (q5.count),nI (q5.start),nI (q5.buf),nI (q5.th),nI (q5.tt),nI (q5.sh),nI (q5.st)]::HeapP b0 ab0 s0::ps) (w42.alloc (.cells #[nI 0,nI 0] 122)):=St.new hS44 #[nI 0,nI 0] 122
 clear hS44
 refine ev_store (.agg #[nI (q39.head),nI (q39.tail)]) #[nI (q39.head),nI (q39.tail)] hF46 (by kernel_rfl) rfl rfl rfl rfl (by kernel_rfl) hS49 (by kernel_rfl) (by kernel_rfl) (by kernel_rfl) (l':=[(10,nB w42),(24,.agg #[nI (q39.head),nI (q39.tail)]),(23,.bool (i2)),(22,.agg #[nI (q5.cap),nI (q5.closed),nI (q5.count),nI (q5.start),nI (q5.buf),nI (q5.th),nI (q5.tt),nI (q5.sh),nI (q5.st)]),(8,nB w9),(0,nP b0 0),(1,nI i1),(2,.bool (i2))]) (by kernel_rfl) ?_
 intro w50 a51 hS52 hF53; clear hF46 hS49
 refine wpList_nil ?_
 have hF54:=hF53.keep [0,1,2,8,10]
 clear hF53
 refine thenN (wp_seq (wp_region_lit ?_))
 refine ev_runs 1 hF54 (l':=[(25,nB w42),(10,nB w42),(8,nB w9),(0,nP b0 0),(1,nI i1),(2,.bool (i2))]) (w':=w50) (by kernel_rfl) ?_
 intro a56 hF55; clear hF54
 refine ev_one (nI (q39.head)) w50 hF55 (by kernel_rfl) rfl (by kernel_rfl) (run_loadV rfl rfl (run_loadS rfl rfl (hS52.cell 0 rfl 0 rfl))) (l':=[(26,nI (q39.head)),(25,nB w42),(10,nB w42),(8,nB w9),(0,nP b0 0),(1,nI i1),(2,.bool (i2))]) (by kernel_rfl) ?_
 intro a58 hF57; clear hF55
 refine ev_runK 1 hF57 [0,1,2,8,10,11] (l':=[(11,nI (q39.head)),(10,nB w42),(8,nB w9),(0,nP b0 0),(1,nI i1),(2,.bool (i2))]) (w':=w50) (by kernel_rfl) ?_
 intro a60 hF59; clear hF57
 refine wpList_nil (thenN (wp_seq (wp_region_lit ?_)))
 refine ev_runs 2 hF59 (l':=[(29,nI (q39.head)),(28,nP b0 0),(11,nI (q39.head)),(10,nB w42),(8,nB w9),(0,nP b0 0),(1,nI i1),(2,.bool (i2))]) (w':=w50) (by kernel_rfl) ?_
 intro a62 hF61; clear hF59
 have hS63:=hS52.pick2
 clear hS52
 refine ev_call 81 #[nP b0 0,nI (q39.head)] hF61 rfl rfl (by kernel_rfl) rfl (by kernel_rfl) (fun w=>by kernel_rfl) ?_
 obtain ⟨o64,s65,hx66,hm67⟩:=bind2E hm41; clear hm41
 refine (list_look.ok hS63 hx66).mono ?_
 rintro _ w68 ⟨rfl,hS70⟩ a69 hF71; clear hF61 hS63
 cases o64 with
 | none =>
  have hm72:=optN hm67; clear hm67
  refine ev_runs 5 hF71 (l':=[(12,nB w68),(33,.bool false),(32,.agg #[nI 0,nI 0,nI 0,nI 0,nI 0,nI 0,nI 0]),(27,.tuple #[.agg #[nI 0,nI 0,nI 0,nI 0,nI 0,nI 0,nI 0],.bool false]),(31,.tuple #[.agg #[nI 0,nI 0,nI 0,nI 0,nI 0,nI 0,nI 0],.bool false]),(30,.nilIface),(29,nI (q39.head)),(28,nP b0 0),(11,nI (q39.head)),(10,nB w42),(8,nB w9),(0,nP b0 0),(1,nI i1),(2,.bool (i2))]) (w':=w68.alloc (.cells #[nI 0,nI 0,nI 0,nI 0,nI 0,nI 0,nI 0] 54)) (by kernel_rfl) ?_
  intro a74 hF73; clear hF71
  have hS76:St w0 F0 (BlkP (w68.heap.size) 54 #[nI 0,nI 0,nI 0,nI 0,nI 0,nI 0,nI 0]::HeapP b0 ab0 s65::BlkP (w42.heap.size) 122 #[nI (q39.head),nI (q39.tail)]::BlkP (w9.heap.size) 37 #[nI (q5.cap),nI (q5.closed),nI (q5.count),nI (q5.start),nI (q5.buf),nI (q5.th),nI (q5.tt),nI (q5.sh),nI (q5.st)]::ps) (w68.alloc (.cells #[nI 0,nI 0,nI 0,nI 0,nI 0,nI 0,nI 0] 54)):=St.new hS70 #[nI 0,nI 0,nI 0,nI 0,nI 0,nI 0,nI 0] 54
  clear hS70
  refine ev_store (.agg #[nI 0,nI 0,nI 0,nI 0,nI 0,nI 0,nI 0]) #[nI 0,nI 0,nI 0,nI 0,nI 0,nI 0,nI 0] hF73 (by kernel_rfl) rfl rfl rfl rfl (by kernel_rfl) hS76 (by kernel_rfl) (by kernel_rfl) (by kernel_rfl) (l':=[(12,nB w68),(33,.bool false),(32,.agg #[nI 0,nI 0,nI 0,nI 0,nI 0,nI 0,nI 0]),(27,.tuple #[.agg #[nI 0,nI 0,nI 0,nI 0,nI 0,nI 0,nI 0],.bool false]),(31,.tuple #[.agg #[nI 0,nI 0,nI 0,nI 0,nI 0,nI 0,nI 0],.bool false]),(30,.nilIface),(29,nI (q39.head)),(28,nP b0 0),(11,nI (q39.head)),(10,nB w42),(8,nB w9),(0,nP b0 0),(1,nI i1),(2,.bool (i2))]) (by kernel_rfl) ?_
  intro w77 a78 hS79 hF80; clear hF73 hS76
  refine ev_runK 1 hF80 [0,1,2,8,10,11,12,13] (l':=[(13,.bool false),(12,nB w68),(11,nI (q39.head)),(10,nB w42),(8,nB w9),(0,nP b0 0),(1,nI i1),(2,.bool (i2))]) (w':=w77) (by kernel_rfl) ?_
  intro a82 hF81; clear hF80
  refine wpList_nil (thenN (wp_seq (wp_seq (wp_region_lit ?_))))
  refine ev_runK 2 hF81 [0,1,2,8,10,11,12,35] (l':=[(35,.bool true),(12,nB w68),(11,nI (q39.head)),(10,nB w42),(8,nB w9),(0,nP b0 0),(1,nI i1),(2,.bool (i2))]) (w':=w77) (by kernel_rfl) ?_
  intro a84 hF83; clear hF81
  refine wpList_nil (thenN ?_)
  refine ev_condT hF83 rfl rfl ?_
  refine wp_seq (wp_region_lit ?_)
  refine ev_runK 2 hF83 [6,7] (l':=[(7,.bool false),(6,nI 0)]) (w':=w77) (by kernel_rfl) ?_
  intro a86 hF85; clear hF83
  refine wpList_nil ?_
  have hS87:=hS79.drop.pick1.drop.pick1.drop
  clear hS79
  refine thenN ?_
  refine wp_ret ?_
  refine thenR ?_
  simp only [Option.some.injEq,Prod.mk.injEq] at hm72
  obtain ⟨rfl,rfl,rfl⟩:=hm72
  refine ev_ret hF85 [6,7] (.tuple #[nI 0,.bool false]) rfl rfl rfl ?_
  exact ⟨rfl,hS87⟩
 | some q91 =>
  have hm92:=optS hm67; clear hm67
  refine ev_runs 5 hF71 (l':=[(12,nB w68),(33,.bool true),(32,.agg #[nI (q91.gor),nI (q91.chan),nI (q91.value),nI (q91.next),nI (q91.to),nI (q91.reg),nI (q91.more)]),(27,.tuple #[.agg #[nI (q91.gor),nI (q91.chan),nI (q91.value),nI (q91.next),nI (q91.to),nI (q91.reg),nI (q91.more)],.bool true]),(31,.tuple #[.agg #[nI (q91.gor),nI (q91.chan),nI (q91.value),nI (q91.next),nI (q91.to),nI (q91.reg),nI (q91.more)],.bool true]),(30,.iface 54 (.agg #[nI (q91.gor),nI (q91.chan),nI (q91.value),nI (q91.next),nI (q91.to),nI (q91.reg),nI (q91.more)])),(29,nI (q39.head)),(28,nP b0 0),(11,nI (q39.head)),(10,nB w42),(8,nB w9),(0,nP b0 0),(1,nI i1),(2,.bool (i2))]) (w':=w68.alloc (.cells #[nI 0,nI 0,nI 0,nI 0,nI 0,nI 0,nI 0] 54)) (by kernel_rfl) ?_
  intro a94 hF93; clear hF71
  have hS96:St w0 F0 (BlkP (w68.heap.size) 54 #[nI 0,nI 0,nI 0,nI 0,nI 0,nI 0,nI 0]::HeapP b0 ab0 s65::BlkP (w42.heap.size) 122 #[nI (q39.head),nI (q39.tail)]::BlkP (w9.heap.size) 37 #[nI (q5.cap),nI (q5.closed),nI (q5.count),nI (q5.start),nI (q5.buf),nI (q5.th),nI (q5.tt),nI (q5.sh),nI (q5.st)]::ps) (w68.alloc (.cells #[nI 0,nI 0,nI 0,nI 0,nI 0,nI 0,nI 0] 54)):=St.new hS70 #[nI 0,nI 0,nI 0,nI 0,nI 0,nI 0,nI 0] 54
  clear hS70
  refine ev_store (.agg #[nI (q91.gor),nI (q91.chan),nI (q91.value),nI (q91.next),nI (q91.to),nI (q91.reg),nI (q91.more)]) #[nI (q91.gor),nI (q91.chan),nI (q91.value),nI (q91.next),nI (q91.to),nI (q91.reg),nI (q91.more)] hF93 (by kernel_rfl) rfl rfl rfl rfl (by kernel_rfl) hS96 (by kernel_rfl) (by kernel_rfl) (by kernel_rfl) (l':=[(12,nB w68),(33,.bool true),(32,.agg #[nI (q91.gor),nI (q91.chan),nI (q91.value),nI (q91.next),nI (q91.to),nI (q91.reg),nI (q91.more)]),(27,.tuple #[.agg #[nI (q91.gor),nI (q91.chan),nI (q91.value),nI (q91.next),nI (q91.to),nI (q91.reg),nI (q91.more)],.bool true]),(31,.tuple #[.agg #[nI (q91.gor),nI (q91.chan),nI (q91.value),nI (q91.next),nI (q91.to),nI (q91.reg),nI (q91.more)],.bool true]),(30,.iface 54 (.agg #[nI (q91.gor),nI (q91.chan),nI (q91.value),nI (q91.next),nI (q91.to),nI (q91.reg),nI (q91.more)])),(29,nI (q39.head)),(28,nP b0 0),(11,nI (q39.head)),(10,nB w42),(8,nB w9),(0,nP b0 0),(1,nI i1),(2,.bool (i2))]) (by kernel_rfl) ?_
  intro w97 a98 hS99 hF100; clear hF93 hS96
  refine ev_runK 1 hF100 [0,1,2,8,10,11,12,13] (l':=[(13,.bool true),(12,nB w68),(11,nI (q39.head)),(10,nB w42),(8,nB w9),(0,nP b0 0),(1,nI i1),(2,.bool (i2))]) (w':=w97) (by kernel_rfl) ?_
  intro a102 hF101; clear hF100
  refine wpList_nil (thenN (wp_seq (wp_seq (wp_region_lit ?_))))
  refine ev_runK 2 hF101 [0,1,2,8,10,11,12,35] (l':=[(35,.bool false),(12,nB w68),(11,nI (q39.head)),(10,nB w42),(8,nB w9),(0,nP b0 0),(1,nI i1),(2,.bool (i2))]) (w':=w97) (by kernel_rfl) ?_
  intro a104 hF103; clear hF101
  refine wpList_nil (thenN ?_)
  refine ev_condF hF103 rfl rfl ?_
  refine wp_skip ?_
  have hF105:=hF103.keep [0,1,2,8,10,11,12]
  clear hF103
  refine thenN (wp_seq (wp_seq (wp_region_lit ?_)))
  refine ev_runs 1 hF105 (l':=[(36,nP (w68.heap.size) 3),(12,nB w68),(11,nI (q39.head)),(10,nB w42),(8,nB w9),(0,nP b0 0),(1,nI i1),(2,.bool (i2))]) (w':=w97) (by kernel_rfl) ?_
  intro a107 hF106; clear hF105
  refine ev_one (nI (q91.next)) w97 hF106 (by kernel_rfl) rfl (by kernel_rfl) (run_loadV rfl rfl (run_loadS rfl rfl (hS99.cell 0 rfl 3 rfl))) (l':=[(37,nI (q91.next)),(36,nP (w68.heap.size) 3),(12,nB w68),(11,nI (q39.head)),(10,nB w42),(8,nB w9),(0,nP b0 0),(1,nI i1),(2,.bool (i2))]) (by kernel_rfl) ?_
  intro a109 hF108; clear hF106
  refine ev_runs 1 hF108 (l':=[(38,nB w42),(37,nI (q91.next)),(36,nP (w68.heap.size) 3),(12,nB w68),(11,nI (q39.head)),(10,nB w42),(8,nB w9),(0,nP b0 0),(1,nI i1),(2,.bool (i2))]) (w':=w97) (by kernel_rfl) ?_
  intro a111 hF110; clear hF108
  have hS112:=hS99.pick2
  clear hS99
  refine ev_store (nI (q91.next)) #[nI (q91.next),nI (q39.tail)] hF110 (by kernel_rfl) rfl rfl rfl rfl (by kernel_rfl) hS112 (by kernel_rfl) (by kernel_rfl) (by kernel_rfl) (l':=[(38,nB w42),(37,nI (q91.next)),(36,nP (w68.heap.size) 3),(12,nB w68),(11,nI (q39.head)),(10,nB w42),(8,nB w9),(0,nP b0 0),(1,nI i1),(2,.bool (i2))]) (by kernel_rfl) ?_
  intro w113 a114 hS115 hF116; clear hF110 hS112
  refine wpList_nil ?_
  have hF117:=hF116.keep [0,1,2,8,10,11]
  clear hF116
  have hS118:=hS115.pick1.drop
  clear hS115
  refine thenN (wp_seq (wp_region_lit ?_))
  refine ev_runs 1 hF117 (l':=[(39,nB w42),(11,nI (q39.head)),(10,nB w42),(8,nB w9),(0,nP b0 0),(1,nI i1),(2,.bool (i2))]) (w':=w113) (by kernel_rfl) ?_
  intro a120 hF119; clear hF117
  refine ev_one (nI (q91.next)) w113 hF119 (by kernel_rfl) rfl (by kernel_rfl) (run_loadV rfl rfl (run_loadS rfl rfl (hS118.cell 0 rfl 0 rfl))) (l':=[(40,nI (q91.next)),(39,nB w42),(11,nI (q39.head)),(10,nB w42),(8,nB w9),(0,nP b0 0),(1,nI i1),(2,.bool (i2))]) (by kernel_rfl) ?_
  intro a122 hF121; clear hF119
  refine ev_runK 1 hF121 [0,1,2,8,10,11,41] (l':=[(41,.bool (q91.next == (-1))),(11,nI (q39.head)),(10,nB w42),(8,nB w9),(0,nP b0 0),(1,nI i1),(2,.bool (i2))]) (w':=w113) (by kernel_rfl) ?_
  intro a124 hF123; clear hF121
  refine wpList_nil (thenN ?_)
  refine joinQ (fun aI wI=>∃ (x125:Int),Fr 54 aI [(11,nI (q39.head)),(10,nB w42),(8,nB w9),(0,nP b0 0),(1,nI i1),(2,.bool (i2))]∧St w0 F0 (BlkP (w42.heap.size) 122 #[nI (q91.next),nI x125]::HeapP b0 ab0 s65::BlkP (w9.heap.size) 37 #[nI (q5.cap),nI (q5.closed),nI (q5.count),nI (q5.start),nI (q5.buf),nI (q5.th),nI (q5.tt),nI (q5.sh),nI (q5.st)]::ps) wI∧list_Pop.j1 i1 i2 k q5 q39 s65 q91 x125=some (r0,r1,t0)) ?_ ?_
  rotate_left
  · rintro a127 w128 ⟨x125,hF129,hS130,hm131⟩
    clear hF123 hS118 hm92
    unfold list_Pop.j1 at hm131
    refine thenN (wp_seq (wp_region_lit ?_))
    refine ev_runs 2 hF129 (l':=[(44,nI i1),(43,nP b0 0),(11,nI (q39.head)),(10,nB w42),(8,nB w9),(0,nP b0 0),(1,nI i1),(2,.bool (i2))]) (w':=w128) (by kernel_rfl) ?_
    intro a134 hF133; clear hF129
    refine ev_one (.agg #[nI (q5.cap),nI (q5.closed),nI (q5.count),nI (q5.start),nI (q5.buf),nI (q5.th),nI (q5.tt),nI (q5.sh),nI (q5.st)]) w128 hF133 (by kernel_rfl) rfl (by kernel_rfl) (run_loadV rfl rfl (run_loadA (cs:=[nI (q5.cap),nI (q5.closed),nI (q5.count),nI (q5.start),nI (q5.buf),nI (q5.th),nI (q5.tt),nI (q5.sh),nI (q5.st)]) rfl rfl (by kernel_rfl) (blk_cells hS130 2 rfl rfl))) (l':=[(45,.agg #[nI (q5.cap),nI (q5.closed),nI (q5.count),nI (q5.start),nI (q5.buf),nI (q5.th),nI (q5.tt),nI (q5.sh),nI (q5.st)]),(44,nI i1),(43,nP b0 0),(11,nI (q39.head)),(10,nB w42),(8,nB w9),(0,nP b0 0),(1,nI i1),(2,.bool (i2))]) (by kernel_rfl) ?_
    intro a136 hF135; clear hF133
    refine ev_runs 1 hF135 (l':=[(46,.bool (i2)),(45,.agg #[nI (q5.cap),nI (q5.closed),nI (q5.count),nI (q5.start),nI (q5.buf),nI (q5.th),nI (q5.tt),nI (q5.sh),nI (q5.st)]),(44,nI i1),(43,nP b0 0),(11,nI (q39.head)),(10,nB w42),(8,nB w9),(0,nP b0 0),(1,nI i1),(2,.bool (i2))]) (w':=w128) (by kernel_rfl) ?_
    intro a138 hF137; clear hF135
    refine ev_one (.agg #[nI (q91.next),nI x125]) w128 hF137 (by kernel_rfl) rfl (by kernel_rfl) (run_loadV rfl rfl (run_loadA (cs:=[nI (q91.next),nI x125]) rfl rfl (by kernel_rfl) (blk_cells hS130 0 rfl rfl))) (l':=[(47,.agg #[nI (q91.next),nI x125]),(46,.bool (i2)),(45,.agg #[nI (q5.cap),nI (q5.closed),nI (q5.count),nI (q5.start),nI (q5.buf),nI (q5.th),nI (q5.tt),nI (q5.sh),nI (q5.st)]),(44,nI i1),(43,nP b0 0),(11,nI (q39.head)),(10,nB w42),(8,nB w9),(0,nP b0 0),(1,nI i1),(2,.bool (i2))]) (by kernel_rfl) ?_
    intro a140 hF139; clear hF137
    refine ev_call 80 #[.agg #[nI (q5.cap),nI (q5.closed),nI (q5.count),nI (q5.start),nI (q5.buf),nI (q5.th),nI (q5.tt),nI (q5.sh),nI (q5.st)],.bool (i2),.agg #[nI (q91.next),nI x125]] hF139 rfl rfl (by kernel_rfl) rfl (by kernel_rfl) (fun w=>by kernel_rfl) ?_
    obtain ⟨q141,hx142,hm143⟩:=bind1E hm131; clear hm131
    refine (list_into.ok hS130 hx142).mono ?_
    rintro _ w144 ⟨rfl,hS146⟩ a145 hF147; clear hF139 hS130
    have hS148:=hS146.pick1
    clear hS146
    refine ev_call 23 #[nP b0 0,nI i1,.agg #[nI (q141.cap),nI (q141.closed),nI (q141.count),nI (q141.start),nI (q141.buf),nI (q141.th),nI (q141.tt),nI (q141.sh),nI (q141.st)]] hF147 rfl rfl (by kernel_rfl) rfl (by kernel_rfl) (fun w=>by kernel_rfl) ?_
    obtain ⟨x149,s150,hx151,hm152⟩:=bind2E hm143; clear hm143
    refine (p_PutChan hS148 hx151).mono ?_
    rintro _ w153 ⟨rfl,hS155⟩ a154 hF156; clear hF147 hS148
    refine wpList_nil ?_
    have hF157:=hF156.keep [0,11]
    clear hF156
    have hS158:=hS155.pick1.drop.pick1.drop
    clear hS155
    refine thenN (wp_seq (wp_region_lit ?_))
    refine ev_runs 2 hF157 (l':=[(51,nI (q39.head)),(50,nP b0 0),(11,nI (q39.head)),(0,nP b0 0)]) (w':=w153) (by kernel_rfl) ?_
    intro a160 hF159; clear hF157
    refine ev_call 79 #[nP b0 0,nI (q39.head),nI (-1)] hF159 rfl rfl (by kernel_rfl) rfl (by kernel_rfl) (fun w=>by kernel_rfl) ?_
    obtain ⟨s161,hx162,hm163⟩:=bind1E hm152; clear hm152
    refine (list_follow.ok hS158 hx162).mono ?_
    rintro _ w164 ⟨rfl,hS166⟩ a165 hF167; clear hF159 hS158
    refine wpList_nil ?_
    have hF168:=hF167.keep [11]
    clear hF167
    refine thenN (wp_seq (wp_region_lit ?_))
    refine ev_runK 3 hF168 [6,7] (l':=[(7,.bool true),(6,nI (q39.head))]) (w':=w164) (by kernel_rfl) ?_
    intro a170 hF169; clear hF168
    refine wpList_nil (thenN ?_)
    refine wp_ret ?_
    simp only [Option.some.injEq,Prod.mk.injEq] at hm163
    obtain ⟨rfl,rfl,rfl⟩:=hm163
    refine ev_ret hF169 [6,7] (.tuple #[nI (q39.head),.bool true]) rfl rfl rfl ?_
    exact ⟨rfl,hS166⟩
  · skip
    cases hc174:(q91.next == (-1))
    case true =>
     rw [hc174] at hF123
     have hm175:=ifYes hc174 hm92; clear hm92
     refine ev_condT hF123 rfl rfl ?_
     refine wp_region_lit ?_
     refine ev_runs 1 hF123 (l':=[(42,nP (w42.heap.size) 1),(41,.bool true),(11,nI (q39.head)),(10,nB w42),(8,nB w9),(0,nP b0 0),(1,nI i1),(2,.bool (i2))]) (w':=w113) (by kernel_rfl) ?_
     intro a177 hF176; clear hF123
     refine ev_store (nI (-1)) #[nI (q91.next),nI (-1)] hF176 (by kernel_rfl) rfl rfl rfl rfl (by kernel_rfl) hS118 (by kernel_rfl) (by kernel_rfl) (by kernel_rfl) (l':=[(42,nP (w42.heap.size) 1),(41,.bool true),(11,nI (q39.head)),(10,nB w42),(8,nB w9),(0,nP b0 0),(1,nI i1),(2,.bool (i2))]) (by kernel_rfl) ?_
     intro w178 a179 hS180 hF181; clear hF176 hS118
     refine wpList_nil ?_
     have hF182:=hF181.keep [0,1,2,8,10,11]
     clear hF181
     exact thenN ⟨-1,hF182,hS180,hm175⟩
    rw [hc174] at hF123
    have hm183:=ifNot hc174 hm92; clear hm92
    refine ev_condF hF123 rfl rfl ?_
    refine wp_skip ?_
    have hF184:=hF123.keep [0,1,2,8,10,11]
    clear hF123
    exact thenN ⟨q39.tail,hF184,hS118,hm183⟩
def list_Remove.j2 (i1:Int) (i2:Bool) (i3:Int) (k:Nat) (q47:Ch) (s109:HSt) (x110:Int) (x125:Int):Option (Bool×HSt):=bind1 (list_into.m k (⟨q47.cap,q47.closed,q47.count,q47.start,q47.buf,q47.th,q47.tt,q47.sh,q47.st⟩:Ch) (i2) (⟨x110,x125⟩:En)) fun q141=>bind2 (pPutChan i1 (⟨q141.cap,q141.closed,q141.count,q141.start,q141.buf,q141.th,q141.tt,q141.sh,q141.st⟩:Ch) s109) fun x149 s150=>bind1 (list_follow.m k s150 i3 (-1)) fun s161=>some (true,s161)
def list_Remove.j1 (i1:Int) (i2:Bool) (i3:Int) (k:Nat) (q47:Ch) (q90:En) (s109:HSt) (x110:Int) (x111:Int):Option (Bool×HSt):=(if (q90.tail == i3) then list_Remove.j2 i1 i2 i3 k q47 s109 x110 x111 else list_Remove.j2 i1 i2 i3 k q47 s109 x110 q90.tail)
def list_Remove.m (k:Nat) (s0:HSt) (i1:Int) (i2:Bool) (i3:Int):Option (Bool×HSt):=bind2 (list_All.m k s0 i1 (i2)) fun L5 s6=>bind1 (slices_Index.m k L5 i3) fun x24=>(if (decide (x24<0)) then some (false,s6) else bind2 (pChan i1 s6) fun q47 x48=>bind2 (pSudog i3 s6) fun q68 x69=>bind1 (list_of.m k (⟨q47.cap,q47.closed,q47.count,q47.start,q47.buf,q47.th,q47.tt,q47.sh,q47.st⟩:Ch) (i2)) fun q90=>(if (decide (x24 > 0)) then (if (inR (IntKind.i64.wrap (x24 - 1)) L5.length) then bind1 (list_follow.m k s6 (atI L5 (IntKind.i64.wrap (x24 - 1))) q68.next) fun s203=>list_Remove.j1 i1 i2 i3 k q47 q90 s203 q90.head (atI L5 (IntKind.i64.wrap (x24 - 1))) else none) else list_Remove.j1 i1 i2 i3 k q47 q90 s6 q68.next (-1)))
theorem list_Remove.ok {w0 w:World} {F0:List Nat} {ps:List Piece} {k:Nat} {b0 ab0:Nat} {s0:HSt} {i1:Int} {i2:Bool} {i3:Int} {r0:Bool} {t0:HSt} (hS:St w0 F0 (HeapP b0 ab0 s0::ps) w) (hm:list_Remove.m k s0 i1 i2 i3=some (r0,t0)) :
    Calls Tryz.prog 33 #[nP b0 0,nI i1,.bool (i2),nI i3] w fun e w'=>e=.returned (.bool r0)∧St w0 F0 (HeapP b0 ab0 t0::ps) w':=by
 refine ev_enterL 72 [nP b0 0,nI i1,.bool (i2),nI i3] Tryz.func33 rfl rfl (by simp) ?_
 intro a hF
 have hF0:Fr 72 a [(0,nP b0 0),(1,nI i1),(2,.bool (i2)),(3,nI i3)]:=hF; clear hF
 unfold list_Remove.m at hm
 refine wp_seq (wp_region_lit ?_)
 refine ev_runK 1 hF0 [0,1,2,3] (l':=[(0,nP b0 0),(1,nI i1),(2,.bool (i2)),(3,nI i3)]) (w':=w) (by kernel_rfl) ?_
 intro a2 hF1; clear hF0
 refine wpList_nil (thenN (wp_seq (wp_region_lit ?_)))
 refine ev_runs 3 hF1 (l':=[(19,.bool (i2)),(18,nI i1),(17,nP b0 0),(0,nP b0 0),(1,nI i1),(2,.bool (i2)),(3,nI i3)]) (w':=w) (by kernel_rfl) ?_
 intro a4 hF3; clear hF1
 refine ev_call 34 #[nP b0 0,nI i1,.bool (i2)] hF3 rfl rfl (by kernel_rfl) rfl (by kernel_rfl) (fun w=>by kernel_rfl) ?_
 obtain ⟨L5,s6,hx7,hm8⟩:=bind2E hm; clear hm
 refine (list_All.ok hS hx7).mono ?_
 rintro _ w9 ⟨z13,rfl,hS11⟩ a10 hF12; clear hF3 hS
 obtain ⟨hl18,p15,c16,rfl,hp17⟩:=St.shape hS11 1 rfl
 refine ev_runK 1 hF12 [0,1,2,3,9] (l':=[(9,.slice p15 L5.length c16),(0,nP b0 0),(1,nI i1),(2,.bool (i2)),(3,nI i3)]) (w':=w9) (by kernel_rfl) ?_
 intro a20 hF19; clear hF12
 refine wpList_nil (thenN (wp_seq (wp_region_lit ?_)))
 refine ev_runs 2 hF19 (l':=[(22,nI i3),(21,.slice p15 L5.length c16),(9,.slice p15 L5.length c16),(0,nP b0 0),(1,nI i1),(2,.bool (i2)),(3,nI i3)]) (w':=w9) (by kernel_rfl) ?_
 intro a22 hF21; clear hF19
 have hS23:=hS11.pick1
 clear hS11
 refine ev_call 82 #[.slice p15 L5.length c16,nI i3] hF21 rfl rfl (by kernel_rfl) rfl (by kernel_rfl) (fun w=>by kernel_rfl) ?_
 obtain ⟨x24,hx25,hm26⟩:=bind1E hm8; clear hm8
 refine (slices_Index.ok hS23 hx25).mono ?_
 rintro _ w27 ⟨rfl,hS29⟩ a28 hF30; clear hF21 hS23
 refine ev_runK 1 hF30 [0,1,2,3,9,10] (l':=[(10,nI x24),(9,.slice p15 L5.length c16),(0,nP b0 0),(1,nI i1),(2,.bool (i2)),(3,nI i3)]) (w':=w27) (by kernel_rfl) ?_
 intro a32 hF31; clear hF30
 refine wpList_nil (thenN (wp_seq (wp_seq (wp_region_lit ?_))))
 refine ev_runK 2 hF31 [0,1,2,3,9,10,25] (l':=[(25,.bool (decide (x24<0))),(10,nI x24),(9,.slice p15 L5.length c16),(0,nP b0 0),(1,nI i1),(2,.bool (i2)),(3,nI i3)]) (w':=w27) (by kernel_rfl) ?_
 intro a34 hF33; clear hF31
 refine wpList_nil (thenN ?_)
 cases hc35:(decide (x24<0))
 case true =>
  rw [hc35] at hF33
  have hm36:=ifYes hc35 hm26; clear hm26
  refine ev_condT hF33 rfl rfl ?_
  refine wp_seq (wp_region_lit ?_)
  refine ev_runK 1 hF33 [8] (l':=[(8,.bool false)]) (w':=w27) (by kernel_rfl) ?_
  intro a38 hF37; clear hF33
  refine wpList_nil ?_
  have hS39:=hS29.drop
  clear hS29
  refine thenN ?_
  refine wp_ret ?_
  refine thenR ?_
  simp only [Option.some.injEq,Prod.mk.injEq] at hm36
  obtain ⟨rfl,rfl⟩:=hm36
  refine ev_ret hF37 [8] (.bool false) rfl rfl rfl ?_
  exact ⟨rfl,hS39⟩
 rw [hc35] at hF33
 have hm42:=ifNot hc35 hm26; clear hm26
 refine ev_condF hF33 rfl rfl ?_
 refine wp_skip ?_
 have hF43:=hF33.keep [0,1,2,3,9,10]
 clear hF33
 refine thenN (wp_seq (wp_region_lit ?_))
 refine ev_runs 2 hF43 (l':=[(28,nI i1),(27,nP b0 0),(10,nI x24),(9,.slice p15 L5.length c16),(0,nP b0 0),(1,nI i1),(2,.bool (i2)),(3,nI i3)]) (w':=w27) (by kernel_rfl) ?_
 intro a45 hF44; clear hF43
 have hS46:=hS29.pick1
 clear hS29
 refine ev_call 19 #[nP b0 0,nI i1] hF44 rfl rfl (by kernel_rfl) rfl (by kernel_rfl) (fun w=>by kernel_rfl) ?_
 obtain ⟨q47,x48,hx49,hm50⟩:=bind2E hm42; clear hm42
 refine (p_Chan hS46 hx49).mono ?_
 rintro _ w51 ⟨rfl,hS53⟩ a52 hF54; clear hF44 hS46
 refine ev_runs 4 hF54 (l':=[(11,nB w51),(31,nI x48),(30,.agg #[nI (q47.cap),nI (q47.closed),nI (q47.count),nI (q47.start),nI (q47.buf),nI (q47.th),nI (q47.tt),nI (q47.sh),nI (q47.st)]),(26,.tuple #[.agg #[nI (q47.cap),nI (q47.closed),nI (q47.count),nI (q47.start),nI (q47.buf),nI (q47.th),nI (q47.tt),nI (q47.sh),nI (q47.st)],nI x48]),(29,.tuple #[.agg #[nI (q47.cap),nI (q47.closed),nI (q47.count),nI (q47.start),nI (q47.buf),nI (q47.th),nI (q47.tt),nI (q47.sh),nI (q47.st)],nI x48]),(28,nI i1),(27,nP b0 0),(10,nI x24),(9,.slice p15 L5.length c16),(0,nP b0 0),(1,nI i1),(2,.bool (i2)),(3,nI i3)]) (w':=w51.alloc (.cells #[nI 0,nI 0,nI 0,nI 0,nI 0,nI 0,nI 0,nI 0,nI 0] 37)) (by kernel_rfl) ?_
 intro a56 hF55; clear hF54
 have hS58:St w0 F0 (BlkP (w51.heap.size) 37 #[nI 0,nI 0,nI 0,nI 0,nI 0,nI 0,nI 0,nI 0,nI 0]::HeapP b0 ab0 s6::RowP (.slice p15 L5.length c16) L5::ps) (w51.alloc (.cells #[nI 0,nI 0,nI 0,nI 0,nI 0,nI 0,nI 0,nI 0,nI 0] 37)):=St.new hS53 #[nI 0,nI 0,nI 0,nI 0,nI 0,nI 0,nI 0,nI 0,nI 0] 37
 clear hS53
 refine ev_store (.agg #[nI (q47.cap),nI (q47.closed),nI (q47.count),nI (q47.start),nI (q47.buf),nI (q47.th),nI (q47.tt),nI (q47.sh),nI (q47.st)]) #[nI (q47.cap),nI (q47.closed),nI (q47.count),nI (q47.start),nI (q47.buf),nI (q47.th),nI (q47.tt),nI (q47.sh),nI (q47.st)] hF55 (by kernel_rfl) rfl rfl rfl rfl (by kernel_rfl) hS58 (by kernel_rfl) (by kernel_rfl) (by kernel_rfl) (l':=[(11,nB w51),(31,nI x48),(30,.agg #[nI (q47.cap),nI (q47.closed),nI (q47.count),nI (q47.start),nI (q47.buf),nI (q47.th),nI (q47.tt),nI (q47.sh),nI (q47.st)]),(26,.tuple #[.agg #[nI (q47.cap),nI (q47.closed),nI (q47.count),nI (q47.start),nI (q47.buf),nI (q47.th),nI (q47.tt),nI (q47.sh),nI (q47.st)],nI x48]),(29,.tuple #[.agg #[nI (q47.cap),nI (q47.closed),nI (q47.count),nI (q47.start),nI (q47.buf),nI (q47.th),nI (q47.tt),nI (q47.sh),nI (q47.st)],nI x48]),(28,nI i1),(27,nP b0 0),(10,nI x24),(9,.slice p15 L5.length c16),(0,nP b0 0),(1,nI i1),(2,.bool (i2)),(3,nI i3)]) (by kernel_rfl) ?_
 intro w59 a60 hS61 hF62; clear hF55 hS58
 refine ev_runK 1 hF62 [0,1,2,3,9,10,11] (l':=[(11,nB w51),(10,nI x24),(9,.slice p15 L5.length c16),(0,nP b0 0),(1,nI i1),(2,.bool (i2)),(3,nI i3)]) (w':=w59) (by kernel_rfl) ?_
 intro a64 hF63; clear hF62
 refine wpList_nil (thenN (wp_seq (wp_region_lit ?_)))
 refine ev_runs 2 hF63 (l':=[(34,nI i3),(33,nP b0 0),(11,nB w51),(10,nI x24),(9,.slice p15 L5.length c16),(0,nP b0 0),(1,nI i1),(2,.bool (i2)),(3,nI i3)]) (w':=w59) (by kernel_rfl) ?_
 intro a66 hF65; clear hF63
 have hS67:=hS61.pick1
 clear hS61
 refine ev_call 30 #[nP b0 0,nI i3] hF65 rfl rfl (by kernel_rfl) rfl (by kernel_rfl) (fun w=>by kernel_rfl) ?_
 obtain ⟨q68,x69,hx70,hm71⟩:=bind2E hm50; clear hm50
 refine (p_Sudog hS67 hx70).mono ?_
 rintro _ w72 ⟨rfl,hS74⟩ a73 hF75; clear hF65 hS67
 refine ev_runs 4 hF75 (l':=[(13,nB w72),(37,nI x69),(36,.agg #[nI (q68.gor),nI (q68.chan),nI (q68.value),nI (q68.next),nI (q68.to),nI (q68.reg),nI (q68.more)]),(32,.tuple #[.agg #[nI (q68.gor),nI (q68.chan),nI (q68.value),nI (q68.next),nI (q68.to),nI (q68.reg),nI (q68.more)],nI x69]),(35,.tuple #[.agg #[nI (q68.gor),nI (q68.chan),nI (q68.value),nI (q68.next),nI (q68.to),nI (q68.reg),nI (q68.more)],nI x69]),(34,nI i3),(33,nP b0 0),(11,nB w51),(10,nI x24),(9,.slice p15 L5.length c16),(0,nP b0 0),(1,nI i1),(2,.bool (i2)),(3,nI i3)]) (w':=w72.alloc (.cells #[nI 0,nI 0,nI 0,nI 0,nI 0,nI 0,nI 0] 54)) (by kernel_rfl) ?_
 intro a77 hF76; clear hF75
 have hS79:St w0 F0 (BlkP (w72.heap.size) 54 #[nI 0,nI 0,nI 0,nI 0,nI 0,nI 0,nI 0]::HeapP b0 ab0 s6::BlkP (w51.heap.size) 37 #[nI (q47.cap),nI (q47.closed),nI (q47.count),nI (q47.start),nI (q47.buf),nI (q47.th),nI (q47.tt),nI (q47.sh),nI (q47.st)]::RowP (.slice p15 L5.length c16) L5::ps) (w72.alloc (.cells #[nI 0,nI 0,nI 0,nI 0,nI 0,nI 0,nI 0] 54)):=St.new hS74 #[nI 0,nI 0,nI 0,nI 0,nI 0,nI 0,nI 0] 54
 clear hS74
 refine ev_store (.agg #[nI (q68.gor),nI (q68.chan),nI (q68.value),nI (q68.next),nI (q68.to),nI (q68.reg),nI (q68.more)]) #[nI (q68.gor),nI (q68.chan),nI (q68.value),nI (q68.next),nI (q68.to),nI (q68.reg),nI (q68.more)] hF76 (by kernel_rfl) rfl rfl rfl rfl (by kernel_rfl) hS79 (by kernel_rfl) (by kernel_rfl) (by kernel_rfl) (l':=[(13,nB w72),(37,nI x69),(36,.agg #[nI (q68.gor),nI (q68.chan),nI (q68.value),nI (q68.next),nI (q68.to),nI (q68.reg),nI (q68.more)]),(32,.tuple #[.agg #[nI (q68.gor),nI (q68.chan),nI (q68.value),nI (q68.next),nI (q68.to),nI (q68.reg),nI (q68.more)],nI x69]),(35,.tuple #[.agg #[nI (q68.gor),nI (q68.chan),nI (q68.value),nI (q68.next),nI (q68.to),nI (q68.reg),nI (q68.more)],nI x69]),(34,nI i3),(33,nP b0 0),(11,nB w51),(10,nI x24),(9,.slice p15 L5.length c16),(0,nP b0 0),(1,nI i1),(2,.bool (i2)),(3,nI i3)]) (by kernel_rfl) ?_
 intro w80 a81 hS82 hF83; clear hF76 hS79
 refine ev_runK 1 hF83 [0,1,2,3,9,10,11,13] (l':=[(13,nB w72),(11,nB w51),(10,nI x24),(9,.slice p15 L5.length c16),(0,nP b0 0),(1,nI i1),(2,.bool (i2)),(3,nI i3)]) (w':=w80) (by kernel_rfl) ?_
 intro a85 hF84; clear hF83
 refine wpList_nil (thenN (wp_seq (wp_region_lit ?_)))
 refine ev_one (.agg #[nI (q47.cap),nI (q47.closed),nI (q47.count),nI (q47.start),nI (q47.buf),nI (q47.th),nI (q47.tt),nI (q47.sh),nI (q47.st)]) w80 hF84 (by kernel_rfl) rfl (by kernel_rfl) (run_loadV rfl rfl (run_loadA (cs:=[nI (q47.cap),nI (q47.closed),nI (q47.count),nI (q47.start),nI (q47.buf),nI (q47.th),nI (q47.tt),nI (q47.sh),nI (q47.st)]) rfl rfl (by kernel_rfl) (blk_cells hS82 2 rfl rfl))) (l':=[(38,.agg #[nI (q47.cap),nI (q47.closed),nI (q47.count),nI (q47.start),nI (q47.buf),nI (q47.th),nI (q47.tt),nI (q47.sh),nI (q47.st)]),(13,nB w72),(11,nB w51),(10,nI x24),(9,.slice p15 L5.length c16),(0,nP b0 0),(1,nI i1),(2,.bool (i2)),(3,nI i3)]) (by kernel_rfl) ?_
 intro a87 hF86; clear hF84
 refine ev_runs 1 hF86 (l':=[(39,.bool (i2)),(38,.agg #[nI (q47.cap),nI (q47.closed),nI (q47.count),nI (q47.start),nI (q47.buf),nI (q47.th),nI (q47.tt),nI (q47.sh),nI (q47.st)]),(13,nB w72),(11,nB w51),(10,nI x24),(9,.slice p15 L5.length c16),(0,nP b0 0),(1,nI i1),(2,.bool (i2)),(3,nI i3)]) (w':=w80) (by kernel_rfl) ?_
 intro a89 hF88; clear hF86
 refine ev_call 78 #[.agg #[nI (q47.cap),nI (q47.closed),nI (q47.count),nI (q47.start),nI (q47.buf),nI (q47.th),nI (q47.tt),nI (q47.sh),nI (q47.st)],.bool (i2)] hF88 rfl rfl (by kernel_rfl) rfl (by kernel_rfl) (fun w=>by kernel_rfl) ?_
 obtain ⟨q90,hx91,hm92⟩:=bind1E hm71; clear hm71
 refine (list_of.ok hS82 hx91).mono ?_
 rintro _ w93 ⟨rfl,hS95⟩ a94 hF96; clear hF88 hS82
 refine ev_runs 1 hF96 (l':=[(15,nB w93),(40,.agg #[nI (q90.head),nI (q90.tail)]),(39,.bool (i2)),(38,.agg #[nI (q47.cap),nI (q47.closed),nI (q47.count),nI (q47.start),nI (q47.buf),nI (q47.th),nI (q47.tt),nI (q47.sh),nI (q47.st)]),(13,nB w72),(11,nB w51),(10,nI x24),(9,.slice p15 L5.length c16),(0,nP b0 0),(1,nI i1),(2,.bool (i2)),(3,nI i3)]) (w':=w93.alloc (.cells #[nI 0,nI 0] 122)) (by kernel_rfl) ?_
 intro a98 hF97; clear hF96
 have hS100:St w0 F0 (BlkP (w93.heap.size) 122 #[nI 0,nI 0]::BlkP (w72.heap.size) 54 #[nI (q68.gor),nI (q68.chan),nI (q68.value),nI (q68.next),nI (q68.to),nI (q68.reg),nI (q68.more)]::HeapP b0 ab0 s6::BlkP (w51.heap.size) 37 #[nI (q47.cap),nI (q47.closed),nI (q47.count),nI (q47.start),nI (q47.buf),nI (q47.th),nI (q47.tt),nI (q47.sh),nI (q47.st)]::RowP (.slice p15 L5.length c16) L5::ps) (w93.alloc (.cells #[nI 0,nI 0] 122)):=St.new hS95 #[nI 0,nI 0] 122
 clear hS95
 refine ev_store (.agg #[nI (q90.head),nI (q90.tail)]) #[nI (q90.head),nI (q90.tail)] hF97 (by kernel_rfl) rfl rfl rfl rfl (by kernel_rfl) hS100 (by kernel_rfl) (by kernel_rfl) (by kernel_rfl) (l':=[(15,nB w93),(40,.agg #[nI (q90.head),nI (q90.tail)]),(39,.bool (i2)),(38,.agg #[nI (q47.cap),nI (q47.closed),nI (q47.count),nI (q47.start),nI (q47.buf),nI (q47.th),nI (q47.tt),nI (q47.sh),nI (q47.st)]),(13,nB w72),(11,nB w51),(10,nI x24),(9,.slice p15 L5.length c16),(0,nP b0 0),(1,nI i1),(2,.bool (i2)),(3,nI i3)]) (by kernel_rfl) ?_
 intro w101 a102 hS103 hF104; clear hF97 hS100
 refine ev_runK 1 hF104 [0,1,2,3,9,10,11,13,15,16] (l':=[(16,nI (-1)),(15,nB w93),(13,nB w72),(11,nB w51),(10,nI x24),(9,.slice p15 L5.length c16),(0,nP b0 0),(1,nI i1),(2,.bool (i2)),(3,nI i3)]) (w':=w101) (by kernel_rfl) ?_
 intro a106 hF105; clear hF104
 refine wpList_nil (thenN (wp_seq (wp_seq (wp_region_lit ?_))))
 refine ev_runK 2 hF105 [0,1,2,3,9,10,11,13,15,16,42] (l':=[(42,.bool (decide (x24 > 0))),(16,nI (-1)),(15,nB w93),(13,nB w72),(11,nB w51),(10,nI x24),(9,.slice p15 L5.length c16),(0,nP b0 0),(1,nI i1),(2,.bool (i2)),(3,nI i3)]) (w':=w101) (by kernel_rfl) ?_
 intro a108 hF107; clear hF105
 refine wpList_nil (thenN ?_)
 refine joinQ (fun aI wI=>∃ (s109:HSt) (x110:Int) (x111:Int),Fr 72 aI [(16,nI x111),(15,nB w93),(11,nB w51),(0,nP b0 0),(1,nI i1),(2,.bool (i2)),(3,nI i3)]∧St w0 F0 (BlkP (w93.heap.size) 122 #[nI x110,nI (q90.tail)]::HeapP b0 ab0 s109::BlkP (w51.heap.size) 37 #[nI (q47.cap),nI (q47.closed),nI (q47.count),nI (q47.start),nI (q47.buf),nI (q47.th),nI (q47.tt),nI (q47.sh),nI (q47.st)]::ps) wI∧list_Remove.j1 i1 i2 i3 k q47 q90 s109 x110 x111=some (r0,t0)) ?_ ?_
 rotate_left
 · rintro a113 w114 ⟨s109,x110,x111,hF115,hS116,hm117⟩
   clear hF107 hS103 hm92
   unfold list_Remove.j1 at hm117
   refine thenN (wp_seq (wp_seq (wp_region_lit ?_)))
   refine ev_runs 1 hF115 (l':=[(56,nP (w93.heap.size) 1),(16,nI x111),(15,nB w93),(11,nB w51),(0,nP b0 0),(1,nI i1),(2,.bool (i2)),(3,nI i3)]) (w':=w114) (by kernel_rfl) ?_
   intro a120 hF119; clear hF115
   refine ev_one (nI (q90.tail)) w114 hF119 (by kernel_rfl) rfl (by kernel_rfl) (run_loadV rfl rfl (run_loadS rfl rfl (hS116.cell 0 rfl 1 rfl))) (l':=[(57,nI (q90.tail)),(56,nP (w93.heap.size) 1),(16,nI x111),(15,nB w93),(11,nB w51),(0,nP b0 0),(1,nI i1),(2,.bool (i2)),(3,nI i3)]) (by kernel_rfl) ?_
   intro a122 hF121; clear hF119
   refine ev_runK 2 hF121 [0,1,2,3,11,15,16,59] (l':=[(59,.bool (q90.tail == i3)),(16,nI x111),(15,nB w93),(11,nB w51),(0,nP b0 0),(1,nI i1),(2,.bool (i2)),(3,nI i3)]) (w':=w114) (by kernel_rfl) ?_
   intro a124 hF123; clear hF121
   refine wpList_nil (thenN ?_)
   refine joinQ (fun aI wI=>∃ (x125:Int),Fr 72 aI [(15,nB w93),(11,nB w51),(0,nP b0 0),(1,nI i1),(2,.bool (i2)),(3,nI i3)]∧St w0 F0 (BlkP (w93.heap.size) 122 #[nI x110,nI x125]::HeapP b0 ab0 s109::BlkP (w51.heap.size) 37 #[nI (q47.cap),nI (q47.closed),nI (q47.count),nI (q47.start),nI (q47.buf),nI (q47.th),nI (q47.tt),nI (q47.sh),nI (q47.st)]::ps) wI∧list_Remove.j2 i1 i2 i3 k q47 s109 x110 x125=some (r0,t0)) ?_ ?_
   rotate_left
   · rintro a127 w128 ⟨x125,hF129,hS130,hm131⟩
     clear hF123 hS116 hm117
     unfold list_Remove.j2 at hm131
     refine thenN (wp_seq (wp_region_lit ?_))
     refine ev_runs 2 hF129 (l':=[(63,nI i1),(62,nP b0 0),(15,nB w93),(11,nB w51),(0,nP b0 0),(1,nI i1),(2,.bool (i2)),(3,nI i3)]) (w':=w128) (by kernel_rfl) ?_
     intro a134 hF133; clear hF129
     refine ev_one (.agg #[nI (q47.cap),nI (q47.closed),nI (q47.count),nI (q47.start),nI (q47.buf),nI (q47.th),nI (q47.tt),nI (q47.sh),nI (q47.st)]) w128 hF133 (by kernel_rfl) rfl (by kernel_rfl) (run_loadV rfl rfl (run_loadA (cs:=[nI (q47.cap),nI (q47.closed),nI (q47.count),nI (q47.start),nI (q47.buf),nI (q47.th),nI (q47.tt),nI (q47.sh),nI (q47.st)]) rfl rfl (by kernel_rfl) (blk_cells hS130 2 rfl rfl))) (l':=[(64,.agg #[nI (q47.cap),nI (q47.closed),nI (q47.count),nI (q47.start),nI (q47.buf),nI (q47.th),nI (q47.tt),nI (q47.sh),nI (q47.st)]),(63,nI i1),(62,nP b0 0),(15,nB w93),(11,nB w51),(0,nP b0 0),(1,nI i1),(2,.bool (i2)),(3,nI i3)]) (by kernel_rfl) ?_
     intro a136 hF135; clear hF133
     refine ev_runs 1 hF135 (l':=[(65,.bool (i2)),(64,.agg #[nI (q47.cap),nI (q47.closed),nI (q47.count),nI (q47.start),nI (q47.buf),nI (q47.th),nI (q47.tt),nI (q47.sh),nI (q47.st)]),(63,nI i1),(62,nP b0 0),(15,nB w93),(11,nB w51),(0,nP b0 0),(1,nI i1),(2,.bool (i2)),(3,nI i3)]) (w':=w128) (by kernel_rfl) ?_
     intro a138 hF137; clear hF135
     refine ev_one (.agg #[nI x110,nI x125]) w128 hF137 (by kernel_rfl) rfl (by kernel_rfl) (run_loadV rfl rfl (run_loadA (cs:=[nI x110,nI x125]) rfl rfl (by kernel_rfl) (blk_cells hS130 0 rfl rfl))) (l':=[(66,.agg #[nI x110,nI x125]),(65,.bool (i2)),(64,.agg #[nI (q47.cap),nI (q47.closed),nI (q47.count),nI (q47.start),nI (q47.buf),nI (q47.th),nI (q47.tt),nI (q47.sh),nI (q47.st)]),(63,nI i1),(62,nP b0 0),(15,nB w93),(11,nB w51),(0,nP b0 0),(1,nI i1),(2,.bool (i2)),(3,nI i3)]) (by kernel_rfl) ?_
     intro a140 hF139; clear hF137
     refine ev_call 80 #[.agg #[nI (q47.cap),nI (q47.closed),nI (q47.count),nI (q47.start),nI (q47.buf),nI (q47.th),nI (q47.tt),nI (q47.sh),nI (q47.st)],.bool (i2),.agg #[nI x110,nI x125]] hF139 rfl rfl (by kernel_rfl) rfl (by kernel_rfl) (fun w=>by kernel_rfl) ?_
     obtain ⟨q141,hx142,hm143⟩:=bind1E hm131; clear hm131
     refine (list_into.ok hS130 hx142).mono ?_
     rintro _ w144 ⟨rfl,hS146⟩ a145 hF147; clear hF139 hS130
     have hS148:=hS146.pick1
     clear hS146
     refine ev_call 23 #[nP b0 0,nI i1,.agg #[nI (q141.cap),nI (q141.closed),nI (q141.count),nI (q141.start),nI (q141.buf),nI (q141.th),nI (q141.tt),nI (q141.sh),nI (q141.st)]] hF147 rfl rfl (by kernel_rfl) rfl (by kernel_rfl) (fun w=>by kernel_rfl) ?_
     obtain ⟨x149,s150,hx151,hm152⟩:=bind2E hm143; clear hm143
     refine (p_PutChan hS148 hx151).mono ?_
     rintro _ w153 ⟨rfl,hS155⟩ a154 hF156; clear hF147 hS148
     refine wpList_nil ?_
     have hF157:=hF156.keep [0,3]
     clear hF156
     have hS158:=hS155.pick1.drop.pick1.drop
     clear hS155
     refine thenN (wp_seq (wp_region_lit ?_))
     refine ev_runs 2 hF157 (l':=[(70,nI i3),(69,nP b0 0),(0,nP b0 0),(3,nI i3)]) (w':=w153) (by kernel_rfl) ?_
     intro a160 hF159; clear hF157
     refine ev_call 79 #[nP b0 0,nI i3,nI (-1)] hF159 rfl rfl (by kernel_rfl) rfl (by kernel_rfl) (fun w=>by kernel_rfl) ?_
     obtain ⟨s161,hx162,hm163⟩:=bind1E hm152; clear hm152
     refine (list_follow.ok hS158 hx162).mono ?_
     rintro _ w164 ⟨rfl,hS166⟩ a165 hF167; clear hF159 hS158
     refine wpList_nil ?_
     have hF168:=hF167.keep []
     clear hF167
     refine thenN (wp_seq (wp_region_lit ?_))
     refine ev_runs 1 hF168 (l':=[(8,.bool true)]) (w':=w164) (by kernel_rfl) ?_
     intro a170 hF169; clear hF168
     refine wpList_nil (thenN ?_)
     refine wp_ret ?_
     simp only [Option.some.injEq,Prod.mk.injEq] at hm163
     obtain ⟨rfl,rfl⟩:=hm163
     refine ev_ret hF169 [8] (.bool true) rfl rfl rfl ?_
     exact ⟨rfl,hS166⟩
   · skip
     cases hc173:(q90.tail == i3)
     case true =>
      rw [hc173] at hF123
      have hm174:=ifYes hc173 hm117; clear hm117
      refine ev_condT hF123 rfl rfl ?_
      refine wp_region_lit ?_
      refine ev_runs 2 hF123 (l':=[(61,nP (w93.heap.size) 1),(60,nI x111),(59,.bool true),(16,nI x111),(15,nB w93),(11,nB w51),(0,nP b0 0),(1,nI i1),(2,.bool (i2)),(3,nI i3)]) (w':=w114) (by kernel_rfl) ?_
      intro a176 hF175; clear hF123
      refine ev_store (nI x111) #[nI x110,nI x111] hF175 (by kernel_rfl) rfl rfl rfl rfl (by kernel_rfl) hS116 (by kernel_rfl) (by kernel_rfl) (by kernel_rfl) (l':=[(61,nP (w93.heap.size) 1),(60,nI x111),(59,.bool true),(16,nI x111),(15,nB w93),(11,nB w51),(0,nP b0 0),(1,nI i1),(2,.bool (i2)),(3,nI i3)]) (by kernel_rfl) ?_
      intro w177 a178 hS179 hF180; clear hF175 hS116
      refine wpList_nil ?_
      have hF181:=hF180.keep [0,1,2,3,11,15]
      clear hF180
      exact thenN ⟨x111,hF181,hS179,hm174⟩
     rw [hc173] at hF123
     have hm182:=ifNot hc173 hm117; clear hm117
     refine ev_condF hF123 rfl rfl ?_
     refine wp_skip ?_
     have hF183:=hF123.keep [0,1,2,3,11,15]
     clear hF123
     exact thenN ⟨q90.tail,hF183,hS116,hm182⟩
 · skip
   cases hc184:(decide (x24 > 0))
   case true =>
    rw [hc184] at hF107
    have hm185:=ifYes hc184 hm92; clear hm92
    refine ev_condT hF107 rfl rfl ?_
    refine wp_seq (wp_region_lit ?_)
    refine ev_runs 3 hF107 (l':=[(45,nI (IntKind.i64.wrap (x24 - 1))),(44,nI x24),(43,.slice p15 L5.length c16),(42,.bool true),(16,nI (-1)),(15,nB w93),(13,nB w72),(11,nB w51),(10,nI x24),(9,.slice p15 L5.length c16),(0,nP b0 0),(1,nI i1),(2,.bool (i2)),(3,nI i3)]) (w':=w101) (by kernel_rfl) ?_
    intro a187 hF186; clear hF107
    obtain ⟨hc188,hm189⟩:=ifTE hm185; clear hm185
    obtain ⟨g190,rfl⟩:=hp17.resolve_left (by have:=inR_spec hc188; omega)
    refine ev_one (nP g190 ((IntKind.i64.wrap (x24 - 1)).toNat)) w101 hF186 (by kernel_rfl) rfl (by kernel_rfl) (run_idx rfl rfl rfl rfl rfl (inR_spec hc188).1 (inR_spec hc188).2 _) (l':=[(46,nP g190 ((IntKind.i64.wrap (x24 - 1)).toNat)),(45,nI (IntKind.i64.wrap (x24 - 1))),(44,nI x24),(43,nS g190 L5 c16),(42,.bool true),(16,nI (-1)),(15,nB w93),(13,nB w72),(11,nB w51),(10,nI x24),(9,nS g190 L5 c16),(0,nP b0 0),(1,nI i1),(2,.bool (i2)),(3,nI i3)]) (by kernel_rfl) ?_
    intro a192 hF191; clear hF186
    refine ev_one (nI (atI L5 (IntKind.i64.wrap (x24 - 1)))) w101 hF191 (by kernel_rfl) rfl (by kernel_rfl) (run_load1 rfl rfl rfl (hS103.atI 4 rfl hc188)) (l':=[(47,nI (atI L5 (IntKind.i64.wrap (x24 - 1)))),(46,nP g190 ((IntKind.i64.wrap (x24 - 1)).toNat)),(45,nI (IntKind.i64.wrap (x24 - 1))),(44,nI x24),(43,nS g190 L5 c16),(42,.bool true),(16,nI (-1)),(15,nB w93),(13,nB w72),(11,nB w51),(10,nI x24),(9,nS g190 L5 c16),(0,nP b0 0),(1,nI i1),(2,.bool (i2)),(3,nI i3)]) (by kernel_rfl) ?_
    intro a194 hF193; clear hF191
    refine ev_runK 1 hF193 [0,1,2,3,11,13,15,16] (l':=[(16,nI (atI L5 (IntKind.i64.wrap (x24 - 1)))),(15,nB w93),(13,nB w72),(11,nB w51),(0,nP b0 0),(1,nI i1),(2,.bool (i2)),(3,nI i3)]) (w':=w101) (by kernel_rfl) ?_
    intro a196 hF195; clear hF193
    refine wpList_nil ?_
    have hS197:=hS103.pick4.drop
    clear hS103
    refine thenN (wp_region_lit ?_)
    refine ev_runs 3 hF195 (l':=[(50,nP (w72.heap.size) 3),(49,nI (atI L5 (IntKind.i64.wrap (x24 - 1)))),(48,nP b0 0),(16,nI (atI L5 (IntKind.i64.wrap (x24 - 1)))),(15,nB w93),(13,nB w72),(11,nB w51),(0,nP b0 0),(1,nI i1),(2,.bool (i2)),(3,nI i3)]) (w':=w101) (by kernel_rfl) ?_
    intro a199 hF198; clear hF195
    refine ev_one (nI (q68.next)) w101 hF198 (by kernel_rfl) rfl (by kernel_rfl) (run_loadV rfl rfl (run_loadS rfl rfl (hS197.cell 1 rfl 3 rfl))) (l':=[(51,nI (q68.next)),(50,nP (w72.heap.size) 3),(49,nI (atI L5 (IntKind.i64.wrap (x24 - 1)))),(48,nP b0 0),(16,nI (atI L5 (IntKind.i64.wrap (x24 - 1)))),(15,nB w93),(13,nB w72),(11,nB w51),(0,nP b0 0),(1,nI i1),(2,.bool (i2)),(3,nI i3)]) (by kernel_rfl) ?_
    intro a201 hF200; clear hF198
    have hS202:=hS197.pick2
    clear hS197
    refine ev_call 79 #[nP b0 0,nI (atI L5 (IntKind.i64.wrap (x24 - 1))),nI (q68.next)] hF200 rfl rfl (by kernel_rfl) rfl (by kernel_rfl) (fun w=>by kernel_rfl) ?_
    obtain ⟨s203,hx204,hm205⟩:=bind1E hm189; clear hm189
    refine (list_follow.ok hS202 hx204).mono ?_
    rintro _ w206 ⟨rfl,hS208⟩ a207 hF209; clear hF200 hS202
    refine wpList_nil ?_
    have hF210:=hF209.keep [0,1,2,3,11,15,16]
    clear hF209
    have hS211:=hS208.pick2.drop
    clear hS208
    have hS212:=hS211.pick2.pick1.pick2
    clear hS211
    exact thenN ⟨s203,q90.head,atI L5 (IntKind.i64.wrap (x24 - 1)),hF210,hS212,hm205⟩
   rw [hc184] at hF107
   have hm213:=ifNot hc184 hm92; clear hm92
   refine ev_condF hF107 rfl rfl ?_
   refine wp_region_lit ?_
   refine ev_runs 1 hF107 (l':=[(53,nP (w72.heap.size) 3),(42,.bool false),(16,nI (-1)),(15,nB w93),(13,nB w72),(11,nB w51),(10,nI x24),(9,.slice p15 L5.length c16),(0,nP b0 0),(1,nI i1),(2,.bool (i2)),(3,nI i3)]) (w':=w101) (by kernel_rfl) ?_
   intro a215 hF214; clear hF107
   refine ev_one (nI (q68.next)) w101 hF214 (by kernel_rfl) rfl (by kernel_rfl) (run_loadV rfl rfl (run_loadS rfl rfl (hS103.cell 1 rfl 3 rfl))) (l':=[(54,nI (q68.next)),(53,nP (w72.heap.size) 3),(42,.bool false),(16,nI (-1)),(15,nB w93),(13,nB w72),(11,nB w51),(10,nI x24),(9,.slice p15 L5.length c16),(0,nP b0 0),(1,nI i1),(2,.bool (i2)),(3,nI i3)]) (by kernel_rfl) ?_
   intro a217 hF216; clear hF214
   refine ev_runs 1 hF216 (l':=[(55,nB w93),(54,nI (q68.next)),(53,nP (w72.heap.size) 3),(42,.bool false),(16,nI (-1)),(15,nB w93),(13,nB w72),(11,nB w51),(10,nI x24),(9,.slice p15 L5.length c16),(0,nP b0 0),(1,nI i1),(2,.bool (i2)),(3,nI i3)]) (w':=w101) (by kernel_rfl) ?_
   intro a219 hF218; clear hF216
   refine ev_store (nI (q68.next)) #[nI (q68.next),nI (q90.tail)] hF218 (by kernel_rfl) rfl rfl rfl rfl (by kernel_rfl) hS103 (by kernel_rfl) (by kernel_rfl) (by kernel_rfl) (l':=[(55,nB w93),(54,nI (q68.next)),(53,nP (w72.heap.size) 3),(42,.bool false),(16,nI (-1)),(15,nB w93),(13,nB w72),(11,nB w51),(10,nI x24),(9,.slice p15 L5.length c16),(0,nP b0 0),(1,nI i1),(2,.bool (i2)),(3,nI i3)]) (by kernel_rfl) ?_
   intro w220 a221 hS222 hF223; clear hF218 hS103
   refine wpList_nil ?_
   have hF224:=hF223.keep [0,1,2,3,11,15,16]
   clear hF223
   have hS225:=hS222.pick1.drop.pick3.drop
   clear hS222
   exact thenN ⟨s6,q68.next,-1,hF224,hS225,hm213⟩
end Go.Proofs.YtaojmbkmicjecaaGreat
namespace Go.Proofs.YtaojmbkmicjecaaGreat
open Go.RowKit
set_option maxRecDepth 100000
set_option maxHeartbeats 40000000
set_option linter.unusedVariables false
def list_AllN.m (k:Nat) (i1:Int) (i2:Bool):Option (List Int):=some ([])
theorem list_AllN.ok {w0 w:World} {F0:List Nat} {ps:List Piece} {k:Nat} {i1:Int} {i2:Bool} {r0:List Int} (hS:St w0 F0 (ps) w) (hm:list_AllN.m k i1 i2=some r0) :
    Calls Tryz.prog 34 #[.pointer none,nI i1,.bool (i2)] w fun e w'=>∃ vr0,e=.returned (vr0)∧St w0 F0 (RowP vr0 r0::ps) w':=by
 refine ev_enterL 45 [.pointer none,nI i1,.bool (i2)] Tryz.func34 rfl rfl (by simp) ?_
 intro a hF
 have hF0:Fr 45 a [(0,.pointer none),(1,nI i1),(2,.bool (i2))]:=hF; clear hF
 unfold list_AllN.m at hm
 refine wp_seq (wp_region_lit ?_)
 have hS2:St w0 F0 (RowP (.slice none 0 0) []::ps) w:=St.nil hS
 refine ev_runK 1 hF0 [0,1,2] (l':=[(0,.pointer none),(1,nI i1),(2,.bool (i2))]) (w':=w) (by kernel_rfl) ?_
 intro a4 hF3; clear hF0
 refine wpList_nil ?_
 have hS5:=hS2.drop
 clear hS2
 refine thenN (wp_seq (wp_region_lit ?_))
 refine ev_runs 2 hF3 (l':=[(15,nI i1),(14,.pointer none),(0,.pointer none),(1,nI i1),(2,.bool (i2))]) (w':=w) (by kernel_rfl) ?_
 intro a7 hF6; clear hF3
 refine ev_call 19 #[.pointer none,nI i1] hF6 rfl rfl (by kernel_rfl) rfl (by kernel_rfl) (fun w=>by kernel_rfl) ?_
 refine (p_ChanN hS5).mono ?_
 rintro _ w8 ⟨rfl,hS10⟩ a9 hF11; clear hF6 hS5
 refine ev_runs 4 hF11 (l':=[(7,nB w8),(18,nI 2),(17,.agg #[nI 0,nI 0,nI 0,nI 0,nI 0,nI 0,nI 0,nI 0,nI 0]),(13,.tuple #[.agg #[nI 0,nI 0,nI 0,nI 0,nI 0,nI 0,nI 0,nI 0,nI 0],nI 2]),(16,.tuple #[.agg #[nI 0,nI 0,nI 0,nI 0,nI 0,nI 0,nI 0,nI 0,nI 0],nI 2]),(15,nI i1),(14,.pointer none),(0,.pointer none),(1,nI i1),(2,.bool (i2))]) (w':=w8.alloc (.cells #[nI 0,nI 0,nI 0,nI 0,nI 0,nI 0,nI 0,nI 0,nI 0] 37)) (by kernel_rfl) ?_
 intro a13 hF12; clear hF11
 have hS15:St w0 F0 (BlkP (w8.heap.size) 37 #[nI 0,nI 0,nI 0,nI 0,nI 0,nI 0,nI 0,nI 0,nI 0]::ps) (w8.alloc (.cells #[nI 0,nI 0,nI 0,nI 0,nI 0,nI 0,nI 0,nI 0,nI 0] 37)):=St.new hS10 #[nI 0,nI 0,nI 0,nI 0,nI 0,nI 0,nI 0,nI 0,nI 0] 37
 clear hS10
 refine ev_store (.agg #[nI 0,nI 0,nI 0,nI 0,nI 0,nI 0,nI 0,nI 0,nI 0]) #[nI 0,nI 0,nI 0,nI 0,nI 0,nI 0,nI 0,nI 0,nI 0] hF12 (by kernel_rfl) rfl rfl rfl rfl (by kernel_rfl) hS15 (by kernel_rfl) (by kernel_rfl) (by kernel_rfl) (l':=[(7,nB w8),(18,nI 2),(17,.agg #[nI 0,nI 0,nI 0,nI 0,nI 0,nI 0,nI 0,nI 0,nI 0]),(13,.tuple #[.agg #[nI 0,nI 0,nI 0,nI 0,nI 0,nI 0,nI 0,nI 0,nI 0],nI 2]),(16,.tuple #[.agg #[nI 0,nI 0,nI 0,nI 0,nI 0,nI 0,nI 0,nI 0,nI 0],nI 2]),(15,nI i1),(14,.pointer none),(0,.pointer none),(1,nI i1),(2,.bool (i2))]) (by kernel_rfl) ?_
 intro w16 a17 hS18 hF19; clear hF12 hS15
 refine ev_runK 1 hF19 [0,2,7,8] (l':=[(8,nI 2),(7,nB w8),(0,.pointer none),(2,.bool (i2))]) (w':=w16) (by kernel_rfl) ?_
 intro a21 hF20; clear hF19
 refine wpList_nil (thenN (wp_seq (wp_seq (wp_region_lit ?_))))
 refine ev_runK 2 hF20 [0,2,7,20] (l':=[(20,.bool true),(7,nB w8),(0,.pointer none),(2,.bool (i2))]) (w':=w16) (by kernel_rfl) ?_
 intro a23 hF22; clear hF20
 refine wpList_nil (thenN ?_)
 refine ev_condT hF22 rfl rfl ?_
 refine wp_seq (wp_region_lit ?_)
 have hS25:St w0 F0 (RowP (.slice none 0 0) []::BlkP (w8.heap.size) 37 #[nI 0,nI 0,nI 0,nI 0,nI 0,nI 0,nI 0,nI 0,nI 0]::ps) w16:=St.nil hS18
 clear hS18
 refine ev_runK 1 hF22 [6] (l':=[(6,.slice none 0 0)]) (w':=w16) (by kernel_rfl) ?_
 intro a27 hF26; clear hF22
 refine wpList_nil ?_
 have hS28:=hS25.pick1.drop
 clear hS25
 refine thenN ?_
 refine wp_ret ?_
 refine thenR ?_
 obtain rfl:=Option.some.inj hm
 refine ev_ret hF26 [6] (.slice none 0 0) rfl rfl rfl ?_
 exact ⟨_,rfl,hS28⟩
def list_PushN.m (k:Nat) (i1:Int) (i2:Bool) (i3:Int):Option (Int):=some (2)
theorem list_PushN.ok {w0 w:World} {F0:List Nat} {ps:List Piece} {k:Nat} {i1:Int} {i2:Bool} {i3:Int} {r0:Int} (hS:St w0 F0 (ps) w) (hm:list_PushN.m k i1 i2 i3=some r0) :
    Calls Tryz.prog 29 #[.pointer none,nI i1,.bool (i2),nI i3] w fun e w'=>e=.returned (.int .i64 r0)∧St w0 F0 (ps) w':=by
 refine ev_enterL 64 [.pointer none,nI i1,.bool (i2),nI i3] Tryz.func29 rfl rfl (by simp) ?_
 intro a hF
 have hF0:Fr 64 a [(0,.pointer none),(1,nI i1),(2,.bool (i2)),(3,nI i3)]:=hF; clear hF
 unfold list_PushN.m at hm
 refine wp_seq (wp_region_lit ?_)
 refine ev_runK 1 hF0 [0,1,2,3] (l':=[(0,.pointer none),(1,nI i1),(2,.bool (i2)),(3,nI i3)]) (w':=w) (by kernel_rfl) ?_
 intro a2 hF1; clear hF0
 refine wpList_nil (thenN (wp_seq (wp_region_lit ?_)))
 refine ev_runs 2 hF1 (l':=[(15,nI i1),(14,.pointer none),(0,.pointer none),(1,nI i1),(2,.bool (i2)),(3,nI i3)]) (w':=w) (by kernel_rfl) ?_
 intro a4 hF3; clear hF1
 refine ev_call 19 #[.pointer none,nI i1] hF3 rfl rfl (by kernel_rfl) rfl (by kernel_rfl) (fun w=>by kernel_rfl) ?_
 refine (p_ChanN hS).mono ?_
 rintro _ w5 ⟨rfl,hS7⟩ a6 hF8; clear hF3 hS
 refine ev_runs 4 hF8 (l':=[(9,nB w5),(18,nI 2),(17,.agg #[nI 0,nI 0,nI 0,nI 0,nI 0,nI 0,nI 0,nI 0,nI 0]),(13,.tuple #[.agg #[nI 0,nI 0,nI 0,nI 0,nI 0,nI 0,nI 0,nI 0,nI 0],nI 2]),(16,.tuple #[.agg #[nI 0,nI 0,nI 0,nI 0,nI 0,nI 0,nI 0,nI 0,nI 0],nI 2]),(15,nI i1),(14,.pointer none),(0,.pointer none),(1,nI i1),(2,.bool (i2)),(3,nI i3)]) (w':=w5.alloc (.cells #[nI 0,nI 0,nI 0,nI 0,nI 0,nI 0,nI 0,nI 0,nI 0] 37)) (by kernel_rfl) ?_
 intro a10 hF9; clear hF8
 have hS12:St w0 F0 (BlkP (w5.heap.size) 37 #[nI 0,nI 0,nI 0,nI 0,nI 0,nI 0,nI 0,nI 0,nI 0]::ps) (w5.alloc (.cells #[nI 0,nI 0,nI 0,nI 0,nI 0,nI 0,nI 0,nI 0,nI 0] 37)):=St.new hS7 #[nI 0,nI 0,nI 0,nI 0,nI 0,nI 0,nI 0,nI 0,nI 0] 37
 clear hS7
 refine ev_store (.agg #[nI 0,nI 0,nI 0,nI 0,nI 0,nI 0,nI 0,nI 0,nI 0]) #[nI 0,nI 0,nI 0,nI 0,nI 0,nI 0,nI 0,nI 0,nI 0] hF9 (by kernel_rfl) rfl rfl rfl rfl (by kernel_rfl) hS12 (by kernel_rfl) (by kernel_rfl) (by kernel_rfl) (l':=[(9,nB w5),(18,nI 2),(17,.agg #[nI 0,nI 0,nI 0,nI 0,nI 0,nI 0,nI 0,nI 0,nI 0]),(13,.tuple #[.agg #[nI 0,nI 0,nI 0,nI 0,nI 0,nI 0,nI 0,nI 0,nI 0],nI 2]),(16,.tuple #[.agg #[nI 0,nI 0,nI 0,nI 0,nI 0,nI 0,nI 0,nI 0,nI 0],nI 2]),(15,nI i1),(14,.pointer none),(0,.pointer none),(1,nI i1),(2,.bool (i2)),(3,nI i3)]) (by kernel_rfl) ?_
 intro w13 a14 hS15 hF16; clear hF9 hS12
 refine ev_runK 1 hF16 [0,1,2,3,9,10] (l':=[(10,nI 2),(9,nB w5),(0,.pointer none),(1,nI i1),(2,.bool (i2)),(3,nI i3)]) (w':=w13) (by kernel_rfl) ?_
 intro a18 hF17; clear hF16
 refine wpList_nil (thenN (wp_seq (wp_seq (wp_region_lit ?_))))
 refine ev_runK 2 hF17 [0,1,2,3,9,10,20] (l':=[(20,.bool true),(10,nI 2),(9,nB w5),(0,.pointer none),(1,nI i1),(2,.bool (i2)),(3,nI i3)]) (w':=w13) (by kernel_rfl) ?_
 intro a20 hF19; clear hF17
 refine wpList_nil (thenN ?_)
 refine ev_condT hF19 rfl rfl ?_
 refine wp_seq (wp_region_lit ?_)
 refine ev_runK 2 hF19 [8] (l':=[(8,nI 2)]) (w':=w13) (by kernel_rfl) ?_
 intro a22 hF21; clear hF19
 refine wpList_nil ?_
 have hS23:=hS15.drop
 clear hS15
 refine thenN ?_
 refine wp_ret ?_
 refine thenR ?_
 obtain rfl:=Option.some.inj hm
 refine ev_ret hF21 [8] (nI 2) rfl rfl rfl ?_
 exact ⟨rfl,hS23⟩
def list_lookN.m (k:Nat) (i1:Int):Option (Option Su):=some (none)
theorem list_lookN.ok {w0 w:World} {F0:List Nat} {ps:List Piece} {k:Nat} {i1:Int} {r0:Option Su} (hS:St w0 F0 (ps) w) (hm:list_lookN.m k i1=some r0) :
    Calls Tryz.prog 81 #[.pointer none,nI i1] w fun e w'=>e=.returned (oSuV 54 r0)∧St w0 F0 (ps) w':=by
 refine ev_enterL 17 [.pointer none,nI i1] Tryz.func81 rfl rfl (by simp) ?_
 intro a hF
 have hF0:Fr 17 a [(0,.pointer none),(1,nI i1)]:=hF; clear hF
 unfold list_lookN.m at hm
 refine wp_seq (wp_region_lit ?_)
 refine ev_runK 1 hF0 [0,1] (l':=[(0,.pointer none),(1,nI i1)]) (w':=w) (by kernel_rfl) ?_
 intro a2 hF1; clear hF0
 refine wpList_nil (thenN (wp_seq (wp_region_lit ?_)))
 refine ev_runs 2 hF1 (l':=[(9,nI i1),(8,.pointer none),(0,.pointer none),(1,nI i1)]) (w':=w) (by kernel_rfl) ?_
 intro a4 hF3; clear hF1
 refine ev_call 30 #[.pointer none,nI i1] hF3 rfl rfl (by kernel_rfl) rfl (by kernel_rfl) (fun w=>by kernel_rfl) ?_
 refine (p_SudogN hS).mono ?_
 rintro _ w5 ⟨rfl,hS7⟩ a6 hF8; clear hF3 hS
 refine ev_runs 4 hF8 (l':=[(5,nB w5),(12,nI 2),(11,.agg #[nI 0,nI 0,nI 0,nI 0,nI 0,nI 0,nI 0]),(7,.tuple #[.agg #[nI 0,nI 0,nI 0,nI 0,nI 0,nI 0,nI 0],nI 2]),(10,.tuple #[.agg #[nI 0,nI 0,nI 0,nI 0,nI 0,nI 0,nI 0],nI 2]),(9,nI i1),(8,.pointer none),(0,.pointer none),(1,nI i1)]) (w':=w5.alloc (.cells #[nI 0,nI 0,nI 0,nI 0,nI 0,nI 0,nI 0] 54)) (by kernel_rfl) ?_
 intro a10 hF9; clear hF8
 have hS12:St w0 F0 (BlkP (w5.heap.size) 54 #[nI 0,nI 0,nI 0,nI 0,nI 0,nI 0,nI 0]::ps) (w5.alloc (.cells #[nI 0,nI 0,nI 0,nI 0,nI 0,nI 0,nI 0] 54)):=St.new hS7 #[nI 0,nI 0,nI 0,nI 0,nI 0,nI 0,nI 0] 54
 clear hS7
 refine ev_store (.agg #[nI 0,nI 0,nI 0,nI 0,nI 0,nI 0,nI 0]) #[nI 0,nI 0,nI 0,nI 0,nI 0,nI 0,nI 0] hF9 (by kernel_rfl) rfl rfl rfl rfl (by kernel_rfl) hS12 (by kernel_rfl) (by kernel_rfl) (by kernel_rfl) (l':=[(5,nB w5),(12,nI 2),(11,.agg #[nI 0,nI 0,nI 0,nI 0,nI 0,nI 0,nI 0]),(7,.tuple #[.agg #[nI 0,nI 0,nI 0,nI 0,nI 0,nI 0,nI 0],nI 2]),(10,.tuple #[.agg #[nI 0,nI 0,nI 0,nI 0,nI 0,nI 0,nI 0],nI 2]),(9,nI i1),(8,.pointer none),(0,.pointer none),(1,nI i1)]) (by kernel_rfl) ?_
 intro w13 a14 hS15 hF16; clear hF9 hS12
 refine ev_runK 1 hF16 [5,6] (l':=[(6,nI 2),(5,nB w5)]) (w':=w13) (by kernel_rfl) ?_
 intro a18 hF17; clear hF16
 refine wpList_nil (thenN (wp_seq (wp_seq (wp_region_lit ?_))))
 refine ev_runK 2 hF17 [5,14] (l':=[(14,.bool true),(5,nB w5)]) (w':=w13) (by kernel_rfl) ?_
 intro a20 hF19; clear hF17
 refine wpList_nil (thenN ?_)
 refine ev_condT hF19 rfl rfl ?_
 refine wp_seq (wp_region_lit ?_)
 refine ev_runK 1 hF19 [4] (l':=[(4,.nilIface)]) (w':=w13) (by kernel_rfl) ?_
 intro a22 hF21; clear hF19
 refine wpList_nil ?_
 have hS23:=hS15.drop
 clear hS15
 refine thenN ?_
 refine wp_ret ?_
 refine thenR ?_
 obtain rfl:=Option.some.inj hm
 refine ev_ret hF21 [4] (.nilIface) rfl rfl rfl ?_
 exact ⟨rfl,hS23⟩
theorem list_lookN.okc {w0 w:World} {F0:List Nat} {ps:List Piece} {i1:Int}  (hS:St w0 F0 (ps) w) :
    Calls Tryz.prog 81 #[.pointer none,nI i1] w fun e w'=>e=.returned (.nilIface)∧St w0 F0 (ps) w' :=
 list_lookN.ok (k:=0) hS rfl
def list_followN.m (k:Nat) (i1:Int) (i2:Int):Option Unit:=some ()
theorem list_followN.ok {w0 w:World} {F0:List Nat} {ps:List Piece} {k:Nat} {i1:Int} {i2:Int} (hS:St w0 F0 (ps) w) (hm:list_followN.m k i1 i2=some ()) :
    Calls Tryz.prog 79 #[.pointer none,nI i1,nI i2] w fun e w'=>e=.returned (.tuple #[])∧St w0 F0 (ps) w':=by
 refine ev_enterL 22 [.pointer none,nI i1,nI i2] Tryz.func79 rfl rfl (by simp) ?_
 intro a hF
 have hF0:Fr 22 a [(0,.pointer none),(1,nI i1),(2,nI i2)]:=hF; clear hF
 unfold list_followN.m at hm
 refine wp_seq (wp_region_lit ?_)
 refine ev_runs 2 hF0 (l':=[(10,nI i1),(9,.pointer none),(0,.pointer none),(1,nI i1),(2,nI i2)]) (w':=w) (by kernel_rfl) ?_
 intro a2 hF1; clear hF0
 refine ev_call 81 #[.pointer none,nI i1] hF1 rfl rfl (by kernel_rfl) rfl (by kernel_rfl) (fun w=>by kernel_rfl) ?_
 refine (list_lookN.okc hS).mono ?_
 rintro _ w3 ⟨rfl,hS5⟩ a4 hF6; clear hF1 hS
 refine ev_runs 5 hF6 (l':=[(6,nB w3),(14,.bool false),(13,.agg #[nI 0,nI 0,nI 0,nI 0,nI 0,nI 0,nI 0]),(8,.tuple #[.agg #[nI 0,nI 0,nI 0,nI 0,nI 0,nI 0,nI 0],.bool false]),(12,.tuple #[.agg #[nI 0,nI 0,nI 0,nI 0,nI 0,nI 0,nI 0],.bool false]),(11,.nilIface),(10,nI i1),(9,.pointer none),(0,.pointer none),(1,nI i1),(2,nI i2)]) (w':=w3.alloc (.cells #[nI 0,nI 0,nI 0,nI 0,nI 0,nI 0,nI 0] 54)) (by kernel_rfl) ?_
 intro a8 hF7; clear hF6
 have hS10:St w0 F0 (BlkP (w3.heap.size) 54 #[nI 0,nI 0,nI 0,nI 0,nI 0,nI 0,nI 0]::ps) (w3.alloc (.cells #[nI 0,nI 0,nI 0,nI 0,nI 0,nI 0,nI 0] 54)):=St.new hS5 #[nI 0,nI 0,nI 0,nI 0,nI 0,nI 0,nI 0] 54
 clear hS5
 refine ev_store (.agg #[nI 0,nI 0,nI 0,nI 0,nI 0,nI 0,nI 0]) #[nI 0,nI 0,nI 0,nI 0,nI 0,nI 0,nI 0] hF7 (by kernel_rfl) rfl rfl rfl rfl (by kernel_rfl) hS10 (by kernel_rfl) (by kernel_rfl) (by kernel_rfl) (l':=[(6,nB w3),(14,.bool false),(13,.agg #[nI 0,nI 0,nI 0,nI 0,nI 0,nI 0,nI 0]),(8,.tuple #[.agg #[nI 0,nI 0,nI 0,nI 0,nI 0,nI 0,nI 0],.bool false]),(12,.tuple #[.agg #[nI 0,nI 0,nI 0,nI 0,nI 0,nI 0,nI 0],.bool false]),(11,.nilIface),(10,nI i1),(9,.pointer none),(0,.pointer none),(1,nI i1),(2,nI i2)]) (by kernel_rfl) ?_
 intro w11 a12 hS13 hF14; clear hF7 hS10
 refine ev_runK 1 hF14 [0,1,2,6,7] (l':=[(7,.bool false),(6,nB w3),(0,.pointer none),(1,nI i1),(2,nI i2)]) (w':=w11) (by kernel_rfl) ?_
 intro a16 hF15; clear hF14
 refine wpList_nil (thenN (wp_seq (wp_region_lit ?_)))
 refine ev_runK 1 hF15 [0,1,2,6,15] (l':=[(15,.bool false),(6,nB w3),(0,.pointer none),(1,nI i1),(2,nI i2)]) (w':=w11) (by kernel_rfl) ?_
 intro a18 hF17; clear hF15
 refine wpList_nil (thenN ?_)
 refine ev_condF hF17 rfl rfl ?_
 refine wp_skip ?_
 have hF19:=hF17.keep []
 clear hF17
 have hS20:=hS13.drop
 clear hS13
 refine ev_retN hF19 [] (.tuple #[]) rfl rfl rfl ?_
 exact ⟨rfl,hS20⟩
def list_PopN.m (k:Nat) (i1:Int) (i2:Bool):Option (Int×Bool):=some (0,false)
theorem list_PopN.ok {w0 w:World} {F0:List Nat} {ps:List Piece} {k:Nat} {i1:Int} {i2:Bool} {r0:Int} {r1:Bool} (hS:St w0 F0 (ps) w) (hm:list_PopN.m k i1 i2=some (r0,r1)) :
    Calls Tryz.prog 32 #[.pointer none,nI i1,.bool (i2)] w fun e w'=>e=.returned (.tuple #[.int .i64 r0,.bool r1])∧St w0 F0 (ps) w':=by
 refine ev_enterL 54 [.pointer none,nI i1,.bool (i2)] Tryz.func32 rfl rfl (by simp) ?_
 intro a hF
 have hF0:Fr 54 a [(0,.pointer none),(1,nI i1),(2,.bool (i2))]:=hF; clear hF
 unfold list_PopN.m at hm
 refine wp_seq (wp_region_lit ?_)
 refine ev_runK 2 hF0 [0,1,2] (l':=[(0,.pointer none),(1,nI i1),(2,.bool (i2))]) (w':=w) (by kernel_rfl) ?_
 intro a2 hF1; clear hF0
 refine wpList_nil (thenN (wp_seq (wp_region_lit ?_)))
 refine ev_runs 2 hF1 (l':=[(16,nI i1),(15,.pointer none),(0,.pointer none),(1,nI i1),(2,.bool (i2))]) (w':=w) (by kernel_rfl) ?_
 intro a4 hF3; clear hF1
 refine ev_call 19 #[.pointer none,nI i1] hF3 rfl rfl (by kernel_rfl) rfl (by kernel_rfl) (fun w=>by kernel_rfl) ?_
 refine (p_ChanN hS).mono ?_
 rintro _ w5 ⟨rfl,hS7⟩ a6 hF8; clear hF3 hS
 refine ev_runs 4 hF8 (l':=[(8,nB w5),(19,nI 2),(18,.agg #[nI 0,nI 0,nI 0,nI 0,nI 0,nI 0,nI 0,nI 0,nI 0]),(14,.tuple #[.agg #[nI 0,nI 0,nI 0,nI 0,nI 0,nI 0,nI 0,nI 0,nI 0],nI 2]),(17,.tuple #[.agg #[nI 0,nI 0,nI 0,nI 0,nI 0,nI 0,nI 0,nI 0,nI 0],nI 2]),(16,nI i1),(15,.pointer none),(0,.pointer none),(1,nI i1),(2,.bool (i2))]) (w':=w5.alloc (.cells #[nI 0,nI 0,nI 0,nI 0,nI 0,nI 0,nI 0,nI 0,nI 0] 37)) (by kernel_rfl) ?_
 intro a10 hF9; clear hF8
 have hS12:St w0 F0 (BlkP (w5.heap.size) 37 #[nI 0,nI 0,nI 0,nI 0,nI 0,nI 0,nI 0,nI 0,nI 0]::ps) (w5.alloc (.cells #[nI 0,nI 0,nI 0,nI 0,nI 0,nI 0,nI 0,nI 0,nI 0] 37)):=St.new hS7 #[nI 0,nI 0,nI 0,nI 0,nI 0,nI 0,nI 0,nI 0,nI 0] 37
 clear hS7
 refine ev_store (.agg #[nI 0,nI 0,nI 0,nI 0,nI 0,nI 0,nI 0,nI 0,nI 0]) #[nI 0,nI 0,nI 0,nI 0,nI 0,nI 0,nI 0,nI 0,nI 0] hF9 (by kernel_rfl) rfl rfl rfl rfl (by kernel_rfl) hS12 (by kernel_rfl) (by kernel_rfl) (by kernel_rfl) (l':=[(8,nB w5),(19,nI 2),(18,.agg #[nI 0,nI 0,nI 0,nI 0,nI 0,nI 0,nI 0,nI 0,nI 0]),(14,.tuple #[.agg #[nI 0,nI 0,nI 0,nI 0,nI 0,nI 0,nI 0,nI 0,nI 0],nI 2]),(17,.tuple #[.agg #[nI 0,nI 0,nI 0,nI 0,nI 0,nI 0,nI 0,nI 0,nI 0],nI 2]),(16,nI i1),(15,.pointer none),(0,.pointer none),(1,nI i1),(2,.bool (i2))]) (by kernel_rfl) ?_
 intro w13 a14 hS15 hF16; clear hF9 hS12
 refine ev_runK 1 hF16 [0,1,2,8,9] (l':=[(9,nI 2),(8,nB w5),(0,.pointer none),(1,nI i1),(2,.bool (i2))]) (w':=w13) (by kernel_rfl) ?_
 intro a18 hF17; clear hF16
 refine wpList_nil (thenN (wp_seq (wp_seq (wp_region_lit ?_))))
 refine ev_runK 2 hF17 [0,1,2,8,21] (l':=[(21,.bool true),(8,nB w5),(0,.pointer none),(1,nI i1),(2,.bool (i2))]) (w':=w13) (by kernel_rfl) ?_
 intro a20 hF19; clear hF17
 refine wpList_nil (thenN ?_)
 refine ev_condT hF19 rfl rfl ?_
 refine wp_seq (wp_region_lit ?_)
 refine ev_runK 2 hF19 [6,7] (l':=[(7,.bool false),(6,nI 0)]) (w':=w13) (by kernel_rfl) ?_
 intro a22 hF21; clear hF19
 refine wpList_nil ?_
 have hS23:=hS15.drop
 clear hS15
 refine thenN ?_
 refine wp_ret ?_
 refine thenR ?_
 simp only [Option.some.injEq,Prod.mk.injEq] at hm
 obtain ⟨rfl,rfl⟩:=hm
 refine ev_ret hF21 [6,7] (.tuple #[nI 0,.bool false]) rfl rfl rfl ?_
 exact ⟨rfl,hS23⟩
def list_RemoveN.j2 (i2:Bool) (i3:Int) (k:Nat) (x96:Int) (x111:Int):Option (Bool):=bind1 (list_into.m k (⟨0,0,0,0,0,0,0,0,0⟩:Ch) (i2) (⟨x96,x111⟩:En)) fun q127=>bind1 (list_followN.m k i3 (-1)) fun u142=>some (true)
def list_RemoveN.j1 (i2:Bool) (i3:Int) (k:Nat) (q77:En) (x96:Int) (x97:Int):Option (Bool):=(if (q77.tail == i3) then list_RemoveN.j2 i2 i3 k x96 x97 else list_RemoveN.j2 i2 i3 k x96 q77.tail)
def list_RemoveN.m (k:Nat) (i1:Int) (i2:Bool) (i3:Int):Option (Bool):=bind1 (list_AllN.m k i1 (i2)) fun L5=>bind1 (slices_Index.m k L5 i3) fun x22=>(if (decide (x22<0)) then some (false) else bind1 (list_of.m k (⟨0,0,0,0,0,0,0,0,0⟩:Ch) (i2)) fun q77=>(if (decide (x22 > 0)) then (if (inR (IntKind.i64.wrap (x22 - 1)) L5.length) then bind1 (list_followN.m k (atI L5 (IntKind.i64.wrap (x22 - 1))) 0) fun u182=>list_RemoveN.j1 i2 i3 k q77 q77.head (atI L5 (IntKind.i64.wrap (x22 - 1))) else none) else list_RemoveN.j1 i2 i3 k q77 0 (-1)))
theorem list_RemoveN.ok {w0 w:World} {F0:List Nat} {ps:List Piece} {k:Nat} {i1:Int} {i2:Bool} {i3:Int} {r0:Bool} (hS:St w0 F0 (ps) w) (hm:list_RemoveN.m k i1 i2 i3=some r0) :
    Calls Tryz.prog 33 #[.pointer none,nI i1,.bool (i2),nI i3] w fun e w'=>e=.returned (.bool r0)∧St w0 F0 (ps) w':=by
 refine ev_enterL 72 [.pointer none,nI i1,.bool (i2),nI i3] Tryz.func33 rfl rfl (by simp) ?_
 intro a hF
 have hF0:Fr 72 a [(0,.pointer none),(1,nI i1),(2,.bool (i2)),(3,nI i3)]:=hF; clear hF
 unfold list_RemoveN.m at hm
 refine wp_seq (wp_region_lit ?_)
 refine ev_runK 1 hF0 [0,1,2,3] (l':=[(0,.pointer none),(1,nI i1),(2,.bool (i2)),(3,nI i3)]) (w':=w) (by kernel_rfl) ?_
 intro a2 hF1; clear hF0
 refine wpList_nil (thenN (wp_seq (wp_region_lit ?_)))
 refine ev_runs 3 hF1 (l':=[(19,.bool (i2)),(18,nI i1),(17,.pointer none),(0,.pointer none),(1,nI i1),(2,.bool (i2)),(3,nI i3)]) (w':=w) (by kernel_rfl) ?_
 intro a4 hF3; clear hF1
 refine ev_call 34 #[.pointer none,nI i1,.bool (i2)] hF3 rfl rfl (by kernel_rfl) rfl (by kernel_rfl) (fun w=>by kernel_rfl) ?_
 obtain ⟨L5,hx6,hm7⟩:=bind1E hm; clear hm
 refine (list_AllN.ok hS hx6).mono ?_
 rintro _ w8 ⟨z12,rfl,hS10⟩ a9 hF11; clear hF3 hS
 obtain ⟨hl17,p14,c15,rfl,hp16⟩:=St.shape hS10 0 rfl
 refine ev_runK 1 hF11 [0,1,2,3,9] (l':=[(9,.slice p14 L5.length c15),(0,.pointer none),(1,nI i1),(2,.bool (i2)),(3,nI i3)]) (w':=w8) (by kernel_rfl) ?_
 intro a19 hF18; clear hF11
 refine wpList_nil (thenN (wp_seq (wp_region_lit ?_)))
 refine ev_runs 2 hF18 (l':=[(22,nI i3),(21,.slice p14 L5.length c15),(9,.slice p14 L5.length c15),(0,.pointer none),(1,nI i1),(2,.bool (i2)),(3,nI i3)]) (w':=w8) (by kernel_rfl) ?_
 intro a21 hF20; clear hF18
 refine ev_call 82 #[.slice p14 L5.length c15,nI i3] hF20 rfl rfl (by kernel_rfl) rfl (by kernel_rfl) (fun w=>by kernel_rfl) ?_
 obtain ⟨x22,hx23,hm24⟩:=bind1E hm7; clear hm7
 refine (slices_Index.ok hS10 hx23).mono ?_
 rintro _ w25 ⟨rfl,hS27⟩ a26 hF28; clear hF20 hS10
 refine ev_runK 1 hF28 [0,1,2,3,9,10] (l':=[(10,nI x22),(9,.slice p14 L5.length c15),(0,.pointer none),(1,nI i1),(2,.bool (i2)),(3,nI i3)]) (w':=w25) (by kernel_rfl) ?_
 intro a30 hF29; clear hF28
 refine wpList_nil (thenN (wp_seq (wp_seq (wp_region_lit ?_))))
 refine ev_runK 2 hF29 [0,1,2,3,9,10,25] (l':=[(25,.bool (decide (x22<0))),(10,nI x22),(9,.slice p14 L5.length c15),(0,.pointer none),(1,nI i1),(2,.bool (i2)),(3,nI i3)]) (w':=w25) (by kernel_rfl) ?_
 intro a32 hF31; clear hF29
 refine wpList_nil (thenN ?_)
 cases hc33:(decide (x22<0))
 case true =>
  rw [hc33] at hF31
  have hm34:=ifYes hc33 hm24; clear hm24
  refine ev_condT hF31 rfl rfl ?_
  refine wp_seq (wp_region_lit ?_)
  refine ev_runK 1 hF31 [8] (l':=[(8,.bool false)]) (w':=w25) (by kernel_rfl) ?_
  intro a36 hF35; clear hF31
  refine wpList_nil ?_
  have hS37:=hS27.drop
  clear hS27
  refine thenN ?_
  refine wp_ret ?_
  refine thenR ?_
  obtain rfl:=Option.some.inj hm34
  refine ev_ret hF35 [8] (.bool false) rfl rfl rfl ?_
  exact ⟨rfl,hS37⟩
 rw [hc33] at hF31
 have hm39:=ifNot hc33 hm24; clear hm24
 refine ev_condF hF31 rfl rfl ?_
 refine wp_skip ?_
 have hF40:=hF31.keep [0,1,2,3,9,10]
 clear hF31
 refine thenN (wp_seq (wp_region_lit ?_))
 refine ev_runs 2 hF40 (l':=[(28,nI i1),(27,.pointer none),(10,nI x22),(9,.slice p14 L5.length c15),(0,.pointer none),(1,nI i1),(2,.bool (i2)),(3,nI i3)]) (w':=w25) (by kernel_rfl) ?_
 intro a42 hF41; clear hF40
 refine ev_call 19 #[.pointer none,nI i1] hF41 rfl rfl (by kernel_rfl) rfl (by kernel_rfl) (fun w=>by kernel_rfl) ?_
 refine (p_ChanN hS27).mono ?_
 rintro _ w43 ⟨rfl,hS45⟩ a44 hF46; clear hF41 hS27
 refine ev_runs 4 hF46 (l':=[(11,nB w43),(31,nI 2),(30,.agg #[nI 0,nI 0,nI 0,nI 0,nI 0,nI 0,nI 0,nI 0,nI 0]),(26,.tuple #[.agg #[nI 0,nI 0,nI 0,nI 0,nI 0,nI 0,nI 0,nI 0,nI 0],nI 2]),(29,.tuple #[.agg #[nI 0,nI 0,nI 0,nI 0,nI 0,nI 0,nI 0,nI 0,nI 0],nI 2]),(28,nI i1),(27,.pointer none),(10,nI x22),(9,.slice p14 L5.length c15),(0,.pointer none),(1,nI i1),(2,.bool (i2)),(3,nI i3)]) (w':=w43.alloc (.cells #[nI 0,nI 0,nI 0,nI 0,nI 0,nI 0,nI 0,nI 0,nI 0] 37)) (by kernel_rfl) ?_
 intro a48 hF47; clear hF46
 have hS50:St w0 F0 (BlkP (w43.heap.size) 37 #[nI 0,nI 0,nI 0,nI 0,nI 0,nI 0,nI 0,nI 0,nI 0]::RowP (.slice p14 L5.length c15) L5::ps) (w43.alloc (.cells #[nI 0,nI 0,nI 0,nI 0,nI 0,nI 0,nI 0,nI 0,nI 0] 37)):=St.new hS45 #[nI 0,nI 0,nI 0,nI 0,nI 0,nI 0,nI 0,nI 0,nI 0] 37
 clear hS45
 refine ev_store (.agg #[nI 0,nI 0,nI 0,nI 0,nI 0,nI 0,nI 0,nI 0,nI 0]) #[nI 0,nI 0,nI 0,nI 0,nI 0,nI 0,nI 0,nI 0,nI 0] hF47 (by kernel_rfl) rfl rfl rfl rfl (by kernel_rfl) hS50 (by kernel_rfl) (by kernel_rfl) (by kernel_rfl) (l':=[(11,nB w43),(31,nI 2),(30,.agg #[nI 0,nI 0,nI 0,nI 0,nI 0,nI 0,nI 0,nI 0,nI 0]),(26,.tuple #[.agg #[nI 0,nI 0,nI 0,nI 0,nI 0,nI 0,nI 0,nI 0,nI 0],nI 2]),(29,.tuple #[.agg #[nI 0,nI 0,nI 0,nI 0,nI 0,nI 0,nI 0,nI 0,nI 0],nI 2]),(28,nI i1),(27,.pointer none),(10,nI x22),(9,.slice p14 L5.length c15),(0,.pointer none),(1,nI i1),(2,.bool (i2)),(3,nI i3)]) (by kernel_rfl) ?_
 intro w51 a52 hS53 hF54; clear hF47 hS50
 refine ev_runK 1 hF54 [0,1,2,3,9,10,11] (l':=[(11,nB w43),(10,nI x22),(9,.slice p14 L5.length c15),(0,.pointer none),(1,nI i1),(2,.bool (i2)),(3,nI i3)]) (w':=w51) (by kernel_rfl) ?_
 intro a56 hF55; clear hF54
 refine wpList_nil (thenN (wp_seq (wp_region_lit ?_)))
 refine ev_runs 2 hF55 (l':=[(34,nI i3),(33,.pointer none),(11,nB w43),(10,nI x22),(9,.slice p14 L5.length c15),(0,.pointer none),(1,nI i1),(2,.bool (i2)),(3,nI i3)]) (w':=w51) (by kernel_rfl) ?_
 intro a58 hF57; clear hF55
 refine ev_call 30 #[.pointer none,nI i3] hF57 rfl rfl (by kernel_rfl) rfl (by kernel_rfl) (fun w=>by kernel_rfl) ?_
 refine (p_SudogN hS53).mono ?_
 rintro _ w59 ⟨rfl,hS61⟩ a60 hF62; clear hF57 hS53
 refine ev_runs 4 hF62 (l':=[(13,nB w59),(37,nI 2),(36,.agg #[nI 0,nI 0,nI 0,nI 0,nI 0,nI 0,nI 0]),(32,.tuple #[.agg #[nI 0,nI 0,nI 0,nI 0,nI 0,nI 0,nI 0],nI 2]),(35,.tuple #[.agg #[nI 0,nI 0,nI 0,nI 0,nI 0,nI 0,nI 0],nI 2]),(34,nI i3),(33,.pointer none),(11,nB w43),(10,nI x22),(9,.slice p14 L5.length c15),(0,.pointer none),(1,nI i1),(2,.bool (i2)),(3,nI i3)]) (w':=w59.alloc (.cells #[nI 0,nI 0,nI 0,nI 0,nI 0,nI 0,nI 0] 54)) (by kernel_rfl) ?_
 intro a64 hF63; clear hF62
 have hS66:St w0 F0 (BlkP (w59.heap.size) 54 #[nI 0,nI 0,nI 0,nI 0,nI 0,nI 0,nI 0]::BlkP (w43.heap.size) 37 #[nI 0,nI 0,nI 0,nI 0,nI 0,nI 0,nI 0,nI 0,nI 0]::RowP (.slice p14 L5.length c15) L5::ps) (w59.alloc (.cells #[nI 0,nI 0,nI 0,nI 0,nI 0,nI 0,nI 0] 54)):=St.new hS61 #[nI 0,nI 0,nI 0,nI 0,nI 0,nI 0,nI 0] 54
 clear hS61
 refine ev_store (.agg #[nI 0,nI 0,nI 0,nI 0,nI 0,nI 0,nI 0]) #[nI 0,nI 0,nI 0,nI 0,nI 0,nI 0,nI 0] hF63 (by kernel_rfl) rfl rfl rfl rfl (by kernel_rfl) hS66 (by kernel_rfl) (by kernel_rfl) (by kernel_rfl) (l':=[(13,nB w59),(37,nI 2),(36,.agg #[nI 0,nI 0,nI 0,nI 0,nI 0,nI 0,nI 0]),(32,.tuple #[.agg #[nI 0,nI 0,nI 0,nI 0,nI 0,nI 0,nI 0],nI 2]),(35,.tuple #[.agg #[nI 0,nI 0,nI 0,nI 0,nI 0,nI 0,nI 0],nI 2]),(34,nI i3),(33,.pointer none),(11,nB w43),(10,nI x22),(9,.slice p14 L5.length c15),(0,.pointer none),(1,nI i1),(2,.bool (i2)),(3,nI i3)]) (by kernel_rfl) ?_
 intro w67 a68 hS69 hF70; clear hF63 hS66
 refine ev_runK 1 hF70 [0,1,2,3,9,10,11,13] (l':=[(13,nB w59),(11,nB w43),(10,nI x22),(9,.slice p14 L5.length c15),(0,.pointer none),(1,nI i1),(2,.bool (i2)),(3,nI i3)]) (w':=w67) (by kernel_rfl) ?_
 intro a72 hF71; clear hF70
 refine wpList_nil (thenN (wp_seq (wp_region_lit ?_)))
 refine ev_one (.agg #[nI 0,nI 0,nI 0,nI 0,nI 0,nI 0,nI 0,nI 0,nI 0]) w67 hF71 (by kernel_rfl) rfl (by kernel_rfl) (run_loadV rfl rfl (run_loadA (cs:=[nI 0,nI 0,nI 0,nI 0,nI 0,nI 0,nI 0,nI 0,nI 0]) rfl rfl (by kernel_rfl) (blk_cells hS69 1 rfl rfl))) (l':=[(38,.agg #[nI 0,nI 0,nI 0,nI 0,nI 0,nI 0,nI 0,nI 0,nI 0]),(13,nB w59),(11,nB w43),(10,nI x22),(9,.slice p14 L5.length c15),(0,.pointer none),(1,nI i1),(2,.bool (i2)),(3,nI i3)]) (by kernel_rfl) ?_
 intro a74 hF73; clear hF71
 refine ev_runs 1 hF73 (l':=[(39,.bool (i2)),(38,.agg #[nI 0,nI 0,nI 0,nI 0,nI 0,nI 0,nI 0,nI 0,nI 0]),(13,nB w59),(11,nB w43),(10,nI x22),(9,.slice p14 L5.length c15),(0,.pointer none),(1,nI i1),(2,.bool (i2)),(3,nI i3)]) (w':=w67) (by kernel_rfl) ?_
 intro a76 hF75; clear hF73
 refine ev_call 78 #[.agg #[nI 0,nI 0,nI 0,nI 0,nI 0,nI 0,nI 0,nI 0,nI 0],.bool (i2)] hF75 rfl rfl (by kernel_rfl) rfl (by kernel_rfl) (fun w=>by kernel_rfl) ?_
 obtain ⟨q77,hx78,hm79⟩:=bind1E hm39; clear hm39
 refine (list_of.ok hS69 hx78).mono ?_
 rintro _ w80 ⟨rfl,hS82⟩ a81 hF83; clear hF75 hS69
 refine ev_runs 1 hF83 (l':=[(15,nB w80),(40,.agg #[nI (q77.head),nI (q77.tail)]),(39,.bool (i2)),(38,.agg #[nI 0,nI 0,nI 0,nI 0,nI 0,nI 0,nI 0,nI 0,nI 0]),(13,nB w59),(11,nB w43),(10,nI x22),(9,.slice p14 L5.length c15),(0,.pointer none),(1,nI i1),(2,.bool (i2)),(3,nI i3)]) (w':=w80.alloc (.cells #[nI 0,nI 0] 122)) (by kernel_rfl) ?_
 intro a85 hF84; clear hF83
 have hS87:St w0 F0 (BlkP (w80.heap.size) 122 #[nI 0,nI 0]::BlkP (w59.heap.size) 54 #[nI 0,nI 0,nI 0,nI 0,nI 0,nI 0,nI 0]::BlkP (w43.heap.size) 37 #[nI 0,nI 0,nI 0,nI 0,nI 0,nI 0,nI 0,nI 0,nI 0]::RowP (.slice p14 L5.length c15) L5::ps) (w80.alloc (.cells #[nI 0,nI 0] 122)):=St.new hS82 #[nI 0,nI 0] 122
 clear hS82
 refine ev_store (.agg #[nI (q77.head),nI (q77.tail)]) #[nI (q77.head),nI (q77.tail)] hF84 (by kernel_rfl) rfl rfl rfl rfl (by kernel_rfl) hS87 (by kernel_rfl) (by kernel_rfl) (by kernel_rfl) (l':=[(15,nB w80),(40,.agg #[nI (q77.head),nI (q77.tail)]),(39,.bool (i2)),(38,.agg #[nI 0,nI 0,nI 0,nI 0,nI 0,nI 0,nI 0,nI 0,nI 0]),(13,nB w59),(11,nB w43),(10,nI x22),(9,.slice p14 L5.length c15),(0,.pointer none),(1,nI i1),(2,.bool (i2)),(3,nI i3)]) (by kernel_rfl) ?_
 intro w88 a89 hS90 hF91; clear hF84 hS87
 refine ev_runK 1 hF91 [0,1,2,3,9,10,11,13,15,16] (l':=[(16,nI (-1)),(15,nB w80),(13,nB w59),(11,nB w43),(10,nI x22),(9,.slice p14 L5.length c15),(0,.pointer none),(1,nI i1),(2,.bool (i2)),(3,nI i3)]) (w':=w88) (by kernel_rfl) ?_
 intro a93 hF92; clear hF91
 refine wpList_nil (thenN (wp_seq (wp_seq (wp_region_lit ?_))))
 refine ev_runK 2 hF92 [0,1,2,3,9,10,11,13,15,16,42] (l':=[(42,.bool (decide (x22 > 0))),(16,nI (-1)),(15,nB w80),(13,nB w59),(11,nB w43),(10,nI x22),(9,.slice p14 L5.length c15),(0,.pointer none),(1,nI i1),(2,.bool (i2)),(3,nI i3)]) (w':=w88) (by kernel_rfl) ?_
 intro a95 hF94; clear hF92
 refine wpList_nil (thenN ?_)
 refine joinQ (fun aI wI=>∃ (x96:Int) (x97:Int),Fr 72 aI [(16,nI x97),(15,nB w80),(11,nB w43),(0,.pointer none),(1,nI i1),(2,.bool (i2)),(3,nI i3)]∧St w0 F0 (BlkP (w80.heap.size) 122 #[nI x96,nI (q77.tail)]::BlkP (w43.heap.size) 37 #[nI 0,nI 0,nI 0,nI 0,nI 0,nI 0,nI 0,nI 0,nI 0]::ps) wI∧list_RemoveN.j1 i2 i3 k q77 x96 x97=some r0) ?_ ?_
 rotate_left
 · rintro a99 w100 ⟨x96,x97,hF101,hS102,hm103⟩
   clear hF94 hS90 hm79
   unfold list_RemoveN.j1 at hm103
   refine thenN (wp_seq (wp_seq (wp_region_lit ?_)))
   refine ev_runs 1 hF101 (l':=[(56,nP (w80.heap.size) 1),(16,nI x97),(15,nB w80),(11,nB w43),(0,.pointer none),(1,nI i1),(2,.bool (i2)),(3,nI i3)]) (w':=w100) (by kernel_rfl) ?_
   intro a106 hF105; clear hF101
   refine ev_one (nI (q77.tail)) w100 hF105 (by kernel_rfl) rfl (by kernel_rfl) (run_loadV rfl rfl (run_loadS rfl rfl (hS102.cell 0 rfl 1 rfl))) (l':=[(57,nI (q77.tail)),(56,nP (w80.heap.size) 1),(16,nI x97),(15,nB w80),(11,nB w43),(0,.pointer none),(1,nI i1),(2,.bool (i2)),(3,nI i3)]) (by kernel_rfl) ?_
   intro a108 hF107; clear hF105
   refine ev_runK 2 hF107 [0,1,2,3,11,15,16,59] (l':=[(59,.bool (q77.tail == i3)),(16,nI x97),(15,nB w80),(11,nB w43),(0,.pointer none),(1,nI i1),(2,.bool (i2)),(3,nI i3)]) (w':=w100) (by kernel_rfl) ?_
   intro a110 hF109; clear hF107
   refine wpList_nil (thenN ?_)
   refine joinQ (fun aI wI=>∃ (x111:Int),Fr 72 aI [(15,nB w80),(11,nB w43),(0,.pointer none),(1,nI i1),(2,.bool (i2)),(3,nI i3)]∧St w0 F0 (BlkP (w80.heap.size) 122 #[nI x96,nI x111]::BlkP (w43.heap.size) 37 #[nI 0,nI 0,nI 0,nI 0,nI 0,nI 0,nI 0,nI 0,nI 0]::ps) wI∧list_RemoveN.j2 i2 i3 k x96 x111=some r0) ?_ ?_
   rotate_left
   · rintro a113 w114 ⟨x111,hF115,hS116,hm117⟩
     clear hF109 hS102 hm103
     unfold list_RemoveN.j2 at hm117
     refine thenN (wp_seq (wp_region_lit ?_))
     refine ev_runs 2 hF115 (l':=[(63,nI i1),(62,.pointer none),(15,nB w80),(11,nB w43),(0,.pointer none),(1,nI i1),(2,.bool (i2)),(3,nI i3)]) (w':=w114) (by kernel_rfl) ?_
     intro a120 hF119; clear hF115
     refine ev_one (.agg #[nI 0,nI 0,nI 0,nI 0,nI 0,nI 0,nI 0,nI 0,nI 0]) w114 hF119 (by kernel_rfl) rfl (by kernel_rfl) (run_loadV rfl rfl (run_loadA (cs:=[nI 0,nI 0,nI 0,nI 0,nI 0,nI 0,nI 0,nI 0,nI 0]) rfl rfl (by kernel_rfl) (blk_cells hS116 1 rfl rfl))) (l':=[(64,.agg #[nI 0,nI 0,nI 0,nI 0,nI 0,nI 0,nI 0,nI 0,nI 0]),(63,nI i1),(62,.pointer none),(15,nB w80),(11,nB w43),(0,.pointer none),(1,nI i1),(2,.bool (i2)),(3,nI i3)]) (by kernel_rfl) ?_
     intro a122 hF121; clear hF119
     refine ev_runs 1 hF121 (l':=[(65,.bool (i2)),(64,.agg #[nI 0,nI 0,nI 0,nI 0,nI 0,nI 0,nI 0,nI 0,nI 0]),(63,nI i1),(62,.pointer none),(15,nB w80),(11,nB w43),(0,.pointer none),(1,nI i1),(2,.bool (i2)),(3,nI i3)]) (w':=w114) (by kernel_rfl) ?_
     intro a124 hF123; clear hF121
     refine ev_one (.agg #[nI x96,nI x111]) w114 hF123 (by kernel_rfl) rfl (by kernel_rfl) (run_loadV rfl rfl (run_loadA (cs:=[nI x96,nI x111]) rfl rfl (by kernel_rfl) (blk_cells hS116 0 rfl rfl))) (l':=[(66,.agg #[nI x96,nI x111]),(65,.bool (i2)),(64,.agg #[nI 0,nI 0,nI 0,nI 0,nI 0,nI 0,nI 0,nI 0,nI 0]),(63,nI i1),(62,.pointer none),(15,nB w80),(11,nB w43),(0,.pointer none),(1,nI i1),(2,.bool (i2)),(3,nI i3)]) (by kernel_rfl) ?_
     intro a126 hF125; clear hF123
     refine ev_call 80 #[.agg #[nI 0,nI 0,nI 0,nI 0,nI 0,nI 0,nI 0,nI 0,nI 0],.bool (i2),.agg #[nI x96,nI x111]] hF125 rfl rfl (by kernel_rfl) rfl (by kernel_rfl) (fun w=>by kernel_rfl) ?_
     obtain ⟨q127,hx128,hm129⟩:=bind1E hm117; clear hm117
     refine (list_into.ok hS116 hx128).mono ?_
     rintro _ w130 ⟨rfl,hS132⟩ a131 hF133; clear hF125 hS116
     refine ev_call 23 #[.pointer none,nI i1,.agg #[nI (q127.cap),nI (q127.closed),nI (q127.count),nI (q127.start),nI (q127.buf),nI (q127.th),nI (q127.tt),nI (q127.sh),nI (q127.st)]] hF133 rfl rfl (by kernel_rfl) rfl (by kernel_rfl) (fun w=>by kernel_rfl) ?_
     refine (p_PutChanN (c:=(⟨q127.cap,q127.closed,q127.count,q127.start,q127.buf,q127.th,q127.tt,q127.sh,q127.st⟩:Ch)) hS132).mono ?_
     rintro _ w134 ⟨rfl,hS136⟩ a135 hF137; clear hF133 hS132
     refine wpList_nil ?_
     have hF138:=hF137.keep [0,3]
     clear hF137
     have hS139:=hS136.drop.drop
     clear hS136
     refine thenN (wp_seq (wp_region_lit ?_))
     refine ev_runs 2 hF138 (l':=[(70,nI i3),(69,.pointer none),(0,.pointer none),(3,nI i3)]) (w':=w134) (by kernel_rfl) ?_
     intro a141 hF140; clear hF138
     refine ev_call 79 #[.pointer none,nI i3,nI (-1)] hF140 rfl rfl (by kernel_rfl) rfl (by kernel_rfl) (fun w=>by kernel_rfl) ?_
     obtain ⟨u142,hx143,hm144⟩:=bind1E hm129; clear hm129
     refine (list_followN.ok hS139 hx143).mono ?_
     rintro _ w145 ⟨rfl,hS147⟩ a146 hF148; clear hF140 hS139
     refine wpList_nil ?_
     have hF149:=hF148.keep []
     clear hF148
     refine thenN (wp_seq (wp_region_lit ?_))
     refine ev_runs 1 hF149 (l':=[(8,.bool true)]) (w':=w145) (by kernel_rfl) ?_
     intro a151 hF150; clear hF149
     refine wpList_nil (thenN ?_)
     refine wp_ret ?_
     obtain rfl:=Option.some.inj hm144
     refine ev_ret hF150 [8] (.bool true) rfl rfl rfl ?_
     exact ⟨rfl,hS147⟩
   · skip
     cases hc153:(q77.tail == i3)
     case true =>
      rw [hc153] at hF109
      have hm154:=ifYes hc153 hm103; clear hm103
      refine ev_condT hF109 rfl rfl ?_
      refine wp_region_lit ?_
      refine ev_runs 2 hF109 (l':=[(61,nP (w80.heap.size) 1),(60,nI x97),(59,.bool true),(16,nI x97),(15,nB w80),(11,nB w43),(0,.pointer none),(1,nI i1),(2,.bool (i2)),(3,nI i3)]) (w':=w100) (by kernel_rfl) ?_
      intro a156 hF155; clear hF109
      refine ev_store (nI x97) #[nI x96,nI x97] hF155 (by kernel_rfl) rfl rfl rfl rfl (by kernel_rfl) hS102 (by kernel_rfl) (by kernel_rfl) (by kernel_rfl) (l':=[(61,nP (w80.heap.size) 1),(60,nI x97),(59,.bool true),(16,nI x97),(15,nB w80),(11,nB w43),(0,.pointer none),(1,nI i1),(2,.bool (i2)),(3,nI i3)]) (by kernel_rfl) ?_
      intro w157 a158 hS159 hF160; clear hF155 hS102
      refine wpList_nil ?_
      have hF161:=hF160.keep [0,1,2,3,11,15]
      clear hF160
      exact thenN ⟨x97,hF161,hS159,hm154⟩
     rw [hc153] at hF109
     have hm162:=ifNot hc153 hm103; clear hm103
     refine ev_condF hF109 rfl rfl ?_
     refine wp_skip ?_
     have hF163:=hF109.keep [0,1,2,3,11,15]
     clear hF109
     exact thenN ⟨q77.tail,hF163,hS102,hm162⟩
 · skip
   cases hc164:(decide (x22 > 0))
   case true =>
    rw [hc164] at hF94
    have hm165:=ifYes hc164 hm79; clear hm79
    refine ev_condT hF94 rfl rfl ?_
    refine wp_seq (wp_region_lit ?_)
    refine ev_runs 3 hF94 (l':=[(45,nI (IntKind.i64.wrap (x22 - 1))),(44,nI x22),(43,.slice p14 L5.length c15),(42,.bool true),(16,nI (-1)),(15,nB w80),(13,nB w59),(11,nB w43),(10,nI x22),(9,.slice p14 L5.length c15),(0,.pointer none),(1,nI i1),(2,.bool (i2)),(3,nI i3)]) (w':=w88) (by kernel_rfl) ?_
    intro a167 hF166; clear hF94
    obtain ⟨hc168,hm169⟩:=ifTE hm165; clear hm165
    obtain ⟨g170,rfl⟩:=hp16.resolve_left (by have:=inR_spec hc168; omega)
    refine ev_one (nP g170 ((IntKind.i64.wrap (x22 - 1)).toNat)) w88 hF166 (by kernel_rfl) rfl (by kernel_rfl) (run_idx rfl rfl rfl rfl rfl (inR_spec hc168).1 (inR_spec hc168).2 _) (l':=[(46,nP g170 ((IntKind.i64.wrap (x22 - 1)).toNat)),(45,nI (IntKind.i64.wrap (x22 - 1))),(44,nI x22),(43,nS g170 L5 c15),(42,.bool true),(16,nI (-1)),(15,nB w80),(13,nB w59),(11,nB w43),(10,nI x22),(9,nS g170 L5 c15),(0,.pointer none),(1,nI i1),(2,.bool (i2)),(3,nI i3)]) (by kernel_rfl) ?_
    intro a172 hF171; clear hF166
    refine ev_one (nI (atI L5 (IntKind.i64.wrap (x22 - 1)))) w88 hF171 (by kernel_rfl) rfl (by kernel_rfl) (run_load1 rfl rfl rfl (hS90.atI 3 rfl hc168)) (l':=[(47,nI (atI L5 (IntKind.i64.wrap (x22 - 1)))),(46,nP g170 ((IntKind.i64.wrap (x22 - 1)).toNat)),(45,nI (IntKind.i64.wrap (x22 - 1))),(44,nI x22),(43,nS g170 L5 c15),(42,.bool true),(16,nI (-1)),(15,nB w80),(13,nB w59),(11,nB w43),(10,nI x22),(9,nS g170 L5 c15),(0,.pointer none),(1,nI i1),(2,.bool (i2)),(3,nI i3)]) (by kernel_rfl) ?_
    intro a174 hF173; clear hF171
    refine ev_runK 1 hF173 [0,1,2,3,11,13,15,16] (l':=[(16,nI (atI L5 (IntKind.i64.wrap (x22 - 1)))),(15,nB w80),(13,nB w59),(11,nB w43),(0,.pointer none),(1,nI i1),(2,.bool (i2)),(3,nI i3)]) (w':=w88) (by kernel_rfl) ?_
    intro a176 hF175; clear hF173
    refine wpList_nil ?_
    have hS177:=hS90.pick3.drop
    clear hS90
    refine thenN (wp_region_lit ?_)
    refine ev_runs 3 hF175 (l':=[(50,nP (w59.heap.size) 3),(49,nI (atI L5 (IntKind.i64.wrap (x22 - 1)))),(48,.pointer none),(16,nI (atI L5 (IntKind.i64.wrap (x22 - 1)))),(15,nB w80),(13,nB w59),(11,nB w43),(0,.pointer none),(1,nI i1),(2,.bool (i2)),(3,nI i3)]) (w':=w88) (by kernel_rfl) ?_
    intro a179 hF178; clear hF175
    refine ev_one (nI 0) w88 hF178 (by kernel_rfl) rfl (by kernel_rfl) (run_loadV rfl rfl (run_loadS rfl rfl (hS177.cell 1 rfl 3 rfl))) (l':=[(51,nI 0),(50,nP (w59.heap.size) 3),(49,nI (atI L5 (IntKind.i64.wrap (x22 - 1)))),(48,.pointer none),(16,nI (atI L5 (IntKind.i64.wrap (x22 - 1)))),(15,nB w80),(13,nB w59),(11,nB w43),(0,.pointer none),(1,nI i1),(2,.bool (i2)),(3,nI i3)]) (by kernel_rfl) ?_
    intro a181 hF180; clear hF178
    refine ev_call 79 #[.pointer none,nI (atI L5 (IntKind.i64.wrap (x22 - 1))),nI 0] hF180 rfl rfl (by kernel_rfl) rfl (by kernel_rfl) (fun w=>by kernel_rfl) ?_
    obtain ⟨u182,hx183,hm184⟩:=bind1E hm169; clear hm169
    refine (list_followN.ok hS177 hx183).mono ?_
    rintro _ w185 ⟨rfl,hS187⟩ a186 hF188; clear hF180 hS177
    refine wpList_nil ?_
    have hF189:=hF188.keep [0,1,2,3,11,15,16]
    clear hF188
    have hS190:=hS187.pick1.drop
    clear hS187
    exact thenN ⟨q77.head,atI L5 (IntKind.i64.wrap (x22 - 1)),hF189,hS190,hm184⟩
   rw [hc164] at hF94
   have hm191:=ifNot hc164 hm79; clear hm79
   refine ev_condF hF94 rfl rfl ?_
   refine wp_region_lit ?_
   refine ev_runs 1 hF94 (l':=[(53,nP (w59.heap.size) 3),(42,.bool false),(16,nI (-1)),(15,nB w80),(13,nB w59),(11,nB w43),(10,nI x22),(9,.slice p14 L5.length c15),(0,.pointer none),(1,nI i1),(2,.bool (i2)),(3,nI i3)]) (w':=w88) (by kernel_rfl) ?_
   intro a193 hF192; clear hF94
   refine ev_one (nI 0) w88 hF192 (by kernel_rfl) rfl (by kernel_rfl) (run_loadV rfl rfl (run_loadS rfl rfl (hS90.cell 1 rfl 3 rfl))) (l':=[(54,nI 0),(53,nP (w59.heap.size) 3),(42,.bool false),(16,nI (-1)),(15,nB w80),(13,nB w59),(11,nB w43),(10,nI x22),(9,.slice p14 L5.length c15),(0,.pointer none),(1,nI i1),(2,.bool (i2)),(3,nI i3)]) (by kernel_rfl) ?_
   intro a195 hF194; clear hF192
   refine ev_runs 1 hF194 (l':=[(55,nB w80),(54,nI 0),(53,nP (w59.heap.size) 3),(42,.bool false),(16,nI (-1)),(15,nB w80),(13,nB w59),(11,nB w43),(10,nI x22),(9,.slice p14 L5.length c15),(0,.pointer none),(1,nI i1),(2,.bool (i2)),(3,nI i3)]) (w':=w88) (by kernel_rfl) ?_
   intro a197 hF196; clear hF194
   refine ev_store (nI 0) #[nI 0,nI (q77.tail)] hF196 (by kernel_rfl) rfl rfl rfl rfl (by kernel_rfl) hS90 (by kernel_rfl) (by kernel_rfl) (by kernel_rfl) (l':=[(55,nB w80),(54,nI 0),(53,nP (w59.heap.size) 3),(42,.bool false),(16,nI (-1)),(15,nB w80),(13,nB w59),(11,nB w43),(10,nI x22),(9,.slice p14 L5.length c15),(0,.pointer none),(1,nI i1),(2,.bool (i2)),(3,nI i3)]) (by kernel_rfl) ?_
   intro w198 a199 hS200 hF201; clear hF196 hS90
   refine wpList_nil ?_
   have hF202:=hF201.keep [0,1,2,3,11,15,16]
   clear hF201
   have hS203:=hS200.pick1.drop.pick2.drop
   clear hS200
   exact thenN ⟨0,-1,hF202,hS203,hm191⟩
end Go.Proofs.YtaojmbkmicjecaaGreat
