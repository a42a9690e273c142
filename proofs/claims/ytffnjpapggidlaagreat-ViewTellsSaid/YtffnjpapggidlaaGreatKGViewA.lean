/- GViewA -/
import Derived.Test.YtffnjpapggidlaaGreatKGView
import Derived.Test.YtffnjpapggidlaaGreatKGRef11
import Derived.Test.YtffnjpapggidlaaGreatKRBegin
import Derived.Test.YtffnjpapggidlaaGreatKArrEq
import Derived.Test.YtffnjpapggidlaaGreatKOrdL2
import Derived.Deep.LoopGhost
import Derived.KernelRfl
namespace Go.Proofs.YtffnjpapggidlaaGreat
open Go.RowKit
set_option maxRecDepth 100000
set_option maxHeartbeats 40000000
set_option linter.unusedVariables false
def law11_bothM.j4 (x54:Int) (rec57:HSt→HSt→Int→Option (HSt×HSt)) (s78:HSt) (s94:HSt) (y103:Bool):Option (HSt×HSt):=(if (y103) then none else rec57 s78 s94 (IntKind.i64.wrap (x54+1)))
def law11_bothM.j5 (s134:HSt) (s135:HSt):Option (HSt×HSt):=some (s134,s135)
def law11_bothM.l3b (i0:Bool) (rec57:HSt→HSt→Int→Option (HSt×HSt)) (s52:HSt) (s53:HSt) (x54:Int):Option (HSt×HSt):=(if (decide (x54<4)) then (if (inR x54 ([1,3,4,5]).length) then (if (inR x54 ([9,7,10,2]).length) then bind3 (pAlloc (atI [1,3,4,5] x54) (atI [9,7,10,2] x54) s52) fun x76 x77 s78=>bind3 (pAlloc (atI [1,3,4,5] x54) (atI [9,7,10,2] x54) s53) fun x92 x93 s94=>(if (x76 != x92) then law11_bothM.j4 x54 rec57 s78 s94 true else law11_bothM.j4 x54 rec57 s78 s94 (x77 != x93)) else none) else none) else (if (i0) then bind2 (pBegin s52 []) fun x154 s155=>bind2 (pBegin s53 []) fun x169 s170=>law11_bothM.j5 s155 s170 else law11_bothM.j5 s52 s53))
def law11_bothM.l3 (i0:Bool):Nat→HSt→HSt→Int→Option (HSt×HSt)
  | 0=>fun _ _ _=>none
  | kI+1=>law11_bothM.l3b i0 (law11_bothM.l3 i0 kI)
def law11_bothM.m (k:Nat) (i0:Bool):Option (HSt×HSt):=bind1 (pNew 4) fun s3=>bind1 (prNew 4) fun s15=>law11_bothM.l3 i0 k s3 s15 0
theorem law11_bothM.ok {w0 w:World} {F0:List Nat} {ps:List Piece} {k:Nat} {i0:Bool} {r0:HSt} {r1:HSt} (hS:St w0 F0 (ps) w) (hm:law11_bothM.m k i0=some (r0,r1)) :
    Calls Tryz.prog 12 #[.bool (i0)] w fun e w'=>∃ br0 abr0 br1 abr1 sbr1 gr1 cbr1,e=.returned (.tuple #[.pointer (some ⟨br0,0,none⟩),.pointer (some ⟨br1,0,none⟩)])∧St w0 F0 (HeapP br0 abr0 r0::RHeapP br1 abr1 sbr1 gr1 cbr1 r1::ps) w':=by
 refine ev_enterL 77 [.bool (i0)] Tryz.func12 rfl rfl (by simp) ?_
 intro a hF
 have hF0:Fr 77 a [(0,.bool (i0))]:=hF; clear hF
 unfold law11_bothM.m at hm
 refine wp_seq (wp_region_lit ?_)
 refine ev_runK 2 hF0 [0] (l':=[(0,.bool (i0))]) (w':=w) (by kernel_rfl) ?_
 intro a2 hF1; clear hF0
 refine wpList_nil (thenN (wp_seq (wp_region_lit ?_)))
 refine ev_call 31 #[nI 4] hF1 rfl rfl (by kernel_rfl) rfl (by kernel_rfl) (fun w=>by kernel_rfl) ?_
 obtain ⟨s3,hx4,hm5⟩:=bind1E hm; clear hm
 refine (p_New hS hx4).mono ?_
 rintro _ w6 ⟨z10,z11,rfl,hS8⟩ a7 hF9; clear hF1 hS
 refine ev_runK 5 hF9 [0,4] (l':=[(4,nP z10 0),(0,.bool (i0))]) (w':=w6) (by kernel_rfl) ?_
 intro a14 hF13; clear hF9
 refine wpList_nil (thenN (wp_seq (wp_region_lit ?_)))
 refine ev_call 32 #[nI 4] hF13 rfl rfl (by kernel_rfl) rfl (by kernel_rfl) (fun w=>by kernel_rfl) ?_
 obtain ⟨s15,hx16,hm17⟩:=bind1E hm5; clear hm5
 refine (q_New hS8 hx16).mono ?_
 rintro _ w18 ⟨z22,z23,z24,z25,z26,rfl,hS20⟩ a19 hF21; clear hF13 hS8
 refine ev_runK 5 hF21 [0,4,6] (l':=[(6,nP z22 0),(4,nP z10 0),(0,.bool (i0))]) (w':=w18) (by kernel_rfl) ?_
 intro a29 hF28; clear hF21
 refine wpList_nil (thenN (wp_seq (wp_seq (wp_region_lit ?_))))
 refine ev_runs 4 hF28 (l':=[(26,nP z10 0),(25,.bool false),(24,.bool false),(23,nP z10 0),(6,nP z22 0),(4,nP z10 0),(0,.bool (i0))]) (w':=w18) (by kernel_rfl) ?_
 intro a31 hF30; clear hF28
 have hS32:=hS20.pick1
 clear hS20
 refine ev_call 34 #[nP z10 0] hF30 rfl rfl (by kernel_rfl) rfl (by kernel_rfl) (fun w=>by kernel_rfl) ?_
 refine (p_Arena hS32).mono ?_
 rintro _ w33 ⟨rfl,hS35⟩ a34 hF36; clear hF30 hS32
 refine ev_runK 2 hF36 [0,4,6,29] (l':=[(29,.bool false),(6,nP z22 0),(4,nP z10 0),(0,.bool (i0))]) (w':=w33) (by kernel_rfl) ?_
 intro a38 hF37; clear hF36
 refine wpList_nil (thenN ?_)
 refine ev_condF hF37 rfl rfl ?_
 refine wp_skip ?_
 have hF39:=hF37.keep [0,4,6]
 clear hF37
 refine thenN (wp_seq (wp_region_lit ?_))
 refine ev_runs 1 hF39 (l':=[(30,.slice (some ⟨w33.heap.size,0,none⟩) 4 4),(6,nP z22 0),(4,nP z10 0),(0,.bool (i0))]) (w':=w33.alloc (.cells #[nI 1,nI 3,nI 4,nI 5] 3)) (by kernel_rfl) ?_
 intro a41 hF40; clear hF39
 have hS43:St w0 F0 (RowP (.slice (some ⟨w33.heap.size,0,none⟩) 4 4) [1,3,4,5]::HeapP z10 z11 s3::RHeapP z22 z23 z24 z25 z26 s15::ps) (w33.alloc (.cells #[nI 1,nI 3,nI 4,nI 5] 3)):=St.lit hS35 [1,3,4,5] (by unfold maxLen; simp)
 clear hS35
 refine ev_runs 1 hF40 (l':=[(31,.slice (some ⟨(w33.alloc (.cells #[nI 1,nI 3,nI 4,nI 5] 3)).heap.size,0,none⟩) 4 4),(30,.slice (some ⟨w33.heap.size,0,none⟩) 4 4),(6,nP z22 0),(4,nP z10 0),(0,.bool (i0))]) (w':=(w33.alloc (.cells #[nI 1,nI 3,nI 4,nI 5] 3)).alloc (.cells #[nI 9,nI 7,nI 10,nI 2] 3)) (by kernel_rfl) ?_
 intro a45 hF44; clear hF40
 have hS47:St w0 F0 (RowP (.slice (some ⟨(w33.alloc (.cells #[nI 1,nI 3,nI 4,nI 5] 3)).heap.size,0,none⟩) 4 4) [9,7,10,2]::RowP (.slice (some ⟨w33.heap.size,0,none⟩) 4 4) [1,3,4,5]::HeapP z10 z11 s3::RHeapP z22 z23 z24 z25 z26 s15::ps) ((w33.alloc (.cells #[nI 1,nI 3,nI 4,nI 5] 3)).alloc (.cells #[nI 9,nI 7,nI 10,nI 2] 3)):=St.lit hS43 [9,7,10,2] (by unfold maxLen; simp)
 clear hS43
 refine ev_runK 2 hF44 [0,4,6,8,9] (l':=[(9,.slice (some ⟨(w33.alloc (.cells #[nI 1,nI 3,nI 4,nI 5] 3)).heap.size,0,none⟩) 4 4),(8,.slice (some ⟨w33.heap.size,0,none⟩) 4 4),(6,nP z22 0),(4,nP z10 0),(0,.bool (i0))]) (w':=(w33.alloc (.cells #[nI 1,nI 3,nI 4,nI 5] 3)).alloc (.cells #[nI 9,nI 7,nI 10,nI 2] 3)) (by kernel_rfl) ?_
 intro a49 hF48; clear hF44
 refine wpList_nil (thenN (wp_seq (wp_seq (wp_region_lit ?_))))
 refine ev_runs 1 hF48 (l':=[(10,nI 0),(9,.slice (some ⟨(w33.alloc (.cells #[nI 1,nI 3,nI 4,nI 5] 3)).heap.size,0,none⟩) 4 4),(8,.slice (some ⟨w33.heap.size,0,none⟩) 4 4),(6,nP z22 0),(4,nP z10 0),(0,.bool (i0))]) (w':=(w33.alloc (.cells #[nI 1,nI 3,nI 4,nI 5] 3)).alloc (.cells #[nI 9,nI 7,nI 10,nI 2] 3)) (by kernel_rfl) ?_
 intro a51 hF50; clear hF48
 refine wpList_nil (thenN ?_)
 refine wp_block ?_
 refine wp_loop_ghost (fun kI aI wI=>∃ (s52:HSt) (s53:HSt) (x54:Int),Fr 77 aI [(10,nI x54),(9,.slice (some ⟨(w33.alloc (.cells #[nI 1,nI 3,nI 4,nI 5] 3)).heap.size,0,none⟩) 4 4),(8,.slice (some ⟨w33.heap.size,0,none⟩) 4 4),(6,nP z22 0),(4,nP z10 0),(0,.bool (i0))]∧St w0 F0 (RowP (.slice (some ⟨(w33.alloc (.cells #[nI 1,nI 3,nI 4,nI 5] 3)).heap.size,0,none⟩) 4 4) [9,7,10,2]::RowP (.slice (some ⟨w33.heap.size,0,none⟩) 4 4) [1,3,4,5]::HeapP z10 z11 s52::RHeapP z22 z23 z24 z25 z26 s53::ps) wI∧law11_bothM.l3 i0 kI s52 s53 x54=some (r0,r1)) k ⟨s3,s15,0,hF50,hS47,hm17⟩ ?_
 rintro k55 a56 w57 ⟨s52,s53,x54,hF58,hS59,hm60⟩
 clear hF50 hS47 hm17
 rcases k55 with _ | k55
 · cases hm60
 have hm61:law11_bothM.l3b i0 (law11_bothM.l3 i0 k55) s52 s53 x54=some (r0,r1):=hm60
 clear hm60
 unfold law11_bothM.l3b at hm61
 refine wp_seq (wp_seq (wp_region_lit ?_))
 refine ev_runK 2 hF58 [0,4,6,8,9,10,33] (l':=[(33,.bool (decide (x54<4))),(10,nI x54),(9,.slice (some ⟨(w33.alloc (.cells #[nI 1,nI 3,nI 4,nI 5] 3)).heap.size,0,none⟩) 4 4),(8,.slice (some ⟨w33.heap.size,0,none⟩) 4 4),(6,nP z22 0),(4,nP z10 0),(0,.bool (i0))]) (w':=w57) (by kernel_rfl) ?_
 intro a63 hF62; clear hF58
 refine wpList_nil (thenN ?_)
 cases hc64:(decide (x54<4))
 case true =>
  rw [hc64] at hF62
  have hm65:=ifYes hc64 hm61; clear hm61
  refine ev_condT hF62 rfl rfl ?_
  refine wp_skip ?_
  have hF66:=hF62.keep [0,4,6,8,9,10]
  clear hF62
  refine thenN (wp_seq ?_)
  refine wp_block ?_
  refine wp_seq ?_
  obtain ⟨hc67,hm68⟩:=ifTE hm65; clear hm65
  obtain ⟨hc69,hm70⟩:=ifTE hm68; clear hm68
  have hS71:=hS59.pick1
  clear hS59
  have hS72:=hS71.drew; clear hS71
  refine any_start (fun wS=>∃ qs,St w0 F0 (RowP (.slice (some ⟨w33.heap.size,0,none⟩) 4 4) [1,3,4,5]::RowP (.slice (some ⟨(w33.alloc (.cells #[nI 1,nI 3,nI 4,nI 5] 3)).heap.size,0,none⟩) 4 4) [9,7,10,2]::qs) wS) 15 #[false,false,false,false,false,false,false,false,false,false,false,false,false,false,false] (by kernel_rfl) (by kernel_rfl) (by kernel_rfl) ?_
  refine any_many 9 [(0,some (nP z10 0)),(1,some (.slice (some ⟨w33.heap.size,0,none⟩) 4 4)),(2,some (nI x54)),(3,some (nP (w33.heap.size) (x54.toNat))),(4,some (nI (atI [1,3,4,5] x54))),(5,some (.slice (some ⟨(w33.alloc (.cells #[nI 1,nI 3,nI 4,nI 5] 3)).heap.size,0,none⟩) 4 4)),(6,some (nI x54)),(7,some (nP ((w33.alloc (.cells #[nI 1,nI 3,nI 4,nI 5] 3)).heap.size) (x54.toNat))),(8,some (nI (atI [9,7,10,2] x54)))] [0,4,6,8,9,10,11,12,36,37,41,45,46,47,48] #[true,true,true,true,true,true,true,true,true,false,false,false,false,false,false] (by rfl) hF66 (by kernel_rfl) (by kernel_rfl) (by exact ⟨fun wS hw=>by kernel_rfl,fun wS hw=>by kernel_rfl,fun wS hw=>by kernel_rfl,fun wS hw=>run_idx rfl rfl rfl rfl rfl (inR_spec hc67).1 (inR_spec hc67).2 _,fun wS hw=>run_load1 rfl rfl rfl (hw.elim fun qs hw=>hw.atI 0 rfl hc67),fun wS hw=>by kernel_rfl,fun wS hw=>by kernel_rfl,fun wS hw=>run_idx rfl rfl rfl rfl rfl (inR_spec hc69).1 (inR_spec hc69).2 _,fun wS hw=>run_load1 rfl rfl rfl (hw.elim fun qs hw=>hw.atI 1 rfl hc69),trivial⟩) (fun _ _ _ _ _ h=>h) ⟨_,hS72⟩ (l':=[(45,nI (atI [9,7,10,2] x54)),(41,nI (atI [1,3,4,5] x54)),(37,nP z10 0),(10,nI x54),(9,.slice (some ⟨(w33.alloc (.cells #[nI 1,nI 3,nI 4,nI 5] 3)).heap.size,0,none⟩) 4 4),(8,.slice (some ⟨w33.heap.size,0,none⟩) 4 4),(6,nP z22 0),(4,nP z10 0),(0,.bool (i0))]) (by kernel_rfl) ?_
  intro a74 hF73; clear hF66
  have hS75:=hS72.pick2
  clear hS72
  refine any_call 9 #[true,true,true,true,true,true,true,true,true,true,false,false,false,false,false] 101 #[nP z10 0,nI (atI [1,3,4,5] x54),nI (atI [9,7,10,2] x54)] hF73 rfl (by kernel_rfl) rfl rfl (by kernel_rfl) rfl (by kernel_rfl) (fun w=>by kernel_rfl) (by kernel_rfl) ?_
  obtain ⟨x76,x77,s78,hx79,hm80⟩:=bind3E hm70; clear hm70
  refine (p_Alloc hS75 hx79).mono ?_
  rintro _ w81 ⟨rfl,hS83⟩; clear hS75
  refine ⟨⟨_,hS83.pick2.pick2⟩,?_⟩
  intro a82 hF84; clear hF73
  refine any_many 5 [(10,some (.tuple #[nI x76,nI x77])),(11,some (nI x76)),(12,some (nI x77)),(13,some (nI x76)),(14,some (nI x77))] [0,4,6,8,9,10,11,12] #[true,true,true,true,true,true,true,true,true,true,true,true,true,true,true] (by rfl) hF84 (by kernel_rfl) (by kernel_rfl) (by exact ⟨fun wS hw=>by kernel_rfl,fun wS hw=>by kernel_rfl,fun wS hw=>by kernel_rfl,fun wS hw=>by kernel_rfl,fun wS hw=>by kernel_rfl,trivial⟩) (fun _ _ _ _ _ h=>h) ⟨_,hS83.pick2.pick2⟩ (l':=[(12,nI x77),(11,nI x76),(10,nI x54),(9,.slice (some ⟨(w33.alloc (.cells #[nI 1,nI 3,nI 4,nI 5] 3)).heap.size,0,none⟩) 4 4),(8,.slice (some ⟨w33.heap.size,0,none⟩) 4 4),(6,nP z22 0),(4,nP z10 0),(0,.bool (i0))]) (by kernel_rfl) ?_
  intro a86 hF85; clear hF84
  refine any_done (by kernel_rfl) ?_
  refine thenN (wp_seq ?_)
  have hS87:=hS83.pick2.pick2
  clear hS83
  have hS88:=hS87.drew; clear hS87
  refine any_start (fun wS=>∃ qs,St w0 F0 (RowP (.slice (some ⟨w33.heap.size,0,none⟩) 4 4) [1,3,4,5]::RowP (.slice (some ⟨(w33.alloc (.cells #[nI 1,nI 3,nI 4,nI 5] 3)).heap.size,0,none⟩) 4 4) [9,7,10,2]::qs) wS) 15 #[false,false,false,false,false,false,false,false,false,false,false,false,false,false,false] (by kernel_rfl) (by kernel_rfl) (by kernel_rfl) ?_
  refine any_many 9 [(0,some (nP z22 0)),(1,some (.slice (some ⟨w33.heap.size,0,none⟩) 4 4)),(2,some (nI x54)),(3,some (nP (w33.heap.size) (x54.toNat))),(4,some (nI (atI [1,3,4,5] x54))),(5,some (.slice (some ⟨(w33.alloc (.cells #[nI 1,nI 3,nI 4,nI 5] 3)).heap.size,0,none⟩) 4 4)),(6,some (nI x54)),(7,some (nP ((w33.alloc (.cells #[nI 1,nI 3,nI 4,nI 5] 3)).heap.size) (x54.toNat))),(8,some (nI (atI [9,7,10,2] x54)))] [0,4,6,8,9,10,11,12,13,14,49,50,54,58,59,60,61] #[true,true,true,true,true,true,true,true,true,false,false,false,false,false,false] (by rfl) hF85 (by kernel_rfl) (by kernel_rfl) (by exact ⟨fun wS hw=>by kernel_rfl,fun wS hw=>by kernel_rfl,fun wS hw=>by kernel_rfl,fun wS hw=>run_idx rfl rfl rfl rfl rfl (inR_spec hc67).1 (inR_spec hc67).2 _,fun wS hw=>run_load1 rfl rfl rfl (hw.elim fun qs hw=>hw.atI 0 rfl hc67),fun wS hw=>by kernel_rfl,fun wS hw=>by kernel_rfl,fun wS hw=>run_idx rfl rfl rfl rfl rfl (inR_spec hc69).1 (inR_spec hc69).2 _,fun wS hw=>run_load1 rfl rfl rfl (hw.elim fun qs hw=>hw.atI 1 rfl hc69),trivial⟩) (fun _ _ _ _ _ h=>h) ⟨_,hS88⟩ (l':=[(58,nI (atI [9,7,10,2] x54)),(54,nI (atI [1,3,4,5] x54)),(50,nP z22 0),(12,nI x77),(11,nI x76),(10,nI x54),(9,.slice (some ⟨(w33.alloc (.cells #[nI 1,nI 3,nI 4,nI 5] 3)).heap.size,0,none⟩) 4 4),(8,.slice (some ⟨w33.heap.size,0,none⟩) 4 4),(6,nP z22 0),(4,nP z10 0),(0,.bool (i0))]) (by kernel_rfl) ?_
  intro a90 hF89; clear hF85
  have hS91:=hS88.pick3
  clear hS88
  refine any_call 9 #[true,true,true,true,true,true,true,true,true,true,false,false,false,false,false] 102 #[nP z22 0,nI (atI [1,3,4,5] x54),nI (atI [9,7,10,2] x54)] hF89 rfl (by kernel_rfl) rfl rfl (by kernel_rfl) rfl (by kernel_rfl) (fun w=>by kernel_rfl) (by kernel_rfl) ?_
  obtain ⟨x92,x93,s94,hx95,hm96⟩:=bind3E hm80; clear hm80
  refine (q_Alloc hS91 hx95).mono ?_
  rintro _ w97 ⟨rfl,hS99⟩; clear hS91
  refine ⟨⟨_,hS99.pick2.pick2⟩,?_⟩
  intro a98 hF100; clear hF89
  refine any_many 5 [(10,some (.tuple #[nI x92,nI x93])),(11,some (nI x92)),(12,some (nI x93)),(13,some (nI x92)),(14,some (nI x93))] [0,4,6,8,9,10,11,12,13,14] #[true,true,true,true,true,true,true,true,true,true,true,true,true,true,true] (by rfl) hF100 (by kernel_rfl) (by kernel_rfl) (by exact ⟨fun wS hw=>by kernel_rfl,fun wS hw=>by kernel_rfl,fun wS hw=>by kernel_rfl,fun wS hw=>by kernel_rfl,fun wS hw=>by kernel_rfl,trivial⟩) (fun _ _ _ _ _ h=>h) ⟨_,hS99.pick2.pick2⟩ (l':=[(14,nI x93),(13,nI x92),(12,nI x77),(11,nI x76),(10,nI x54),(9,.slice (some ⟨(w33.alloc (.cells #[nI 1,nI 3,nI 4,nI 5] 3)).heap.size,0,none⟩) 4 4),(8,.slice (some ⟨w33.heap.size,0,none⟩) 4 4),(6,nP z22 0),(4,nP z10 0),(0,.bool (i0))]) (by kernel_rfl) ?_
  intro a102 hF101; clear hF100
  refine any_done (by kernel_rfl) ?_
  refine thenN (wp_seq ?_)
  refine joinQ (fun aI wI=>∃ (y103:Bool),Fr 77 aI [(69,.bool (y103)),(10,nI x54),(9,.slice (some ⟨(w33.alloc (.cells #[nI 1,nI 3,nI 4,nI 5] 3)).heap.size,0,none⟩) 4 4),(8,.slice (some ⟨w33.heap.size,0,none⟩) 4 4),(6,nP z22 0),(4,nP z10 0),(0,.bool (i0))]∧St w0 F0 (RHeapP z22 z23 z24 z25 z26 s94::RowP (.slice (some ⟨w33.heap.size,0,none⟩) 4 4) [1,3,4,5]::RowP (.slice (some ⟨(w33.alloc (.cells #[nI 1,nI 3,nI 4,nI 5] 3)).heap.size,0,none⟩) 4 4) [9,7,10,2]::HeapP z10 z11 s78::ps) wI∧law11_bothM.j4 x54 (law11_bothM.l3 i0 k55) s78 s94 y103=some (r0,r1)) ?_ ?_
  rotate_left
  · rintro a105 w106 ⟨y103,hF107,hS108,hm109⟩
    clear hF101 hS99 hm96
    unfold law11_bothM.j4 at hm109
    refine thenN ?_
    cases hc111:(y103)
    case true =>
     rw [hc111] at hF107
     have hm112:=ifYes hc111 hm109; clear hm109
     refine ev_condT hF107 rfl rfl ?_
     refine wp_seq (wp_region_lit ?_)
     refine ev_runK 2 hF107 [2,3] (l':=[(3,.pointer none),(2,.pointer none)]) (w':=w106) (by kernel_rfl) ?_
     intro a114 hF113; clear hF107
     refine wpList_nil ?_
     have hS115:=hS108.drop.drop.drop.drop
     clear hS108
     refine thenN ?_
     refine wp_ret ?_
     refine blockR ?_
     refine thenR (thenR ?_)
     refine blockR ?_
     refine thenR ?_
     cases hm112
    rw [hc111] at hF107
    have hm116:=ifNot hc111 hm109; clear hm109
    refine ev_condF hF107 rfl rfl ?_
    refine wp_skip ?_
    have hF117:=hF107.keep [0,4,6,8,9,10]
    clear hF107
    refine blockN ?_
    refine thenN (wp_region_lit ?_)
    refine ev_runK 3 hF117 [0,4,6,8,9,10] (l':=[(10,nI (IntKind.i64.wrap (x54+1))),(9,.slice (some ⟨(w33.alloc (.cells #[nI 1,nI 3,nI 4,nI 5] 3)).heap.size,0,none⟩) 4 4),(8,.slice (some ⟨w33.heap.size,0,none⟩) 4 4),(6,nP z22 0),(4,nP z10 0),(0,.bool (i0))]) (w':=w106) (by kernel_rfl) ?_
    intro a119 hF118; clear hF117
    refine wpList_nil ?_
    have hS120:=hS108.pick3.pick2.pick3
    clear hS108
    exact thenN ⟨k55,Nat.lt_succ_self _,s78,s94,IntKind.i64.wrap (x54+1),hF118,hS120,hm116⟩
  · skip
    refine wp_region_lit ?_
    refine ev_runs 4 hF101 (l':=[(65,.bool (x76 != x92)),(64,.bool (x76 != x92)),(63,nI x92),(62,nI x76),(14,nI x93),(13,nI x92),(12,nI x77),(11,nI x76),(10,nI x54),(9,.slice (some ⟨(w33.alloc (.cells #[nI 1,nI 3,nI 4,nI 5] 3)).heap.size,0,none⟩) 4 4),(8,.slice (some ⟨w33.heap.size,0,none⟩) 4 4),(6,nP z22 0),(4,nP z10 0),(0,.bool (i0))]) (w':=w97) (by kernel_rfl) ?_
    intro a122 hF121; clear hF101
    cases hc123:(x76 != x92)
    case true =>
     rw [hc123] at hF121
     have hm124:=ifYes hc123 hm96; clear hm96
     refine ev_runK 4 hF121 [0,4,6,8,9,10,69] (l':=[(69,.bool true),(10,nI x54),(9,.slice (some ⟨(w33.alloc (.cells #[nI 1,nI 3,nI 4,nI 5] 3)).heap.size,0,none⟩) 4 4),(8,.slice (some ⟨w33.heap.size,0,none⟩) 4 4),(6,nP z22 0),(4,nP z10 0),(0,.bool (i0))]) (w':=w97) (by kernel_rfl) ?_
     intro a126 hF125; clear hF121
     refine wpList_nil ?_
     exact thenN ⟨true,hF125,hS99,hm124⟩
    rw [hc123] at hF121
    have hm127:=ifNot hc123 hm96; clear hm96
    refine ev_runK 4 hF121 [0,4,6,8,9,10,69] (l':=[(69,.bool (x77 != x93)),(10,nI x54),(9,.slice (some ⟨(w33.alloc (.cells #[nI 1,nI 3,nI 4,nI 5] 3)).heap.size,0,none⟩) 4 4),(8,.slice (some ⟨w33.heap.size,0,none⟩) 4 4),(6,nP z22 0),(4,nP z10 0),(0,.bool (i0))]) (w':=w97) (by kernel_rfl) ?_
    intro a129 hF128; clear hF121
    refine wpList_nil ?_
    exact thenN ⟨x77 != x93,hF128,hS99,hm127⟩
 rw [hc64] at hF62
 have hm130:=ifNot hc64 hm61; clear hm61
 refine ev_condF hF62 rfl rfl ?_
 refine wp_exit ?_
 refine thenE ?_
 refine thenE ?_
 refine blockE ?_
 refine thenN (wp_seq (wp_seq (wp_region_lit ?_)))
 refine ev_runK 1 hF62 [4,6,70] (l':=[(70,.bool (i0)),(6,nP z22 0),(4,nP z10 0)]) (w':=w57) (by kernel_rfl) ?_
 intro a132 hF131; clear hF62
 refine wpList_nil ?_
 have hS133:=hS59.drop.drop
 clear hS59
 refine thenN ?_
 refine joinQ (fun aI wI=>∃ (s134:HSt) (s135:HSt),Fr 77 aI [(6,nP z22 0),(4,nP z10 0)]∧St w0 F0 (HeapP z10 z11 s134::RHeapP z22 z23 z24 z25 z26 s135::ps) wI∧law11_bothM.j5 s134 s135=some (r0,r1)) ?_ ?_
 rotate_left
 · rintro a137 w138 ⟨s134,s135,hF139,hS140,hm141⟩
   clear hF131 hS133 hm130
   unfold law11_bothM.j5 at hm141
   refine thenN (wp_seq (wp_region_lit ?_))
   refine ev_runK 4 hF139 [2,3] (l':=[(3,nP z22 0),(2,nP z10 0)]) (w':=w138) (by kernel_rfl) ?_
   intro a144 hF143; clear hF139
   refine wpList_nil (thenN ?_)
   refine wp_ret ?_
   simp only [Option.some.injEq,Prod.mk.injEq] at hm141
   obtain ⟨rfl,rfl⟩:=hm141
   refine ev_ret hF143 [2,3] (.tuple #[nP z10 0,nP z22 0]) rfl rfl rfl ?_
   exact ⟨_,_,_,_,_,_,_,rfl,hS140⟩
 · skip
   cases hc147:(i0)
   case true =>
    rw [hc147] at hF131
    have hm148:=ifYes hc147 hm130; clear hm130
    refine ev_condT hF131 rfl rfl ?_
    refine wp_seq (wp_region_lit ?_)
    refine ev_runs 1 hF131 (l':=[(71,nP z10 0),(70,.bool true),(6,nP z22 0),(4,nP z10 0)]) (w':=w57) (by kernel_rfl) ?_
    intro a150 hF149; clear hF131
    have hS152:St w0 F0 (RowP (.slice none 0 0) []::HeapP z10 z11 s52::RHeapP z22 z23 z24 z25 z26 s53::ps) w57:=St.nil hS133
    clear hS133
    have hS153:=hS152.pick1
    clear hS152
    refine ev_call 45 #[nP z10 0,.slice none 0 0] hF149 rfl rfl (by kernel_rfl) rfl (by kernel_rfl) (fun w=>by kernel_rfl) ?_
    obtain ⟨x154,s155,hx156,hm157⟩:=bind2E hm148; clear hm148
    refine (p_Begin hS153 hx156).mono ?_
    rintro _ w158 ⟨rfl,hS160⟩ a159 hF161; clear hF149 hS153
    refine wpList_nil ?_
    have hF162:=hF161.keep [4,6]
    clear hF161
    have hS163:=hS160.pick1.drop
    clear hS160
    refine thenN (wp_region_lit ?_)
    refine ev_runs 1 hF162 (l':=[(73,nP z22 0),(6,nP z22 0),(4,nP z10 0)]) (w':=w158) (by kernel_rfl) ?_
    intro a165 hF164; clear hF162
    have hS167:St w0 F0 (RowP (.slice none 0 0) []::HeapP z10 z11 s155::RHeapP z22 z23 z24 z25 z26 s53::ps) w158:=St.nil hS163
    clear hS163
    have hS168:=hS167.pick2
    clear hS167
    refine ev_call 58 #[nP z22 0,.slice none 0 0] hF164 rfl rfl (by kernel_rfl) rfl (by kernel_rfl) (fun w=>by kernel_rfl) ?_
    obtain ⟨x169,s170,hx171,hm172⟩:=bind2E hm157; clear hm157
    refine (q_Begin hS168 hx171).mono ?_
    rintro _ w173 ⟨rfl,hS175⟩ a174 hF176; clear hF164 hS168
    refine wpList_nil ?_
    have hF177:=hF176.keep [4,6]
    clear hF176
    have hS178:=hS175.pick1.drop
    clear hS175
    have hS179:=hS178.pick1
    clear hS178
    exact thenN ⟨s155,s170,hF177,hS179,hm172⟩
   rw [hc147] at hF131
   have hm180:=ifNot hc147 hm130; clear hm130
   refine ev_condF hF131 rfl rfl ?_
   refine wp_skip ?_
   have hF181:=hF131.keep [4,6]
   clear hF131
   exact thenN ⟨s52,s53,hF181,hS133,hm180⟩
def law11_places.j8 (x23:Int) (rec30:Int→Int→Int→Int→Int→Option (Int×Int×Int×Int×HSt)) (x53:Int) (x54:Int) (x55:Int) (x56:Int):Option (Int×Int×Int×Int×HSt):=rec30 (IntKind.i64.wrap (x23+1)) x54 x55 x56 x53
def law11_places.j9 (x23:Int) (x27:Int) (rec30:Int→Int→Int→Int→Int→Option (Int×Int×Int×Int×HSt)) (x80:Int) (x81:Int) (x82:Int):Option (Int×Int×Int×Int×HSt):=law11_places.j8 x23 rec30 x27 x81 x82 x80
def law11_places.j10 (x23:Int) (x26:Int) (x27:Int) (rec30:Int→Int→Int→Int→Int→Option (Int×Int×Int×Int×HSt)) (x104:Int) (x105:Int):Option (Int×Int×Int×Int×HSt):=law11_places.j9 x23 x27 rec30 x26 x105 x104
def law11_places.l7b (s0:HSt) (rec30:Int→Int→Int→Int→Int→Option (Int×Int×Int×Int×HSt)) (x23:Int) (x24:Int) (x25:Int) (x26:Int) (x27:Int):Option (Int×Int×Int×Int×HSt):=(if (decide (x23<((hObjsF s0.a).length:Int))) then (if (inR x23 (hObjsF s0.a).length) then (if ((aKind s0.a.c (atI (hObjsF s0.a) x23)) == 1) then law11_places.j8 x23 rec30 (atI (hObjsF s0.a) x23) x24 x25 x26 else (if ((aKind s0.a.c (atI (hObjsF s0.a) x23)) == 3) then law11_places.j9 x23 x27 rec30 (atI (hObjsF s0.a) x23) x24 x25 else (if ((aKind s0.a.c (atI (hObjsF s0.a) x23)) == 4) then law11_places.j10 x23 x26 x27 rec30 (atI (hObjsF s0.a) x23) x24 else law11_places.j10 x23 x26 x27 rec30 x25 (atI (hObjsF s0.a) x23)))) else none) else some (x27,x26,x25,x24,s0))
def law11_places.l7 (s0:HSt):Nat→Int→Int→Int→Int→Int→Option (Int×Int×Int×Int×HSt)
  | 0=>fun _ _ _ _ _=>none
  | kI+1=>law11_places.l7b s0 (law11_places.l7 s0 kI)
def law11_places.m (k:Nat) (s0:HSt):Option (Int×Int×Int×Int×HSt):=law11_places.l7 s0 k 0 (-1) (-1) (-1) (-1)
theorem law11_places.ok {w0 w:World} {F0:List Nat} {ps:List Piece} {k:Nat} {b0 ab0 sb0 g0 cb0:Nat} {s0:HSt} {r0:Int} {r1:Int} {r2:Int} {r3:Int} {t0:HSt} (hS:St w0 F0 (RHeapP b0 ab0 sb0 g0 cb0 s0::ps) w) (hm:law11_places.m k s0=some (r0,r1,r2,r3,t0)) :
    Calls Tryz.prog 14 #[nP b0 0] w fun e w'=>e=.returned (.tuple #[.int .i64 r0,.int .i64 r1,.int .i64 r2,.int .i64 r3])∧St w0 F0 (RHeapP b0 ab0 sb0 g0 cb0 t0::ps) w':=by
 refine ev_enterL 58 [nP b0 0] Tryz.func14 rfl rfl (by simp) ?_
 intro a hF
 have hF0:Fr 58 a [(0,nP b0 0)]:=hF; clear hF
 unfold law11_places.m at hm
 refine wp_seq (wp_region_lit ?_)
 refine ev_runK 4 hF0 [0] (l':=[(0,nP b0 0)]) (w':=w) (by kernel_rfl) ?_
 intro a2 hF1; clear hF0
 refine wpList_nil (thenN (wp_seq (wp_region_lit ?_)))
 refine ev_runs 4 hF1 (l':=[(9,nI (-1)),(8,nI (-1)),(7,nI (-1)),(6,nI (-1)),(0,nP b0 0)]) (w':=w) (by kernel_rfl) ?_
 intro a4 hF3; clear hF1
 refine wpList_nil (thenN (wp_seq (wp_region_lit ?_)))
 refine ev_runs 3 hF3 (l':=[(14,nP b0 0),(13,nP b0 0),(12,nP b0 0),(9,nI (-1)),(8,nI (-1)),(7,nI (-1)),(6,nI (-1)),(0,nP b0 0)]) (w':=w) (by kernel_rfl) ?_
 intro a6 hF5; clear hF3
 refine ev_one (nP ab0 0) w hF5 (by kernel_rfl) rfl (by kernel_rfl) (run_loadV rfl rfl (run_loadS rfl rfl (St.rhsee (k:=0) hS rfl).1)) (l':=[(15,nP ab0 0),(14,nP b0 0),(13,nP b0 0),(12,nP b0 0),(9,nI (-1)),(8,nI (-1)),(7,nI (-1)),(6,nI (-1)),(0,nP b0 0)]) (by kernel_rfl) ?_
 intro a8 hF7; clear hF5
 refine ev_call 103 #[nP ab0 0] hF7 rfl rfl (by kernel_rfl) rfl (by kernel_rfl) (fun w=>by kernel_rfl) ?_
 refine (q_Objects hS).mono ?_
 rintro _ w9 ⟨z13,rfl,hS11⟩ a10 hF12; clear hF7 hS
 obtain ⟨hl18,p15,c16,rfl,hp17⟩:=St.shape hS11 1 rfl
 refine ev_runK 1 hF12 [0,6,7,8,9,10] (l':=[(10,.slice p15 (hObjsF s0.a).length c16),(9,nI (-1)),(8,nI (-1)),(7,nI (-1)),(6,nI (-1)),(0,nP b0 0)]) (w':=w9) (by kernel_rfl) ?_
 intro a20 hF19; clear hF12
 refine wpList_nil (thenN (wp_seq (wp_seq (wp_region_lit ?_))))
 refine ev_runs 1 hF19 (l':=[(11,nI 0),(10,.slice p15 (hObjsF s0.a).length c16),(9,nI (-1)),(8,nI (-1)),(7,nI (-1)),(6,nI (-1)),(0,nP b0 0)]) (w':=w9) (by kernel_rfl) ?_
 intro a22 hF21; clear hF19
 refine wpList_nil (thenN ?_)
 refine wp_block ?_
 refine wp_loop_ghost (fun kI aI wI=>∃ (x23:Int) (x24:Int) (x25:Int) (x26:Int) (x27:Int),Fr 58 aI [(11,nI x23),(10,.slice p15 (hObjsF s0.a).length c16),(9,nI x24),(8,nI x25),(7,nI x26),(6,nI x27),(0,nP b0 0)]∧St w0 F0 (RHeapP b0 ab0 sb0 g0 cb0 s0::RowP (.slice p15 (hObjsF s0.a).length c16) (hObjsF s0.a)::ps) wI∧law11_places.l7 s0 kI x23 x24 x25 x26 x27=some (r0,r1,r2,r3,t0)) k ⟨0,-1,-1,-1,-1,hF21,hS11,hm⟩ ?_
 rintro k28 a29 w30 ⟨x23,x24,x25,x26,x27,hF31,hS32,hm33⟩
 clear hF21 hS11 hm
 rcases k28 with _ | k28
 · cases hm33
 have hm34:law11_places.l7b s0 (law11_places.l7 s0 k28) x23 x24 x25 x26 x27=some (r0,r1,r2,r3,t0):=hm33
 clear hm33
 unfold law11_places.l7b at hm34
 refine wp_seq (wp_seq (wp_region_lit ?_))
 refine ev_runK 4 hF31 [0,6,7,8,9,10,11,20] (l':=[(20,.bool (decide (x23<((hObjsF s0.a).length:Int)))),(11,nI x23),(10,.slice p15 (hObjsF s0.a).length c16),(9,nI x24),(8,nI x25),(7,nI x26),(6,nI x27),(0,nP b0 0)]) (w':=w30) (by kernel_rfl) ?_
 intro a36 hF35; clear hF31
 refine wpList_nil (thenN ?_)
 cases hc37:(decide (x23<((hObjsF s0.a).length:Int)))
 case true =>
  rw [hc37] at hF35
  have hm38:=ifYes hc37 hm34; clear hm34
  refine ev_condT hF35 rfl rfl ?_
  refine wp_skip ?_
  have hF39:=hF35.keep [0,6,7,8,9,10,11]
  clear hF35
  refine thenN (wp_seq ?_)
  refine wp_block ?_
  refine wp_seq ?_
  obtain ⟨hc40,hm41⟩:=ifTE hm38; clear hm38
  obtain ⟨g42,rfl⟩:=hp17.resolve_left (by have:=inR_spec hc40; omega)
  have hS43:=hS32.drew; clear hS32
  refine any_start (fun wS=>∃ qs,St w0 F0 (RHeapXP b0 ab0 sb0 g0 cb0::RowP (.slice (some ⟨g42,0,none⟩) (hObjsF s0.a).length c16) (hObjsF s0.a)::qs) wS) 9 #[false,false,false,false,false,false,false,false,false] (by kernel_rfl) (by kernel_rfl) (by kernel_rfl) ?_
  refine any_many 8 [(0,some (nP b0 0)),(1,some (nP b0 0)),(2,some (nP b0 0)),(3,some (nP ab0 0)),(4,some (.slice (some ⟨g42,0,none⟩) (hObjsF s0.a).length c16)),(5,some (nI x23)),(6,some (nP g42 (x23.toNat))),(7,some (nI (atI (hObjsF s0.a) x23)))] [0,6,7,8,9,10,11,26,30,31] #[true,true,true,true,true,true,true,true,false] (by rfl) hF39 (by kernel_rfl) (by kernel_rfl) (by exact ⟨fun wS hw=>by kernel_rfl,fun wS hw=>by kernel_rfl,fun wS hw=>by kernel_rfl,fun wS hw=>hw.elim fun qs hw=>run_loadV rfl rfl (run_loadS rfl rfl (St.rhA (k:=0) hw rfl)),fun wS hw=>by kernel_rfl,fun wS hw=>by kernel_rfl,fun wS hw=>run_idx rfl rfl rfl rfl rfl (inR_spec hc40).1 (inR_spec hc40).2 _,fun wS hw=>run_load1 rfl rfl rfl (hw.elim fun qs hw=>hw.atI 1 rfl hc40),trivial⟩) (fun _ _ _ _ _ h=>h) ⟨_,St.toRX (hS43)⟩ (l':=[(30,nI (atI (hObjsF s0.a) x23)),(26,nP ab0 0),(11,nI x23),(10,.slice (some ⟨g42,0,none⟩) (hObjsF s0.a).length c16),(9,nI x24),(8,nI x25),(7,nI x26),(6,nI x27),(0,nP b0 0)]) (by kernel_rfl) ?_
  intro a45 hF44; clear hF39
  refine any_call 8 #[true,true,true,true,true,true,true,true,true] 104 #[nP ab0 0,nI (atI (hObjsF s0.a) x23)] hF44 rfl (by kernel_rfl) rfl rfl (by kernel_rfl) rfl (by kernel_rfl) (fun w=>by kernel_rfl) (by kernel_rfl) ?_
  refine (q_Kind hS43).mono ?_
  rintro _ w46 ⟨rfl,hS48⟩; clear hS43
  refine ⟨⟨_,St.toRX (hS48)⟩,?_⟩
  intro a47 hF49; clear hF44
  refine any_done (by kernel_rfl) ?_
  have hF50:=hF49.keep [0,6,7,8,9,10,11,31]
  clear hF49
  refine thenN ?_
  refine wp_block ?_
  refine wp_seq (wp_region_lit ?_)
  refine ev_runK 2 hF50 [0,6,7,8,9,10,11,31,36] (l':=[(36,.bool ((aKind s0.a.c (atI (hObjsF s0.a) x23)) == 1)),(31,nI (aKind s0.a.c (atI (hObjsF s0.a) x23))),(11,nI x23),(10,.slice (some ⟨g42,0,none⟩) (hObjsF s0.a).length c16),(9,nI x24),(8,nI x25),(7,nI x26),(6,nI x27),(0,nP b0 0)]) (w':=w46) (by kernel_rfl) ?_
  intro a52 hF51; clear hF50
  refine wpList_nil (thenN ?_)
  refine joinQ (fun aI wI=>∃ (x53:Int) (x54:Int) (x55:Int) (x56:Int),Fr 58 aI [(6,nI x53),(11,nI x23),(10,.slice (some ⟨g42,0,none⟩) (hObjsF s0.a).length c16),(9,nI x54),(8,nI x55),(7,nI x56),(0,nP b0 0)]∧St w0 F0 (RHeapP b0 ab0 sb0 g0 cb0 s0::RowP (.slice (some ⟨g42,0,none⟩) (hObjsF s0.a).length c16) (hObjsF s0.a)::ps) wI∧law11_places.j8 x23 (law11_places.l7 s0 k28) x53 x54 x55 x56=some (r0,r1,r2,r3,t0)) ?_ ?_
  rotate_left
  · rintro a58 w59 ⟨x53,x54,x55,x56,hF60,hS61,hm62⟩
    clear hF51 hS48 hm41
    unfold law11_places.j8 at hm62
    refine blockN ?_
    refine blockN ?_
    refine thenN (wp_region_lit ?_)
    refine ev_runK 3 hF60 [0,6,7,8,9,10,11] (l':=[(11,nI (IntKind.i64.wrap (x23+1))),(6,nI x53),(10,.slice (some ⟨g42,0,none⟩) (hObjsF s0.a).length c16),(9,nI x54),(8,nI x55),(7,nI x56),(0,nP b0 0)]) (w':=w59) (by kernel_rfl) ?_
    intro a65 hF64; clear hF60
    refine wpList_nil ?_
    have hF66:Fr 58 a65 [(11,nI (IntKind.i64.wrap (x23+1))),(10,.slice (some ⟨g42,0,none⟩) (hObjsF s0.a).length c16),(9,nI x54),(8,nI x55),(7,nI x56),(6,nI x53),(0,nP b0 0)]:=Fr.re hF64 (by kernel_rfl)
    clear hF64
    exact thenN ⟨k28,Nat.lt_succ_self _,IntKind.i64.wrap (x23+1),x54,x55,x56,x53,hF66,hS61,hm62⟩
  · skip
    cases hc67:((aKind s0.a.c (atI (hObjsF s0.a) x23)) == 1)
    case true =>
     rw [hc67] at hF51
     have hm68:=ifYes hc67 hm41; clear hm41
     refine ev_condT hF51 rfl rfl ?_
     refine wp_region_lit ?_
     refine ev_runs 2 hF51 (l':=[(39,nI x23),(38,.slice (some ⟨g42,0,none⟩) (hObjsF s0.a).length c16),(36,.bool true),(31,nI (aKind s0.a.c (atI (hObjsF s0.a) x23))),(11,nI x23),(10,.slice (some ⟨g42,0,none⟩) (hObjsF s0.a).length c16),(9,nI x24),(8,nI x25),(7,nI x26),(6,nI x27),(0,nP b0 0)]) (w':=w46) (by kernel_rfl) ?_
     intro a70 hF69; clear hF51
     refine ev_one (nP g42 (x23.toNat)) w46 hF69 (by kernel_rfl) rfl (by kernel_rfl) (run_idx rfl rfl rfl rfl rfl (inR_spec hc40).1 (inR_spec hc40).2 _) (l':=[(40,nP g42 (x23.toNat)),(39,nI x23),(38,.slice (some ⟨g42,0,none⟩) (hObjsF s0.a).length c16),(36,.bool true),(31,nI (aKind s0.a.c (atI (hObjsF s0.a) x23))),(11,nI x23),(10,.slice (some ⟨g42,0,none⟩) (hObjsF s0.a).length c16),(9,nI x24),(8,nI x25),(7,nI x26),(6,nI x27),(0,nP b0 0)]) (by kernel_rfl) ?_
     intro a72 hF71; clear hF69
     refine ev_one (nI (atI (hObjsF s0.a) x23)) w46 hF71 (by kernel_rfl) rfl (by kernel_rfl) (run_load1 rfl rfl rfl (hS48.atI 1 rfl hc40)) (l':=[(41,nI (atI (hObjsF s0.a) x23)),(40,nP g42 (x23.toNat)),(39,nI x23),(38,.slice (some ⟨g42,0,none⟩) (hObjsF s0.a).length c16),(36,.bool true),(31,nI (aKind s0.a.c (atI (hObjsF s0.a) x23))),(11,nI x23),(10,.slice (some ⟨g42,0,none⟩) (hObjsF s0.a).length c16),(9,nI x24),(8,nI x25),(7,nI x26),(6,nI x27),(0,nP b0 0)]) (by kernel_rfl) ?_
     intro a74 hF73; clear hF71
     refine ev_runK 1 hF73 [0,6,7,8,9,10,11] (l':=[(6,nI (atI (hObjsF s0.a) x23)),(11,nI x23),(10,.slice (some ⟨g42,0,none⟩) (hObjsF s0.a).length c16),(9,nI x24),(8,nI x25),(7,nI x26),(0,nP b0 0)]) (w':=w46) (by kernel_rfl) ?_
     intro a76 hF75; clear hF73
     refine wpList_nil ?_
     exact thenN ⟨atI (hObjsF s0.a) x23,x24,x25,x26,hF75,hS48,hm68⟩
    rw [hc67] at hF51
    have hm77:=ifNot hc67 hm41; clear hm41
    refine ev_condF hF51 rfl rfl ?_
    refine wp_seq (wp_region_lit ?_)
    refine ev_runK 2 hF51 [0,6,7,8,9,10,11,31,42] (l':=[(42,.bool ((aKind s0.a.c (atI (hObjsF s0.a) x23)) == 3)),(31,nI (aKind s0.a.c (atI (hObjsF s0.a) x23))),(11,nI x23),(10,.slice (some ⟨g42,0,none⟩) (hObjsF s0.a).length c16),(9,nI x24),(8,nI x25),(7,nI x26),(6,nI x27),(0,nP b0 0)]) (w':=w46) (by kernel_rfl) ?_
    intro a79 hF78; clear hF51
    refine wpList_nil (thenN ?_)
    refine joinQ (fun aI wI=>∃ (x80:Int) (x81:Int) (x82:Int),Fr 58 aI [(7,nI x80),(11,nI x23),(10,.slice (some ⟨g42,0,none⟩) (hObjsF s0.a).length c16),(9,nI x81),(8,nI x82),(6,nI x27),(0,nP b0 0)]∧St w0 F0 (RHeapP b0 ab0 sb0 g0 cb0 s0::RowP (.slice (some ⟨g42,0,none⟩) (hObjsF s0.a).length c16) (hObjsF s0.a)::ps) wI∧law11_places.j9 x23 x27 (law11_places.l7 s0 k28) x80 x81 x82=some (r0,r1,r2,r3,t0)) ?_ ?_
    rotate_left
    · rintro a84 w85 ⟨x80,x81,x82,hF86,hS87,hm88⟩
      clear hF78 hS48 hm77
      unfold law11_places.j9 at hm88
      have hF90:Fr 58 a84 [(6,nI x27),(11,nI x23),(10,.slice (some ⟨g42,0,none⟩) (hObjsF s0.a).length c16),(9,nI x81),(8,nI x82),(7,nI x80),(0,nP b0 0)]:=Fr.re hF86 (by kernel_rfl)
      clear hF86
      exact thenN ⟨x27,x81,x82,x80,hF90,hS87,hm88⟩
    · skip
      cases hc91:((aKind s0.a.c (atI (hObjsF s0.a) x23)) == 3)
      case true =>
       rw [hc91] at hF78
       have hm92:=ifYes hc91 hm77; clear hm77
       refine ev_condT hF78 rfl rfl ?_
       refine wp_region_lit ?_
       refine ev_runs 2 hF78 (l':=[(45,nI x23),(44,.slice (some ⟨g42,0,none⟩) (hObjsF s0.a).length c16),(42,.bool true),(31,nI (aKind s0.a.c (atI (hObjsF s0.a) x23))),(11,nI x23),(10,.slice (some ⟨g42,0,none⟩) (hObjsF s0.a).length c16),(9,nI x24),(8,nI x25),(7,nI x26),(6,nI x27),(0,nP b0 0)]) (w':=w46) (by kernel_rfl) ?_
       intro a94 hF93; clear hF78
       refine ev_one (nP g42 (x23.toNat)) w46 hF93 (by kernel_rfl) rfl (by kernel_rfl) (run_idx rfl rfl rfl rfl rfl (inR_spec hc40).1 (inR_spec hc40).2 _) (l':=[(46,nP g42 (x23.toNat)),(45,nI x23),(44,.slice (some ⟨g42,0,none⟩) (hObjsF s0.a).length c16),(42,.bool true),(31,nI (aKind s0.a.c (atI (hObjsF s0.a) x23))),(11,nI x23),(10,.slice (some ⟨g42,0,none⟩) (hObjsF s0.a).length c16),(9,nI x24),(8,nI x25),(7,nI x26),(6,nI x27),(0,nP b0 0)]) (by kernel_rfl) ?_
       intro a96 hF95; clear hF93
       refine ev_one (nI (atI (hObjsF s0.a) x23)) w46 hF95 (by kernel_rfl) rfl (by kernel_rfl) (run_load1 rfl rfl rfl (hS48.atI 1 rfl hc40)) (l':=[(47,nI (atI (hObjsF s0.a) x23)),(46,nP g42 (x23.toNat)),(45,nI x23),(44,.slice (some ⟨g42,0,none⟩) (hObjsF s0.a).length c16),(42,.bool true),(31,nI (aKind s0.a.c (atI (hObjsF s0.a) x23))),(11,nI x23),(10,.slice (some ⟨g42,0,none⟩) (hObjsF s0.a).length c16),(9,nI x24),(8,nI x25),(7,nI x26),(6,nI x27),(0,nP b0 0)]) (by kernel_rfl) ?_
       intro a98 hF97; clear hF95
       refine ev_runK 1 hF97 [0,6,7,8,9,10,11] (l':=[(7,nI (atI (hObjsF s0.a) x23)),(11,nI x23),(10,.slice (some ⟨g42,0,none⟩) (hObjsF s0.a).length c16),(9,nI x24),(8,nI x25),(6,nI x27),(0,nP b0 0)]) (w':=w46) (by kernel_rfl) ?_
       intro a100 hF99; clear hF97
       refine wpList_nil ?_
       exact thenN ⟨atI (hObjsF s0.a) x23,x24,x25,hF99,hS48,hm92⟩
      rw [hc91] at hF78
      have hm101:=ifNot hc91 hm77; clear hm77
      refine ev_condF hF78 rfl rfl ?_
      refine wp_seq (wp_region_lit ?_)
      refine ev_runK 2 hF78 [0,6,7,8,9,10,11,48] (l':=[(48,.bool ((aKind s0.a.c (atI (hObjsF s0.a) x23)) == 4)),(11,nI x23),(10,.slice (some ⟨g42,0,none⟩) (hObjsF s0.a).length c16),(9,nI x24),(8,nI x25),(7,nI x26),(6,nI x27),(0,nP b0 0)]) (w':=w46) (by kernel_rfl) ?_
      intro a103 hF102; clear hF78
      refine wpList_nil (thenN ?_)
      refine joinQ (fun aI wI=>∃ (x104:Int) (x105:Int),Fr 58 aI [(8,nI x104),(11,nI x23),(10,.slice (some ⟨g42,0,none⟩) (hObjsF s0.a).length c16),(9,nI x105),(7,nI x26),(6,nI x27),(0,nP b0 0)]∧St w0 F0 (RHeapP b0 ab0 sb0 g0 cb0 s0::RowP (.slice (some ⟨g42,0,none⟩) (hObjsF s0.a).length c16) (hObjsF s0.a)::ps) wI∧law11_places.j10 x23 x26 x27 (law11_places.l7 s0 k28) x104 x105=some (r0,r1,r2,r3,t0)) ?_ ?_
      rotate_left
      · rintro a107 w108 ⟨x104,x105,hF109,hS110,hm111⟩
        clear hF102 hS48 hm101
        unfold law11_places.j10 at hm111
        have hF113:Fr 58 a107 [(7,nI x26),(11,nI x23),(10,.slice (some ⟨g42,0,none⟩) (hObjsF s0.a).length c16),(9,nI x105),(8,nI x104),(6,nI x27),(0,nP b0 0)]:=Fr.re hF109 (by kernel_rfl)
        clear hF109
        exact thenN ⟨x26,x105,x104,hF113,hS110,hm111⟩
      · skip
        cases hc114:((aKind s0.a.c (atI (hObjsF s0.a) x23)) == 4)
        case true =>
         rw [hc114] at hF102
         have hm115:=ifYes hc114 hm101; clear hm101
         refine ev_condT hF102 rfl rfl ?_
         refine wp_region_lit ?_
         refine ev_runs 2 hF102 (l':=[(51,nI x23),(50,.slice (some ⟨g42,0,none⟩) (hObjsF s0.a).length c16),(48,.bool true),(11,nI x23),(10,.slice (some ⟨g42,0,none⟩) (hObjsF s0.a).length c16),(9,nI x24),(8,nI x25),(7,nI x26),(6,nI x27),(0,nP b0 0)]) (w':=w46) (by kernel_rfl) ?_
         intro a117 hF116; clear hF102
         refine ev_one (nP g42 (x23.toNat)) w46 hF116 (by kernel_rfl) rfl (by kernel_rfl) (run_idx rfl rfl rfl rfl rfl (inR_spec hc40).1 (inR_spec hc40).2 _) (l':=[(52,nP g42 (x23.toNat)),(51,nI x23),(50,.slice (some ⟨g42,0,none⟩) (hObjsF s0.a).length c16),(48,.bool true),(11,nI x23),(10,.slice (some ⟨g42,0,none⟩) (hObjsF s0.a).length c16),(9,nI x24),(8,nI x25),(7,nI x26),(6,nI x27),(0,nP b0 0)]) (by kernel_rfl) ?_
         intro a119 hF118; clear hF116
         refine ev_one (nI (atI (hObjsF s0.a) x23)) w46 hF118 (by kernel_rfl) rfl (by kernel_rfl) (run_load1 rfl rfl rfl (hS48.atI 1 rfl hc40)) (l':=[(53,nI (atI (hObjsF s0.a) x23)),(52,nP g42 (x23.toNat)),(51,nI x23),(50,.slice (some ⟨g42,0,none⟩) (hObjsF s0.a).length c16),(48,.bool true),(11,nI x23),(10,.slice (some ⟨g42,0,none⟩) (hObjsF s0.a).length c16),(9,nI x24),(8,nI x25),(7,nI x26),(6,nI x27),(0,nP b0 0)]) (by kernel_rfl) ?_
         intro a121 hF120; clear hF118
         refine ev_runK 1 hF120 [0,6,7,8,9,10,11] (l':=[(8,nI (atI (hObjsF s0.a) x23)),(11,nI x23),(10,.slice (some ⟨g42,0,none⟩) (hObjsF s0.a).length c16),(9,nI x24),(7,nI x26),(6,nI x27),(0,nP b0 0)]) (w':=w46) (by kernel_rfl) ?_
         intro a123 hF122; clear hF120
         refine wpList_nil ?_
         exact thenN ⟨atI (hObjsF s0.a) x23,x24,hF122,hS48,hm115⟩
        rw [hc114] at hF102
        have hm124:=ifNot hc114 hm101; clear hm101
        refine ev_condF hF102 rfl rfl ?_
        refine wp_region_lit ?_
        refine ev_runs 2 hF102 (l':=[(33,nI x23),(32,.slice (some ⟨g42,0,none⟩) (hObjsF s0.a).length c16),(48,.bool false),(11,nI x23),(10,.slice (some ⟨g42,0,none⟩) (hObjsF s0.a).length c16),(9,nI x24),(8,nI x25),(7,nI x26),(6,nI x27),(0,nP b0 0)]) (w':=w46) (by kernel_rfl) ?_
        intro a126 hF125; clear hF102
        refine ev_one (nP g42 (x23.toNat)) w46 hF125 (by kernel_rfl) rfl (by kernel_rfl) (run_idx rfl rfl rfl rfl rfl (inR_spec hc40).1 (inR_spec hc40).2 _) (l':=[(34,nP g42 (x23.toNat)),(33,nI x23),(32,.slice (some ⟨g42,0,none⟩) (hObjsF s0.a).length c16),(48,.bool false),(11,nI x23),(10,.slice (some ⟨g42,0,none⟩) (hObjsF s0.a).length c16),(9,nI x24),(8,nI x25),(7,nI x26),(6,nI x27),(0,nP b0 0)]) (by kernel_rfl) ?_
        intro a128 hF127; clear hF125
        refine ev_one (nI (atI (hObjsF s0.a) x23)) w46 hF127 (by kernel_rfl) rfl (by kernel_rfl) (run_load1 rfl rfl rfl (hS48.atI 1 rfl hc40)) (l':=[(35,nI (atI (hObjsF s0.a) x23)),(34,nP g42 (x23.toNat)),(33,nI x23),(32,.slice (some ⟨g42,0,none⟩) (hObjsF s0.a).length c16),(48,.bool false),(11,nI x23),(10,.slice (some ⟨g42,0,none⟩) (hObjsF s0.a).length c16),(9,nI x24),(8,nI x25),(7,nI x26),(6,nI x27),(0,nP b0 0)]) (by kernel_rfl) ?_
        intro a130 hF129; clear hF127
        refine ev_runK 1 hF129 [0,6,7,8,9,10,11] (l':=[(9,nI (atI (hObjsF s0.a) x23)),(11,nI x23),(10,.slice (some ⟨g42,0,none⟩) (hObjsF s0.a).length c16),(8,nI x25),(7,nI x26),(6,nI x27),(0,nP b0 0)]) (w':=w46) (by kernel_rfl) ?_
        intro a132 hF131; clear hF129
        refine wpList_nil ?_
        have hF133:Fr 58 a132 [(8,nI x25),(11,nI x23),(10,.slice (some ⟨g42,0,none⟩) (hObjsF s0.a).length c16),(9,nI (atI (hObjsF s0.a) x23)),(7,nI x26),(6,nI x27),(0,nP b0 0)]:=Fr.re hF131 (by kernel_rfl)
        clear hF131
        exact thenN ⟨x25,atI (hObjsF s0.a) x23,hF133,hS48,hm124⟩
 rw [hc37] at hF35
 have hm134:=ifNot hc37 hm34; clear hm34
 refine ev_condF hF35 rfl rfl ?_
 refine wp_exit ?_
 refine thenE ?_
 refine thenE ?_
 refine blockE ?_
 refine thenN (wp_seq (wp_region_lit ?_))
 refine ev_runK 8 hF35 [2,3,4,5] (l':=[(5,nI x24),(4,nI x25),(3,nI x26),(2,nI x27)]) (w':=w30) (by kernel_rfl) ?_
 intro a136 hF135; clear hF35
 refine wpList_nil ?_
 have hS137:=hS32.pick1.drop
 clear hS32
 refine thenN ?_
 refine wp_ret ?_
 simp only [Option.some.injEq,Prod.mk.injEq] at hm134
 obtain ⟨rfl,rfl,rfl,rfl,rfl⟩:=hm134
 refine ev_ret hF135 [2,3,4,5] (.tuple #[nI x27,nI x26,nI x25,nI x24]) rfl rfl rfl ?_
 exact ⟨rfl,hS137⟩
def law11_alike.l4b (s0:HSt) (s1:HSt) (x22:Int) (rec25:Int→Option (Bool×HSt×HSt)) (rec69:Int→Option (Bool×HSt×HSt)) (x66:Int):Option (Bool×HSt×HSt):=(if (inR x22 (hObjsF s1.a).length) then (if (decide (x66<(aLen s1.a.c (atI (hObjsF s1.a) x22)))) then bind2 (pLoad (atI (hObjsF s1.a) x22) x66 s0) fun x98 x99=>bind2 (pLoad (atI (hObjsF s1.a) x22) x66 s1) fun x112 x113=>(if (x98 != x112) then some (false,s0,s1) else rec69 (IntKind.i64.wrap (x66+1))) else rec25 (IntKind.i64.wrap (x22+1))) else none)
def law11_alike.l4 (s0:HSt) (s1:HSt) (x22:Int) (rec25:Int→Option (Bool×HSt×HSt)):Nat→Int→Option (Bool×HSt×HSt)
  | 0=>fun _=>none
  | kI+1=>law11_alike.l4b s0 s1 x22 rec25 (law11_alike.l4 s0 s1 x22 rec25 kI)
def law11_alike.l3b (s0:HSt) (s1:HSt) (k:Nat) (rec25:Int→Option (Bool×HSt×HSt)) (x22:Int):Option (Bool×HSt×HSt):=(if (decide (x22<((hObjsF s1.a).length:Int))) then (if (inR x22 (hObjsF s1.a).length) then (if (inR (atI (hObjsF s1.a) x22) (s1.a.c).length) then bind1 (pColour (atI (hObjsF s1.a) x22) s0) fun x45=>(if (x45 != (s1.col (atI (hObjsF s1.a) x22))) then some (false,s0,s1) else law11_alike.l4 s0 s1 x22 rec25 k 0) else none) else none) else some (true,s0,s1))
def law11_alike.l3 (s0:HSt) (s1:HSt) (k:Nat):Nat→Int→Option (Bool×HSt×HSt)
  | 0=>fun _=>none
  | kI+1=>law11_alike.l3b s0 s1 k (law11_alike.l3 s0 s1 k kI)
def law11_alike.m (k:Nat) (s0:HSt) (s1:HSt):Option (Bool×HSt×HSt):=law11_alike.l3 s0 s1 k k 0
theorem law11_alike.ok {w0 w:World} {F0:List Nat} {ps:List Piece} {k:Nat} {b0 ab0:Nat} {s0:HSt} {b1 ab1 sb1 g1 cb1:Nat} {s1:HSt} {r0:Bool} {t0:HSt} {t1:HSt} (hS:St w0 F0 (HeapP b0 ab0 s0::RHeapP b1 ab1 sb1 g1 cb1 s1::ps) w) (hm:law11_alike.m k s0 s1=some (r0,t0,t1)) :
    Calls Tryz.prog 24 #[nP b0 0,nP b1 0] w fun e w'=>e=.returned (.bool r0)∧St w0 F0 (HeapP b0 ab0 t0::RHeapP b1 ab1 sb1 g1 cb1 t1::ps) w':=by
 refine ev_enterL 79 [nP b0 0,nP b1 0] Tryz.func24 rfl rfl (by simp) ?_
 intro a hF
 have hF0:Fr 79 a [(0,nP b0 0),(1,nP b1 0)]:=hF; clear hF
 unfold law11_alike.m at hm
 refine wp_seq (wp_region_lit ?_)
 refine ev_runK 1 hF0 [0,1] (l':=[(0,nP b0 0),(1,nP b1 0)]) (w':=w) (by kernel_rfl) ?_
 intro a2 hF1; clear hF0
 refine wpList_nil (thenN (wp_seq (wp_region_lit ?_)))
 refine ev_runs 3 hF1 (l':=[(14,nP b1 0),(13,nP b1 0),(12,nP b1 0),(0,nP b0 0),(1,nP b1 0)]) (w':=w) (by kernel_rfl) ?_
 intro a4 hF3; clear hF1
 refine ev_one (nP ab1 0) w hF3 (by kernel_rfl) rfl (by kernel_rfl) (run_loadV rfl rfl (run_loadS rfl rfl (St.rhsee (k:=1) hS rfl).1)) (l':=[(15,nP ab1 0),(14,nP b1 0),(13,nP b1 0),(12,nP b1 0),(0,nP b0 0),(1,nP b1 0)]) (by kernel_rfl) ?_
 intro a6 hF5; clear hF3
 have hS7:=hS.pick1
 refine ev_call 103 #[nP ab1 0] hF5 rfl rfl (by kernel_rfl) rfl (by kernel_rfl) (fun w=>by kernel_rfl) ?_
 refine (q_Objects hS7).mono ?_
 rintro _ w8 ⟨z12,rfl,hS10⟩ a9 hF11; clear hF5 hS7
 obtain ⟨hl17,p14,c15,rfl,hp16⟩:=St.shape hS10 1 rfl
 refine ev_runK 1 hF11 [0,1,5] (l':=[(5,.slice p14 (hObjsF s1.a).length c15),(0,nP b0 0),(1,nP b1 0)]) (w':=w8) (by kernel_rfl) ?_
 intro a19 hF18; clear hF11
 refine wpList_nil (thenN (wp_seq (wp_seq (wp_region_lit ?_))))
 refine ev_runs 1 hF18 (l':=[(6,nI 0),(5,.slice p14 (hObjsF s1.a).length c15),(0,nP b0 0),(1,nP b1 0)]) (w':=w8) (by kernel_rfl) ?_
 intro a21 hF20; clear hF18
 refine wpList_nil (thenN ?_)
 refine wp_block ?_
 refine wp_loop_ghost (fun kI aI wI=>∃ (x22:Int),Fr 79 aI [(6,nI x22),(5,.slice p14 (hObjsF s1.a).length c15),(0,nP b0 0),(1,nP b1 0)]∧St w0 F0 (RHeapP b1 ab1 sb1 g1 cb1 s1::RowP (.slice p14 (hObjsF s1.a).length c15) (hObjsF s1.a)::HeapP b0 ab0 s0::ps) wI∧law11_alike.l3 s0 s1 k kI x22=some (r0,t0,t1)) k ⟨0,hF20,hS10,hm⟩ ?_
 rintro k23 a24 w25 ⟨x22,hF26,hS27,hm28⟩
 clear hF20 hS10 hm
 rcases k23 with _ | k23
 · cases hm28
 have hm29:law11_alike.l3b s0 s1 k (law11_alike.l3 s0 s1 k k23) x22=some (r0,t0,t1):=hm28
 clear hm28
 unfold law11_alike.l3b at hm29
 refine wp_seq (wp_seq (wp_region_lit ?_))
 refine ev_runK 4 hF26 [0,1,5,6,20] (l':=[(20,.bool (decide (x22<((hObjsF s1.a).length:Int)))),(6,nI x22),(5,.slice p14 (hObjsF s1.a).length c15),(0,nP b0 0),(1,nP b1 0)]) (w':=w25) (by kernel_rfl) ?_
 intro a31 hF30; clear hF26
 refine wpList_nil (thenN ?_)
 cases hc32:(decide (x22<((hObjsF s1.a).length:Int)))
 case true =>
  rw [hc32] at hF30
  have hm33:=ifYes hc32 hm29; clear hm29
  refine ev_condT hF30 rfl rfl ?_
  refine wp_skip ?_
  have hF34:=hF30.keep [0,1,5,6]
  clear hF30
  refine thenN (wp_seq ?_)
  refine wp_block ?_
  refine wp_seq (wp_seq ?_)
  obtain ⟨hc35,hm36⟩:=ifTE hm33; clear hm33
  obtain ⟨g37,rfl⟩:=hp16.resolve_left (by have:=inR_spec hc35; omega)
  obtain ⟨hc38,hm39⟩:=ifTE hm36; clear hm36
  have hS40:=hS27.pick1
  clear hS27
  have hS41:=hS40.drew; clear hS40
  refine any_start (fun wS=>∃ qs,St w0 F0 (RowP (.slice (some ⟨g37,0,none⟩) (hObjsF s1.a).length c15) (hObjsF s1.a)::RHeapP b1 ab1 sb1 g1 cb1 s1::qs) wS) 17 #[false,false,false,false,false,false,false,false,false,false,false,false,false,false,false,false,false] (by kernel_rfl) (by kernel_rfl) (by kernel_rfl) ?_
  refine any_many 15 [(0,some (nP b0 0)),(1,some (.slice (some ⟨g37,0,none⟩) (hObjsF s1.a).length c15)),(2,some (nI x22)),(3,some (nP g37 (x22.toNat))),(4,some (nI (atI (hObjsF s1.a) x22))),(6,some (nP b1 0)),(7,some (nP b1 0)),(8,some (nP b1 1)),(9,some (.slice (some ⟨cb1,0,none⟩) (s1.a.c.length) (s1.a.c.length))),(10,some (.slice (some ⟨g37,0,none⟩) (hObjsF s1.a).length c15)),(11,some (nI x22)),(12,some (nP g37 (x22.toNat))),(13,some (nI (atI (hObjsF s1.a) x22))),(14,some (nP cb1 ((atI (hObjsF s1.a) x22).toNat))),(15,some (nI (s1.col (atI (hObjsF s1.a) x22))))] [0,1,5,6,23,27,28,38,39] #[true,true,true,true,true,false,true,true,true,true,true,true,true,true,true,true,false] (by rfl) hF34 (by kernel_rfl) (by kernel_rfl) (by exact ⟨fun wS hw=>by kernel_rfl,fun wS hw=>by kernel_rfl,fun wS hw=>by kernel_rfl,fun wS hw=>run_idx rfl rfl rfl rfl rfl (inR_spec hc35).1 (inR_spec hc35).2 _,fun wS hw=>run_load1 rfl rfl rfl (hw.elim fun qs hw=>hw.atI 0 rfl hc35),fun wS hw=>by kernel_rfl,fun wS hw=>by kernel_rfl,fun wS hw=>by kernel_rfl,fun wS hw=>hw.elim fun qs hw=>run_loadV rfl rfl (run_loadS rfl rfl (St.rhsee (k:=1) hw rfl).2.1),fun wS hw=>by kernel_rfl,fun wS hw=>by kernel_rfl,fun wS hw=>run_idx rfl rfl rfl rfl rfl (inR_spec hc35).1 (inR_spec hc35).2 _,fun wS hw=>run_load1 rfl rfl rfl (hw.elim fun qs hw=>hw.atI 0 rfl hc35),fun wS hw=>run_idx rfl rfl rfl rfl rfl (inR_spec hc38).1 (inR_spec hc38).2 _,fun wS hw=>run_load1 rfl rfl rfl (hw.elim fun qs hw=>St.rhcol (k:=1) hw rfl hc38),trivial⟩) (fun _ _ _ _ _ h=>h) ⟨_,hS41⟩ (l':=[(38,nI (s1.col (atI (hObjsF s1.a) x22))),(27,nI (atI (hObjsF s1.a) x22)),(23,nP b0 0),(6,nI x22),(5,.slice (some ⟨g37,0,none⟩) (hObjsF s1.a).length c15),(0,nP b0 0),(1,nP b1 0)]) (by kernel_rfl) ?_
  intro a43 hF42; clear hF34
  have hS44:=hS41.pick2
  clear hS41
  refine any_call 5 #[true,true,true,true,true,true,true,true,true,true,true,true,true,true,true,true,false] 41 #[nP b0 0,nI (atI (hObjsF s1.a) x22)] hF42 rfl (by kernel_rfl) rfl rfl (by kernel_rfl) rfl (by kernel_rfl) (fun w=>by kernel_rfl) (by kernel_rfl) ?_
  obtain ⟨x45,hx46,hm47⟩:=bind1E hm39; clear hm39
  refine (p_Colour hS44 hx46).mono ?_
  rintro _ w48 ⟨rfl,hS50⟩; clear hS44
  refine ⟨⟨_,hS50.pick2.pick2⟩,?_⟩
  intro a49 hF51; clear hF42
  refine any_many 1 [(16,some (.bool (x45 != (s1.col (atI (hObjsF s1.a) x22)))))] [0,1,5,6,39] #[true,true,true,true,true,true,true,true,true,true,true,true,true,true,true,true,true] (by rfl) hF51 (by kernel_rfl) (by kernel_rfl) (by exact ⟨fun wS hw=>by kernel_rfl,trivial⟩) (fun _ _ _ _ _ h=>h) ⟨_,hS50.pick2.pick2⟩ (l':=[(39,.bool (x45 != (s1.col (atI (hObjsF s1.a) x22)))),(6,nI x22),(5,.slice (some ⟨g37,0,none⟩) (hObjsF s1.a).length c15),(0,nP b0 0),(1,nP b1 0)]) (by kernel_rfl) ?_
  intro a53 hF52; clear hF51
  refine any_done (by kernel_rfl) ?_
  refine thenN ?_
  cases hc54:(x45 != (s1.col (atI (hObjsF s1.a) x22)))
  case true =>
   rw [hc54] at hF52
   have hm55:=ifYes hc54 hm47; clear hm47
   refine ev_condT hF52 rfl rfl ?_
   refine wp_seq (wp_region_lit ?_)
   refine ev_runK 1 hF52 [4] (l':=[(4,.bool false)]) (w':=w48) (by kernel_rfl) ?_
   intro a57 hF56; clear hF52
   refine wpList_nil ?_
   have hS58:=hS50.pick1.drop
   clear hS50
   refine thenN ?_
   refine wp_ret ?_
   refine thenR ?_
   refine blockR ?_
   refine thenR (thenR ?_)
   refine blockR ?_
   refine thenR ?_
   simp only [Option.some.injEq,Prod.mk.injEq] at hm55
   obtain ⟨rfl,rfl,rfl⟩:=hm55
   refine ev_ret hF56 [4] (.bool false) rfl rfl rfl ?_
   exact ⟨rfl,hS58⟩
  rw [hc54] at hF52
  have hm62:=ifNot hc54 hm47; clear hm47
  refine ev_condF hF52 rfl rfl ?_
  refine wp_skip ?_
  have hF63:=hF52.keep [0,1,5,6]
  clear hF52
  refine thenN (wp_seq (wp_region_lit ?_))
  refine ev_runs 1 hF63 (l':=[(7,nI 0),(6,nI x22),(5,.slice (some ⟨g37,0,none⟩) (hObjsF s1.a).length c15),(0,nP b0 0),(1,nP b1 0)]) (w':=w48) (by kernel_rfl) ?_
  intro a65 hF64; clear hF63
  refine wpList_nil (thenN ?_)
  refine wp_block ?_
  refine wp_loop_ghost (fun kI aI wI=>∃ (x66:Int),Fr 79 aI [(7,nI x66),(6,nI x22),(5,.slice (some ⟨g37,0,none⟩) (hObjsF s1.a).length c15),(0,nP b0 0),(1,nP b1 0)]∧St w0 F0 (HeapP b0 ab0 s0::RowP (.slice (some ⟨g37,0,none⟩) (hObjsF s1.a).length c15) (hObjsF s1.a)::RHeapP b1 ab1 sb1 g1 cb1 s1::ps) wI∧law11_alike.l4 s0 s1 x22 (law11_alike.l3 s0 s1 k k23) kI x66=some (r0,t0,t1)) k ⟨0,hF64,hS50,hm62⟩ ?_
  rintro k67 a68 w69 ⟨x66,hF70,hS71,hm72⟩
  clear hF64 hS50 hm62
  rcases k67 with _ | k67
  · cases hm72
  have hm73:law11_alike.l4b s0 s1 x22 (law11_alike.l3 s0 s1 k k23) (law11_alike.l4 s0 s1 x22 (law11_alike.l3 s0 s1 k k23) k67) x66=some (r0,t0,t1):=hm72
  clear hm72
  unfold law11_alike.l4b at hm73
  refine wp_seq (wp_seq ?_)
  obtain ⟨hc74,hm75⟩:=ifTE hm73; clear hm73
  have hS76:=hS71.pick1.pick2
  clear hS71
  have hS77:=hS76.drew; clear hS76
  refine any_start (fun wS=>∃ qs,St w0 F0 (RHeapXP b1 ab1 sb1 g1 cb1::RowP (.slice (some ⟨g37,0,none⟩) (hObjsF s1.a).length c15) (hObjsF s1.a)::qs) wS) 11 #[false,false,false,false,false,false,false,false,false,false,false] (by kernel_rfl) (by kernel_rfl) (by kernel_rfl) ?_
  refine any_many 9 [(0,some (nI x66)),(1,some (nP b1 0)),(2,some (nP b1 0)),(3,some (nP b1 0)),(4,some (nP ab1 0)),(5,some (.slice (some ⟨g37,0,none⟩) (hObjsF s1.a).length c15)),(6,some (nI x22)),(7,some (nP g37 (x22.toNat))),(8,some (nI (atI (hObjsF s1.a) x22)))] [0,1,5,6,7,40,44,48,49,50] #[true,true,true,true,true,true,true,true,true,false,false] (by rfl) hF70 (by kernel_rfl) (by kernel_rfl) (by exact ⟨fun wS hw=>by kernel_rfl,fun wS hw=>by kernel_rfl,fun wS hw=>by kernel_rfl,fun wS hw=>by kernel_rfl,fun wS hw=>hw.elim fun qs hw=>run_loadV rfl rfl (run_loadS rfl rfl (St.rhA (k:=0) hw rfl)),fun wS hw=>by kernel_rfl,fun wS hw=>by kernel_rfl,fun wS hw=>run_idx rfl rfl rfl rfl rfl (inR_spec hc74).1 (inR_spec hc74).2 _,fun wS hw=>run_load1 rfl rfl rfl (hw.elim fun qs hw=>hw.atI 1 rfl hc74),trivial⟩) (fun _ _ _ _ _ h=>h) ⟨_,St.toRX (hS77)⟩ (l':=[(48,nI (atI (hObjsF s1.a) x22)),(44,nP ab1 0),(40,nI x66),(7,nI x66),(6,nI x22),(5,.slice (some ⟨g37,0,none⟩) (hObjsF s1.a).length c15),(0,nP b0 0),(1,nP b1 0)]) (by kernel_rfl) ?_
  intro a79 hF78; clear hF70
  refine any_call 9 #[true,true,true,true,true,true,true,true,true,true,false] 116 #[nP ab1 0,nI (atI (hObjsF s1.a) x22)] hF78 rfl (by kernel_rfl) rfl rfl (by kernel_rfl) rfl (by kernel_rfl) (fun w=>by kernel_rfl) (by kernel_rfl) ?_
  refine (q_Len hS77).mono ?_
  rintro _ w80 ⟨rfl,hS82⟩; clear hS77
  refine ⟨⟨_,St.toRX (hS82)⟩,?_⟩
  intro a81 hF83; clear hF78
  refine any_many 1 [(10,some (.bool (decide (x66<(aLen s1.a.c (atI (hObjsF s1.a) x22))))))] [0,1,5,6,7,50] #[true,true,true,true,true,true,true,true,true,true,true] (by rfl) hF83 (by kernel_rfl) (by kernel_rfl) (by exact ⟨fun wS hw=>by kernel_rfl,trivial⟩) (fun _ _ _ _ _ h=>h) ⟨_,St.toRX (hS82)⟩ (l':=[(50,.bool (decide (x66<(aLen s1.a.c (atI (hObjsF s1.a) x22))))),(7,nI x66),(6,nI x22),(5,.slice (some ⟨g37,0,none⟩) (hObjsF s1.a).length c15),(0,nP b0 0),(1,nP b1 0)]) (by kernel_rfl) ?_
  intro a85 hF84; clear hF83
  refine any_done (by kernel_rfl) ?_
  refine thenN ?_
  cases hc86:(decide (x66<(aLen s1.a.c (atI (hObjsF s1.a) x22))))
  case true =>
   rw [hc86] at hF84
   have hm87:=ifYes hc86 hm75; clear hm75
   refine ev_condT hF84 rfl rfl ?_
   refine wp_skip ?_
   have hF88:=hF84.keep [0,1,5,6,7]
   clear hF84
   refine thenN (wp_seq ?_)
   refine wp_block ?_
   refine wp_seq (wp_region_lit ?_)
   refine ev_runs 3 hF88 (l':=[(56,nI x22),(55,.slice (some ⟨g37,0,none⟩) (hObjsF s1.a).length c15),(54,nP b0 0),(7,nI x66),(6,nI x22),(5,.slice (some ⟨g37,0,none⟩) (hObjsF s1.a).length c15),(0,nP b0 0),(1,nP b1 0)]) (w':=w80) (by kernel_rfl) ?_
   intro a90 hF89; clear hF88
   refine ev_one (nP g37 (x22.toNat)) w80 hF89 (by kernel_rfl) rfl (by kernel_rfl) (run_idx rfl rfl rfl rfl rfl (inR_spec hc74).1 (inR_spec hc74).2 _) (l':=[(57,nP g37 (x22.toNat)),(56,nI x22),(55,.slice (some ⟨g37,0,none⟩) (hObjsF s1.a).length c15),(54,nP b0 0),(7,nI x66),(6,nI x22),(5,.slice (some ⟨g37,0,none⟩) (hObjsF s1.a).length c15),(0,nP b0 0),(1,nP b1 0)]) (by kernel_rfl) ?_
   intro a92 hF91; clear hF89
   refine ev_one (nI (atI (hObjsF s1.a) x22)) w80 hF91 (by kernel_rfl) rfl (by kernel_rfl) (run_load1 rfl rfl rfl (hS82.atI 1 rfl hc74)) (l':=[(58,nI (atI (hObjsF s1.a) x22)),(57,nP g37 (x22.toNat)),(56,nI x22),(55,.slice (some ⟨g37,0,none⟩) (hObjsF s1.a).length c15),(54,nP b0 0),(7,nI x66),(6,nI x22),(5,.slice (some ⟨g37,0,none⟩) (hObjsF s1.a).length c15),(0,nP b0 0),(1,nP b1 0)]) (by kernel_rfl) ?_
   intro a94 hF93; clear hF91
   refine ev_runs 1 hF93 (l':=[(59,nI x66),(58,nI (atI (hObjsF s1.a) x22)),(57,nP g37 (x22.toNat)),(56,nI x22),(55,.slice (some ⟨g37,0,none⟩) (hObjsF s1.a).length c15),(54,nP b0 0),(7,nI x66),(6,nI x22),(5,.slice (some ⟨g37,0,none⟩) (hObjsF s1.a).length c15),(0,nP b0 0),(1,nP b1 0)]) (w':=w80) (by kernel_rfl) ?_
   intro a96 hF95; clear hF93
   have hS97:=hS82.pick2
   clear hS82
   refine ev_call 39 #[nP b0 0,nI (atI (hObjsF s1.a) x22),nI x66] hF95 rfl rfl (by kernel_rfl) rfl (by kernel_rfl) (fun w=>by kernel_rfl) ?_
   obtain ⟨x98,x99,hx100,hm101⟩:=bind2E hm87; clear hm87
   refine (p_Load hS97 hx100).mono ?_
   rintro _ w102 ⟨rfl,hS104⟩ a103 hF105; clear hF95 hS97
   refine ev_runK 5 hF105 [0,1,5,6,7,8] (l':=[(8,nI x98),(7,nI x66),(6,nI x22),(5,.slice (some ⟨g37,0,none⟩) (hObjsF s1.a).length c15),(0,nP b0 0),(1,nP b1 0)]) (w':=w102) (by kernel_rfl) ?_
   intro a107 hF106; clear hF105
   refine wpList_nil (thenN (wp_seq ?_))
   have hS108:=hS104.pick2.pick2
   clear hS104
   have hS109:=hS108.drew; clear hS108
   refine any_start (fun wS=>∃ qs,St w0 F0 (RHeapXP b1 ab1 sb1 g1 cb1::RowP (.slice (some ⟨g37,0,none⟩) (hObjsF s1.a).length c15) (hObjsF s1.a)::qs) wS) 15 #[false,false,false,false,false,false,false,false,false,false,false,false,false,false,false] (by kernel_rfl) (by kernel_rfl) (by kernel_rfl) ?_
   refine any_many 9 [(0,some (nP b1 0)),(1,some (nP b1 0)),(2,some (nP b1 0)),(3,some (nP ab1 0)),(4,some (.slice (some ⟨g37,0,none⟩) (hObjsF s1.a).length c15)),(5,some (nI x22)),(6,some (nP g37 (x22.toNat))),(7,some (nI (atI (hObjsF s1.a) x22))),(8,some (nI x66))] [0,1,5,6,7,8,10,63,67,71,72,73,74,75] #[true,true,true,true,true,true,true,true,true,false,false,false,false,false,false] (by rfl) hF106 (by kernel_rfl) (by kernel_rfl) (by exact ⟨fun wS hw=>by kernel_rfl,fun wS hw=>by kernel_rfl,fun wS hw=>by kernel_rfl,fun wS hw=>hw.elim fun qs hw=>run_loadV rfl rfl (run_loadS rfl rfl (St.rhA (k:=0) hw rfl)),fun wS hw=>by kernel_rfl,fun wS hw=>by kernel_rfl,fun wS hw=>run_idx rfl rfl rfl rfl rfl (inR_spec hc74).1 (inR_spec hc74).2 _,fun wS hw=>run_load1 rfl rfl rfl (hw.elim fun qs hw=>hw.atI 1 rfl hc74),fun wS hw=>by kernel_rfl,trivial⟩) (fun _ _ _ _ _ h=>h) ⟨_,St.toRX (hS109)⟩ (l':=[(72,nI x66),(71,nI (atI (hObjsF s1.a) x22)),(67,nP ab1 0),(8,nI x98),(7,nI x66),(6,nI x22),(5,.slice (some ⟨g37,0,none⟩) (hObjsF s1.a).length c15),(0,nP b0 0),(1,nP b1 0)]) (by kernel_rfl) ?_
   intro a111 hF110; clear hF106
   refine any_call 9 #[true,true,true,true,true,true,true,true,true,true,false,false,false,false,false] 117 #[nP ab1 0,nI (atI (hObjsF s1.a) x22),nI x66] hF110 rfl (by kernel_rfl) rfl rfl (by kernel_rfl) rfl (by kernel_rfl) (fun w=>by kernel_rfl) (by kernel_rfl) ?_
   obtain ⟨x112,x113,hx114,hm115⟩:=bind2E hm101; clear hm101
   refine (q_Load hS109 hx114).mono ?_
   rintro _ w116 ⟨rfl,hS118⟩; clear hS109
   refine ⟨⟨_,St.toRX (hS118)⟩,?_⟩
   intro a117 hF119; clear hF110
   refine any_many 5 [(10,some (.tuple #[nI x112,nI x113])),(11,some (nI x112)),(12,some (nI x113)),(13,some (nI x112)),(14,some (nI x113))] [0,1,5,6,7,8,10] #[true,true,true,true,true,true,true,true,true,true,true,true,true,true,true] (by rfl) hF119 (by kernel_rfl) (by kernel_rfl) (by exact ⟨fun wS hw=>by kernel_rfl,fun wS hw=>by kernel_rfl,fun wS hw=>by kernel_rfl,fun wS hw=>by kernel_rfl,fun wS hw=>by kernel_rfl,trivial⟩) (fun _ _ _ _ _ h=>h) ⟨_,St.toRX (hS118)⟩ (l':=[(10,nI x112),(8,nI x98),(7,nI x66),(6,nI x22),(5,.slice (some ⟨g37,0,none⟩) (hObjsF s1.a).length c15),(0,nP b0 0),(1,nP b1 0)]) (by kernel_rfl) ?_
   intro a121 hF120; clear hF119
   refine any_done (by kernel_rfl) ?_
   refine thenN (wp_seq (wp_region_lit ?_))
   refine ev_runK 3 hF120 [0,1,5,6,7,78] (l':=[(78,.bool (x98 != x112)),(7,nI x66),(6,nI x22),(5,.slice (some ⟨g37,0,none⟩) (hObjsF s1.a).length c15),(0,nP b0 0),(1,nP b1 0)]) (w':=w116) (by kernel_rfl) ?_
   intro a123 hF122; clear hF120
   refine wpList_nil (thenN ?_)
   cases hc124:(x98 != x112)
   case true =>
    rw [hc124] at hF122
    have hm125:=ifYes hc124 hm115; clear hm115
    refine ev_condT hF122 rfl rfl ?_
    refine wp_seq (wp_region_lit ?_)
    refine ev_runK 1 hF122 [4] (l':=[(4,.bool false)]) (w':=w116) (by kernel_rfl) ?_
    intro a127 hF126; clear hF122
    refine wpList_nil ?_
    have hS128:=hS118.pick1.drop
    clear hS118
    refine thenN ?_
    refine wp_ret ?_
    refine blockR ?_
    refine thenR (thenR ?_)
    refine blockR ?_
    refine blockR ?_
    refine thenR (thenR ?_)
    refine blockR ?_
    refine thenR ?_
    have hS129:=hS128.pick1
    clear hS128
    simp only [Option.some.injEq,Prod.mk.injEq] at hm125
    obtain ⟨rfl,rfl,rfl⟩:=hm125
    refine ev_ret hF126 [4] (.bool false) rfl rfl rfl ?_
    exact ⟨rfl,hS129⟩
   rw [hc124] at hF122
   have hm133:=ifNot hc124 hm115; clear hm115
   refine ev_condF hF122 rfl rfl ?_
   refine wp_skip ?_
   have hF134:=hF122.keep [0,1,5,6,7]
   clear hF122
   refine blockN ?_
   refine thenN (wp_region_lit ?_)
   refine ev_runK 3 hF134 [0,1,5,6,7] (l':=[(7,nI (IntKind.i64.wrap (x66+1))),(6,nI x22),(5,.slice (some ⟨g37,0,none⟩) (hObjsF s1.a).length c15),(0,nP b0 0),(1,nP b1 0)]) (w':=w116) (by kernel_rfl) ?_
   intro a136 hF135; clear hF134
   refine wpList_nil ?_
   have hS137:=hS118.pick1.pick2
   clear hS118
   exact thenN ⟨k67,Nat.lt_succ_self _,IntKind.i64.wrap (x66+1),hF135,hS137,hm133⟩
  rw [hc86] at hF84
  have hm138:=ifNot hc86 hm75; clear hm75
  refine ev_condF hF84 rfl rfl ?_
  refine wp_exit ?_
  refine thenE ?_
  refine thenE ?_
  refine blockE ?_
  refine blockN ?_
  refine thenN (wp_region_lit ?_)
  refine ev_runK 3 hF84 [0,1,5,6] (l':=[(6,nI (IntKind.i64.wrap (x22+1))),(5,.slice (some ⟨g37,0,none⟩) (hObjsF s1.a).length c15),(0,nP b0 0),(1,nP b1 0)]) (w':=w80) (by kernel_rfl) ?_
  intro a140 hF139; clear hF84
  refine wpList_nil ?_
  exact thenN ⟨k23,Nat.lt_succ_self _,IntKind.i64.wrap (x22+1),hF139,hS82,hm138⟩
 rw [hc32] at hF30
 have hm141:=ifNot hc32 hm29; clear hm29
 refine ev_condF hF30 rfl rfl ?_
 refine wp_exit ?_
 refine thenE ?_
 refine thenE ?_
 refine blockE ?_
 refine thenN (wp_seq (wp_region_lit ?_))
 refine ev_runK 1 hF30 [4] (l':=[(4,.bool true)]) (w':=w25) (by kernel_rfl) ?_
 intro a143 hF142; clear hF30
 refine wpList_nil ?_
 have hS144:=hS27.pick1.drop
 clear hS27
 refine thenN ?_
 refine wp_ret ?_
 have hS145:=hS144.pick1
 clear hS144
 simp only [Option.some.injEq,Prod.mk.injEq] at hm141
 obtain ⟨rfl,rfl,rfl⟩:=hm141
 refine ev_ret hF142 [4] (.bool true) rfl rfl rfl ?_
 exact ⟨rfl,hS145⟩
def law11_awake.j1 (y87:Bool):Option (Bool):=some (y87)
def law11_awake.m (k:Nat):Option (Bool):=bind2 (law11_bothM.m k (false)) fun s3 s4=>bind5 (law11_places.m k s4) fun x28 x29 x30 x31 s32=>bind2 (pPutChan x28 (⟨2,0,0,0,-1,-1,-1,-1,5⟩:Ch) s3) fun x56 s57=>bind2 (pChan x28 s57) fun q68 x69=>(if (x56 == 0) then (if (x69 == 0) then law11_awake.j1 ((q68.cap == (2:Int)) && ((q68.closed == (0:Int)) && ((q68.count == (0:Int)) && ((q68.start == (0:Int)) && ((q68.buf == (-1:Int)) && ((q68.th == (-1:Int)) && ((q68.tt == (-1:Int)) && ((q68.sh == (-1:Int)) && ((q68.st == (5:Int)) && (true)))))))))) else law11_awake.j1 false) else law11_awake.j1 false)
theorem law11_awake.ok {w0 w:World} {F0:List Nat} {ps:List Piece} {k:Nat}  {r0:Bool} (hS:St w0 F0 (ps) w) (hm:law11_awake.m k=some r0) :
    Calls Tryz.prog 13 #[] w fun e w'=>e=.returned (.bool r0)∧St w0 F0 (ps) w':=by
 refine ev_enterL 50 [] Tryz.func13 rfl rfl (by simp) ?_
 intro a hF
 have hF0:Fr 50 a []:=hF; clear hF
 unfold law11_awake.m at hm
 refine wp_seq (wp_region_lit ?_)
 refine ev_runK 1 hF0 [] (l':=[]) (w':=w) (by kernel_rfl) ?_
 intro a2 hF1; clear hF0
 refine wpList_nil (thenN (wp_seq (wp_region_lit ?_)))
 refine ev_call 12 #[.bool false] hF1 rfl rfl (by kernel_rfl) rfl (by kernel_rfl) (fun w=>by kernel_rfl) ?_
 obtain ⟨s3,s4,hx5,hm6⟩:=bind2E hm; clear hm
 refine (law11_bothM.ok hS hx5).mono ?_
 rintro _ w7 ⟨z11,z12,z13,z14,z15,z16,z17,rfl,hS9⟩ a8 hF10; clear hF1 hS
 refine ev_runK 5 hF10 [1,2] (l':=[(2,nP z13 0),(1,nP z11 0)]) (w':=w7) (by kernel_rfl) ?_
 intro a21 hF20; clear hF10
 refine wpList_nil (thenN (wp_seq (wp_seq (wp_region_lit ?_))))
 refine ev_runK 6 hF20 [1,2,20] (l':=[(20,.bool false),(2,nP z13 0),(1,nP z11 0)]) (w':=w7) (by kernel_rfl) ?_
 intro a23 hF22; clear hF20
 refine wpList_nil (thenN ?_)
 refine ev_condF hF22 rfl rfl ?_
 refine wp_skip ?_
 have hF24:=hF22.keep [1,2]
 clear hF22
 refine thenN (wp_seq (wp_region_lit ?_))
 refine ev_runs 1 hF24 (l':=[(22,nP z13 0),(2,nP z13 0),(1,nP z11 0)]) (w':=w7) (by kernel_rfl) ?_
 intro a26 hF25; clear hF24
 have hS27:=hS9.pick1
 clear hS9
 refine ev_call 14 #[nP z13 0] hF25 rfl rfl (by kernel_rfl) rfl (by kernel_rfl) (fun w=>by kernel_rfl) ?_
 obtain ⟨x28,x29,x30,x31,s32,hx33,hm34⟩:=bind5E hm6; clear hm6
 refine (law11_places.ok hS27 hx33).mono ?_
 rintro _ w35 ⟨rfl,hS37⟩ a36 hF38; clear hF25 hS27
 refine ev_runK 9 hF38 [1,3] (l':=[(3,nI x28),(1,nP z11 0)]) (w':=w35) (by kernel_rfl) ?_
 intro a40 hF39; clear hF38
 refine wpList_nil ?_
 have hS41:=hS37.drop
 clear hS37
 refine thenN (wp_seq (wp_region_lit ?_))
 refine ev_runs 2 hF39 (l':=[(7,nB w35),(28,.agg #[nI 2,nI 0,nI 0,nI 0,nI (-1),nI (-1),nI (-1),nI (-1),nI 5]),(3,nI x28),(1,nP z11 0)]) (w':=w35.alloc (.cells #[nI 0,nI 0,nI 0,nI 0,nI 0,nI 0,nI 0,nI 0,nI 0] 23)) (by kernel_rfl) ?_
 intro a43 hF42; clear hF39
 have hS45:St w0 F0 (BlkP (w35.heap.size) 23 #[nI 0,nI 0,nI 0,nI 0,nI 0,nI 0,nI 0,nI 0,nI 0]::HeapP z11 z12 s3::ps) (w35.alloc (.cells #[nI 0,nI 0,nI 0,nI 0,nI 0,nI 0,nI 0,nI 0,nI 0] 23)):=St.new hS41 #[nI 0,nI 0,nI 0,nI 0,nI 0,nI 0,nI 0,nI 0,nI 0] 23
 clear hS41
 refine ev_store (.agg #[nI 2,nI 0,nI 0,nI 0,nI (-1),nI (-1),nI (-1),nI (-1),nI 5]) #[nI 2,nI 0,nI 0,nI 0,nI (-1),nI (-1),nI (-1),nI (-1),nI 5] hF42 (by kernel_rfl) rfl rfl rfl rfl (by kernel_rfl) hS45 (by kernel_rfl) (by kernel_rfl) (by kernel_rfl) (l':=[(7,nB w35),(28,.agg #[nI 2,nI 0,nI 0,nI 0,nI (-1),nI (-1),nI (-1),nI (-1),nI 5]),(3,nI x28),(1,nP z11 0)]) (by kernel_rfl) ?_
 intro w46 a47 hS48 hF49; clear hF42 hS45
 refine wpList_nil ?_
 have hF50:=hF49.keep [1,3,7]
 clear hF49
 refine thenN (wp_seq (wp_region_lit ?_))
 refine ev_runs 2 hF50 (l':=[(30,nI x28),(29,nP z11 0),(7,nB w35),(3,nI x28),(1,nP z11 0)]) (w':=w46) (by kernel_rfl) ?_
 intro a52 hF51; clear hF50
 refine ev_one (.agg #[nI 2,nI 0,nI 0,nI 0,nI (-1),nI (-1),nI (-1),nI (-1),nI 5]) w46 hF51 (by kernel_rfl) rfl (by kernel_rfl) (run_loadV rfl rfl (run_loadA (cs:=[nI 2,nI 0,nI 0,nI 0,nI (-1),nI (-1),nI (-1),nI (-1),nI 5]) rfl rfl (by kernel_rfl) (blk_cells hS48 0 rfl rfl))) (l':=[(31,.agg #[nI 2,nI 0,nI 0,nI 0,nI (-1),nI (-1),nI (-1),nI (-1),nI 5]),(30,nI x28),(29,nP z11 0),(7,nB w35),(3,nI x28),(1,nP z11 0)]) (by kernel_rfl) ?_
 intro a54 hF53; clear hF51
 have hS55:=hS48.pick1
 clear hS48
 refine ev_call 16 #[nP z11 0,nI x28,.agg #[nI 2,nI 0,nI 0,nI 0,nI (-1),nI (-1),nI (-1),nI (-1),nI 5]] hF53 rfl rfl (by kernel_rfl) rfl (by kernel_rfl) (fun w=>by kernel_rfl) ?_
 obtain ⟨x56,s57,hx58,hm59⟩:=bind2E hm34; clear hm34
 refine (p_PutChan hS55 hx58).mono ?_
 rintro _ w60 ⟨rfl,hS62⟩ a61 hF63; clear hF53 hS55
 refine ev_runK 1 hF63 [1,3,7,8] (l':=[(8,nI x56),(7,nB w35),(3,nI x28),(1,nP z11 0)]) (w':=w60) (by kernel_rfl) ?_
 intro a65 hF64; clear hF63
 refine wpList_nil (thenN (wp_seq (wp_region_lit ?_)))
 refine ev_runs 2 hF64 (l':=[(35,nI x28),(34,nP z11 0),(8,nI x56),(7,nB w35),(3,nI x28),(1,nP z11 0)]) (w':=w60) (by kernel_rfl) ?_
 intro a67 hF66; clear hF64
 refine ev_call 25 #[nP z11 0,nI x28] hF66 rfl rfl (by kernel_rfl) rfl (by kernel_rfl) (fun w=>by kernel_rfl) ?_
 obtain ⟨q68,x69,hx70,hm71⟩:=bind2E hm59; clear hm59
 refine (p_Chan hS62 hx70).mono ?_
 rintro _ w72 ⟨rfl,hS74⟩ a73 hF75; clear hF66 hS62
 refine ev_runs 4 hF75 (l':=[(9,nB w72),(38,nI x69),(37,.agg #[nI (q68.cap),nI (q68.closed),nI (q68.count),nI (q68.start),nI (q68.buf),nI (q68.th),nI (q68.tt),nI (q68.sh),nI (q68.st)]),(33,.tuple #[.agg #[nI (q68.cap),nI (q68.closed),nI (q68.count),nI (q68.start),nI (q68.buf),nI (q68.th),nI (q68.tt),nI (q68.sh),nI (q68.st)],nI x69]),(36,.tuple #[.agg #[nI (q68.cap),nI (q68.closed),nI (q68.count),nI (q68.start),nI (q68.buf),nI (q68.th),nI (q68.tt),nI (q68.sh),nI (q68.st)],nI x69]),(35,nI x28),(34,nP z11 0),(8,nI x56),(7,nB w35),(3,nI x28),(1,nP z11 0)]) (w':=w72.alloc (.cells #[nI 0,nI 0,nI 0,nI 0,nI 0,nI 0,nI 0,nI 0,nI 0] 23)) (by kernel_rfl) ?_
 intro a77 hF76; clear hF75
 have hS79:St w0 F0 (BlkP (w72.heap.size) 23 #[nI 0,nI 0,nI 0,nI 0,nI 0,nI 0,nI 0,nI 0,nI 0]::HeapP z11 z12 s57::BlkP (w35.heap.size) 23 #[nI 2,nI 0,nI 0,nI 0,nI (-1),nI (-1),nI (-1),nI (-1),nI 5]::ps) (w72.alloc (.cells #[nI 0,nI 0,nI 0,nI 0,nI 0,nI 0,nI 0,nI 0,nI 0] 23)):=St.new hS74 #[nI 0,nI 0,nI 0,nI 0,nI 0,nI 0,nI 0,nI 0,nI 0] 23
 clear hS74
 refine ev_store (.agg #[nI (q68.cap),nI (q68.closed),nI (q68.count),nI (q68.start),nI (q68.buf),nI (q68.th),nI (q68.tt),nI (q68.sh),nI (q68.st)]) #[nI (q68.cap),nI (q68.closed),nI (q68.count),nI (q68.start),nI (q68.buf),nI (q68.th),nI (q68.tt),nI (q68.sh),nI (q68.st)] hF76 (by kernel_rfl) rfl rfl rfl rfl (by kernel_rfl) hS79 (by kernel_rfl) (by kernel_rfl) (by kernel_rfl) (l':=[(9,nB w72),(38,nI x69),(37,.agg #[nI (q68.cap),nI (q68.closed),nI (q68.count),nI (q68.start),nI (q68.buf),nI (q68.th),nI (q68.tt),nI (q68.sh),nI (q68.st)]),(33,.tuple #[.agg #[nI (q68.cap),nI (q68.closed),nI (q68.count),nI (q68.start),nI (q68.buf),nI (q68.th),nI (q68.tt),nI (q68.sh),nI (q68.st)],nI x69]),(36,.tuple #[.agg #[nI (q68.cap),nI (q68.closed),nI (q68.count),nI (q68.start),nI (q68.buf),nI (q68.th),nI (q68.tt),nI (q68.sh),nI (q68.st)],nI x69]),(35,nI x28),(34,nP z11 0),(8,nI x56),(7,nB w35),(3,nI x28),(1,nP z11 0)]) (by kernel_rfl) ?_
 intro w80 a81 hS82 hF83; clear hF76 hS79
 refine ev_runK 1 hF83 [7,8,9,10] (l':=[(10,nI x69),(9,nB w72),(8,nI x56),(7,nB w35)]) (w':=w80) (by kernel_rfl) ?_
 intro a85 hF84; clear hF83
 refine wpList_nil ?_
 have hS86:=hS82.pick1.drop
 clear hS82
 refine thenN (wp_seq ?_)
 refine joinQ (fun aI wI=>∃ (y87:Bool),Fr 50 aI [(0,.bool (y87))]∧St w0 F0 (ps) wI∧law11_awake.j1 y87=some r0) ?_ ?_
 rotate_left
 · rintro a89 w90 ⟨y87,hF91,hS92,hm93⟩
   clear hF84 hS86 hm71
   unfold law11_awake.j1 at hm93
   refine thenN ?_
   refine wp_ret ?_
   obtain rfl:=Option.some.inj hm93
   refine ev_ret hF91 [0] (.bool (y87)) rfl rfl rfl ?_
   exact ⟨rfl,hS92⟩
 · skip
   refine wp_region_lit ?_
   refine ev_runs 3 hF84 (l':=[(41,.bool (x56 == 0)),(40,.bool (x56 == 0)),(39,nI x56),(10,nI x69),(9,nB w72),(8,nI x56),(7,nB w35)]) (w':=w80) (by kernel_rfl) ?_
   intro a97 hF96; clear hF84
   cases hc98:(x56 == 0)
   case true =>
    rw [hc98] at hF96
    have hm99:=ifYes hc98 hm71; clear hm71
    refine ev_runs 4 hF96 (l':=[(45,.bool (x69 == 0)),(44,.bool (x69 == 0)),(43,.bool (x69 == 0)),(42,nI x69),(41,.bool true),(40,.bool true),(39,nI x56),(10,nI x69),(9,nB w72),(8,nI x56),(7,nB w35)]) (w':=w80) (by kernel_rfl) ?_
    intro a101 hF100; clear hF96
    cases hc102:(x69 == 0)
    case true =>
     rw [hc102] at hF100
     have hm103:=ifYes hc102 hm99; clear hm99
     refine ev_one (.agg #[nI (q68.cap),nI (q68.closed),nI (q68.count),nI (q68.start),nI (q68.buf),nI (q68.th),nI (q68.tt),nI (q68.sh),nI (q68.st)]) w80 hF100 (by kernel_rfl) rfl (by kernel_rfl) (run_loadV rfl rfl (run_loadA (cs:=[nI (q68.cap),nI (q68.closed),nI (q68.count),nI (q68.start),nI (q68.buf),nI (q68.th),nI (q68.tt),nI (q68.sh),nI (q68.st)]) rfl rfl (by kernel_rfl) (blk_cells hS86 0 rfl rfl))) (l':=[(46,.agg #[nI (q68.cap),nI (q68.closed),nI (q68.count),nI (q68.start),nI (q68.buf),nI (q68.th),nI (q68.tt),nI (q68.sh),nI (q68.st)]),(45,.bool true),(44,.bool true),(43,.bool true),(42,nI x69),(41,.bool true),(40,.bool true),(39,nI x56),(10,nI x69),(9,nB w72),(8,nI x56),(7,nB w35)]) (by kernel_rfl) ?_
     intro a105 hF104; clear hF100
     refine ev_one (.agg #[nI 2,nI 0,nI 0,nI 0,nI (-1),nI (-1),nI (-1),nI (-1),nI 5]) w80 hF104 (by kernel_rfl) rfl (by kernel_rfl) (run_loadV rfl rfl (run_loadA (cs:=[nI 2,nI 0,nI 0,nI 0,nI (-1),nI (-1),nI (-1),nI (-1),nI 5]) rfl rfl (by kernel_rfl) (blk_cells hS86 1 rfl rfl))) (l':=[(47,.agg #[nI 2,nI 0,nI 0,nI 0,nI (-1),nI (-1),nI (-1),nI (-1),nI 5]),(46,.agg #[nI (q68.cap),nI (q68.closed),nI (q68.count),nI (q68.start),nI (q68.buf),nI (q68.th),nI (q68.tt),nI (q68.sh),nI (q68.st)]),(45,.bool true),(44,.bool true),(43,.bool true),(42,nI x69),(41,.bool true),(40,.bool true),(39,nI x56),(10,nI x69),(9,nB w72),(8,nI x56),(7,nB w35)]) (by kernel_rfl) ?_
     intro a107 hF106; clear hF104
     refine ev_one (.bool ((q68.cap == (2:Int)) && ((q68.closed == (0:Int)) && ((q68.count == (0:Int)) && ((q68.start == (0:Int)) && ((q68.buf == (-1:Int)) && ((q68.th == (-1:Int)) && ((q68.tt == (-1:Int)) && ((q68.sh == (-1:Int)) && ((q68.st == (5:Int)) && (true))))))))))) w80 hF106 (by kernel_rfl) rfl (by kernel_rfl) (run_eqS rfl rfl rfl (by kernel_rfl) rfl (by kernel_rfl) (eqf_int (by kernel_rfl) rfl rfl rfl (eqf_int (by kernel_rfl) rfl rfl rfl (eqf_int (by kernel_rfl) rfl rfl rfl (eqf_int (by kernel_rfl) rfl rfl rfl (eqf_int (by kernel_rfl) rfl rfl rfl (eqf_int (by kernel_rfl) rfl rfl rfl (eqf_int (by kernel_rfl) rfl rfl rfl (eqf_int (by kernel_rfl) rfl rfl rfl (eqf_int (by kernel_rfl) rfl rfl rfl eqf_nil)))))))))) (l':=[(48,.bool ((q68.cap == (2:Int)) && ((q68.closed == (0:Int)) && ((q68.count == (0:Int)) && ((q68.start == (0:Int)) && ((q68.buf == (-1:Int)) && ((q68.th == (-1:Int)) && ((q68.tt == (-1:Int)) && ((q68.sh == (-1:Int)) && ((q68.st == (5:Int)) && (true))))))))))),(47,.agg #[nI 2,nI 0,nI 0,nI 0,nI (-1),nI (-1),nI (-1),nI (-1),nI 5]),(46,.agg #[nI (q68.cap),nI (q68.closed),nI (q68.count),nI (q68.start),nI (q68.buf),nI (q68.th),nI (q68.tt),nI (q68.sh),nI (q68.st)]),(45,.bool true),(44,.bool true),(43,.bool true),(42,nI x69),(41,.bool true),(40,.bool true),(39,nI x56),(10,nI x69),(9,nB w72),(8,nI x56),(7,nB w35)]) (by kernel_rfl) ?_
     intro a109 hF108; clear hF106
     refine ev_runK 2 hF108 [0] (l':=[(0,.bool ((q68.cap == (2:Int)) && ((q68.closed == (0:Int)) && ((q68.count == (0:Int)) && ((q68.start == (0:Int)) && ((q68.buf == (-1:Int)) && ((q68.th == (-1:Int)) && ((q68.tt == (-1:Int)) && ((q68.sh == (-1:Int)) && ((q68.st == (5:Int)) && (true)))))))))))]) (w':=w80) (by kernel_rfl) ?_
     intro a111 hF110; clear hF108
     refine wpList_nil ?_
     have hS112:=hS86.drop.drop
     clear hS86
     exact thenN ⟨(q68.cap == (2:Int)) && ((q68.closed == (0:Int)) && ((q68.count == (0:Int)) && ((q68.start == (0:Int)) && ((q68.buf == (-1:Int)) && ((q68.th == (-1:Int)) && ((q68.tt == (-1:Int)) && ((q68.sh == (-1:Int)) && ((q68.st == (5:Int)) && (true))))))))),hF110,hS112,hm103⟩
    rw [hc102] at hF100
    have hm113:=ifNot hc102 hm99; clear hm99
    refine ev_runK 5 hF100 [0] (l':=[(0,.bool false)]) (w':=w80) (by kernel_rfl) ?_
    intro a115 hF114; clear hF100
    refine wpList_nil ?_
    have hS116:=hS86.drop.drop
    clear hS86
    exact thenN ⟨false,hF114,hS116,hm113⟩
   rw [hc98] at hF96
   have hm117:=ifNot hc98 hm71; clear hm71
   refine ev_runK 9 hF96 [0] (l':=[(0,.bool false)]) (w':=w80) (by kernel_rfl) ?_
   intro a119 hF118; clear hF96
   refine wpList_nil ?_
   have hS120:=hS86.drop.drop
   clear hS86
   exact thenN ⟨false,hF118,hS120,hm117⟩
def law11_small.m (k:Nat) (i0:Int):Option (Int):=bind1 (some (Int.tmod i0 1099511627776)) fun x5=>some (x5)
theorem law11_small.ok {w0 w:World} {F0:List Nat} {ps:List Piece} {k:Nat} {i0:Int} {r0:Int} (hS:St w0 F0 (ps) w) (hm:law11_small.m k i0=some r0) :
    Calls Tryz.prog 15 #[nI i0] w fun e w'=>e=.returned (.int .i64 r0)∧St w0 F0 (ps) w':=by
 refine ev_enterL 5 [nI i0] Tryz.func15 rfl rfl (by simp) ?_
 intro a hF
 have hF0:Fr 5 a [(0,nI i0)]:=hF; clear hF
 unfold law11_small.m at hm
 refine wp_seq (wp_region_lit ?_)
 refine ev_runK 1 hF0 [0] (l':=[(0,nI i0)]) (w':=w) (by kernel_rfl) ?_
 intro a2 hF1; clear hF0
 refine wpList_nil (thenN (wp_seq (wp_region_lit ?_)))
 refine ev_runs 3 hF1 (l':=[(2,nI (Int.tmod i0 1099511627776)),(4,nI (Int.tmod i0 1099511627776)),(3,nI i0),(0,nI i0)]) (w':=w) (by kernel_rfl) ?_
 intro a4 hF3; clear hF1
 obtain ⟨x5,hx6,hm7⟩:=bind1E hm; clear hm
 have hF8:=hF3; rw [Option.some.inj hx6] at hF8; clear hF3
 refine wpList_nil ?_
 have hF9:=hF8.keep [2]
 clear hF8
 refine thenN ?_
 refine wp_ret ?_
 obtain rfl:=Option.some.inj hm7
 refine ev_ret hF9 [2] (nI x5) rfl rfl rfl ?_
 exact ⟨rfl,hS⟩
end Go.Proofs.YtffnjpapggidlaaGreat
