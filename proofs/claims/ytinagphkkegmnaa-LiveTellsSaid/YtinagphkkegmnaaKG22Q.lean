/- G22Q -/
import Derived.Test.YtinagphkkegmnaaKG22
import Derived.Test.YtinagphkkegmnaaKArgX
import Derived.Deep.LoopGhost
import Derived.KernelRfl
namespace Go.Proofs.Ytinagphkkegmnaa
open Go.RowKit
set_option linter.unusedVariables false
def law22_builtQ.j14 (x44:Int) (rec47:HSt→HSt→Int→Option (HSt×HSt)) (s119:HSt) (s120:HSt):Option (HSt×HSt):=rec47 s120 s119 (IntKind.i64.wrap (x44+1))
def law22_builtQ.j15 (x44:Int) (rec47:HSt→HSt→Int→Option (HSt×HSt)) (s173:HSt) (s174:HSt):Option (HSt×HSt):=law22_builtQ.j14 x44 rec47 s173 s174
def law22_builtQ.j16 (x44:Int) (rec47:HSt→HSt→Int→Option (HSt×HSt)) (s231:HSt) (s232:HSt):Option (HSt×HSt):=law22_builtQ.j15 x44 rec47 s231 s232
def law22_builtQ.j13 (K0:List Op22) (s42:HSt) (s43:HSt) (x44:Int) (rec47:HSt→HSt→Int→Option (HSt×HSt)) (x103:Int) (x104:Int):Option (HSt×HSt):=(if (((atX kOp K0 x44).kind) == 1) then bind2 (pStore x104 ((atX kOp K0 x44).i) ((atX kOp K0 x44).w) s42) fun x142 s143=>bind2 (pStore x104 ((atX kOp K0 x44).i) ((atX kOp K0 x44).w) s43) fun x160 s161=>law22_builtQ.j14 x44 rec47 s161 s143 else (if (((atX kOp K0 x44).kind) == 2) then bind1 (some (IntKind.i64.wrap (Int.tmod (IntKind.u64.wrap ((atX kOp K0 x44).i)) 10))) fun x190=>bind2 (pStore x104 x190 (wrap64 (wrap64 (x103 * 2)+1)) s42) fun x203 s204=>bind2 (pStore x104 x190 (wrap64 (wrap64 (x103 * 2)+1)) s43) fun x219 s220=>law22_builtQ.j15 x44 rec47 s220 s204 else (if (((atX kOp K0 x44).kind) == 3) then bind2 (pFree x104 s42) fun x251 s252=>bind2 (pFree x104 s43) fun x268 s269=>law22_builtQ.j16 x44 rec47 s269 s252 else bind1 (some (IntKind.i64.wrap (1+(IntKind.i64.wrap (Int.tmod (IntKind.u64.wrap ((atX kOp K0 x44).of)) 6))))) fun x284=>(if (inR x284 ([0,9,3,7,10,2,2]).length) then bind3 (pAlloc x284 (atI [0,9,3,7,10,2,2] x284) s42) fun x308 x309 s310=>bind3 (pAlloc x284 (atI [0,9,3,7,10,2,2] x284) s43) fun x321 x322 s323=>law22_builtQ.j16 x44 rec47 s323 s310 else none))))
def law22_builtQ.j12 (K0:List Op22) (s42:HSt) (s43:HSt) (x44:Int) (rec47:HSt→HSt→Int→Option (HSt×HSt)) (y52:Bool):Option (HSt×HSt):=(if (y52) then (if (inR x44 K0.length) then (if (decide (((hObjsF s43.a).length:Int) > 0)) then (if ((IntKind.u64.wrap ((hObjsF s43.a).length:Int)) == 0) then none else (if (inR (IntKind.i64.wrap (Int.tmod (IntKind.u64.wrap ((atX kOp K0 x44).at')) (IntKind.u64.wrap ((hObjsF s43.a).length:Int)))) (hObjsF s43.a).length) then (if (inR (IntKind.i64.wrap (Int.tmod (IntKind.u64.wrap ((atX kOp K0 x44).to)) (IntKind.u64.wrap ((hObjsF s43.a).length:Int)))) (hObjsF s43.a).length) then law22_builtQ.j13 K0 s42 s43 x44 rec47 (atI (hObjsF s43.a) (IntKind.i64.wrap (Int.tmod (IntKind.u64.wrap ((atX kOp K0 x44).to)) (IntKind.u64.wrap ((hObjsF s43.a).length:Int))))) (atI (hObjsF s43.a) (IntKind.i64.wrap (Int.tmod (IntKind.u64.wrap ((atX kOp K0 x44).at')) (IntKind.u64.wrap ((hObjsF s43.a).length:Int))))) else none) else none)) else law22_builtQ.j13 K0 s42 s43 x44 rec47 (-1) (-1)) else none) else some (s42,s43))
def law22_builtQ.l11b (K0:List Op22) (rec47:HSt→HSt→Int→Option (HSt×HSt)) (s42:HSt) (s43:HSt) (x44:Int):Option (HSt×HSt):=(if (decide (x44<(K0.length:Int))) then law22_builtQ.j12 K0 s42 s43 x44 rec47 (decide (x44<60)) else law22_builtQ.j12 K0 s42 s43 x44 rec47 false)
def law22_builtQ.l11 (K0:List Op22):Nat→HSt→HSt→Int→Option (HSt×HSt)
  | 0=>fun _ _ _=>none
  | kI+1=>law22_builtQ.l11b K0 (law22_builtQ.l11 K0 kI)
def law22_builtQ.m (k:Nat) (K0:List Op22):Option (HSt×HSt):=bind1 (pNew 6) fun s3=>bind1 (prNew 6) fun s15=>law22_builtQ.l11 K0 k s3 s15 0
set_option maxRecDepth 100000 in
set_option maxHeartbeats 40000000 in
theorem law22_builtQ.ok {w0 w:World} {ps:List Piece} {k:Nat} {pa0:Option Addr} {ca0:Nat} {K0:List Op22} (hA0:ArgX kOp w0 (.slice pa0 K0.length ca0) K0) {r0:HSt} {r1:HSt} (hS:St w0 [] (ps) w) (hm:law22_builtQ.m k K0=some (r0,r1)) :
    Calls Try.prog 27 #[.slice pa0 K0.length ca0] w fun e w'=>∃ br0 abr0 br1 abr1 sbr1 gr1 cbr1,e=.returned (.tuple #[.pointer (some ⟨br0,0,none⟩),.pointer (some ⟨br1,0,none⟩)])∧St w0 [] (HeapP br0 abr0 r0::RHeapP br1 abr1 sbr1 gr1 cbr1 r1::ps) w':=by
 refine ev_enterL 148 [.slice pa0 K0.length ca0] Try.func27 rfl rfl (by simp) ?_
 intro a hF
 have hF0:Fr 148 a [(0,.slice pa0 K0.length ca0)]:=hF; clear hF
 unfold law22_builtQ.m at hm
 refine wp_seq (wp_region_lit ?_)
 refine ev_runK 2 hF0 [0] (l':=[(0,.slice pa0 K0.length ca0)]) (w':=w) (by kernel_rfl) ?_
 intro a2 hF1; clear hF0
 refine wpList_nil (thenN (wp_seq (wp_region_lit ?_)))
 refine ev_call 53 #[nI 6] hF1 rfl rfl (by kernel_rfl) rfl (by kernel_rfl) (fun w=>by kernel_rfl) ?_
 obtain ⟨s3,hx4,hm5⟩:=bind1E hm; clear hm
 refine (p_New hS hx4).mono ?_
 rintro _ w6 ⟨z10,z11,rfl,hS8⟩ a7 hF9; clear hF1 hS
 refine ev_runK 5 hF9 [0,4,5] (l':=[(5,nI 0),(4,nP z10 0),(0,.slice pa0 K0.length ca0)]) (w':=w6) (by kernel_rfl) ?_
 intro a14 hF13; clear hF9
 refine wpList_nil (thenN (wp_seq (wp_region_lit ?_)))
 refine ev_call 54 #[nI 6] hF13 rfl rfl (by kernel_rfl) rfl (by kernel_rfl) (fun w=>by kernel_rfl) ?_
 obtain ⟨s15,hx16,hm17⟩:=bind1E hm5; clear hm5
 refine (q_New hS8 hx16).mono ?_
 rintro _ w18 ⟨z22,z23,z24,z25,z26,rfl,hS20⟩ a19 hF21; clear hF13 hS8
 refine ev_runK 5 hF21 [0,4,5,6] (l':=[(6,nP z22 0),(5,nI 0),(4,nP z10 0),(0,.slice pa0 K0.length ca0)]) (w':=w18) (by kernel_rfl) ?_
 intro a29 hF28; clear hF21
 refine wpList_nil (thenN (wp_seq (wp_seq (wp_region_lit ?_))))
 refine ev_runs 8 hF28 (l':=[(31,nP z10 0),(30,.bool false),(29,.bool false),(28,.bool false),(27,nP z10 0),(26,.bool false),(25,.bool false),(24,nI 0),(6,nP z22 0),(5,nI 0),(4,nP z10 0),(0,.slice pa0 K0.length ca0)]) (w':=w18) (by kernel_rfl) ?_
 intro a31 hF30; clear hF28
 have hS32:=hS20.pick1
 clear hS20
 refine ev_call 55 #[nP z10 0] hF30 rfl rfl (by kernel_rfl) rfl (by kernel_rfl) (fun w=>by kernel_rfl) ?_
 refine (p_Arena hS32).mono ?_
 rintro _ w33 ⟨rfl,hS35⟩ a34 hF36; clear hF30 hS32
 refine ev_runK 2 hF36 [0,4,6,34] (l':=[(34,.bool false),(6,nP z22 0),(4,nP z10 0),(0,.slice pa0 K0.length ca0)]) (w':=w33) (by kernel_rfl) ?_
 intro a38 hF37; clear hF36
 refine wpList_nil (thenN ?_)
 refine ev_condF hF37 rfl rfl ?_
 refine wp_skip ?_
 have hF39:=hF37.keep [0,4,6]
 clear hF37
 refine thenN (wp_seq (wp_seq (wp_region_lit ?_)))
 refine ev_runs 1 hF39 (l':=[(8,nI 0),(6,nP z22 0),(4,nP z10 0),(0,.slice pa0 K0.length ca0)]) (w':=w33) (by kernel_rfl) ?_
 intro a41 hF40; clear hF39
 refine wpList_nil (thenN ?_)
 refine wp_block ?_
 refine wp_loop_ghost (fun kI aI wI=>∃ (s42:HSt) (s43:HSt) (x44:Int),Fr 148 aI [(8,nI x44),(6,nP z22 0),(4,nP z10 0),(0,.slice pa0 K0.length ca0)]∧St w0 [] (HeapP z10 z11 s42::RHeapP z22 z23 z24 z25 z26 s43::ps) wI∧law22_builtQ.l11 K0 kI s42 s43 x44=some (r0,r1)) k ⟨s3,s15,0,hF40,hS35,hm17⟩ ?_
 rintro k45 a46 w47 ⟨s42,s43,x44,hF48,hS49,hm50⟩
 clear hF40 hS35 hm17
 rcases k45 with _ | k45
 · cases hm50
 have hm51:law22_builtQ.l11b K0 (law22_builtQ.l11 K0 k45) s42 s43 x44=some (r0,r1):=hm50
 clear hm50
 unfold law22_builtQ.l11b at hm51
 refine wp_seq (wp_seq ?_)
 refine joinQ (fun aI wI=>∃ (y52:Bool),Fr 148 aI [(42,.bool (y52)),(8,nI x44),(6,nP z22 0),(4,nP z10 0),(0,.slice pa0 K0.length ca0)]∧St w0 [] (HeapP z10 z11 s42::RHeapP z22 z23 z24 z25 z26 s43::ps) wI∧law22_builtQ.j12 K0 s42 s43 x44 (law22_builtQ.l11 K0 k45) y52=some (r0,r1)) ?_ ?_
 rotate_left
 · rintro a54 w55 ⟨y52,hF56,hS57,hm58⟩
   clear hF48 hS49 hm51
   unfold law22_builtQ.j12 at hm58
   refine thenN ?_
   cases hc60:(y52)
   case true =>
    rw [hc60] at hF56
    have hm61:=ifYes hc60 hm58; clear hm58
    refine ev_condT hF56 rfl rfl ?_
    refine wp_skip ?_
    have hF62:=hF56.keep [0,4,6,8]
    clear hF56
    refine thenN (wp_seq ?_)
    refine wp_block ?_
    refine wp_seq (wp_region_lit ?_)
    refine ev_runs 2 hF62 (l':=[(46,nI x44),(45,.slice pa0 K0.length ca0),(8,nI x44),(6,nP z22 0),(4,nP z10 0),(0,.slice pa0 K0.length ca0)]) (w':=w55) (by kernel_rfl) ?_
    intro a64 hF63; clear hF62
    obtain ⟨hc65,hm66⟩:=ifTE hm61; clear hm61
    obtain ⟨b67,o68,rfl⟩:=argKX hA0 hc65
    refine ev_one (nP b67 ((o68+x44.toNat * 6))) w55 hF63 (by kernel_rfl) rfl (by kernel_rfl) (run_idxXO rfl rfl (by kernel_rfl) rfl rfl (inR_spec hc65).1 (inR_spec hc65).2 _) (l':=[(47,nP b67 ((o68+x44.toNat * 6))),(46,nI x44),(45,.slice (some ⟨b67,o68,none⟩) K0.length ca0),(8,nI x44),(6,nP z22 0),(4,nP z10 0),(0,.slice (some ⟨b67,o68,none⟩) K0.length ca0)]) (by kernel_rfl) ?_
    intro a70 hF69; clear hF63
    refine ev_one (.agg #[nI ((atX kOp K0 x44).kind),nI ((atX kOp K0 x44).of),nI ((atX kOp K0 x44).at'),nI ((atX kOp K0 x44).i),nI ((atX kOp K0 x44).w),nI ((atX kOp K0 x44).to)]) w55 hF69 (by kernel_rfl) rfl (by kernel_rfl) (run_loadV rfl rfl (run_loadA (cs:=[nI ((atX kOp K0 x44).kind),nI ((atX kOp K0 x44).of),nI ((atX kOp K0 x44).at'),nI ((atX kOp K0 x44).i),nI ((atX kOp K0 x44).w),nI ((atX kOp K0 x44).to)]) rfl rfl (by kernel_rfl) (argAtX (cs:=[nI ((atX kOp K0 x44).kind),nI ((atX kOp K0 x44).of),nI ((atX kOp K0 x44).at'),nI ((atX kOp K0 x44).i),nI ((atX kOp K0 x44).w),nI ((atX kOp K0 x44).to)]) hA0 hS57 hc65 rfl))) (l':=[(48,.agg #[nI ((atX kOp K0 x44).kind),nI ((atX kOp K0 x44).of),nI ((atX kOp K0 x44).at'),nI ((atX kOp K0 x44).i),nI ((atX kOp K0 x44).w),nI ((atX kOp K0 x44).to)]),(47,nP b67 ((o68+x44.toNat * 6))),(46,nI x44),(45,.slice (some ⟨b67,o68,none⟩) K0.length ca0),(8,nI x44),(6,nP z22 0),(4,nP z10 0),(0,.slice (some ⟨b67,o68,none⟩) K0.length ca0)]) (by kernel_rfl) ?_
    intro a72 hF71; clear hF69
    refine ev_runs 1 hF71 (l':=[(9,nB w55),(48,.agg #[nI ((atX kOp K0 x44).kind),nI ((atX kOp K0 x44).of),nI ((atX kOp K0 x44).at'),nI ((atX kOp K0 x44).i),nI ((atX kOp K0 x44).w),nI ((atX kOp K0 x44).to)]),(47,nP b67 ((o68+x44.toNat * 6))),(46,nI x44),(45,.slice (some ⟨b67,o68,none⟩) K0.length ca0),(8,nI x44),(6,nP z22 0),(4,nP z10 0),(0,.slice (some ⟨b67,o68,none⟩) K0.length ca0)]) (w':=w55.alloc (.cells #[nI 0,nI 0,nI 0,nI 0,nI 0,nI 0] 91)) (by kernel_rfl) ?_
    intro a74 hF73; clear hF71
    have hS76:St w0 [] (BlkP (w55.heap.size) 91 #[nI 0,nI 0,nI 0,nI 0,nI 0,nI 0]::HeapP z10 z11 s42::RHeapP z22 z23 z24 z25 z26 s43::ps) (w55.alloc (.cells #[nI 0,nI 0,nI 0,nI 0,nI 0,nI 0] 91)):=St.new hS57 #[nI 0,nI 0,nI 0,nI 0,nI 0,nI 0] 91
    clear hS57
    refine ev_store (.agg #[nI ((atX kOp K0 x44).kind),nI ((atX kOp K0 x44).of),nI ((atX kOp K0 x44).at'),nI ((atX kOp K0 x44).i),nI ((atX kOp K0 x44).w),nI ((atX kOp K0 x44).to)]) #[nI ((atX kOp K0 x44).kind),nI ((atX kOp K0 x44).of),nI ((atX kOp K0 x44).at'),nI ((atX kOp K0 x44).i),nI ((atX kOp K0 x44).w),nI ((atX kOp K0 x44).to)] hF73 (by kernel_rfl) rfl rfl rfl rfl (by kernel_rfl) hS76 (by kernel_rfl) (by kernel_rfl) (by kernel_rfl) (l':=[(9,nB w55),(48,.agg #[nI ((atX kOp K0 x44).kind),nI ((atX kOp K0 x44).of),nI ((atX kOp K0 x44).at'),nI ((atX kOp K0 x44).i),nI ((atX kOp K0 x44).w),nI ((atX kOp K0 x44).to)]),(47,nP b67 ((o68+x44.toNat * 6))),(46,nI x44),(45,.slice (some ⟨b67,o68,none⟩) K0.length ca0),(8,nI x44),(6,nP z22 0),(4,nP z10 0),(0,.slice (some ⟨b67,o68,none⟩) K0.length ca0)]) (by kernel_rfl) ?_
    intro w77 a78 hS79 hF80; clear hF73 hS76
    refine wpList_nil ?_
    have hF81:=hF80.keep [0,4,6,8,9]
    clear hF80
    refine thenN (wp_seq (wp_region_lit ?_))
    refine ev_runs 3 hF81 (l':=[(51,nP z22 0),(50,nP z22 0),(49,nP z22 0),(9,nB w55),(8,nI x44),(6,nP z22 0),(4,nP z10 0),(0,.slice (some ⟨b67,o68,none⟩) K0.length ca0)]) (w':=w77) (by kernel_rfl) ?_
    intro a83 hF82; clear hF81
    refine ev_one (nP z23 0) w77 hF82 (by kernel_rfl) rfl (by kernel_rfl) (run_loadV rfl rfl (run_loadS rfl rfl (St.rhsee (k:=2) hS79 rfl).1)) (l':=[(52,nP z23 0),(51,nP z22 0),(50,nP z22 0),(49,nP z22 0),(9,nB w55),(8,nI x44),(6,nP z22 0),(4,nP z10 0),(0,.slice (some ⟨b67,o68,none⟩) K0.length ca0)]) (by kernel_rfl) ?_
    intro a85 hF84; clear hF82
    have hS86:=hS79.pick2
    clear hS79
    refine ev_call 9 #[nP z23 0] hF84 rfl rfl (by kernel_rfl) rfl (by kernel_rfl) (fun w=>by kernel_rfl) ?_
    refine (q_Objects hS86).mono ?_
    rintro _ w87 ⟨z91,rfl,hS89⟩ a88 hF90; clear hF84 hS86
    obtain ⟨hl96,p93,c94,rfl,hp95⟩:=St.shape hS89 1 rfl
    refine ev_runK 1 hF90 [0,4,6,8,9,10] (l':=[(10,.slice p93 (hObjsF s43.a).length c94),(9,nB w55),(8,nI x44),(6,nP z22 0),(4,nP z10 0),(0,.slice (some ⟨b67,o68,none⟩) K0.length ca0)]) (w':=w87) (by kernel_rfl) ?_
    intro a98 hF97; clear hF90
    refine wpList_nil (thenN (wp_seq (wp_region_lit ?_)))
    refine ev_runs 2 hF97 (l':=[(12,nI (-1)),(11,nI (-1)),(10,.slice p93 (hObjsF s43.a).length c94),(9,nB w55),(8,nI x44),(6,nP z22 0),(4,nP z10 0),(0,.slice (some ⟨b67,o68,none⟩) K0.length ca0)]) (w':=w87) (by kernel_rfl) ?_
    intro a100 hF99; clear hF97
    refine wpList_nil (thenN (wp_seq (wp_seq (wp_region_lit ?_))))
    refine ev_runK 3 hF99 [0,4,6,8,9,10,11,12,56] (l':=[(56,.bool (decide (((hObjsF s43.a).length:Int) > 0))),(12,nI (-1)),(11,nI (-1)),(10,.slice p93 (hObjsF s43.a).length c94),(9,nB w55),(8,nI x44),(6,nP z22 0),(4,nP z10 0),(0,.slice (some ⟨b67,o68,none⟩) K0.length ca0)]) (w':=w87) (by kernel_rfl) ?_
    intro a102 hF101; clear hF99
    refine wpList_nil (thenN ?_)
    refine joinQ (fun aI wI=>∃ (x103:Int) (x104:Int),Fr 148 aI [(12,nI x103),(11,nI x104),(9,nB w55),(8,nI x44),(6,nP z22 0),(4,nP z10 0),(0,.slice (some ⟨b67,o68,none⟩) K0.length ca0)]∧St w0 [] (BlkP (w55.heap.size) 91 #[nI ((atX kOp K0 x44).kind),nI ((atX kOp K0 x44).of),nI ((atX kOp K0 x44).at'),nI ((atX kOp K0 x44).i),nI ((atX kOp K0 x44).w),nI ((atX kOp K0 x44).to)]::RHeapP z22 z23 z24 z25 z26 s43::HeapP z10 z11 s42::ps) wI∧law22_builtQ.j13 K0 s42 s43 x44 (law22_builtQ.l11 K0 k45) x103 x104=some (r0,r1)) ?_ ?_
    rotate_left
    · rintro a106 w107 ⟨x103,x104,hF108,hS109,hm110⟩
      clear hF101 hS89 hm66
      unfold law22_builtQ.j13 at hm110
      refine thenN (wp_seq (wp_region_lit ?_))
      refine ev_runs 1 hF108 (l':=[(79,nB w55),(12,nI x103),(11,nI x104),(9,nB w55),(8,nI x44),(6,nP z22 0),(4,nP z10 0),(0,.slice (some ⟨b67,o68,none⟩) K0.length ca0)]) (w':=w107) (by kernel_rfl) ?_
      intro a113 hF112; clear hF108
      refine ev_one (nI ((atX kOp K0 x44).kind)) w107 hF112 (by kernel_rfl) rfl (by kernel_rfl) (run_loadV rfl rfl (run_loadS rfl rfl (hS109.cell 0 rfl 0 rfl))) (l':=[(80,nI ((atX kOp K0 x44).kind)),(79,nB w55),(12,nI x103),(11,nI x104),(9,nB w55),(8,nI x44),(6,nP z22 0),(4,nP z10 0),(0,.slice (some ⟨b67,o68,none⟩) K0.length ca0)]) (by kernel_rfl) ?_
      intro a115 hF114; clear hF112
      refine wpList_nil ?_
      have hF116:=hF114.keep [0,4,6,8,9,11,12,80]
      clear hF114
      refine thenN ?_
      refine wp_block ?_
      refine wp_seq (wp_region_lit ?_)
      refine ev_runK 2 hF116 [0,4,6,8,9,11,12,80,99] (l':=[(99,.bool (((atX kOp K0 x44).kind) == 1)),(80,nI ((atX kOp K0 x44).kind)),(12,nI x103),(11,nI x104),(9,nB w55),(8,nI x44),(6,nP z22 0),(4,nP z10 0),(0,.slice (some ⟨b67,o68,none⟩) K0.length ca0)]) (w':=w107) (by kernel_rfl) ?_
      intro a118 hF117; clear hF116
      refine wpList_nil (thenN ?_)
      refine joinQ (fun aI wI=>∃ (s119:HSt) (s120:HSt),Fr 148 aI [(8,nI x44),(6,nP z22 0),(4,nP z10 0),(0,.slice (some ⟨b67,o68,none⟩) K0.length ca0)]∧St w0 [] (RHeapP z22 z23 z24 z25 z26 s119::HeapP z10 z11 s120::ps) wI∧law22_builtQ.j14 x44 (law22_builtQ.l11 K0 k45) s119 s120=some (r0,r1)) ?_ ?_
      rotate_left
      · rintro a122 w123 ⟨s119,s120,hF124,hS125,hm126⟩
        clear hF117 hS109 hm110
        unfold law22_builtQ.j14 at hm126
        refine blockN ?_
        refine blockN ?_
        refine thenN (wp_region_lit ?_)
        refine ev_runK 3 hF124 [0,4,6,8] (l':=[(8,nI (IntKind.i64.wrap (x44+1))),(6,nP z22 0),(4,nP z10 0),(0,.slice (some ⟨b67,o68,none⟩) K0.length ca0)]) (w':=w123) (by kernel_rfl) ?_
        intro a129 hF128; clear hF124
        refine wpList_nil ?_
        have hS130:=hS125.pick1
        clear hS125
        exact thenN ⟨k45,Nat.lt_succ_self _,s120,s119,IntKind.i64.wrap (x44+1),hF128,hS130,hm126⟩
      · skip
        cases hc131:(((atX kOp K0 x44).kind) == 1)
        case true =>
         rw [hc131] at hF117
         have hm132:=ifYes hc131 hm110; clear hm110
         refine ev_condT hF117 rfl rfl ?_
         refine wp_seq (wp_region_lit ?_)
         refine ev_runs 3 hF117 (l':=[(103,nP (w55.heap.size) 3),(102,nI x104),(101,nP z10 0),(99,.bool true),(80,nI ((atX kOp K0 x44).kind)),(12,nI x103),(11,nI x104),(9,nB w55),(8,nI x44),(6,nP z22 0),(4,nP z10 0),(0,.slice (some ⟨b67,o68,none⟩) K0.length ca0)]) (w':=w107) (by kernel_rfl) ?_
         intro a134 hF133; clear hF117
         refine ev_one (nI ((atX kOp K0 x44).i)) w107 hF133 (by kernel_rfl) rfl (by kernel_rfl) (run_loadV rfl rfl (run_loadS rfl rfl (hS109.cell 0 rfl 3 rfl))) (l':=[(104,nI ((atX kOp K0 x44).i)),(103,nP (w55.heap.size) 3),(102,nI x104),(101,nP z10 0),(99,.bool true),(80,nI ((atX kOp K0 x44).kind)),(12,nI x103),(11,nI x104),(9,nB w55),(8,nI x44),(6,nP z22 0),(4,nP z10 0),(0,.slice (some ⟨b67,o68,none⟩) K0.length ca0)]) (by kernel_rfl) ?_
         intro a136 hF135; clear hF133
         refine ev_runs 1 hF135 (l':=[(105,nP (w55.heap.size) 4),(104,nI ((atX kOp K0 x44).i)),(103,nP (w55.heap.size) 3),(102,nI x104),(101,nP z10 0),(99,.bool true),(80,nI ((atX kOp K0 x44).kind)),(12,nI x103),(11,nI x104),(9,nB w55),(8,nI x44),(6,nP z22 0),(4,nP z10 0),(0,.slice (some ⟨b67,o68,none⟩) K0.length ca0)]) (w':=w107) (by kernel_rfl) ?_
         intro a138 hF137; clear hF135
         refine ev_one (nI ((atX kOp K0 x44).w)) w107 hF137 (by kernel_rfl) rfl (by kernel_rfl) (run_loadV rfl rfl (run_loadS rfl rfl (hS109.cell 0 rfl 4 rfl))) (l':=[(106,nI ((atX kOp K0 x44).w)),(105,nP (w55.heap.size) 4),(104,nI ((atX kOp K0 x44).i)),(103,nP (w55.heap.size) 3),(102,nI x104),(101,nP z10 0),(99,.bool true),(80,nI ((atX kOp K0 x44).kind)),(12,nI x103),(11,nI x104),(9,nB w55),(8,nI x44),(6,nP z22 0),(4,nP z10 0),(0,.slice (some ⟨b67,o68,none⟩) K0.length ca0)]) (by kernel_rfl) ?_
         intro a140 hF139; clear hF137
         have hS141:=hS109.pick2
         clear hS109
         refine ev_call 56 #[nP z10 0,nI x104,nI ((atX kOp K0 x44).i),nI ((atX kOp K0 x44).w)] hF139 rfl rfl (by kernel_rfl) rfl (by kernel_rfl) (fun w=>by kernel_rfl) ?_
         obtain ⟨x142,s143,hx144,hm145⟩:=bind2E hm132; clear hm132
         refine (p_Store hS141 hx144).mono ?_
         rintro _ w146 ⟨rfl,hS148⟩ a147 hF149; clear hF139 hS141
         refine wpList_nil ?_
         have hF150:=hF149.keep [0,4,6,8,9,11]
         clear hF149
         refine thenN (wp_region_lit ?_)
         refine ev_runs 3 hF150 (l':=[(110,nP (w55.heap.size) 3),(109,nI x104),(108,nP z22 0),(11,nI x104),(9,nB w55),(8,nI x44),(6,nP z22 0),(4,nP z10 0),(0,.slice (some ⟨b67,o68,none⟩) K0.length ca0)]) (w':=w146) (by kernel_rfl) ?_
         intro a152 hF151; clear hF150
         refine ev_one (nI ((atX kOp K0 x44).i)) w146 hF151 (by kernel_rfl) rfl (by kernel_rfl) (run_loadV rfl rfl (run_loadS rfl rfl (hS148.cell 1 rfl 3 rfl))) (l':=[(111,nI ((atX kOp K0 x44).i)),(110,nP (w55.heap.size) 3),(109,nI x104),(108,nP z22 0),(11,nI x104),(9,nB w55),(8,nI x44),(6,nP z22 0),(4,nP z10 0),(0,.slice (some ⟨b67,o68,none⟩) K0.length ca0)]) (by kernel_rfl) ?_
         intro a154 hF153; clear hF151
         refine ev_runs 1 hF153 (l':=[(112,nP (w55.heap.size) 4),(111,nI ((atX kOp K0 x44).i)),(110,nP (w55.heap.size) 3),(109,nI x104),(108,nP z22 0),(11,nI x104),(9,nB w55),(8,nI x44),(6,nP z22 0),(4,nP z10 0),(0,.slice (some ⟨b67,o68,none⟩) K0.length ca0)]) (w':=w146) (by kernel_rfl) ?_
         intro a156 hF155; clear hF153
         refine ev_one (nI ((atX kOp K0 x44).w)) w146 hF155 (by kernel_rfl) rfl (by kernel_rfl) (run_loadV rfl rfl (run_loadS rfl rfl (hS148.cell 1 rfl 4 rfl))) (l':=[(113,nI ((atX kOp K0 x44).w)),(112,nP (w55.heap.size) 4),(111,nI ((atX kOp K0 x44).i)),(110,nP (w55.heap.size) 3),(109,nI x104),(108,nP z22 0),(11,nI x104),(9,nB w55),(8,nI x44),(6,nP z22 0),(4,nP z10 0),(0,.slice (some ⟨b67,o68,none⟩) K0.length ca0)]) (by kernel_rfl) ?_
         intro a158 hF157; clear hF155
         have hS159:=hS148.pick2
         clear hS148
         refine ev_call 57 #[nP z22 0,nI x104,nI ((atX kOp K0 x44).i),nI ((atX kOp K0 x44).w)] hF157 rfl rfl (by kernel_rfl) rfl (by kernel_rfl) (fun w=>by kernel_rfl) ?_
         obtain ⟨x160,s161,hx162,hm163⟩:=bind2E hm145; clear hm145
         refine (q_Store hS159 hx162).mono ?_
         rintro _ w164 ⟨rfl,hS166⟩ a165 hF167; clear hF157 hS159
         refine wpList_nil ?_
         have hF168:=hF167.keep [0,4,6,8]
         clear hF167
         have hS169:=hS166.pick2.drop
         clear hS166
         exact thenN ⟨s161,s143,hF168,hS169,hm163⟩
        rw [hc131] at hF117
        have hm170:=ifNot hc131 hm110; clear hm110
        refine ev_condF hF117 rfl rfl ?_
        refine wp_seq (wp_region_lit ?_)
        refine ev_runK 2 hF117 [0,4,6,8,9,11,12,80,115] (l':=[(115,.bool (((atX kOp K0 x44).kind) == 2)),(80,nI ((atX kOp K0 x44).kind)),(12,nI x103),(11,nI x104),(9,nB w55),(8,nI x44),(6,nP z22 0),(4,nP z10 0),(0,.slice (some ⟨b67,o68,none⟩) K0.length ca0)]) (w':=w107) (by kernel_rfl) ?_
        intro a172 hF171; clear hF117
        refine wpList_nil (thenN ?_)
        refine joinQ (fun aI wI=>∃ (s173:HSt) (s174:HSt),Fr 148 aI [(8,nI x44),(6,nP z22 0),(4,nP z10 0),(0,.slice (some ⟨b67,o68,none⟩) K0.length ca0)]∧St w0 [] (RHeapP z22 z23 z24 z25 z26 s173::HeapP z10 z11 s174::ps) wI∧law22_builtQ.j15 x44 (law22_builtQ.l11 K0 k45) s173 s174=some (r0,r1)) ?_ ?_
        rotate_left
        · rintro a176 w177 ⟨s173,s174,hF178,hS179,hm180⟩
          clear hF171 hS109 hm170
          unfold law22_builtQ.j15 at hm180
          exact thenN ⟨s173,s174,hF178,hS179,hm180⟩
        · skip
          cases hc182:(((atX kOp K0 x44).kind) == 2)
          case true =>
           rw [hc182] at hF171
           have hm183:=ifYes hc182 hm170; clear hm170
           refine ev_condT hF171 rfl rfl ?_
           refine wp_seq (wp_region_lit ?_)
           refine ev_runs 1 hF171 (l':=[(117,nP (w55.heap.size) 3),(115,.bool true),(80,nI ((atX kOp K0 x44).kind)),(12,nI x103),(11,nI x104),(9,nB w55),(8,nI x44),(6,nP z22 0),(4,nP z10 0),(0,.slice (some ⟨b67,o68,none⟩) K0.length ca0)]) (w':=w107) (by kernel_rfl) ?_
           intro a185 hF184; clear hF171
           refine ev_one (nI ((atX kOp K0 x44).i)) w107 hF184 (by kernel_rfl) rfl (by kernel_rfl) (run_loadV rfl rfl (run_loadS rfl rfl (hS109.cell 0 rfl 3 rfl))) (l':=[(118,nI ((atX kOp K0 x44).i)),(117,nP (w55.heap.size) 3),(115,.bool true),(80,nI ((atX kOp K0 x44).kind)),(12,nI x103),(11,nI x104),(9,nB w55),(8,nI x44),(6,nP z22 0),(4,nP z10 0),(0,.slice (some ⟨b67,o68,none⟩) K0.length ca0)]) (by kernel_rfl) ?_
           intro a187 hF186; clear hF184
           refine ev_runs 4 hF186 (l':=[(13,nI (IntKind.i64.wrap (Int.tmod (IntKind.u64.wrap ((atX kOp K0 x44).i)) 10))),(121,nI (IntKind.i64.wrap (Int.tmod (IntKind.u64.wrap ((atX kOp K0 x44).i)) 10))),(120,.int .u64 (Int.tmod (IntKind.u64.wrap ((atX kOp K0 x44).i)) 10)),(119,.int .u64 (IntKind.u64.wrap ((atX kOp K0 x44).i))),(118,nI ((atX kOp K0 x44).i)),(117,nP (w55.heap.size) 3),(115,.bool true),(80,nI ((atX kOp K0 x44).kind)),(12,nI x103),(11,nI x104),(9,nB w55),(8,nI x44),(6,nP z22 0),(4,nP z10 0),(0,.slice (some ⟨b67,o68,none⟩) K0.length ca0)]) (w':=w107) (by kernel_rfl) ?_
           intro a189 hF188; clear hF186
           obtain ⟨x190,hx191,hm192⟩:=bind1E hm183; clear hm183
           have hF193:=hF188; rw [Option.some.inj hx191] at hF193; clear hF188
           refine wpList_nil ?_
           have hF194:=hF193.keep [0,4,6,8,11,12,13]
           clear hF193
           have hS195:=hS109.drop
           clear hS109
           refine thenN (wp_seq (wp_region_lit ?_))
           refine ev_runs 4 hF194 (l':=[(125,nI x103),(124,nI x190),(123,nI x104),(122,nP z10 0),(13,nI x190),(12,nI x103),(11,nI x104),(8,nI x44),(6,nP z22 0),(4,nP z10 0),(0,.slice (some ⟨b67,o68,none⟩) K0.length ca0)]) (w':=w107) (by kernel_rfl) ?_
           intro a197 hF196; clear hF194
           refine ev_call 58 #[nI x103] hF196 rfl rfl (by kernel_rfl) rfl (by kernel_rfl) (fun w=>by kernel_rfl) ?_
           refine (p_rPtr hS195).mono ?_
           rintro _ w198 ⟨rfl,hS200⟩ a199 hF201; clear hF196 hS195
           have hS202:=hS200.pick1
           clear hS200
           refine ev_call 56 #[nP z10 0,nI x104,nI x190,nI (wrap64 (wrap64 (x103 * 2)+1))] hF201 rfl rfl (by kernel_rfl) rfl (by kernel_rfl) (fun w=>by kernel_rfl) ?_
           obtain ⟨x203,s204,hx205,hm206⟩:=bind2E hm192; clear hm192
           refine (p_Store hS202 hx205).mono ?_
           rintro _ w207 ⟨rfl,hS209⟩ a208 hF210; clear hF201 hS202
           refine wpList_nil ?_
           have hF211:=hF210.keep [0,4,6,8,11,12,13]
           clear hF210
           refine thenN (wp_region_lit ?_)
           refine ev_runs 4 hF211 (l':=[(131,nI x103),(130,nI x190),(129,nI x104),(128,nP z22 0),(13,nI x190),(12,nI x103),(11,nI x104),(8,nI x44),(6,nP z22 0),(4,nP z10 0),(0,.slice (some ⟨b67,o68,none⟩) K0.length ca0)]) (w':=w207) (by kernel_rfl) ?_
           intro a213 hF212; clear hF211
           refine ev_call 58 #[nI x103] hF212 rfl rfl (by kernel_rfl) rfl (by kernel_rfl) (fun w=>by kernel_rfl) ?_
           refine (p_rPtr hS209).mono ?_
           rintro _ w214 ⟨rfl,hS216⟩ a215 hF217; clear hF212 hS209
           have hS218:=hS216.pick1
           clear hS216
           refine ev_call 57 #[nP z22 0,nI x104,nI x190,nI (wrap64 (wrap64 (x103 * 2)+1))] hF217 rfl rfl (by kernel_rfl) rfl (by kernel_rfl) (fun w=>by kernel_rfl) ?_
           obtain ⟨x219,s220,hx221,hm222⟩:=bind2E hm206; clear hm206
           refine (q_Store hS218 hx221).mono ?_
           rintro _ w223 ⟨rfl,hS225⟩ a224 hF226; clear hF217 hS218
           refine wpList_nil ?_
           have hF227:=hF226.keep [0,4,6,8]
           clear hF226
           exact thenN ⟨s220,s204,hF227,hS225,hm222⟩
          rw [hc182] at hF171
          have hm228:=ifNot hc182 hm170; clear hm170
          refine ev_condF hF171 rfl rfl ?_
          refine wp_seq (wp_region_lit ?_)
          refine ev_runK 2 hF171 [0,4,6,8,9,11,134] (l':=[(134,.bool (((atX kOp K0 x44).kind) == 3)),(11,nI x104),(9,nB w55),(8,nI x44),(6,nP z22 0),(4,nP z10 0),(0,.slice (some ⟨b67,o68,none⟩) K0.length ca0)]) (w':=w107) (by kernel_rfl) ?_
          intro a230 hF229; clear hF171
          refine wpList_nil (thenN ?_)
          refine joinQ (fun aI wI=>∃ (s231:HSt) (s232:HSt),Fr 148 aI [(8,nI x44),(6,nP z22 0),(4,nP z10 0),(0,.slice (some ⟨b67,o68,none⟩) K0.length ca0)]∧St w0 [] (RHeapP z22 z23 z24 z25 z26 s231::HeapP z10 z11 s232::ps) wI∧law22_builtQ.j16 x44 (law22_builtQ.l11 K0 k45) s231 s232=some (r0,r1)) ?_ ?_
          rotate_left
          · rintro a234 w235 ⟨s231,s232,hF236,hS237,hm238⟩
            clear hF229 hS109 hm228
            unfold law22_builtQ.j16 at hm238
            exact thenN ⟨s231,s232,hF236,hS237,hm238⟩
          · skip
            cases hc240:(((atX kOp K0 x44).kind) == 3)
            case true =>
             rw [hc240] at hF229
             have hm241:=ifYes hc240 hm228; clear hm228
             refine ev_condT hF229 rfl rfl ?_
             refine wp_seq (wp_region_lit ?_)
             refine ev_runs 1 hF229 (l':=[(136,nP z10 0),(134,.bool true),(11,nI x104),(9,nB w55),(8,nI x44),(6,nP z22 0),(4,nP z10 0),(0,.slice (some ⟨b67,o68,none⟩) K0.length ca0)]) (w':=w107) (by kernel_rfl) ?_
             intro a243 hF242; clear hF229
             have hS244:=hS109.pick2
             clear hS109
             refine ev_call 55 #[nP z10 0] hF242 rfl rfl (by kernel_rfl) rfl (by kernel_rfl) (fun w=>by kernel_rfl) ?_
             refine (p_Arena hS244).mono ?_
             rintro _ w245 ⟨rfl,hS247⟩ a246 hF248; clear hF242 hS244
             refine ev_runs 1 hF248 (l':=[(138,nI x104),(137,nP z11 0),(136,nP z10 0),(134,.bool true),(11,nI x104),(9,nB w55),(8,nI x44),(6,nP z22 0),(4,nP z10 0),(0,.slice (some ⟨b67,o68,none⟩) K0.length ca0)]) (w':=w245) (by kernel_rfl) ?_
             intro a250 hF249; clear hF248
             refine ev_call 10 #[nP z11 0,nI x104] hF249 rfl rfl (by kernel_rfl) rfl (by kernel_rfl) (fun w=>by kernel_rfl) ?_
             obtain ⟨x251,s252,hx253,hm254⟩:=bind2E hm241; clear hm241
             refine (p_Free hS247 hx253).mono ?_
             rintro _ w255 ⟨rfl,hS257⟩ a256 hF258; clear hF249 hS247
             refine wpList_nil ?_
             have hF259:=hF258.keep [0,4,6,8,11]
             clear hF258
             have hS260:=hS257.pick1.drop
             clear hS257
             refine thenN (wp_region_lit ?_)
             refine ev_runs 3 hF259 (l':=[(142,nP z22 0),(141,nP z22 0),(140,nP z22 0),(11,nI x104),(8,nI x44),(6,nP z22 0),(4,nP z10 0),(0,.slice (some ⟨b67,o68,none⟩) K0.length ca0)]) (w':=w255) (by kernel_rfl) ?_
             intro a262 hF261; clear hF259
             refine ev_one (nP z23 0) w255 hF261 (by kernel_rfl) rfl (by kernel_rfl) (run_loadV rfl rfl (run_loadS rfl rfl (St.rhsee (k:=1) hS260 rfl).1)) (l':=[(143,nP z23 0),(142,nP z22 0),(141,nP z22 0),(140,nP z22 0),(11,nI x104),(8,nI x44),(6,nP z22 0),(4,nP z10 0),(0,.slice (some ⟨b67,o68,none⟩) K0.length ca0)]) (by kernel_rfl) ?_
             intro a264 hF263; clear hF261
             refine ev_runs 1 hF263 (l':=[(144,nI x104),(143,nP z23 0),(142,nP z22 0),(141,nP z22 0),(140,nP z22 0),(11,nI x104),(8,nI x44),(6,nP z22 0),(4,nP z10 0),(0,.slice (some ⟨b67,o68,none⟩) K0.length ca0)]) (w':=w255) (by kernel_rfl) ?_
             intro a266 hF265; clear hF263
             have hS267:=hS260.pick1
             clear hS260
             refine ev_call 11 #[nP z23 0,nI x104] hF265 rfl rfl (by kernel_rfl) rfl (by kernel_rfl) (fun w=>by kernel_rfl) ?_
             obtain ⟨x268,s269,hx270,hm271⟩:=bind2E hm254; clear hm254
             refine (q_Free hS267 hx270).mono ?_
             rintro _ w272 ⟨rfl,hS274⟩ a273 hF275; clear hF265 hS267
             refine wpList_nil ?_
             have hF276:=hF275.keep [0,4,6,8]
             clear hF275
             exact thenN ⟨s269,s252,hF276,hS274,hm271⟩
            rw [hc240] at hF229
            have hm277:=ifNot hc240 hm228; clear hm228
            refine ev_condF hF229 rfl rfl ?_
            refine wp_seq (wp_region_lit ?_)
            refine ev_runs 1 hF229 (l':=[(81,nP (w55.heap.size) 1),(134,.bool false),(11,nI x104),(9,nB w55),(8,nI x44),(6,nP z22 0),(4,nP z10 0),(0,.slice (some ⟨b67,o68,none⟩) K0.length ca0)]) (w':=w107) (by kernel_rfl) ?_
            intro a279 hF278; clear hF229
            refine ev_one (nI ((atX kOp K0 x44).of)) w107 hF278 (by kernel_rfl) rfl (by kernel_rfl) (run_loadV rfl rfl (run_loadS rfl rfl (hS109.cell 0 rfl 1 rfl))) (l':=[(82,nI ((atX kOp K0 x44).of)),(81,nP (w55.heap.size) 1),(134,.bool false),(11,nI x104),(9,nB w55),(8,nI x44),(6,nP z22 0),(4,nP z10 0),(0,.slice (some ⟨b67,o68,none⟩) K0.length ca0)]) (by kernel_rfl) ?_
            intro a281 hF280; clear hF278
            refine ev_runs 5 hF280 (l':=[(14,nI (IntKind.i64.wrap (1+(IntKind.i64.wrap (Int.tmod (IntKind.u64.wrap ((atX kOp K0 x44).of)) 6))))),(86,nI (IntKind.i64.wrap (1+(IntKind.i64.wrap (Int.tmod (IntKind.u64.wrap ((atX kOp K0 x44).of)) 6))))),(85,nI (IntKind.i64.wrap (Int.tmod (IntKind.u64.wrap ((atX kOp K0 x44).of)) 6))),(84,.int .u64 (Int.tmod (IntKind.u64.wrap ((atX kOp K0 x44).of)) 6)),(83,.int .u64 (IntKind.u64.wrap ((atX kOp K0 x44).of))),(82,nI ((atX kOp K0 x44).of)),(81,nP (w55.heap.size) 1),(134,.bool false),(11,nI x104),(9,nB w55),(8,nI x44),(6,nP z22 0),(4,nP z10 0),(0,.slice (some ⟨b67,o68,none⟩) K0.length ca0)]) (w':=w107) (by kernel_rfl) ?_
            intro a283 hF282; clear hF280
            obtain ⟨x284,hx285,hm286⟩:=bind1E hm277; clear hm277
            have hF287:=hF282; rw [Option.some.inj hx285] at hF287; clear hF282
            refine wpList_nil ?_
            have hF288:=hF287.keep [0,4,6,8,14]
            clear hF287
            have hS289:=hS109.drop
            clear hS109
            refine thenN (wp_seq (wp_region_lit ?_))
            refine ev_runs 1 hF288 (l':=[(87,.slice (some ⟨w107.heap.size,0,none⟩) 7 7),(14,nI x284),(8,nI x44),(6,nP z22 0),(4,nP z10 0),(0,.slice (some ⟨b67,o68,none⟩) K0.length ca0)]) (w':=w107.alloc (.cells #[nI 0,nI 9,nI 3,nI 7,nI 10,nI 2,nI 2] 3)) (by kernel_rfl) ?_
            intro a291 hF290; clear hF288
            have hS293:St w0 [] (RowP (.slice (some ⟨w107.heap.size,0,none⟩) 7 7) [0,9,3,7,10,2,2]::RHeapP z22 z23 z24 z25 z26 s43::HeapP z10 z11 s42::ps) (w107.alloc (.cells #[nI 0,nI 9,nI 3,nI 7,nI 10,nI 2,nI 2] 3)):=St.lit hS289 [0,9,3,7,10,2,2] (by unfold maxLen; simp)
            clear hS289
            refine ev_runs 1 hF290 (l':=[(88,nI x284),(87,.slice (some ⟨w107.heap.size,0,none⟩) 7 7),(14,nI x284),(8,nI x44),(6,nP z22 0),(4,nP z10 0),(0,.slice (some ⟨b67,o68,none⟩) K0.length ca0)]) (w':=w107.alloc (.cells #[nI 0,nI 9,nI 3,nI 7,nI 10,nI 2,nI 2] 3)) (by kernel_rfl) ?_
            intro a295 hF294; clear hF290
            obtain ⟨hc296,hm297⟩:=ifTE hm286; clear hm286
            refine ev_one (nP (w107.heap.size) (x284.toNat)) (w107.alloc (.cells #[nI 0,nI 9,nI 3,nI 7,nI 10,nI 2,nI 2] 3)) hF294 (by kernel_rfl) rfl (by kernel_rfl) (run_idx rfl rfl rfl rfl rfl (inR_spec hc296).1 (inR_spec hc296).2 _) (l':=[(89,nP (w107.heap.size) (x284.toNat)),(88,nI x284),(87,.slice (some ⟨w107.heap.size,0,none⟩) 7 7),(14,nI x284),(8,nI x44),(6,nP z22 0),(4,nP z10 0),(0,.slice (some ⟨b67,o68,none⟩) K0.length ca0)]) (by kernel_rfl) ?_
            intro a299 hF298; clear hF294
            refine ev_one (nI (atI [0,9,3,7,10,2,2] x284)) (w107.alloc (.cells #[nI 0,nI 9,nI 3,nI 7,nI 10,nI 2,nI 2] 3)) hF298 (by kernel_rfl) rfl (by kernel_rfl) (run_load1 rfl rfl rfl (hS293.atI 0 rfl hc296)) (l':=[(90,nI (atI [0,9,3,7,10,2,2] x284)),(89,nP (w107.heap.size) (x284.toNat)),(88,nI x284),(87,.slice (some ⟨w107.heap.size,0,none⟩) 7 7),(14,nI x284),(8,nI x44),(6,nP z22 0),(4,nP z10 0),(0,.slice (some ⟨b67,o68,none⟩) K0.length ca0)]) (by kernel_rfl) ?_
            intro a301 hF300; clear hF298
            refine ev_runK 1 hF300 [0,4,6,8,14,15] (l':=[(15,nI (atI [0,9,3,7,10,2,2] x284)),(14,nI x284),(8,nI x44),(6,nP z22 0),(4,nP z10 0),(0,.slice (some ⟨b67,o68,none⟩) K0.length ca0)]) (w':=w107.alloc (.cells #[nI 0,nI 9,nI 3,nI 7,nI 10,nI 2,nI 2] 3)) (by kernel_rfl) ?_
            intro a303 hF302; clear hF300
            refine wpList_nil ?_
            have hS304:=hS293.drop
            clear hS293
            refine thenN (wp_seq (wp_region_lit ?_))
            refine ev_runs 3 hF302 (l':=[(93,nI (atI [0,9,3,7,10,2,2] x284)),(92,nI x284),(91,nP z10 0),(15,nI (atI [0,9,3,7,10,2,2] x284)),(14,nI x284),(8,nI x44),(6,nP z22 0),(4,nP z10 0),(0,.slice (some ⟨b67,o68,none⟩) K0.length ca0)]) (w':=w107.alloc (.cells #[nI 0,nI 9,nI 3,nI 7,nI 10,nI 2,nI 2] 3)) (by kernel_rfl) ?_
            intro a306 hF305; clear hF302
            have hS307:=hS304.pick1
            clear hS304
            refine ev_call 59 #[nP z10 0,nI x284,nI (atI [0,9,3,7,10,2,2] x284)] hF305 rfl rfl (by kernel_rfl) rfl (by kernel_rfl) (fun w=>by kernel_rfl) ?_
            obtain ⟨x308,x309,s310,hx311,hm312⟩:=bind3E hm297; clear hm297
            refine (p_Alloc hS307 hx311).mono ?_
            rintro _ w313 ⟨rfl,hS315⟩ a314 hF316; clear hF305 hS307
            refine wpList_nil ?_
            have hF317:=hF316.keep [0,4,6,8,14,15]
            clear hF316
            refine thenN (wp_region_lit ?_)
            refine ev_runs 3 hF317 (l':=[(97,nI (atI [0,9,3,7,10,2,2] x284)),(96,nI x284),(95,nP z22 0),(15,nI (atI [0,9,3,7,10,2,2] x284)),(14,nI x284),(8,nI x44),(6,nP z22 0),(4,nP z10 0),(0,.slice (some ⟨b67,o68,none⟩) K0.length ca0)]) (w':=w313) (by kernel_rfl) ?_
            intro a319 hF318; clear hF317
            have hS320:=hS315.pick1
            clear hS315
            refine ev_call 60 #[nP z22 0,nI x284,nI (atI [0,9,3,7,10,2,2] x284)] hF318 rfl rfl (by kernel_rfl) rfl (by kernel_rfl) (fun w=>by kernel_rfl) ?_
            obtain ⟨x321,x322,s323,hx324,hm325⟩:=bind3E hm312; clear hm312
            refine (q_Alloc hS320 hx324).mono ?_
            rintro _ w326 ⟨rfl,hS328⟩ a327 hF329; clear hF318 hS320
            refine wpList_nil ?_
            have hF330:=hF329.keep [0,4,6,8]
            clear hF329
            exact thenN ⟨s323,s310,hF330,hS328,hm325⟩
    · skip
      cases hc331:(decide (((hObjsF s43.a).length:Int) > 0))
      case true =>
       rw [hc331] at hF101
       have hm332:=ifYes hc331 hm66; clear hm66
       refine ev_condT hF101 rfl rfl ?_
       obtain ⟨hc333,hm334⟩:=ifFE hm332; clear hm332
       obtain ⟨hc335,hm336⟩:=ifTE hm334; clear hm334
       obtain ⟨g337,rfl⟩:=hp95.resolve_left (by have:=inR_spec hc335; omega)
       obtain ⟨hc338,hm339⟩:=ifTE hm336; clear hm336
       have hS340:=hS89.pick1.pick2
       clear hS89
       have hS341:=hS340.drew; clear hS340
       refine any_start (fun wS=>∃ qs,St w0 [] (BlkP (w55.heap.size) 91 #[nI ((atX kOp K0 x44).kind),nI ((atX kOp K0 x44).of),nI ((atX kOp K0 x44).at'),nI ((atX kOp K0 x44).i),nI ((atX kOp K0 x44).w),nI ((atX kOp K0 x44).to)]::RowP (.slice (some ⟨g337,0,none⟩) (hObjsF s43.a).length c94) (hObjsF s43.a)::qs) wS) 24 #[false,false,false,false,false,false,false,false,false,false,false,false,false,false,false,false,false,false,false,false,false,false,false,false] (by kernel_rfl) (by kernel_rfl) (by kernel_rfl) ?_
       refine any_many 24 [(0,some (.slice (some ⟨g337,0,none⟩) (hObjsF s43.a).length c94)),(1,some (nP (w55.heap.size) 2)),(2,some (nI ((atX kOp K0 x44).at'))),(3,some (.int .u64 (IntKind.u64.wrap ((atX kOp K0 x44).at')))),(4,some (.slice (some ⟨g337,0,none⟩) (hObjsF s43.a).length c94)),(5,some (nI (((hObjsF s43.a).length:Int)))),(6,some (.int .u64 (IntKind.u64.wrap ((hObjsF s43.a).length:Int)))),(7,some (.int .u64 (Int.tmod (IntKind.u64.wrap ((atX kOp K0 x44).at')) (IntKind.u64.wrap ((hObjsF s43.a).length:Int))))),(8,some (nI (IntKind.i64.wrap (Int.tmod (IntKind.u64.wrap ((atX kOp K0 x44).at')) (IntKind.u64.wrap ((hObjsF s43.a).length:Int)))))),(9,some (nP g337 ((IntKind.i64.wrap (Int.tmod (IntKind.u64.wrap ((atX kOp K0 x44).at')) (IntKind.u64.wrap ((hObjsF s43.a).length:Int)))).toNat))),(10,some (nI (atI (hObjsF s43.a) (IntKind.i64.wrap (Int.tmod (IntKind.u64.wrap ((atX kOp K0 x44).at')) (IntKind.u64.wrap ((hObjsF s43.a).length:Int))))))),(11,some (.slice (some ⟨g337,0,none⟩) (hObjsF s43.a).length c94)),(12,some (nP (w55.heap.size) 5)),(13,some (nI ((atX kOp K0 x44).to))),(14,some (.int .u64 (IntKind.u64.wrap ((atX kOp K0 x44).to)))),(15,some (.slice (some ⟨g337,0,none⟩) (hObjsF s43.a).length c94)),(16,some (nI (((hObjsF s43.a).length:Int)))),(17,some (.int .u64 (IntKind.u64.wrap ((hObjsF s43.a).length:Int)))),(18,some (.int .u64 (Int.tmod (IntKind.u64.wrap ((atX kOp K0 x44).to)) (IntKind.u64.wrap ((hObjsF s43.a).length:Int))))),(19,some (nI (IntKind.i64.wrap (Int.tmod (IntKind.u64.wrap ((atX kOp K0 x44).to)) (IntKind.u64.wrap ((hObjsF s43.a).length:Int)))))),(20,some (nP g337 ((IntKind.i64.wrap (Int.tmod (IntKind.u64.wrap ((atX kOp K0 x44).to)) (IntKind.u64.wrap ((hObjsF s43.a).length:Int)))).toNat))),(21,some (nI (atI (hObjsF s43.a) (IntKind.i64.wrap (Int.tmod (IntKind.u64.wrap ((atX kOp K0 x44).to)) (IntKind.u64.wrap ((hObjsF s43.a).length:Int))))))),(22,some (nI (atI (hObjsF s43.a) (IntKind.i64.wrap (Int.tmod (IntKind.u64.wrap ((atX kOp K0 x44).at')) (IntKind.u64.wrap ((hObjsF s43.a).length:Int))))))),(23,some (nI (atI (hObjsF s43.a) (IntKind.i64.wrap (Int.tmod (IntKind.u64.wrap ((atX kOp K0 x44).to)) (IntKind.u64.wrap ((hObjsF s43.a).length:Int)))))))] [0,4,6,8,9,11,12] #[true,true,true,true,true,true,true,true,true,true,true,true,true,true,true,true,true,true,true,true,true,true,true,true] (by rfl) hF101 (by kernel_rfl) (by kernel_rfl) (by exact ⟨fun wS hw=>by kernel_rfl,fun wS hw=>by kernel_rfl,fun wS hw=>hw.elim fun qs hw=>run_loadV rfl rfl (run_loadS rfl rfl (hw.cell 0 rfl 2 rfl)),fun wS hw=>by kernel_rfl,fun wS hw=>by kernel_rfl,fun wS hw=>by kernel_rfl,fun wS hw=>by kernel_rfl,fun wS hw=>run_rem rfl rfl rfl hc333 _,fun wS hw=>by kernel_rfl,fun wS hw=>run_idx rfl rfl rfl rfl rfl (inR_spec hc335).1 (inR_spec hc335).2 _,fun wS hw=>run_load1 rfl rfl rfl (hw.elim fun qs hw=>hw.atI 1 rfl hc335),fun wS hw=>by kernel_rfl,fun wS hw=>by kernel_rfl,fun wS hw=>hw.elim fun qs hw=>run_loadV rfl rfl (run_loadS rfl rfl (hw.cell 0 rfl 5 rfl)),fun wS hw=>by kernel_rfl,fun wS hw=>by kernel_rfl,fun wS hw=>by kernel_rfl,fun wS hw=>by kernel_rfl,fun wS hw=>run_rem rfl rfl rfl hc333 _,fun wS hw=>by kernel_rfl,fun wS hw=>run_idx rfl rfl rfl rfl rfl (inR_spec hc338).1 (inR_spec hc338).2 _,fun wS hw=>run_load1 rfl rfl rfl (hw.elim fun qs hw=>hw.atI 1 rfl hc338),fun wS hw=>by kernel_rfl,fun wS hw=>by kernel_rfl,trivial⟩) (fun _ _ _ _ _ h=>h) ⟨_,hS341⟩ (l':=[(12,nI (atI (hObjsF s43.a) (IntKind.i64.wrap (Int.tmod (IntKind.u64.wrap ((atX kOp K0 x44).to)) (IntKind.u64.wrap ((hObjsF s43.a).length:Int)))))),(11,nI (atI (hObjsF s43.a) (IntKind.i64.wrap (Int.tmod (IntKind.u64.wrap ((atX kOp K0 x44).at')) (IntKind.u64.wrap ((hObjsF s43.a).length:Int)))))),(9,nB w55),(8,nI x44),(6,nP z22 0),(4,nP z10 0),(0,.slice (some ⟨b67,o68,none⟩) K0.length ca0)]) (by kernel_rfl) ?_
       intro a343 hF342; clear hF101
       refine any_done (by kernel_rfl) ?_
       have hS344:=hS341.pick1.drop
       clear hS341
       exact thenN ⟨atI (hObjsF s43.a) (IntKind.i64.wrap (Int.tmod (IntKind.u64.wrap ((atX kOp K0 x44).to)) (IntKind.u64.wrap ((hObjsF s43.a).length:Int)))),atI (hObjsF s43.a) (IntKind.i64.wrap (Int.tmod (IntKind.u64.wrap ((atX kOp K0 x44).at')) (IntKind.u64.wrap ((hObjsF s43.a).length:Int)))),hF342,hS344,hm339⟩
      rw [hc331] at hF101
      have hm345:=ifNot hc331 hm66; clear hm66
      refine ev_condF hF101 rfl rfl ?_
      refine wp_skip ?_
      have hF346:=hF101.keep [0,4,6,8,9,11,12]
      clear hF101
      have hS347:=hS89.pick1.drop
      clear hS89
      have hS348:=hS347.pick2.pick1.pick2
      clear hS347
      exact thenN ⟨-1,-1,hF346,hS348,hm345⟩
   rw [hc60] at hF56
   have hm349:=ifNot hc60 hm58; clear hm58
   refine ev_condF hF56 rfl rfl ?_
   refine wp_exit ?_
   refine thenE ?_
   refine thenE ?_
   refine blockE ?_
   refine thenN (wp_seq (wp_region_lit ?_))
   refine ev_runK 4 hF56 [2,3] (l':=[(3,nP z22 0),(2,nP z10 0)]) (w':=w55) (by kernel_rfl) ?_
   intro a351 hF350; clear hF56
   refine wpList_nil (thenN ?_)
   refine wp_ret ?_
   simp only [Option.some.injEq,Prod.mk.injEq] at hm349
   obtain ⟨rfl,rfl⟩:=hm349
   refine ev_ret hF350 [2,3] (.tuple #[nP z10 0,nP z22 0]) rfl rfl rfl ?_
   exact ⟨_,_,_,_,_,_,_,rfl,hS57⟩
 · skip
   refine wp_region_lit ?_
   refine ev_runs 5 hF48 (l':=[(39,.bool (decide (x44<(K0.length:Int)))),(38,.bool (decide (x44<(K0.length:Int)))),(37,nI ((K0.length:Int))),(36,.slice pa0 K0.length ca0),(35,nI x44),(8,nI x44),(6,nP z22 0),(4,nP z10 0),(0,.slice pa0 K0.length ca0)]) (w':=w47) (by kernel_rfl) ?_
   intro a355 hF354; clear hF48
   cases hc356:(decide (x44<(K0.length:Int)))
   case true =>
    rw [hc356] at hF354
    have hm357:=ifYes hc356 hm51; clear hm51
    refine ev_runK 3 hF354 [0,4,6,8,42] (l':=[(42,.bool (decide (x44<60))),(8,nI x44),(6,nP z22 0),(4,nP z10 0),(0,.slice pa0 K0.length ca0)]) (w':=w47) (by kernel_rfl) ?_
    intro a359 hF358; clear hF354
    refine wpList_nil ?_
    exact thenN ⟨decide (x44<60),hF358,hS49,hm357⟩
   rw [hc356] at hF354
   have hm360:=ifNot hc356 hm51; clear hm51
   refine ev_runK 3 hF354 [0,4,6,8,42] (l':=[(42,.bool false),(8,nI x44),(6,nP z22 0),(4,nP z10 0),(0,.slice pa0 K0.length ca0)]) (w':=w47) (by kernel_rfl) ?_
   intro a362 hF361; clear hF354
   refine wpList_nil ?_
   exact thenN ⟨false,hF361,hS49,hm360⟩
end Go.Proofs.Ytinagphkkegmnaa
