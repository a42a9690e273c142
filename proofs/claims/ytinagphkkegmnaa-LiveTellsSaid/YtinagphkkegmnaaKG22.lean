/- G22 -/
import Derived.Test.YtinagphkkegmnaaKGLive
import Derived.Test.YtinagphkkegmnaaKPrimV
import Derived.Test.YtinagphkkegmnaaKAppM
import Derived.Deep.LoopGhost
import Derived.KernelRfl
namespace Go.Proofs.Ytinagphkkegmnaa
open Go.RowKit
set_option linter.unusedVariables false
def law22_built.j14 (x48:Int) (rec51:HSt→HSt→Int→Option (HSt×HSt)) (s122:HSt) (s123:HSt):Option (HSt×HSt):=rec51 s123 s122 (IntKind.i64.wrap (x48+1))
def law22_built.j15 (x48:Int) (rec51:HSt→HSt→Int→Option (HSt×HSt)) (s176:HSt) (s177:HSt):Option (HSt×HSt):=law22_built.j14 x48 rec51 s176 s177
def law22_built.j16 (x48:Int) (rec51:HSt→HSt→Int→Option (HSt×HSt)) (s234:HSt) (s235:HSt):Option (HSt×HSt):=law22_built.j15 x48 rec51 s234 s235
def law22_built.j13 (L0:List Op22) (s46:HSt) (s47:HSt) (x48:Int) (rec51:HSt→HSt→Int→Option (HSt×HSt)) (x106:Int) (x107:Int):Option (HSt×HSt):=(if (((atX kOp L0 x48).kind) == 1) then bind2 (pStore x107 ((atX kOp L0 x48).i) ((atX kOp L0 x48).w) s46) fun x145 s146=>bind2 (pStore x107 ((atX kOp L0 x48).i) ((atX kOp L0 x48).w) s47) fun x163 s164=>law22_built.j14 x48 rec51 s164 s146 else (if (((atX kOp L0 x48).kind) == 2) then bind1 (some (IntKind.i64.wrap (Int.tmod (IntKind.u64.wrap ((atX kOp L0 x48).i)) 10))) fun x193=>bind2 (pStore x107 x193 (wrap64 (wrap64 (x106 * 2)+1)) s46) fun x206 s207=>bind2 (pStore x107 x193 (wrap64 (wrap64 (x106 * 2)+1)) s47) fun x222 s223=>law22_built.j15 x48 rec51 s223 s207 else (if (((atX kOp L0 x48).kind) == 3) then bind2 (pFree x107 s46) fun x254 s255=>bind2 (pFree x107 s47) fun x271 s272=>law22_built.j16 x48 rec51 s272 s255 else bind1 (some (IntKind.i64.wrap (1+(IntKind.i64.wrap (Int.tmod (IntKind.u64.wrap ((atX kOp L0 x48).of)) 6))))) fun x287=>(if (inR x287 ([0,9,3,7,10,2,2]).length) then bind3 (pAlloc x287 (atI [0,9,3,7,10,2,2] x287) s46) fun x311 x312 s313=>bind3 (pAlloc x287 (atI [0,9,3,7,10,2,2] x287) s47) fun x324 x325 s326=>law22_built.j16 x48 rec51 s326 s313 else none))))
def law22_built.j12 (L0:List Op22) (s46:HSt) (s47:HSt) (x48:Int) (rec51:HSt→HSt→Int→Option (HSt×HSt)) (y56:Bool):Option (HSt×HSt):=(if (y56) then (if (inR x48 L0.length) then (if (decide (((hObjsF s47.a).length:Int) > 0)) then (if ((IntKind.u64.wrap ((hObjsF s47.a).length:Int)) == 0) then none else (if (inR (IntKind.i64.wrap (Int.tmod (IntKind.u64.wrap ((atX kOp L0 x48).at')) (IntKind.u64.wrap ((hObjsF s47.a).length:Int)))) (hObjsF s47.a).length) then (if (inR (IntKind.i64.wrap (Int.tmod (IntKind.u64.wrap ((atX kOp L0 x48).to)) (IntKind.u64.wrap ((hObjsF s47.a).length:Int)))) (hObjsF s47.a).length) then law22_built.j13 L0 s46 s47 x48 rec51 (atI (hObjsF s47.a) (IntKind.i64.wrap (Int.tmod (IntKind.u64.wrap ((atX kOp L0 x48).to)) (IntKind.u64.wrap ((hObjsF s47.a).length:Int))))) (atI (hObjsF s47.a) (IntKind.i64.wrap (Int.tmod (IntKind.u64.wrap ((atX kOp L0 x48).at')) (IntKind.u64.wrap ((hObjsF s47.a).length:Int))))) else none) else none)) else law22_built.j13 L0 s46 s47 x48 rec51 (-1) (-1)) else none) else some (s46,s47))
def law22_built.l11b (L0:List Op22) (rec51:HSt→HSt→Int→Option (HSt×HSt)) (s46:HSt) (s47:HSt) (x48:Int):Option (HSt×HSt):=(if (decide (x48<(L0.length:Int))) then law22_built.j12 L0 s46 s47 x48 rec51 (decide (x48<60)) else law22_built.j12 L0 s46 s47 x48 rec51 false)
def law22_built.l11 (L0:List Op22):Nat→HSt→HSt→Int→Option (HSt×HSt)
  | 0=>fun _ _ _=>none
  | kI+1=>law22_built.l11b L0 (law22_built.l11 L0 kI)
def law22_built.m (k:Nat) (L0:List Op22):Option (HSt×HSt):=bind1 (pNew 6) fun s7=>bind1 (prNew 6) fun s19=>law22_built.l11 L0 k s7 s19 0
set_option maxRecDepth 100000 in
set_option maxHeartbeats 40000000 in
theorem law22_built.ok {w0 w:World} {F0:List Nat} {ps:List Piece} {k:Nat} {v0:Value} {L0:List Op22} {r0:HSt} {r1:HSt} (hS:St w0 F0 (RowX kOp (v0) L0::ps) w) (hm:law22_built.m k L0=some (r0,r1)) :
    Calls Try.prog 27 #[v0] w fun e w'=>∃ br0 abr0 br1 abr1 sbr1 gr1 cbr1,e=.returned (.tuple #[.pointer (some ⟨br0,0,none⟩),.pointer (some ⟨br1,0,none⟩)])∧St w0 F0 (RowX kOp (v0) L0::HeapP br0 abr0 r0::RHeapP br1 abr1 sbr1 gr1 cbr1 r1::ps) w':=by
 refine ev_enterL 148 [v0] Try.func27 rfl rfl (by simp) ?_
 intro a hF
 have hF0:Fr 148 a [(0,v0)]:=hF; clear hF
 unfold law22_built.m at hm
 obtain ⟨hl4,p1,c2,rfl,hp3⟩:=St.shapeX hS 0 rfl
 refine wp_seq (wp_region_lit ?_)
 refine ev_runK 2 hF0 [0] (l':=[(0,.slice p1 L0.length c2)]) (w':=w) (by kernel_rfl) ?_
 intro a6 hF5; clear hF0
 refine wpList_nil (thenN (wp_seq (wp_region_lit ?_)))
 refine ev_call 53 #[nI 6] hF5 rfl rfl (by kernel_rfl) rfl (by kernel_rfl) (fun w=>by kernel_rfl) ?_
 obtain ⟨s7,hx8,hm9⟩:=bind1E hm; clear hm
 refine (p_New hS hx8).mono ?_
 rintro _ w10 ⟨z14,z15,rfl,hS12⟩ a11 hF13; clear hF5 hS
 refine ev_runK 5 hF13 [0,4,5] (l':=[(5,nI 0),(4,nP z14 0),(0,.slice p1 L0.length c2)]) (w':=w10) (by kernel_rfl) ?_
 intro a18 hF17; clear hF13
 refine wpList_nil (thenN (wp_seq (wp_region_lit ?_)))
 refine ev_call 54 #[nI 6] hF17 rfl rfl (by kernel_rfl) rfl (by kernel_rfl) (fun w=>by kernel_rfl) ?_
 obtain ⟨s19,hx20,hm21⟩:=bind1E hm9; clear hm9
 refine (q_New hS12 hx20).mono ?_
 rintro _ w22 ⟨z26,z27,z28,z29,z30,rfl,hS24⟩ a23 hF25; clear hF17 hS12
 refine ev_runK 5 hF25 [0,4,5,6] (l':=[(6,nP z26 0),(5,nI 0),(4,nP z14 0),(0,.slice p1 L0.length c2)]) (w':=w22) (by kernel_rfl) ?_
 intro a33 hF32; clear hF25
 refine wpList_nil (thenN (wp_seq (wp_seq (wp_region_lit ?_))))
 refine ev_runs 8 hF32 (l':=[(31,nP z14 0),(30,.bool false),(29,.bool false),(28,.bool false),(27,nP z14 0),(26,.bool false),(25,.bool false),(24,nI 0),(6,nP z26 0),(5,nI 0),(4,nP z14 0),(0,.slice p1 L0.length c2)]) (w':=w22) (by kernel_rfl) ?_
 intro a35 hF34; clear hF32
 have hS36:=hS24.pick1
 clear hS24
 refine ev_call 55 #[nP z14 0] hF34 rfl rfl (by kernel_rfl) rfl (by kernel_rfl) (fun w=>by kernel_rfl) ?_
 refine (p_Arena hS36).mono ?_
 rintro _ w37 ⟨rfl,hS39⟩ a38 hF40; clear hF34 hS36
 refine ev_runK 2 hF40 [0,4,6,34] (l':=[(34,.bool false),(6,nP z26 0),(4,nP z14 0),(0,.slice p1 L0.length c2)]) (w':=w37) (by kernel_rfl) ?_
 intro a42 hF41; clear hF40
 refine wpList_nil (thenN ?_)
 refine ev_condF hF41 rfl rfl ?_
 refine wp_skip ?_
 have hF43:=hF41.keep [0,4,6]
 clear hF41
 refine thenN (wp_seq (wp_seq (wp_region_lit ?_)))
 refine ev_runs 1 hF43 (l':=[(8,nI 0),(6,nP z26 0),(4,nP z14 0),(0,.slice p1 L0.length c2)]) (w':=w37) (by kernel_rfl) ?_
 intro a45 hF44; clear hF43
 refine wpList_nil (thenN ?_)
 refine wp_block ?_
 refine wp_loop_ghost (fun kI aI wI=>∃ (s46:HSt) (s47:HSt) (x48:Int),Fr 148 aI [(8,nI x48),(6,nP z26 0),(4,nP z14 0),(0,.slice p1 L0.length c2)]∧St w0 F0 (HeapP z14 z15 s46::RHeapP z26 z27 z28 z29 z30 s47::RowX kOp (.slice p1 L0.length c2) L0::ps) wI∧law22_built.l11 L0 kI s46 s47 x48=some (r0,r1)) k ⟨s7,s19,0,hF44,hS39,hm21⟩ ?_
 rintro k49 a50 w51 ⟨s46,s47,x48,hF52,hS53,hm54⟩
 clear hF44 hS39 hm21
 rcases k49 with _ | k49
 · cases hm54
 have hm55:law22_built.l11b L0 (law22_built.l11 L0 k49) s46 s47 x48=some (r0,r1):=hm54
 clear hm54
 unfold law22_built.l11b at hm55
 refine wp_seq (wp_seq ?_)
 refine joinQ (fun aI wI=>∃ (y56:Bool),Fr 148 aI [(42,.bool (y56)),(8,nI x48),(6,nP z26 0),(4,nP z14 0),(0,.slice p1 L0.length c2)]∧St w0 F0 (HeapP z14 z15 s46::RHeapP z26 z27 z28 z29 z30 s47::RowX kOp (.slice p1 L0.length c2) L0::ps) wI∧law22_built.j12 L0 s46 s47 x48 (law22_built.l11 L0 k49) y56=some (r0,r1)) ?_ ?_
 rotate_left
 · rintro a58 w59 ⟨y56,hF60,hS61,hm62⟩
   clear hF52 hS53 hm55
   unfold law22_built.j12 at hm62
   refine thenN ?_
   cases hc64:(y56)
   case true =>
    rw [hc64] at hF60
    have hm65:=ifYes hc64 hm62; clear hm62
    refine ev_condT hF60 rfl rfl ?_
    refine wp_skip ?_
    have hF66:=hF60.keep [0,4,6,8]
    clear hF60
    refine thenN (wp_seq ?_)
    refine wp_block ?_
    refine wp_seq (wp_region_lit ?_)
    refine ev_runs 2 hF66 (l':=[(46,nI x48),(45,.slice p1 L0.length c2),(8,nI x48),(6,nP z26 0),(4,nP z14 0),(0,.slice p1 L0.length c2)]) (w':=w59) (by kernel_rfl) ?_
    intro a68 hF67; clear hF66
    obtain ⟨hc69,hm70⟩:=ifTE hm65; clear hm65
    obtain ⟨g71,rfl⟩:=hp3.resolve_left (by have:=inR_spec hc69; omega)
    refine ev_one (nP g71 ((x48.toNat * 6))) w59 hF67 (by kernel_rfl) rfl (by kernel_rfl) (run_idxX rfl rfl (by kernel_rfl) rfl rfl (inR_spec hc69).1 (inR_spec hc69).2 _) (l':=[(47,nP g71 ((x48.toNat * 6))),(46,nI x48),(45,.slice (some ⟨g71,0,none⟩) L0.length c2),(8,nI x48),(6,nP z26 0),(4,nP z14 0),(0,.slice (some ⟨g71,0,none⟩) L0.length c2)]) (by kernel_rfl) ?_
    intro a73 hF72; clear hF67
    refine ev_one (.agg #[nI ((atX kOp L0 x48).kind),nI ((atX kOp L0 x48).of),nI ((atX kOp L0 x48).at'),nI ((atX kOp L0 x48).i),nI ((atX kOp L0 x48).w),nI ((atX kOp L0 x48).to)]) w59 hF72 (by kernel_rfl) rfl (by kernel_rfl) (run_loadV rfl rfl (run_loadA (cs:=[nI ((atX kOp L0 x48).kind),nI ((atX kOp L0 x48).of),nI ((atX kOp L0 x48).at'),nI ((atX kOp L0 x48).i),nI ((atX kOp L0 x48).w),nI ((atX kOp L0 x48).to)]) rfl rfl (by kernel_rfl) (St.atX (cs:=[nI ((atX kOp L0 x48).kind),nI ((atX kOp L0 x48).of),nI ((atX kOp L0 x48).at'),nI ((atX kOp L0 x48).i),nI ((atX kOp L0 x48).w),nI ((atX kOp L0 x48).to)]) hS61 2 rfl hc69 rfl))) (l':=[(48,.agg #[nI ((atX kOp L0 x48).kind),nI ((atX kOp L0 x48).of),nI ((atX kOp L0 x48).at'),nI ((atX kOp L0 x48).i),nI ((atX kOp L0 x48).w),nI ((atX kOp L0 x48).to)]),(47,nP g71 ((x48.toNat * 6))),(46,nI x48),(45,.slice (some ⟨g71,0,none⟩) L0.length c2),(8,nI x48),(6,nP z26 0),(4,nP z14 0),(0,.slice (some ⟨g71,0,none⟩) L0.length c2)]) (by kernel_rfl) ?_
    intro a75 hF74; clear hF72
    refine ev_runs 1 hF74 (l':=[(9,nB w59),(48,.agg #[nI ((atX kOp L0 x48).kind),nI ((atX kOp L0 x48).of),nI ((atX kOp L0 x48).at'),nI ((atX kOp L0 x48).i),nI ((atX kOp L0 x48).w),nI ((atX kOp L0 x48).to)]),(47,nP g71 ((x48.toNat * 6))),(46,nI x48),(45,.slice (some ⟨g71,0,none⟩) L0.length c2),(8,nI x48),(6,nP z26 0),(4,nP z14 0),(0,.slice (some ⟨g71,0,none⟩) L0.length c2)]) (w':=w59.alloc (.cells #[nI 0,nI 0,nI 0,nI 0,nI 0,nI 0] 91)) (by kernel_rfl) ?_
    intro a77 hF76; clear hF74
    have hS79:St w0 F0 (BlkP (w59.heap.size) 91 #[nI 0,nI 0,nI 0,nI 0,nI 0,nI 0]::HeapP z14 z15 s46::RHeapP z26 z27 z28 z29 z30 s47::RowX kOp (.slice (some ⟨g71,0,none⟩) L0.length c2) L0::ps) (w59.alloc (.cells #[nI 0,nI 0,nI 0,nI 0,nI 0,nI 0] 91)):=St.new hS61 #[nI 0,nI 0,nI 0,nI 0,nI 0,nI 0] 91
    clear hS61
    refine ev_store (.agg #[nI ((atX kOp L0 x48).kind),nI ((atX kOp L0 x48).of),nI ((atX kOp L0 x48).at'),nI ((atX kOp L0 x48).i),nI ((atX kOp L0 x48).w),nI ((atX kOp L0 x48).to)]) #[nI ((atX kOp L0 x48).kind),nI ((atX kOp L0 x48).of),nI ((atX kOp L0 x48).at'),nI ((atX kOp L0 x48).i),nI ((atX kOp L0 x48).w),nI ((atX kOp L0 x48).to)] hF76 (by kernel_rfl) rfl rfl rfl rfl (by kernel_rfl) hS79 (by kernel_rfl) (by kernel_rfl) (by kernel_rfl) (l':=[(9,nB w59),(48,.agg #[nI ((atX kOp L0 x48).kind),nI ((atX kOp L0 x48).of),nI ((atX kOp L0 x48).at'),nI ((atX kOp L0 x48).i),nI ((atX kOp L0 x48).w),nI ((atX kOp L0 x48).to)]),(47,nP g71 ((x48.toNat * 6))),(46,nI x48),(45,.slice (some ⟨g71,0,none⟩) L0.length c2),(8,nI x48),(6,nP z26 0),(4,nP z14 0),(0,.slice (some ⟨g71,0,none⟩) L0.length c2)]) (by kernel_rfl) ?_
    intro w80 a81 hS82 hF83; clear hF76 hS79
    refine wpList_nil ?_
    have hF84:=hF83.keep [0,4,6,8,9]
    clear hF83
    refine thenN (wp_seq (wp_region_lit ?_))
    refine ev_runs 3 hF84 (l':=[(51,nP z26 0),(50,nP z26 0),(49,nP z26 0),(9,nB w59),(8,nI x48),(6,nP z26 0),(4,nP z14 0),(0,.slice (some ⟨g71,0,none⟩) L0.length c2)]) (w':=w80) (by kernel_rfl) ?_
    intro a86 hF85; clear hF84
    refine ev_one (nP z27 0) w80 hF85 (by kernel_rfl) rfl (by kernel_rfl) (run_loadV rfl rfl (run_loadS rfl rfl (St.rhsee (k:=2) hS82 rfl).1)) (l':=[(52,nP z27 0),(51,nP z26 0),(50,nP z26 0),(49,nP z26 0),(9,nB w59),(8,nI x48),(6,nP z26 0),(4,nP z14 0),(0,.slice (some ⟨g71,0,none⟩) L0.length c2)]) (by kernel_rfl) ?_
    intro a88 hF87; clear hF85
    have hS89:=hS82.pick2
    clear hS82
    refine ev_call 9 #[nP z27 0] hF87 rfl rfl (by kernel_rfl) rfl (by kernel_rfl) (fun w=>by kernel_rfl) ?_
    refine (q_Objects hS89).mono ?_
    rintro _ w90 ⟨z94,rfl,hS92⟩ a91 hF93; clear hF87 hS89
    obtain ⟨hl99,p96,c97,rfl,hp98⟩:=St.shape hS92 1 rfl
    refine ev_runK 1 hF93 [0,4,6,8,9,10] (l':=[(10,.slice p96 (hObjsF s47.a).length c97),(9,nB w59),(8,nI x48),(6,nP z26 0),(4,nP z14 0),(0,.slice (some ⟨g71,0,none⟩) L0.length c2)]) (w':=w90) (by kernel_rfl) ?_
    intro a101 hF100; clear hF93
    refine wpList_nil (thenN (wp_seq (wp_region_lit ?_)))
    refine ev_runs 2 hF100 (l':=[(12,nI (-1)),(11,nI (-1)),(10,.slice p96 (hObjsF s47.a).length c97),(9,nB w59),(8,nI x48),(6,nP z26 0),(4,nP z14 0),(0,.slice (some ⟨g71,0,none⟩) L0.length c2)]) (w':=w90) (by kernel_rfl) ?_
    intro a103 hF102; clear hF100
    refine wpList_nil (thenN (wp_seq (wp_seq (wp_region_lit ?_))))
    refine ev_runK 3 hF102 [0,4,6,8,9,10,11,12,56] (l':=[(56,.bool (decide (((hObjsF s47.a).length:Int) > 0))),(12,nI (-1)),(11,nI (-1)),(10,.slice p96 (hObjsF s47.a).length c97),(9,nB w59),(8,nI x48),(6,nP z26 0),(4,nP z14 0),(0,.slice (some ⟨g71,0,none⟩) L0.length c2)]) (w':=w90) (by kernel_rfl) ?_
    intro a105 hF104; clear hF102
    refine wpList_nil (thenN ?_)
    refine joinQ (fun aI wI=>∃ (x106:Int) (x107:Int),Fr 148 aI [(12,nI x106),(11,nI x107),(9,nB w59),(8,nI x48),(6,nP z26 0),(4,nP z14 0),(0,.slice (some ⟨g71,0,none⟩) L0.length c2)]∧St w0 F0 (BlkP (w59.heap.size) 91 #[nI ((atX kOp L0 x48).kind),nI ((atX kOp L0 x48).of),nI ((atX kOp L0 x48).at'),nI ((atX kOp L0 x48).i),nI ((atX kOp L0 x48).w),nI ((atX kOp L0 x48).to)]::RHeapP z26 z27 z28 z29 z30 s47::HeapP z14 z15 s46::RowX kOp (.slice (some ⟨g71,0,none⟩) L0.length c2) L0::ps) wI∧law22_built.j13 L0 s46 s47 x48 (law22_built.l11 L0 k49) x106 x107=some (r0,r1)) ?_ ?_
    rotate_left
    · rintro a109 w110 ⟨x106,x107,hF111,hS112,hm113⟩
      clear hF104 hS92 hm70
      unfold law22_built.j13 at hm113
      refine thenN (wp_seq (wp_region_lit ?_))
      refine ev_runs 1 hF111 (l':=[(79,nB w59),(12,nI x106),(11,nI x107),(9,nB w59),(8,nI x48),(6,nP z26 0),(4,nP z14 0),(0,.slice (some ⟨g71,0,none⟩) L0.length c2)]) (w':=w110) (by kernel_rfl) ?_
      intro a116 hF115; clear hF111
      refine ev_one (nI ((atX kOp L0 x48).kind)) w110 hF115 (by kernel_rfl) rfl (by kernel_rfl) (run_loadV rfl rfl (run_loadS rfl rfl (hS112.cell 0 rfl 0 rfl))) (l':=[(80,nI ((atX kOp L0 x48).kind)),(79,nB w59),(12,nI x106),(11,nI x107),(9,nB w59),(8,nI x48),(6,nP z26 0),(4,nP z14 0),(0,.slice (some ⟨g71,0,none⟩) L0.length c2)]) (by kernel_rfl) ?_
      intro a118 hF117; clear hF115
      refine wpList_nil ?_
      have hF119:=hF117.keep [0,4,6,8,9,11,12,80]
      clear hF117
      refine thenN ?_
      refine wp_block ?_
      refine wp_seq (wp_region_lit ?_)
      refine ev_runK 2 hF119 [0,4,6,8,9,11,12,80,99] (l':=[(99,.bool (((atX kOp L0 x48).kind) == 1)),(80,nI ((atX kOp L0 x48).kind)),(12,nI x106),(11,nI x107),(9,nB w59),(8,nI x48),(6,nP z26 0),(4,nP z14 0),(0,.slice (some ⟨g71,0,none⟩) L0.length c2)]) (w':=w110) (by kernel_rfl) ?_
      intro a121 hF120; clear hF119
      refine wpList_nil (thenN ?_)
      refine joinQ (fun aI wI=>∃ (s122:HSt) (s123:HSt),Fr 148 aI [(8,nI x48),(6,nP z26 0),(4,nP z14 0),(0,.slice (some ⟨g71,0,none⟩) L0.length c2)]∧St w0 F0 (RHeapP z26 z27 z28 z29 z30 s122::HeapP z14 z15 s123::RowX kOp (.slice (some ⟨g71,0,none⟩) L0.length c2) L0::ps) wI∧law22_built.j14 x48 (law22_built.l11 L0 k49) s122 s123=some (r0,r1)) ?_ ?_
      rotate_left
      · rintro a125 w126 ⟨s122,s123,hF127,hS128,hm129⟩
        clear hF120 hS112 hm113
        unfold law22_built.j14 at hm129
        refine blockN ?_
        refine blockN ?_
        refine thenN (wp_region_lit ?_)
        refine ev_runK 3 hF127 [0,4,6,8] (l':=[(8,nI (IntKind.i64.wrap (x48+1))),(6,nP z26 0),(4,nP z14 0),(0,.slice (some ⟨g71,0,none⟩) L0.length c2)]) (w':=w126) (by kernel_rfl) ?_
        intro a132 hF131; clear hF127
        refine wpList_nil ?_
        have hS133:=hS128.pick2.pick1.pick2
        clear hS128
        exact thenN ⟨k49,Nat.lt_succ_self _,s123,s122,IntKind.i64.wrap (x48+1),hF131,hS133,hm129⟩
      · skip
        cases hc134:(((atX kOp L0 x48).kind) == 1)
        case true =>
         rw [hc134] at hF120
         have hm135:=ifYes hc134 hm113; clear hm113
         refine ev_condT hF120 rfl rfl ?_
         refine wp_seq (wp_region_lit ?_)
         refine ev_runs 3 hF120 (l':=[(103,nP (w59.heap.size) 3),(102,nI x107),(101,nP z14 0),(99,.bool true),(80,nI ((atX kOp L0 x48).kind)),(12,nI x106),(11,nI x107),(9,nB w59),(8,nI x48),(6,nP z26 0),(4,nP z14 0),(0,.slice (some ⟨g71,0,none⟩) L0.length c2)]) (w':=w110) (by kernel_rfl) ?_
         intro a137 hF136; clear hF120
         refine ev_one (nI ((atX kOp L0 x48).i)) w110 hF136 (by kernel_rfl) rfl (by kernel_rfl) (run_loadV rfl rfl (run_loadS rfl rfl (hS112.cell 0 rfl 3 rfl))) (l':=[(104,nI ((atX kOp L0 x48).i)),(103,nP (w59.heap.size) 3),(102,nI x107),(101,nP z14 0),(99,.bool true),(80,nI ((atX kOp L0 x48).kind)),(12,nI x106),(11,nI x107),(9,nB w59),(8,nI x48),(6,nP z26 0),(4,nP z14 0),(0,.slice (some ⟨g71,0,none⟩) L0.length c2)]) (by kernel_rfl) ?_
         intro a139 hF138; clear hF136
         refine ev_runs 1 hF138 (l':=[(105,nP (w59.heap.size) 4),(104,nI ((atX kOp L0 x48).i)),(103,nP (w59.heap.size) 3),(102,nI x107),(101,nP z14 0),(99,.bool true),(80,nI ((atX kOp L0 x48).kind)),(12,nI x106),(11,nI x107),(9,nB w59),(8,nI x48),(6,nP z26 0),(4,nP z14 0),(0,.slice (some ⟨g71,0,none⟩) L0.length c2)]) (w':=w110) (by kernel_rfl) ?_
         intro a141 hF140; clear hF138
         refine ev_one (nI ((atX kOp L0 x48).w)) w110 hF140 (by kernel_rfl) rfl (by kernel_rfl) (run_loadV rfl rfl (run_loadS rfl rfl (hS112.cell 0 rfl 4 rfl))) (l':=[(106,nI ((atX kOp L0 x48).w)),(105,nP (w59.heap.size) 4),(104,nI ((atX kOp L0 x48).i)),(103,nP (w59.heap.size) 3),(102,nI x107),(101,nP z14 0),(99,.bool true),(80,nI ((atX kOp L0 x48).kind)),(12,nI x106),(11,nI x107),(9,nB w59),(8,nI x48),(6,nP z26 0),(4,nP z14 0),(0,.slice (some ⟨g71,0,none⟩) L0.length c2)]) (by kernel_rfl) ?_
         intro a143 hF142; clear hF140
         have hS144:=hS112.pick2
         clear hS112
         refine ev_call 56 #[nP z14 0,nI x107,nI ((atX kOp L0 x48).i),nI ((atX kOp L0 x48).w)] hF142 rfl rfl (by kernel_rfl) rfl (by kernel_rfl) (fun w=>by kernel_rfl) ?_
         obtain ⟨x145,s146,hx147,hm148⟩:=bind2E hm135; clear hm135
         refine (p_Store hS144 hx147).mono ?_
         rintro _ w149 ⟨rfl,hS151⟩ a150 hF152; clear hF142 hS144
         refine wpList_nil ?_
         have hF153:=hF152.keep [0,4,6,8,9,11]
         clear hF152
         refine thenN (wp_region_lit ?_)
         refine ev_runs 3 hF153 (l':=[(110,nP (w59.heap.size) 3),(109,nI x107),(108,nP z26 0),(11,nI x107),(9,nB w59),(8,nI x48),(6,nP z26 0),(4,nP z14 0),(0,.slice (some ⟨g71,0,none⟩) L0.length c2)]) (w':=w149) (by kernel_rfl) ?_
         intro a155 hF154; clear hF153
         refine ev_one (nI ((atX kOp L0 x48).i)) w149 hF154 (by kernel_rfl) rfl (by kernel_rfl) (run_loadV rfl rfl (run_loadS rfl rfl (hS151.cell 1 rfl 3 rfl))) (l':=[(111,nI ((atX kOp L0 x48).i)),(110,nP (w59.heap.size) 3),(109,nI x107),(108,nP z26 0),(11,nI x107),(9,nB w59),(8,nI x48),(6,nP z26 0),(4,nP z14 0),(0,.slice (some ⟨g71,0,none⟩) L0.length c2)]) (by kernel_rfl) ?_
         intro a157 hF156; clear hF154
         refine ev_runs 1 hF156 (l':=[(112,nP (w59.heap.size) 4),(111,nI ((atX kOp L0 x48).i)),(110,nP (w59.heap.size) 3),(109,nI x107),(108,nP z26 0),(11,nI x107),(9,nB w59),(8,nI x48),(6,nP z26 0),(4,nP z14 0),(0,.slice (some ⟨g71,0,none⟩) L0.length c2)]) (w':=w149) (by kernel_rfl) ?_
         intro a159 hF158; clear hF156
         refine ev_one (nI ((atX kOp L0 x48).w)) w149 hF158 (by kernel_rfl) rfl (by kernel_rfl) (run_loadV rfl rfl (run_loadS rfl rfl (hS151.cell 1 rfl 4 rfl))) (l':=[(113,nI ((atX kOp L0 x48).w)),(112,nP (w59.heap.size) 4),(111,nI ((atX kOp L0 x48).i)),(110,nP (w59.heap.size) 3),(109,nI x107),(108,nP z26 0),(11,nI x107),(9,nB w59),(8,nI x48),(6,nP z26 0),(4,nP z14 0),(0,.slice (some ⟨g71,0,none⟩) L0.length c2)]) (by kernel_rfl) ?_
         intro a161 hF160; clear hF158
         have hS162:=hS151.pick2
         clear hS151
         refine ev_call 57 #[nP z26 0,nI x107,nI ((atX kOp L0 x48).i),nI ((atX kOp L0 x48).w)] hF160 rfl rfl (by kernel_rfl) rfl (by kernel_rfl) (fun w=>by kernel_rfl) ?_
         obtain ⟨x163,s164,hx165,hm166⟩:=bind2E hm148; clear hm148
         refine (q_Store hS162 hx165).mono ?_
         rintro _ w167 ⟨rfl,hS169⟩ a168 hF170; clear hF160 hS162
         refine wpList_nil ?_
         have hF171:=hF170.keep [0,4,6,8]
         clear hF170
         have hS172:=hS169.pick2.drop
         clear hS169
         exact thenN ⟨s164,s146,hF171,hS172,hm166⟩
        rw [hc134] at hF120
        have hm173:=ifNot hc134 hm113; clear hm113
        refine ev_condF hF120 rfl rfl ?_
        refine wp_seq (wp_region_lit ?_)
        refine ev_runK 2 hF120 [0,4,6,8,9,11,12,80,115] (l':=[(115,.bool (((atX kOp L0 x48).kind) == 2)),(80,nI ((atX kOp L0 x48).kind)),(12,nI x106),(11,nI x107),(9,nB w59),(8,nI x48),(6,nP z26 0),(4,nP z14 0),(0,.slice (some ⟨g71,0,none⟩) L0.length c2)]) (w':=w110) (by kernel_rfl) ?_
        intro a175 hF174; clear hF120
        refine wpList_nil (thenN ?_)
        refine joinQ (fun aI wI=>∃ (s176:HSt) (s177:HSt),Fr 148 aI [(8,nI x48),(6,nP z26 0),(4,nP z14 0),(0,.slice (some ⟨g71,0,none⟩) L0.length c2)]∧St w0 F0 (RHeapP z26 z27 z28 z29 z30 s176::HeapP z14 z15 s177::RowX kOp (.slice (some ⟨g71,0,none⟩) L0.length c2) L0::ps) wI∧law22_built.j15 x48 (law22_built.l11 L0 k49) s176 s177=some (r0,r1)) ?_ ?_
        rotate_left
        · rintro a179 w180 ⟨s176,s177,hF181,hS182,hm183⟩
          clear hF174 hS112 hm173
          unfold law22_built.j15 at hm183
          exact thenN ⟨s176,s177,hF181,hS182,hm183⟩
        · skip
          cases hc185:(((atX kOp L0 x48).kind) == 2)
          case true =>
           rw [hc185] at hF174
           have hm186:=ifYes hc185 hm173; clear hm173
           refine ev_condT hF174 rfl rfl ?_
           refine wp_seq (wp_region_lit ?_)
           refine ev_runs 1 hF174 (l':=[(117,nP (w59.heap.size) 3),(115,.bool true),(80,nI ((atX kOp L0 x48).kind)),(12,nI x106),(11,nI x107),(9,nB w59),(8,nI x48),(6,nP z26 0),(4,nP z14 0),(0,.slice (some ⟨g71,0,none⟩) L0.length c2)]) (w':=w110) (by kernel_rfl) ?_
           intro a188 hF187; clear hF174
           refine ev_one (nI ((atX kOp L0 x48).i)) w110 hF187 (by kernel_rfl) rfl (by kernel_rfl) (run_loadV rfl rfl (run_loadS rfl rfl (hS112.cell 0 rfl 3 rfl))) (l':=[(118,nI ((atX kOp L0 x48).i)),(117,nP (w59.heap.size) 3),(115,.bool true),(80,nI ((atX kOp L0 x48).kind)),(12,nI x106),(11,nI x107),(9,nB w59),(8,nI x48),(6,nP z26 0),(4,nP z14 0),(0,.slice (some ⟨g71,0,none⟩) L0.length c2)]) (by kernel_rfl) ?_
           intro a190 hF189; clear hF187
           refine ev_runs 4 hF189 (l':=[(13,nI (IntKind.i64.wrap (Int.tmod (IntKind.u64.wrap ((atX kOp L0 x48).i)) 10))),(121,nI (IntKind.i64.wrap (Int.tmod (IntKind.u64.wrap ((atX kOp L0 x48).i)) 10))),(120,.int .u64 (Int.tmod (IntKind.u64.wrap ((atX kOp L0 x48).i)) 10)),(119,.int .u64 (IntKind.u64.wrap ((atX kOp L0 x48).i))),(118,nI ((atX kOp L0 x48).i)),(117,nP (w59.heap.size) 3),(115,.bool true),(80,nI ((atX kOp L0 x48).kind)),(12,nI x106),(11,nI x107),(9,nB w59),(8,nI x48),(6,nP z26 0),(4,nP z14 0),(0,.slice (some ⟨g71,0,none⟩) L0.length c2)]) (w':=w110) (by kernel_rfl) ?_
           intro a192 hF191; clear hF189
           obtain ⟨x193,hx194,hm195⟩:=bind1E hm186; clear hm186
           have hF196:=hF191; rw [Option.some.inj hx194] at hF196; clear hF191
           refine wpList_nil ?_
           have hF197:=hF196.keep [0,4,6,8,11,12,13]
           clear hF196
           have hS198:=hS112.drop
           clear hS112
           refine thenN (wp_seq (wp_region_lit ?_))
           refine ev_runs 4 hF197 (l':=[(125,nI x106),(124,nI x193),(123,nI x107),(122,nP z14 0),(13,nI x193),(12,nI x106),(11,nI x107),(8,nI x48),(6,nP z26 0),(4,nP z14 0),(0,.slice (some ⟨g71,0,none⟩) L0.length c2)]) (w':=w110) (by kernel_rfl) ?_
           intro a200 hF199; clear hF197
           refine ev_call 58 #[nI x106] hF199 rfl rfl (by kernel_rfl) rfl (by kernel_rfl) (fun w=>by kernel_rfl) ?_
           refine (p_rPtr hS198).mono ?_
           rintro _ w201 ⟨rfl,hS203⟩ a202 hF204; clear hF199 hS198
           have hS205:=hS203.pick1
           clear hS203
           refine ev_call 56 #[nP z14 0,nI x107,nI x193,nI (wrap64 (wrap64 (x106 * 2)+1))] hF204 rfl rfl (by kernel_rfl) rfl (by kernel_rfl) (fun w=>by kernel_rfl) ?_
           obtain ⟨x206,s207,hx208,hm209⟩:=bind2E hm195; clear hm195
           refine (p_Store hS205 hx208).mono ?_
           rintro _ w210 ⟨rfl,hS212⟩ a211 hF213; clear hF204 hS205
           refine wpList_nil ?_
           have hF214:=hF213.keep [0,4,6,8,11,12,13]
           clear hF213
           refine thenN (wp_region_lit ?_)
           refine ev_runs 4 hF214 (l':=[(131,nI x106),(130,nI x193),(129,nI x107),(128,nP z26 0),(13,nI x193),(12,nI x106),(11,nI x107),(8,nI x48),(6,nP z26 0),(4,nP z14 0),(0,.slice (some ⟨g71,0,none⟩) L0.length c2)]) (w':=w210) (by kernel_rfl) ?_
           intro a216 hF215; clear hF214
           refine ev_call 58 #[nI x106] hF215 rfl rfl (by kernel_rfl) rfl (by kernel_rfl) (fun w=>by kernel_rfl) ?_
           refine (p_rPtr hS212).mono ?_
           rintro _ w217 ⟨rfl,hS219⟩ a218 hF220; clear hF215 hS212
           have hS221:=hS219.pick1
           clear hS219
           refine ev_call 57 #[nP z26 0,nI x107,nI x193,nI (wrap64 (wrap64 (x106 * 2)+1))] hF220 rfl rfl (by kernel_rfl) rfl (by kernel_rfl) (fun w=>by kernel_rfl) ?_
           obtain ⟨x222,s223,hx224,hm225⟩:=bind2E hm209; clear hm209
           refine (q_Store hS221 hx224).mono ?_
           rintro _ w226 ⟨rfl,hS228⟩ a227 hF229; clear hF220 hS221
           refine wpList_nil ?_
           have hF230:=hF229.keep [0,4,6,8]
           clear hF229
           exact thenN ⟨s223,s207,hF230,hS228,hm225⟩
          rw [hc185] at hF174
          have hm231:=ifNot hc185 hm173; clear hm173
          refine ev_condF hF174 rfl rfl ?_
          refine wp_seq (wp_region_lit ?_)
          refine ev_runK 2 hF174 [0,4,6,8,9,11,134] (l':=[(134,.bool (((atX kOp L0 x48).kind) == 3)),(11,nI x107),(9,nB w59),(8,nI x48),(6,nP z26 0),(4,nP z14 0),(0,.slice (some ⟨g71,0,none⟩) L0.length c2)]) (w':=w110) (by kernel_rfl) ?_
          intro a233 hF232; clear hF174
          refine wpList_nil (thenN ?_)
          refine joinQ (fun aI wI=>∃ (s234:HSt) (s235:HSt),Fr 148 aI [(8,nI x48),(6,nP z26 0),(4,nP z14 0),(0,.slice (some ⟨g71,0,none⟩) L0.length c2)]∧St w0 F0 (RHeapP z26 z27 z28 z29 z30 s234::HeapP z14 z15 s235::RowX kOp (.slice (some ⟨g71,0,none⟩) L0.length c2) L0::ps) wI∧law22_built.j16 x48 (law22_built.l11 L0 k49) s234 s235=some (r0,r1)) ?_ ?_
          rotate_left
          · rintro a237 w238 ⟨s234,s235,hF239,hS240,hm241⟩
            clear hF232 hS112 hm231
            unfold law22_built.j16 at hm241
            exact thenN ⟨s234,s235,hF239,hS240,hm241⟩
          · skip
            cases hc243:(((atX kOp L0 x48).kind) == 3)
            case true =>
             rw [hc243] at hF232
             have hm244:=ifYes hc243 hm231; clear hm231
             refine ev_condT hF232 rfl rfl ?_
             refine wp_seq (wp_region_lit ?_)
             refine ev_runs 1 hF232 (l':=[(136,nP z14 0),(134,.bool true),(11,nI x107),(9,nB w59),(8,nI x48),(6,nP z26 0),(4,nP z14 0),(0,.slice (some ⟨g71,0,none⟩) L0.length c2)]) (w':=w110) (by kernel_rfl) ?_
             intro a246 hF245; clear hF232
             have hS247:=hS112.pick2
             clear hS112
             refine ev_call 55 #[nP z14 0] hF245 rfl rfl (by kernel_rfl) rfl (by kernel_rfl) (fun w=>by kernel_rfl) ?_
             refine (p_Arena hS247).mono ?_
             rintro _ w248 ⟨rfl,hS250⟩ a249 hF251; clear hF245 hS247
             refine ev_runs 1 hF251 (l':=[(138,nI x107),(137,nP z15 0),(136,nP z14 0),(134,.bool true),(11,nI x107),(9,nB w59),(8,nI x48),(6,nP z26 0),(4,nP z14 0),(0,.slice (some ⟨g71,0,none⟩) L0.length c2)]) (w':=w248) (by kernel_rfl) ?_
             intro a253 hF252; clear hF251
             refine ev_call 10 #[nP z15 0,nI x107] hF252 rfl rfl (by kernel_rfl) rfl (by kernel_rfl) (fun w=>by kernel_rfl) ?_
             obtain ⟨x254,s255,hx256,hm257⟩:=bind2E hm244; clear hm244
             refine (p_Free hS250 hx256).mono ?_
             rintro _ w258 ⟨rfl,hS260⟩ a259 hF261; clear hF252 hS250
             refine wpList_nil ?_
             have hF262:=hF261.keep [0,4,6,8,11]
             clear hF261
             have hS263:=hS260.pick1.drop
             clear hS260
             refine thenN (wp_region_lit ?_)
             refine ev_runs 3 hF262 (l':=[(142,nP z26 0),(141,nP z26 0),(140,nP z26 0),(11,nI x107),(8,nI x48),(6,nP z26 0),(4,nP z14 0),(0,.slice (some ⟨g71,0,none⟩) L0.length c2)]) (w':=w258) (by kernel_rfl) ?_
             intro a265 hF264; clear hF262
             refine ev_one (nP z27 0) w258 hF264 (by kernel_rfl) rfl (by kernel_rfl) (run_loadV rfl rfl (run_loadS rfl rfl (St.rhsee (k:=1) hS263 rfl).1)) (l':=[(143,nP z27 0),(142,nP z26 0),(141,nP z26 0),(140,nP z26 0),(11,nI x107),(8,nI x48),(6,nP z26 0),(4,nP z14 0),(0,.slice (some ⟨g71,0,none⟩) L0.length c2)]) (by kernel_rfl) ?_
             intro a267 hF266; clear hF264
             refine ev_runs 1 hF266 (l':=[(144,nI x107),(143,nP z27 0),(142,nP z26 0),(141,nP z26 0),(140,nP z26 0),(11,nI x107),(8,nI x48),(6,nP z26 0),(4,nP z14 0),(0,.slice (some ⟨g71,0,none⟩) L0.length c2)]) (w':=w258) (by kernel_rfl) ?_
             intro a269 hF268; clear hF266
             have hS270:=hS263.pick1
             clear hS263
             refine ev_call 11 #[nP z27 0,nI x107] hF268 rfl rfl (by kernel_rfl) rfl (by kernel_rfl) (fun w=>by kernel_rfl) ?_
             obtain ⟨x271,s272,hx273,hm274⟩:=bind2E hm257; clear hm257
             refine (q_Free hS270 hx273).mono ?_
             rintro _ w275 ⟨rfl,hS277⟩ a276 hF278; clear hF268 hS270
             refine wpList_nil ?_
             have hF279:=hF278.keep [0,4,6,8]
             clear hF278
             exact thenN ⟨s272,s255,hF279,hS277,hm274⟩
            rw [hc243] at hF232
            have hm280:=ifNot hc243 hm231; clear hm231
            refine ev_condF hF232 rfl rfl ?_
            refine wp_seq (wp_region_lit ?_)
            refine ev_runs 1 hF232 (l':=[(81,nP (w59.heap.size) 1),(134,.bool false),(11,nI x107),(9,nB w59),(8,nI x48),(6,nP z26 0),(4,nP z14 0),(0,.slice (some ⟨g71,0,none⟩) L0.length c2)]) (w':=w110) (by kernel_rfl) ?_
            intro a282 hF281; clear hF232
            refine ev_one (nI ((atX kOp L0 x48).of)) w110 hF281 (by kernel_rfl) rfl (by kernel_rfl) (run_loadV rfl rfl (run_loadS rfl rfl (hS112.cell 0 rfl 1 rfl))) (l':=[(82,nI ((atX kOp L0 x48).of)),(81,nP (w59.heap.size) 1),(134,.bool false),(11,nI x107),(9,nB w59),(8,nI x48),(6,nP z26 0),(4,nP z14 0),(0,.slice (some ⟨g71,0,none⟩) L0.length c2)]) (by kernel_rfl) ?_
            intro a284 hF283; clear hF281
            refine ev_runs 5 hF283 (l':=[(14,nI (IntKind.i64.wrap (1+(IntKind.i64.wrap (Int.tmod (IntKind.u64.wrap ((atX kOp L0 x48).of)) 6))))),(86,nI (IntKind.i64.wrap (1+(IntKind.i64.wrap (Int.tmod (IntKind.u64.wrap ((atX kOp L0 x48).of)) 6))))),(85,nI (IntKind.i64.wrap (Int.tmod (IntKind.u64.wrap ((atX kOp L0 x48).of)) 6))),(84,.int .u64 (Int.tmod (IntKind.u64.wrap ((atX kOp L0 x48).of)) 6)),(83,.int .u64 (IntKind.u64.wrap ((atX kOp L0 x48).of))),(82,nI ((atX kOp L0 x48).of)),(81,nP (w59.heap.size) 1),(134,.bool false),(11,nI x107),(9,nB w59),(8,nI x48),(6,nP z26 0),(4,nP z14 0),(0,.slice (some ⟨g71,0,none⟩) L0.length c2)]) (w':=w110) (by kernel_rfl) ?_
            intro a286 hF285; clear hF283
            obtain ⟨x287,hx288,hm289⟩:=bind1E hm280; clear hm280
            have hF290:=hF285; rw [Option.some.inj hx288] at hF290; clear hF285
            refine wpList_nil ?_
            have hF291:=hF290.keep [0,4,6,8,14]
            clear hF290
            have hS292:=hS112.drop
            clear hS112
            refine thenN (wp_seq (wp_region_lit ?_))
            refine ev_runs 1 hF291 (l':=[(87,.slice (some ⟨w110.heap.size,0,none⟩) 7 7),(14,nI x287),(8,nI x48),(6,nP z26 0),(4,nP z14 0),(0,.slice (some ⟨g71,0,none⟩) L0.length c2)]) (w':=w110.alloc (.cells #[nI 0,nI 9,nI 3,nI 7,nI 10,nI 2,nI 2] 3)) (by kernel_rfl) ?_
            intro a294 hF293; clear hF291
            have hS296:St w0 F0 (RowP (.slice (some ⟨w110.heap.size,0,none⟩) 7 7) [0,9,3,7,10,2,2]::RHeapP z26 z27 z28 z29 z30 s47::HeapP z14 z15 s46::RowX kOp (.slice (some ⟨g71,0,none⟩) L0.length c2) L0::ps) (w110.alloc (.cells #[nI 0,nI 9,nI 3,nI 7,nI 10,nI 2,nI 2] 3)):=St.lit hS292 [0,9,3,7,10,2,2] (by unfold maxLen; simp)
            clear hS292
            refine ev_runs 1 hF293 (l':=[(88,nI x287),(87,.slice (some ⟨w110.heap.size,0,none⟩) 7 7),(14,nI x287),(8,nI x48),(6,nP z26 0),(4,nP z14 0),(0,.slice (some ⟨g71,0,none⟩) L0.length c2)]) (w':=w110.alloc (.cells #[nI 0,nI 9,nI 3,nI 7,nI 10,nI 2,nI 2] 3)) (by kernel_rfl) ?_
            intro a298 hF297; clear hF293
            obtain ⟨hc299,hm300⟩:=ifTE hm289; clear hm289
            refine ev_one (nP (w110.heap.size) (x287.toNat)) (w110.alloc (.cells #[nI 0,nI 9,nI 3,nI 7,nI 10,nI 2,nI 2] 3)) hF297 (by kernel_rfl) rfl (by kernel_rfl) (run_idx rfl rfl rfl rfl rfl (inR_spec hc299).1 (inR_spec hc299).2 _) (l':=[(89,nP (w110.heap.size) (x287.toNat)),(88,nI x287),(87,.slice (some ⟨w110.heap.size,0,none⟩) 7 7),(14,nI x287),(8,nI x48),(6,nP z26 0),(4,nP z14 0),(0,.slice (some ⟨g71,0,none⟩) L0.length c2)]) (by kernel_rfl) ?_
            intro a302 hF301; clear hF297
            refine ev_one (nI (atI [0,9,3,7,10,2,2] x287)) (w110.alloc (.cells #[nI 0,nI 9,nI 3,nI 7,nI 10,nI 2,nI 2] 3)) hF301 (by kernel_rfl) rfl (by kernel_rfl) (run_load1 rfl rfl rfl (hS296.atI 0 rfl hc299)) (l':=[(90,nI (atI [0,9,3,7,10,2,2] x287)),(89,nP (w110.heap.size) (x287.toNat)),(88,nI x287),(87,.slice (some ⟨w110.heap.size,0,none⟩) 7 7),(14,nI x287),(8,nI x48),(6,nP z26 0),(4,nP z14 0),(0,.slice (some ⟨g71,0,none⟩) L0.length c2)]) (by kernel_rfl) ?_
            intro a304 hF303; clear hF301
            refine ev_runK 1 hF303 [0,4,6,8,14,15] (l':=[(15,nI (atI [0,9,3,7,10,2,2] x287)),(14,nI x287),(8,nI x48),(6,nP z26 0),(4,nP z14 0),(0,.slice (some ⟨g71,0,none⟩) L0.length c2)]) (w':=w110.alloc (.cells #[nI 0,nI 9,nI 3,nI 7,nI 10,nI 2,nI 2] 3)) (by kernel_rfl) ?_
            intro a306 hF305; clear hF303
            refine wpList_nil ?_
            have hS307:=hS296.drop
            clear hS296
            refine thenN (wp_seq (wp_region_lit ?_))
            refine ev_runs 3 hF305 (l':=[(93,nI (atI [0,9,3,7,10,2,2] x287)),(92,nI x287),(91,nP z14 0),(15,nI (atI [0,9,3,7,10,2,2] x287)),(14,nI x287),(8,nI x48),(6,nP z26 0),(4,nP z14 0),(0,.slice (some ⟨g71,0,none⟩) L0.length c2)]) (w':=w110.alloc (.cells #[nI 0,nI 9,nI 3,nI 7,nI 10,nI 2,nI 2] 3)) (by kernel_rfl) ?_
            intro a309 hF308; clear hF305
            have hS310:=hS307.pick1
            clear hS307
            refine ev_call 59 #[nP z14 0,nI x287,nI (atI [0,9,3,7,10,2,2] x287)] hF308 rfl rfl (by kernel_rfl) rfl (by kernel_rfl) (fun w=>by kernel_rfl) ?_
            obtain ⟨x311,x312,s313,hx314,hm315⟩:=bind3E hm300; clear hm300
            refine (p_Alloc hS310 hx314).mono ?_
            rintro _ w316 ⟨rfl,hS318⟩ a317 hF319; clear hF308 hS310
            refine wpList_nil ?_
            have hF320:=hF319.keep [0,4,6,8,14,15]
            clear hF319
            refine thenN (wp_region_lit ?_)
            refine ev_runs 3 hF320 (l':=[(97,nI (atI [0,9,3,7,10,2,2] x287)),(96,nI x287),(95,nP z26 0),(15,nI (atI [0,9,3,7,10,2,2] x287)),(14,nI x287),(8,nI x48),(6,nP z26 0),(4,nP z14 0),(0,.slice (some ⟨g71,0,none⟩) L0.length c2)]) (w':=w316) (by kernel_rfl) ?_
            intro a322 hF321; clear hF320
            have hS323:=hS318.pick1
            clear hS318
            refine ev_call 60 #[nP z26 0,nI x287,nI (atI [0,9,3,7,10,2,2] x287)] hF321 rfl rfl (by kernel_rfl) rfl (by kernel_rfl) (fun w=>by kernel_rfl) ?_
            obtain ⟨x324,x325,s326,hx327,hm328⟩:=bind3E hm315; clear hm315
            refine (q_Alloc hS323 hx327).mono ?_
            rintro _ w329 ⟨rfl,hS331⟩ a330 hF332; clear hF321 hS323
            refine wpList_nil ?_
            have hF333:=hF332.keep [0,4,6,8]
            clear hF332
            exact thenN ⟨s326,s313,hF333,hS331,hm328⟩
    · skip
      cases hc334:(decide (((hObjsF s47.a).length:Int) > 0))
      case true =>
       rw [hc334] at hF104
       have hm335:=ifYes hc334 hm70; clear hm70
       refine ev_condT hF104 rfl rfl ?_
       obtain ⟨hc336,hm337⟩:=ifFE hm335; clear hm335
       obtain ⟨hc338,hm339⟩:=ifTE hm337; clear hm337
       obtain ⟨g340,rfl⟩:=hp98.resolve_left (by have:=inR_spec hc338; omega)
       obtain ⟨hc341,hm342⟩:=ifTE hm339; clear hm339
       have hS343:=hS92.pick1.pick2
       clear hS92
       have hS344:=hS343.drew; clear hS343
       refine any_start (fun wS=>∃ qs,St w0 F0 (BlkP (w59.heap.size) 91 #[nI ((atX kOp L0 x48).kind),nI ((atX kOp L0 x48).of),nI ((atX kOp L0 x48).at'),nI ((atX kOp L0 x48).i),nI ((atX kOp L0 x48).w),nI ((atX kOp L0 x48).to)]::RowP (.slice (some ⟨g340,0,none⟩) (hObjsF s47.a).length c97) (hObjsF s47.a)::qs) wS) 24 #[false,false,false,false,false,false,false,false,false,false,false,false,false,false,false,false,false,false,false,false,false,false,false,false] (by kernel_rfl) (by kernel_rfl) (by kernel_rfl) ?_
       refine any_many 24 [(0,some (.slice (some ⟨g340,0,none⟩) (hObjsF s47.a).length c97)),(1,some (nP (w59.heap.size) 2)),(2,some (nI ((atX kOp L0 x48).at'))),(3,some (.int .u64 (IntKind.u64.wrap ((atX kOp L0 x48).at')))),(4,some (.slice (some ⟨g340,0,none⟩) (hObjsF s47.a).length c97)),(5,some (nI (((hObjsF s47.a).length:Int)))),(6,some (.int .u64 (IntKind.u64.wrap ((hObjsF s47.a).length:Int)))),(7,some (.int .u64 (Int.tmod (IntKind.u64.wrap ((atX kOp L0 x48).at')) (IntKind.u64.wrap ((hObjsF s47.a).length:Int))))),(8,some (nI (IntKind.i64.wrap (Int.tmod (IntKind.u64.wrap ((atX kOp L0 x48).at')) (IntKind.u64.wrap ((hObjsF s47.a).length:Int)))))),(9,some (nP g340 ((IntKind.i64.wrap (Int.tmod (IntKind.u64.wrap ((atX kOp L0 x48).at')) (IntKind.u64.wrap ((hObjsF s47.a).length:Int)))).toNat))),(10,some (nI (atI (hObjsF s47.a) (IntKind.i64.wrap (Int.tmod (IntKind.u64.wrap ((atX kOp L0 x48).at')) (IntKind.u64.wrap ((hObjsF s47.a).length:Int))))))),(11,some (.slice (some ⟨g340,0,none⟩) (hObjsF s47.a).length c97)),(12,some (nP (w59.heap.size) 5)),(13,some (nI ((atX kOp L0 x48).to))),(14,some (.int .u64 (IntKind.u64.wrap ((atX kOp L0 x48).to)))),(15,some (.slice (some ⟨g340,0,none⟩) (hObjsF s47.a).length c97)),(16,some (nI (((hObjsF s47.a).length:Int)))),(17,some (.int .u64 (IntKind.u64.wrap ((hObjsF s47.a).length:Int)))),(18,some (.int .u64 (Int.tmod (IntKind.u64.wrap ((atX kOp L0 x48).to)) (IntKind.u64.wrap ((hObjsF s47.a).length:Int))))),(19,some (nI (IntKind.i64.wrap (Int.tmod (IntKind.u64.wrap ((atX kOp L0 x48).to)) (IntKind.u64.wrap ((hObjsF s47.a).length:Int)))))),(20,some (nP g340 ((IntKind.i64.wrap (Int.tmod (IntKind.u64.wrap ((atX kOp L0 x48).to)) (IntKind.u64.wrap ((hObjsF s47.a).length:Int)))).toNat))),(21,some (nI (atI (hObjsF s47.a) (IntKind.i64.wrap (Int.tmod (IntKind.u64.wrap ((atX kOp L0 x48).to)) (IntKind.u64.wrap ((hObjsF s47.a).length:Int))))))),(22,some (nI (atI (hObjsF s47.a) (IntKind.i64.wrap (Int.tmod (IntKind.u64.wrap ((atX kOp L0 x48).at')) (IntKind.u64.wrap ((hObjsF s47.a).length:Int))))))),(23,some (nI (atI (hObjsF s47.a) (IntKind.i64.wrap (Int.tmod (IntKind.u64.wrap ((atX kOp L0 x48).to)) (IntKind.u64.wrap ((hObjsF s47.a).length:Int)))))))] [0,4,6,8,9,11,12] #[true,true,true,true,true,true,true,true,true,true,true,true,true,true,true,true,true,true,true,true,true,true,true,true] (by rfl) hF104 (by kernel_rfl) (by kernel_rfl) (by exact ⟨fun wS hw=>by kernel_rfl,fun wS hw=>by kernel_rfl,fun wS hw=>hw.elim fun qs hw=>run_loadV rfl rfl (run_loadS rfl rfl (hw.cell 0 rfl 2 rfl)),fun wS hw=>by kernel_rfl,fun wS hw=>by kernel_rfl,fun wS hw=>by kernel_rfl,fun wS hw=>by kernel_rfl,fun wS hw=>run_rem rfl rfl rfl hc336 _,fun wS hw=>by kernel_rfl,fun wS hw=>run_idx rfl rfl rfl rfl rfl (inR_spec hc338).1 (inR_spec hc338).2 _,fun wS hw=>run_load1 rfl rfl rfl (hw.elim fun qs hw=>hw.atI 1 rfl hc338),fun wS hw=>by kernel_rfl,fun wS hw=>by kernel_rfl,fun wS hw=>hw.elim fun qs hw=>run_loadV rfl rfl (run_loadS rfl rfl (hw.cell 0 rfl 5 rfl)),fun wS hw=>by kernel_rfl,fun wS hw=>by kernel_rfl,fun wS hw=>by kernel_rfl,fun wS hw=>by kernel_rfl,fun wS hw=>run_rem rfl rfl rfl hc336 _,fun wS hw=>by kernel_rfl,fun wS hw=>run_idx rfl rfl rfl rfl rfl (inR_spec hc341).1 (inR_spec hc341).2 _,fun wS hw=>run_load1 rfl rfl rfl (hw.elim fun qs hw=>hw.atI 1 rfl hc341),fun wS hw=>by kernel_rfl,fun wS hw=>by kernel_rfl,trivial⟩) (fun _ _ _ _ _ h=>h) ⟨_,hS344⟩ (l':=[(12,nI (atI (hObjsF s47.a) (IntKind.i64.wrap (Int.tmod (IntKind.u64.wrap ((atX kOp L0 x48).to)) (IntKind.u64.wrap ((hObjsF s47.a).length:Int)))))),(11,nI (atI (hObjsF s47.a) (IntKind.i64.wrap (Int.tmod (IntKind.u64.wrap ((atX kOp L0 x48).at')) (IntKind.u64.wrap ((hObjsF s47.a).length:Int)))))),(9,nB w59),(8,nI x48),(6,nP z26 0),(4,nP z14 0),(0,.slice (some ⟨g71,0,none⟩) L0.length c2)]) (by kernel_rfl) ?_
       intro a346 hF345; clear hF104
       refine any_done (by kernel_rfl) ?_
       have hS347:=hS344.pick1.drop
       clear hS344
       exact thenN ⟨atI (hObjsF s47.a) (IntKind.i64.wrap (Int.tmod (IntKind.u64.wrap ((atX kOp L0 x48).to)) (IntKind.u64.wrap ((hObjsF s47.a).length:Int)))),atI (hObjsF s47.a) (IntKind.i64.wrap (Int.tmod (IntKind.u64.wrap ((atX kOp L0 x48).at')) (IntKind.u64.wrap ((hObjsF s47.a).length:Int)))),hF345,hS347,hm342⟩
      rw [hc334] at hF104
      have hm348:=ifNot hc334 hm70; clear hm70
      refine ev_condF hF104 rfl rfl ?_
      refine wp_skip ?_
      have hF349:=hF104.keep [0,4,6,8,9,11,12]
      clear hF104
      have hS350:=hS92.pick1.drop
      clear hS92
      have hS351:=hS350.pick3.pick3.pick2.pick3
      clear hS350
      exact thenN ⟨-1,-1,hF349,hS351,hm348⟩
   rw [hc64] at hF60
   have hm352:=ifNot hc64 hm62; clear hm62
   refine ev_condF hF60 rfl rfl ?_
   refine wp_exit ?_
   refine thenE ?_
   refine thenE ?_
   refine blockE ?_
   refine thenN (wp_seq (wp_region_lit ?_))
   refine ev_runK 4 hF60 [2,3] (l':=[(3,nP z26 0),(2,nP z14 0)]) (w':=w59) (by kernel_rfl) ?_
   intro a354 hF353; clear hF60
   refine wpList_nil (thenN ?_)
   refine wp_ret ?_
   have hS355:=hS61.pick1.pick1.pick2
   clear hS61
   simp only [Option.some.injEq,Prod.mk.injEq] at hm352
   obtain ⟨rfl,rfl⟩:=hm352
   refine ev_ret hF353 [2,3] (.tuple #[nP z14 0,nP z26 0]) rfl rfl rfl ?_
   exact ⟨_,_,_,_,_,_,_,rfl,hS355⟩
 · skip
   refine wp_region_lit ?_
   refine ev_runs 5 hF52 (l':=[(39,.bool (decide (x48<(L0.length:Int)))),(38,.bool (decide (x48<(L0.length:Int)))),(37,nI ((L0.length:Int))),(36,.slice p1 L0.length c2),(35,nI x48),(8,nI x48),(6,nP z26 0),(4,nP z14 0),(0,.slice p1 L0.length c2)]) (w':=w51) (by kernel_rfl) ?_
   intro a359 hF358; clear hF52
   cases hc360:(decide (x48<(L0.length:Int)))
   case true =>
    rw [hc360] at hF358
    have hm361:=ifYes hc360 hm55; clear hm55
    refine ev_runK 3 hF358 [0,4,6,8,42] (l':=[(42,.bool (decide (x48<60))),(8,nI x48),(6,nP z26 0),(4,nP z14 0),(0,.slice p1 L0.length c2)]) (w':=w51) (by kernel_rfl) ?_
    intro a363 hF362; clear hF358
    refine wpList_nil ?_
    exact thenN ⟨decide (x48<60),hF362,hS53,hm361⟩
   rw [hc360] at hF358
   have hm364:=ifNot hc360 hm55; clear hm55
   refine ev_runK 3 hF358 [0,4,6,8,42] (l':=[(42,.bool false),(8,nI x48),(6,nP z26 0),(4,nP z14 0),(0,.slice p1 L0.length c2)]) (w':=w51) (by kernel_rfl) ?_
   intro a366 hF365; clear hF358
   refine wpList_nil ?_
   exact thenN ⟨false,hF365,hS53,hm364⟩
def law22_awake.j1 (y31:Bool):Option (Bool):=some (y31)
def law22_awake.m (k:Nat):Option (Bool):=bind2 (law22_built.m k [(⟨0,4,0,0,0,0⟩:Op22),(⟨0,4,0,0,0,0⟩:Op22),(⟨2,0,0,0,0,1⟩:Op22)]) fun s7 s8=>bind2 (live_Reach.m k s7 [0]) fun L45 s46=>(if ((L45.length:Int) == 2) then bind2 (live_Lost.m k s46 []) fun L68 s69=>(if ((L68.length:Int) == 2) then bind2 (live_Broken.m k s69 [0]) fun L91 s92=>law22_awake.j1 ((L91.length:Int) == 0) else law22_awake.j1 false) else law22_awake.j1 false)
set_option maxRecDepth 100000 in
set_option maxHeartbeats 1500000 in
theorem law22_awake.ok {w0 w:World} {F0:List Nat} {ps:List Piece} {k:Nat}  {r0:Bool} (hS:St w0 F0 (ps) w) (hm:law22_awake.m k=some r0) :
    Calls Try.prog 28 #[] w fun e w'=>e=.returned (.bool r0)∧St w0 F0 (ps) w':=by
 refine ev_enterL 35 [] Try.func28 rfl rfl (by simp) ?_
 intro a hF
 have hF0:Fr 35 a []:=hF; clear hF
 unfold law22_awake.m at hm
 refine wp_seq (wp_region_lit ?_)
 refine ev_runK 1 hF0 [] (l':=[]) (w':=w) (by kernel_rfl) ?_
 intro a2 hF1; clear hF0
 refine wpList_nil (thenN (wp_seq (wp_region_lit ?_)))
 refine ev_runs 4 hF1 (l':=[(7,.slice (some ⟨w.heap.size,0,none⟩) 3 3),(6,.agg #[nI 2,nI 0,nI 0,nI 0,nI 0,nI 1]),(5,.agg #[nI 0,nI 4,nI 0,nI 0,nI 0,nI 0]),(4,.agg #[nI 0,nI 4,nI 0,nI 0,nI 0,nI 0])]) (w':=w.alloc (.cells #[nI 0,nI 4,nI 0,nI 0,nI 0,nI 0,nI 0,nI 4,nI 0,nI 0,nI 0,nI 0,nI 2,nI 0,nI 0,nI 0,nI 0,nI 1] 91)) (by kernel_rfl) ?_
 intro a5 hF4; clear hF1
 have hS6:St w0 F0 (RowX kOp (.slice (some ⟨w.heap.size,0,none⟩) 3 3) [(⟨0,4,0,0,0,0⟩:Op22),(⟨0,4,0,0,0,0⟩:Op22),(⟨2,0,0,0,0,1⟩:Op22)]::ps) (w.alloc (.cells #[nI 0,nI 4,nI 0,nI 0,nI 0,nI 0,nI 0,nI 4,nI 0,nI 0,nI 0,nI 0,nI 2,nI 0,nI 0,nI 0,nI 0,nI 1] 91)):=St.litX kOp hS [(⟨0,4,0,0,0,0⟩:Op22),(⟨0,4,0,0,0,0⟩:Op22),(⟨2,0,0,0,0,1⟩:Op22)] (by unfold maxLen; simp)
 refine ev_call 27 #[.slice (some ⟨w.heap.size,0,none⟩) 3 3] hF4 rfl rfl (by kernel_rfl) rfl (by kernel_rfl) (fun w=>by kernel_rfl) ?_
 obtain ⟨s7,s8,hx9,hm10⟩:=bind2E hm; clear hm
 refine (law22_built.ok hS6 hx9).mono ?_
 rintro _ w11 ⟨z15,z16,z17,z18,z19,z20,z21,rfl,hS13⟩ a12 hF14; clear hF4 hS6
 refine ev_runK 5 hF14 [1,2] (l':=[(2,nP z17 0),(1,nP z15 0)]) (w':=w11) (by kernel_rfl) ?_
 intro a25 hF24; clear hF14
 refine wpList_nil ?_
 have hS26:=hS13.drop
 clear hS13
 refine thenN (wp_seq (wp_seq (wp_region_lit ?_)))
 refine ev_runK 6 hF24 [1,16] (l':=[(16,.bool false),(1,nP z15 0)]) (w':=w11) (by kernel_rfl) ?_
 intro a28 hF27; clear hF24
 refine wpList_nil ?_
 have hS29:=hS26.pick1.drop
 clear hS26
 refine thenN ?_
 refine ev_condF hF27 rfl rfl ?_
 refine wp_skip ?_
 have hF30:=hF27.keep [1]
 clear hF27
 refine thenN (wp_seq ?_)
 refine joinQ (fun aI wI=>∃ (y31:Bool),Fr 35 aI [(0,.bool (y31))]∧St w0 F0 (ps) wI∧law22_awake.j1 y31=some r0) ?_ ?_
 rotate_left
 · rintro a33 w34 ⟨y31,hF35,hS36,hm37⟩
   clear hF30 hS29 hm10
   unfold law22_awake.j1 at hm37
   refine thenN ?_
   refine wp_ret ?_
   obtain rfl:=Option.some.inj hm37
   refine ev_ret hF35 [0] (.bool (y31)) rfl rfl rfl ?_
   exact ⟨rfl,hS36⟩
 · skip
   refine wp_region_lit ?_
   refine ev_runs 2 hF30 (l':=[(18,.slice (some ⟨w11.heap.size,0,none⟩) 1 1),(17,nP z15 0),(1,nP z15 0)]) (w':=w11.alloc (.cells #[nI 0] 3)) (by kernel_rfl) ?_
   intro a41 hF40; clear hF30
   have hS43:St w0 F0 (RowP (.slice (some ⟨w11.heap.size,0,none⟩) 1 1) [0]::HeapP z15 z16 s7::ps) (w11.alloc (.cells #[nI 0] 3)):=St.lit hS29 [0] (by unfold maxLen; simp)
   clear hS29
   have hS44:=hS43.pick1
   clear hS43
   refine ev_call 29 #[nP z15 0,.slice (some ⟨w11.heap.size,0,none⟩) 1 1] hF40 rfl rfl (by kernel_rfl) rfl (by kernel_rfl) (fun w=>by kernel_rfl) ?_
   obtain ⟨L45,s46,hx47,hm48⟩:=bind2E hm10; clear hm10
   refine (live_Reach.ok hS44 hx47).mono ?_
   rintro _ w49 ⟨z53,rfl,hS51⟩ a50 hF52; clear hF40 hS44
   obtain ⟨hl58,p55,c56,rfl,hp57⟩:=St.shape hS51 2 rfl
   refine ev_runs 3 hF52 (l':=[(22,.bool ((L45.length:Int) == 2)),(21,.bool ((L45.length:Int) == 2)),(20,nI ((L45.length:Int))),(19,.slice p55 L45.length c56),(18,.slice (some ⟨w11.heap.size,0,none⟩) 1 1),(17,nP z15 0),(1,nP z15 0)]) (w':=w49) (by kernel_rfl) ?_
   intro a60 hF59; clear hF52
   cases hc61:((L45.length:Int) == 2)
   case true =>
    rw [hc61] at hF59
    have hm62:=ifYes hc61 hm48; clear hm48
    refine ev_runs 1 hF59 (l':=[(23,nP z15 0),(22,.bool true),(21,.bool true),(20,nI ((L45.length:Int))),(19,.slice p55 L45.length c56),(18,.slice (some ⟨w11.heap.size,0,none⟩) 1 1),(17,nP z15 0),(1,nP z15 0)]) (w':=w49) (by kernel_rfl) ?_
    intro a64 hF63; clear hF59
    have hS66:St w0 F0 (RowP (.slice none 0 0) []::HeapP z15 z16 s46::RowP (.slice (some ⟨w11.heap.size,0,none⟩) 1 1) [0]::RowP (.slice p55 L45.length c56) L45::ps) w49:=St.nil hS51
    clear hS51
    have hS67:=hS66.pick1
    clear hS66
    refine ev_call 31 #[nP z15 0,.slice none 0 0] hF63 rfl rfl (by kernel_rfl) rfl (by kernel_rfl) (fun w=>by kernel_rfl) ?_
    obtain ⟨L68,s69,hx70,hm71⟩:=bind2E hm62; clear hm62
    refine (live_Lost.ok hS67 hx70).mono ?_
    rintro _ w72 ⟨z76,rfl,hS74⟩ a73 hF75; clear hF63 hS67
    obtain ⟨hl81,p78,c79,rfl,hp80⟩:=St.shape hS74 2 rfl
    refine ev_runs 4 hF75 (l':=[(28,.bool ((L68.length:Int) == 2)),(27,.bool ((L68.length:Int) == 2)),(26,.bool ((L68.length:Int) == 2)),(25,nI ((L68.length:Int))),(24,.slice p78 L68.length c79),(23,nP z15 0),(22,.bool true),(21,.bool true),(20,nI ((L45.length:Int))),(19,.slice p55 L45.length c56),(18,.slice (some ⟨w11.heap.size,0,none⟩) 1 1),(17,nP z15 0),(1,nP z15 0)]) (w':=w72) (by kernel_rfl) ?_
    intro a83 hF82; clear hF75
    cases hc84:((L68.length:Int) == 2)
    case true =>
     rw [hc84] at hF82
     have hm85:=ifYes hc84 hm71; clear hm71
     refine ev_runs 2 hF82 (l':=[(30,.slice (some ⟨w72.heap.size,0,none⟩) 1 1),(29,nP z15 0),(28,.bool true),(27,.bool true),(26,.bool true),(25,nI ((L68.length:Int))),(24,.slice p78 L68.length c79),(23,nP z15 0),(22,.bool true),(21,.bool true),(20,nI ((L45.length:Int))),(19,.slice p55 L45.length c56),(18,.slice (some ⟨w11.heap.size,0,none⟩) 1 1),(17,nP z15 0),(1,nP z15 0)]) (w':=w72.alloc (.cells #[nI 0] 3)) (by kernel_rfl) ?_
     intro a87 hF86; clear hF82
     have hS89:St w0 F0 (RowP (.slice (some ⟨w72.heap.size,0,none⟩) 1 1) [0]::HeapP z15 z16 s69::RowP (.slice none 0 0) []::RowP (.slice p78 L68.length c79) L68::RowP (.slice (some ⟨w11.heap.size,0,none⟩) 1 1) [0]::RowP (.slice p55 L45.length c56) L45::ps) (w72.alloc (.cells #[nI 0] 3)):=St.lit hS74 [0] (by unfold maxLen; simp)
     clear hS74
     have hS90:=hS89.pick1
     clear hS89
     refine ev_call 33 #[nP z15 0,.slice (some ⟨w72.heap.size,0,none⟩) 1 1] hF86 rfl rfl (by kernel_rfl) rfl (by kernel_rfl) (fun w=>by kernel_rfl) ?_
     obtain ⟨L91,s92,hx93,hm94⟩:=bind2E hm85; clear hm85
     refine (live_Broken.ok hS90 hx93).mono ?_
     rintro _ w95 ⟨z99,rfl,hS97⟩ a96 hF98; clear hF86 hS90
     obtain ⟨hl104,p101,c102,rfl,hp103⟩:=St.shape hS97 2 rfl
     refine ev_runK 4 hF98 [0] (l':=[(0,.bool ((L91.length:Int) == 0))]) (w':=w95) (by kernel_rfl) ?_
     intro a106 hF105; clear hF98
     refine wpList_nil ?_
     have hS107:=hS97.drop.drop.drop.drop.drop.drop.drop
     clear hS97
     exact thenN ⟨(L91.length:Int) == 0,hF105,hS107,hm94⟩
    rw [hc84] at hF82
    have hm108:=ifNot hc84 hm71; clear hm71
    refine ev_runK 7 hF82 [0] (l':=[(0,.bool false)]) (w':=w72) (by kernel_rfl) ?_
    intro a110 hF109; clear hF82
    refine wpList_nil ?_
    have hS111:=hS74.drop.drop.drop.drop.drop
    clear hS74
    exact thenN ⟨false,hF109,hS111,hm108⟩
   rw [hc61] at hF59
   have hm112:=ifNot hc61 hm48; clear hm48
   refine ev_runK 13 hF59 [0] (l':=[(0,.bool false)]) (w':=w49) (by kernel_rfl) ?_
   intro a114 hF113; clear hF59
   refine wpList_nil ?_
   have hS115:=hS51.drop.drop.drop
   clear hS51
   exact thenN ⟨false,hF113,hS115,hm112⟩
end Go.Proofs.Ytinagphkkegmnaa
