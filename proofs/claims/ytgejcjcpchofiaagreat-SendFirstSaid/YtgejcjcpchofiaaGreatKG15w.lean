/- G15w -/
import Derived.Test.YtgejcjcpchofiaaGreatKG15b
import Derived.Test.YtgejcjcpchofiaaGreatKGRef11
import Derived.Test.YtgejcjcpchofiaaGreatKGView
import Derived.Deep.LoopGhost
import Derived.KernelRfl
namespace Go.Proofs.YtgejcjcpchofiaaGreat
open Go.RowKit
set_option linter.unusedVariables false
def law15_wait.j7 (L68:List Int) (x72:Int) (rec75:List Int→HSt→HSt→Int→Option (Bool×HSt×HSt)) (x128:Int) (s139:HSt) (s140:HSt) (y141:Bool):Option (Bool×HSt×HSt):=(if (y141) then some (false,s140,s139) else bind1 (pushM L68 x128) fun L163=>rec75 L163 s139 s140 (IntKind.i64.wrap (x72+1)))
def law15_wait.j6 (Lc0:List Int) (Lg0:List Int) (i1:Int) (L2:List Int) (L3:List Bool) (i4:Int) (i5:Int) (k:Nat) (L68:List Int) (s70:HSt) (s71:HSt) (x72:Int) (rec75:List Int→HSt→HSt→Int→Option (Bool×HSt×HSt)) (x117:Int):Option (Bool×HSt×HSt):=bind3 (law15_alloc.m k s71 s70 Lc0 Lg0 3 7) fun x128 s129 s130=>bind2 (pPutSudog x128 (⟨i1,atI L2 x72,IntKind.i64.wrap (i4+(IntKind.i64.wrap (2 * x72))),-1,IntKind.i64.wrap (i5+x72),x117,-1⟩:Su) s129) fun x182 s183=>bind2 (ref11_PutSudog.m k s130 x128 (⟨i1,atI L2 x72,IntKind.i64.wrap (i4+(IntKind.i64.wrap (2 * x72))),-1,IntKind.i64.wrap (i5+x72),x117,-1⟩:Su)) fun x191 s192=>(if (x182 != x191) then law15_wait.j7 L68 x72 rec75 x128 s192 s183 true else bind2 (list_Push.m k s183 (atI L2 x72) (atB L3 x72) x128) fun x210 s211=>bind2 (ref11_Push.m k s192 (atI L2 x72) (atB L3 x72) x128) fun x219 s220=>law15_wait.j7 L68 x72 rec75 x128 s220 s211 (x210 != x219))
def law15_wait.l5b (Lc0:List Int) (Lg0:List Int) (i1:Int) (L2:List Int) (L3:List Bool) (i4:Int) (i5:Int) (k:Nat) (rec75:List Int→HSt→HSt→Int→Option (Bool×HSt×HSt)) (L68:List Int) (s70:HSt) (s71:HSt) (x72:Int):Option (Bool×HSt×HSt):=(if (decide (x72<(L2.length:Int))) then (if (inR x72 L2.length) then (if (inR x72 L3.length) then (if (atB L3 x72) then law15_wait.j6 Lc0 Lg0 i1 L2 L3 i4 i5 k L68 s70 s71 x72 rec75 (-1) else law15_wait.j6 Lc0 Lg0 i1 L2 L3 i4 i5 k L68 s70 s71 x72 rec75 x72) else none) else none) else bind2 (wake_Park.m k s71 i1 L68) fun x247 s248=>bind2 (ref11_Park.m k s70 i1 L68) fun x256 s257=>some (x247 == x256,s248,s257))
def law15_wait.l5 (Lc0:List Int) (Lg0:List Int) (i1:Int) (L2:List Int) (L3:List Bool) (i4:Int) (i5:Int) (k:Nat):Nat→List Int→HSt→HSt→Int→Option (Bool×HSt×HSt)
  | 0=>fun _ _ _ _=>none
  | kI+1=>law15_wait.l5b Lc0 Lg0 i1 L2 L3 i4 i5 k (law15_wait.l5 Lc0 Lg0 i1 L2 L3 i4 i5 k kI)
def law15_wait.m (k:Nat) (s0:HSt) (u0:HSt) (Lc0:List Int) (Lg0:List Int) (i1:Int) (L2:List Int) (L3:List Bool) (i4:Int) (i5:Int):Option (Bool×HSt×HSt):=bind3 (ref11_Gor.m k u0 i1) fun q26 x27 s28=>(if (q26.status != 0) then some (true,s0,s28) else law15_wait.l5 Lc0 Lg0 i1 L2 L3 i4 i5 k k [] s28 s0 0)
set_option maxRecDepth 100000 in
set_option maxHeartbeats 40000000 in
theorem law15_wait.ok {w0 w:World} {F0:List Nat} {ps:List Piece} {k:Nat} {bb0 b0 ab0 bw0 abw0 sb0 g0 cb0:Nat} {vc0 vg0:Value} {s0 u0:HSt} {Lc0 Lg0:List Int} {i1:Int} {v2:Value} {L2:List Int} {v3:Value} {L3:List Bool} {i4:Int} {i5:Int} {r0:Bool} {t0:HSt} {t1:HSt} (hS:St w0 F0 (BlkP bb0 55 #[nP b0 0,nP bw0 0,vc0,vg0]::HeapP b0 ab0 s0::RHeapP bw0 abw0 sb0 g0 cb0 u0::RowP (vc0) Lc0::RowP (vg0) Lg0::RowP (v2) L2::BoolsP (v3) L3::ps) w) (hm:law15_wait.m k s0 u0 Lc0 Lg0 i1 L2 L3 i4 i5=some (r0,t0,t1)) :
    Calls Tryz.prog 41 #[nP bb0 0,nI i1,v2,v3,nI i4,nI i5] w fun e w'=>e=.returned (.bool r0)∧St w0 F0 (BlkP bb0 55 #[nP b0 0,nP bw0 0,vc0,vg0]::HeapP b0 ab0 t0::RHeapP bw0 abw0 sb0 g0 cb0 t1::RowP (vc0) Lc0::RowP (vg0) Lg0::RowP (v2) L2::BoolsP (v3) L3::ps) w':=by
 refine ev_enterL 123 [nP bb0 0,nI i1,v2,v3,nI i4,nI i5] Tryz.func41 rfl rfl (by simp) ?_
 intro a hF
 have hF0:Fr 123 a [(0,nP bb0 0),(1,nI i1),(2,v2),(3,v3),(4,nI i4),(5,nI i5)]:=hF; clear hF
 unfold law15_wait.m at hm
 obtain ⟨hl4,p1,c2,rfl,hp3⟩:=St.shape hS 3 rfl
 obtain ⟨hl8,p5,c6,rfl,hp7⟩:=St.shape hS 4 rfl
 obtain ⟨hl12,p9,c10,rfl,hp11⟩:=St.shape hS 5 rfl
 obtain ⟨hl16,p13,c14,rfl,hp15⟩:=St.shapeB hS 6 rfl
 refine wp_seq (wp_region_lit ?_)
 refine ev_runK 1 hF0 [0,1,2,3,4,5] (l':=[(0,nP bb0 0),(1,nI i1),(2,.slice p9 L2.length c10),(3,.slice p13 L3.length c14),(4,nI i4),(5,nI i5)]) (w':=w) (by kernel_rfl) ?_
 intro a18 hF17; clear hF0
 refine wpList_nil (thenN (wp_seq (wp_region_lit ?_)))
 refine ev_runs 3 hF17 (l':=[(22,nP bb0 1),(21,nP bb0 0),(20,nP bb0 0),(0,nP bb0 0),(1,nI i1),(2,.slice p9 L2.length c10),(3,.slice p13 L3.length c14),(4,nI i4),(5,nI i5)]) (w':=w) (by kernel_rfl) ?_
 intro a20 hF19; clear hF17
 refine ev_one (nP bw0 0) w hF19 (by kernel_rfl) rfl (by kernel_rfl) (run_loadV rfl rfl (run_loadS rfl rfl (hS.cell 0 rfl 1 rfl))) (l':=[(23,nP bw0 0),(22,nP bb0 1),(21,nP bb0 0),(20,nP bb0 0),(0,nP bb0 0),(1,nI i1),(2,.slice p9 L2.length c10),(3,.slice p13 L3.length c14),(4,nI i4),(5,nI i5)]) (by kernel_rfl) ?_
 intro a22 hF21; clear hF19
 refine ev_runs 1 hF21 (l':=[(24,nI i1),(23,nP bw0 0),(22,nP bb0 1),(21,nP bb0 0),(20,nP bb0 0),(0,nP bb0 0),(1,nI i1),(2,.slice p9 L2.length c10),(3,.slice p13 L3.length c14),(4,nI i4),(5,nI i5)]) (w':=w) (by kernel_rfl) ?_
 intro a24 hF23; clear hF21
 have hS25:=hS.pick2
 refine ev_call 79 #[nP bw0 0,nI i1] hF23 rfl rfl (by kernel_rfl) rfl (by kernel_rfl) (fun w=>by kernel_rfl) ?_
 obtain ⟨q26,x27,s28,hx29,hm30⟩:=bind3E hm; clear hm
 refine (ref11_Gor.ok hS25 hx29).mono ?_
 rintro _ w31 ⟨rfl,hS33⟩ a32 hF34; clear hF23 hS25
 refine ev_runs 4 hF34 (l':=[(13,nB w31),(27,nI x27),(26,.agg #[nI (q26.id),nI (q26.status),nI (q26.pc),nI (q26.a),nI (q26.b),nI (q26.c),nI (q26.d),nI (q26.e),nI (q26.f),nI (q26.sudogs)]),(19,.tuple #[.agg #[nI (q26.id),nI (q26.status),nI (q26.pc),nI (q26.a),nI (q26.b),nI (q26.c),nI (q26.d),nI (q26.e),nI (q26.f),nI (q26.sudogs)],nI x27]),(25,.tuple #[.agg #[nI (q26.id),nI (q26.status),nI (q26.pc),nI (q26.a),nI (q26.b),nI (q26.c),nI (q26.d),nI (q26.e),nI (q26.f),nI (q26.sudogs)],nI x27]),(24,nI i1),(23,nP bw0 0),(22,nP bb0 1),(21,nP bb0 0),(20,nP bb0 0),(0,nP bb0 0),(1,nI i1),(2,.slice p9 L2.length c10),(3,.slice p13 L3.length c14),(4,nI i4),(5,nI i5)]) (w':=w31.alloc (.cells #[nI 0,nI 0,nI 0,nI 0,nI 0,nI 0,nI 0,nI 0,nI 0,nI 0] 29)) (by kernel_rfl) ?_
 intro a36 hF35; clear hF34
 have hS38:St w0 F0 (BlkP (w31.heap.size) 29 #[nI 0,nI 0,nI 0,nI 0,nI 0,nI 0,nI 0,nI 0,nI 0,nI 0]::RHeapP bw0 abw0 sb0 g0 cb0 s28::BlkP bb0 55 #[nP b0 0,nP bw0 0,.slice p1 Lc0.length c2,.slice p5 Lg0.length c6]::HeapP b0 ab0 s0::RowP (.slice p1 Lc0.length c2) Lc0::RowP (.slice p5 Lg0.length c6) Lg0::RowP (.slice p9 L2.length c10) L2::BoolsP (.slice p13 L3.length c14) L3::ps) (w31.alloc (.cells #[nI 0,nI 0,nI 0,nI 0,nI 0,nI 0,nI 0,nI 0,nI 0,nI 0] 29)):=St.new hS33 #[nI 0,nI 0,nI 0,nI 0,nI 0,nI 0,nI 0,nI 0,nI 0,nI 0] 29
 clear hS33
 refine ev_store (.agg #[nI (q26.id),nI (q26.status),nI (q26.pc),nI (q26.a),nI (q26.b),nI (q26.c),nI (q26.d),nI (q26.e),nI (q26.f),nI (q26.sudogs)]) #[nI (q26.id),nI (q26.status),nI (q26.pc),nI (q26.a),nI (q26.b),nI (q26.c),nI (q26.d),nI (q26.e),nI (q26.f),nI (q26.sudogs)] hF35 (by kernel_rfl) rfl rfl rfl rfl (by kernel_rfl) hS38 (by kernel_rfl) (by kernel_rfl) (by kernel_rfl) (l':=[(13,nB w31),(27,nI x27),(26,.agg #[nI (q26.id),nI (q26.status),nI (q26.pc),nI (q26.a),nI (q26.b),nI (q26.c),nI (q26.d),nI (q26.e),nI (q26.f),nI (q26.sudogs)]),(19,.tuple #[.agg #[nI (q26.id),nI (q26.status),nI (q26.pc),nI (q26.a),nI (q26.b),nI (q26.c),nI (q26.d),nI (q26.e),nI (q26.f),nI (q26.sudogs)],nI x27]),(25,.tuple #[.agg #[nI (q26.id),nI (q26.status),nI (q26.pc),nI (q26.a),nI (q26.b),nI (q26.c),nI (q26.d),nI (q26.e),nI (q26.f),nI (q26.sudogs)],nI x27]),(24,nI i1),(23,nP bw0 0),(22,nP bb0 1),(21,nP bb0 0),(20,nP bb0 0),(0,nP bb0 0),(1,nI i1),(2,.slice p9 L2.length c10),(3,.slice p13 L3.length c14),(4,nI i4),(5,nI i5)]) (by kernel_rfl) ?_
 intro w39 a40 hS41 hF42; clear hF35 hS38
 refine ev_runK 1 hF42 [0,1,2,3,4,5,13] (l':=[(13,nB w31),(0,nP bb0 0),(1,nI i1),(2,.slice p9 L2.length c10),(3,.slice p13 L3.length c14),(4,nI i4),(5,nI i5)]) (w':=w39) (by kernel_rfl) ?_
 intro a44 hF43; clear hF42
 refine wpList_nil (thenN (wp_seq (wp_seq (wp_region_lit ?_))))
 refine ev_runs 1 hF43 (l':=[(28,nP (w31.heap.size) 1),(13,nB w31),(0,nP bb0 0),(1,nI i1),(2,.slice p9 L2.length c10),(3,.slice p13 L3.length c14),(4,nI i4),(5,nI i5)]) (w':=w39) (by kernel_rfl) ?_
 intro a46 hF45; clear hF43
 refine ev_one (nI (q26.status)) w39 hF45 (by kernel_rfl) rfl (by kernel_rfl) (run_loadV rfl rfl (run_loadS rfl rfl (hS41.cell 0 rfl 1 rfl))) (l':=[(29,nI (q26.status)),(28,nP (w31.heap.size) 1),(13,nB w31),(0,nP bb0 0),(1,nI i1),(2,.slice p9 L2.length c10),(3,.slice p13 L3.length c14),(4,nI i4),(5,nI i5)]) (by kernel_rfl) ?_
 intro a48 hF47; clear hF45
 refine ev_runK 1 hF47 [0,1,2,3,4,5,30] (l':=[(30,.bool (q26.status != 0)),(0,nP bb0 0),(1,nI i1),(2,.slice p9 L2.length c10),(3,.slice p13 L3.length c14),(4,nI i4),(5,nI i5)]) (w':=w39) (by kernel_rfl) ?_
 intro a50 hF49; clear hF47
 refine wpList_nil ?_
 have hS51:=hS41.drop
 clear hS41
 refine thenN ?_
 cases hc52:(q26.status != 0)
 case true =>
  rw [hc52] at hF49
  have hm53:=ifYes hc52 hm30; clear hm30
  refine ev_condT hF49 rfl rfl ?_
  refine wp_seq (wp_region_lit ?_)
  refine ev_runK 1 hF49 [12] (l':=[(12,.bool true)]) (w':=w39) (by kernel_rfl) ?_
  intro a55 hF54; clear hF49
  refine wpList_nil (thenN ?_)
  refine wp_ret ?_
  refine thenR ?_
  have hS56:=hS51.pick6.pick6.pick6.pick6.pick4.pick6.pick6
  clear hS51
  simp only [Option.some.injEq,Prod.mk.injEq] at hm53
  obtain ⟨rfl,rfl,rfl⟩:=hm53
  refine ev_ret hF54 [12] (.bool true) rfl rfl rfl ?_
  exact ⟨rfl,hS56⟩
 rw [hc52] at hF49
 have hm60:=ifNot hc52 hm30; clear hm30
 refine ev_condF hF49 rfl rfl ?_
 refine wp_skip ?_
 have hF61:=hF49.keep [0,1,2,3,4,5]
 clear hF49
 refine thenN (wp_seq (wp_region_lit ?_))
 have hS63:St w0 F0 (RowP (.slice none 0 0) []::RHeapP bw0 abw0 sb0 g0 cb0 s28::BlkP bb0 55 #[nP b0 0,nP bw0 0,.slice p1 Lc0.length c2,.slice p5 Lg0.length c6]::HeapP b0 ab0 s0::RowP (.slice p1 Lc0.length c2) Lc0::RowP (.slice p5 Lg0.length c6) Lg0::RowP (.slice p9 L2.length c10) L2::BoolsP (.slice p13 L3.length c14) L3::ps) w39:=St.nil hS51
 clear hS51
 refine ev_runs 1 hF61 (l':=[(15,.slice none 0 0),(0,nP bb0 0),(1,nI i1),(2,.slice p9 L2.length c10),(3,.slice p13 L3.length c14),(4,nI i4),(5,nI i5)]) (w':=w39) (by kernel_rfl) ?_
 intro a65 hF64; clear hF61
 refine wpList_nil (thenN (wp_seq (wp_seq (wp_region_lit ?_))))
 refine ev_runs 1 hF64 (l':=[(16,nI 0),(15,.slice none 0 0),(0,nP bb0 0),(1,nI i1),(2,.slice p9 L2.length c10),(3,.slice p13 L3.length c14),(4,nI i4),(5,nI i5)]) (w':=w39) (by kernel_rfl) ?_
 intro a67 hF66; clear hF64
 refine wpList_nil (thenN ?_)
 refine wp_block ?_
 refine wp_loop_ghost (fun kI aI wI=>∃ (v69:Value) (L68:List Int) (s70:HSt) (s71:HSt) (x72:Int),Fr 123 aI [(16,nI x72),(15,v69),(0,nP bb0 0),(1,nI i1),(2,.slice p9 L2.length c10),(3,.slice p13 L3.length c14),(4,nI i4),(5,nI i5)]∧St w0 F0 (RowP (v69) L68::RHeapP bw0 abw0 sb0 g0 cb0 s70::BlkP bb0 55 #[nP b0 0,nP bw0 0,.slice p1 Lc0.length c2,.slice p5 Lg0.length c6]::HeapP b0 ab0 s71::RowP (.slice p1 Lc0.length c2) Lc0::RowP (.slice p5 Lg0.length c6) Lg0::RowP (.slice p9 L2.length c10) L2::BoolsP (.slice p13 L3.length c14) L3::ps) wI∧law15_wait.l5 Lc0 Lg0 i1 L2 L3 i4 i5 k kI L68 s70 s71 x72=some (r0,t0,t1)) k ⟨.slice none 0 0,[],s28,s0,0,hF66,hS63,hm60⟩ ?_
 rintro k73 a74 w75 ⟨v69,L68,s70,s71,x72,hF76,hS77,hm78⟩
 clear hF66 hS63 hm60
 rcases k73 with _ | k73
 · cases hm78
 have hm79:law15_wait.l5b Lc0 Lg0 i1 L2 L3 i4 i5 k (law15_wait.l5 Lc0 Lg0 i1 L2 L3 i4 i5 k k73) L68 s70 s71 x72=some (r0,t0,t1):=hm78
 clear hm78
 unfold law15_wait.l5b at hm79
 obtain ⟨hl83,p80,c81,rfl,hp82⟩:=St.shape hS77 0 rfl
 refine wp_seq (wp_seq (wp_region_lit ?_))
 refine ev_runK 4 hF76 [0,1,2,3,4,5,15,16,34] (l':=[(34,.bool (decide (x72<(L2.length:Int)))),(16,nI x72),(15,.slice p80 L68.length c81),(0,nP bb0 0),(1,nI i1),(2,.slice p9 L2.length c10),(3,.slice p13 L3.length c14),(4,nI i4),(5,nI i5)]) (w':=w75) (by kernel_rfl) ?_
 intro a85 hF84; clear hF76
 refine wpList_nil (thenN ?_)
 cases hc86:(decide (x72<(L2.length:Int)))
 case true =>
  rw [hc86] at hF84
  have hm87:=ifYes hc86 hm79; clear hm79
  refine ev_condT hF84 rfl rfl ?_
  refine wp_skip ?_
  have hF88:=hF84.keep [0,1,2,3,4,5,15,16]
  clear hF84
  refine thenN (wp_seq ?_)
  refine wp_block ?_
  refine wp_seq (wp_region_lit ?_)
  refine ev_runs 3 hF88 (l':=[(39,nI x72),(38,.slice p9 L2.length c10),(37,nI i1),(16,nI x72),(15,.slice p80 L68.length c81),(0,nP bb0 0),(1,nI i1),(2,.slice p9 L2.length c10),(3,.slice p13 L3.length c14),(4,nI i4),(5,nI i5)]) (w':=w75) (by kernel_rfl) ?_
  intro a90 hF89; clear hF88
  obtain ⟨hc91,hm92⟩:=ifTE hm87; clear hm87
  obtain ⟨g93,rfl⟩:=hp11.resolve_left (by have:=inR_spec hc91; omega)
  refine ev_one (nP g93 (x72.toNat)) w75 hF89 (by kernel_rfl) rfl (by kernel_rfl) (run_idx rfl rfl rfl rfl rfl (inR_spec hc91).1 (inR_spec hc91).2 _) (l':=[(40,nP g93 (x72.toNat)),(39,nI x72),(38,nS g93 L2 c10),(37,nI i1),(16,nI x72),(15,.slice p80 L68.length c81),(0,nP bb0 0),(1,nI i1),(2,nS g93 L2 c10),(3,.slice p13 L3.length c14),(4,nI i4),(5,nI i5)]) (by kernel_rfl) ?_
  intro a95 hF94; clear hF89
  refine ev_one (nI (atI L2 x72)) w75 hF94 (by kernel_rfl) rfl (by kernel_rfl) (run_load1 rfl rfl rfl (hS77.atI 6 rfl hc91)) (l':=[(41,nI (atI L2 x72)),(40,nP g93 (x72.toNat)),(39,nI x72),(38,nS g93 L2 c10),(37,nI i1),(16,nI x72),(15,.slice p80 L68.length c81),(0,nP bb0 0),(1,nI i1),(2,nS g93 L2 c10),(3,.slice p13 L3.length c14),(4,nI i4),(5,nI i5)]) (by kernel_rfl) ?_
  intro a97 hF96; clear hF94
  refine ev_runs 10 hF96 (l':=[(17,nB w75),(50,.agg #[nI i1,nI (atI L2 x72),nI (IntKind.i64.wrap (i4+(IntKind.i64.wrap (2 * x72)))),nI (-1),nI (IntKind.i64.wrap (i5+x72)),nI x72,nI (-1)]),(49,nI x72),(48,nI (IntKind.i64.wrap (i5+x72))),(47,nI x72),(46,nI i5),(45,nI (IntKind.i64.wrap (i4+(IntKind.i64.wrap (2 * x72))))),(44,nI (IntKind.i64.wrap (2 * x72))),(43,nI x72),(42,nI i4),(41,nI (atI L2 x72)),(40,nP g93 (x72.toNat)),(39,nI x72),(38,nS g93 L2 c10),(37,nI i1),(16,nI x72),(15,.slice p80 L68.length c81),(0,nP bb0 0),(1,nI i1),(2,nS g93 L2 c10),(3,.slice p13 L3.length c14),(4,nI i4),(5,nI i5)]) (w':=w75.alloc (.cells #[nI 0,nI 0,nI 0,nI 0,nI 0,nI 0,nI 0] 113)) (by kernel_rfl) ?_
  intro a99 hF98; clear hF96
  have hS101:St w0 F0 (BlkP (w75.heap.size) 113 #[nI 0,nI 0,nI 0,nI 0,nI 0,nI 0,nI 0]::RowP (.slice p80 L68.length c81) L68::RHeapP bw0 abw0 sb0 g0 cb0 s70::BlkP bb0 55 #[nP b0 0,nP bw0 0,.slice p1 Lc0.length c2,.slice p5 Lg0.length c6]::HeapP b0 ab0 s71::RowP (.slice p1 Lc0.length c2) Lc0::RowP (.slice p5 Lg0.length c6) Lg0::RowP (nS g93 L2 c10) L2::BoolsP (.slice p13 L3.length c14) L3::ps) (w75.alloc (.cells #[nI 0,nI 0,nI 0,nI 0,nI 0,nI 0,nI 0] 113)):=St.new hS77 #[nI 0,nI 0,nI 0,nI 0,nI 0,nI 0,nI 0] 113
  clear hS77
  refine ev_store (.agg #[nI i1,nI (atI L2 x72),nI (IntKind.i64.wrap (i4+(IntKind.i64.wrap (2 * x72)))),nI (-1),nI (IntKind.i64.wrap (i5+x72)),nI x72,nI (-1)]) #[nI i1,nI (atI L2 x72),nI (IntKind.i64.wrap (i4+(IntKind.i64.wrap (2 * x72)))),nI (-1),nI (IntKind.i64.wrap (i5+x72)),nI x72,nI (-1)] hF98 (by kernel_rfl) rfl rfl rfl rfl (by kernel_rfl) hS101 (by kernel_rfl) (by kernel_rfl) (by kernel_rfl) (l':=[(17,nB w75),(50,.agg #[nI i1,nI (atI L2 x72),nI (IntKind.i64.wrap (i4+(IntKind.i64.wrap (2 * x72)))),nI (-1),nI (IntKind.i64.wrap (i5+x72)),nI x72,nI (-1)]),(49,nI x72),(48,nI (IntKind.i64.wrap (i5+x72))),(47,nI x72),(46,nI i5),(45,nI (IntKind.i64.wrap (i4+(IntKind.i64.wrap (2 * x72))))),(44,nI (IntKind.i64.wrap (2 * x72))),(43,nI x72),(42,nI i4),(41,nI (atI L2 x72)),(40,nP g93 (x72.toNat)),(39,nI x72),(38,nS g93 L2 c10),(37,nI i1),(16,nI x72),(15,.slice p80 L68.length c81),(0,nP bb0 0),(1,nI i1),(2,nS g93 L2 c10),(3,.slice p13 L3.length c14),(4,nI i4),(5,nI i5)]) (by kernel_rfl) ?_
  intro w102 a103 hS104 hF105; clear hF98 hS101
  refine wpList_nil ?_
  have hF106:=hF105.keep [0,1,2,3,4,5,15,16,17]
  clear hF105
  refine thenN (wp_seq (wp_seq (wp_region_lit ?_)))
  refine ev_runs 2 hF106 (l':=[(52,nI x72),(51,.slice p13 L3.length c14),(17,nB w75),(16,nI x72),(15,.slice p80 L68.length c81),(0,nP bb0 0),(1,nI i1),(2,nS g93 L2 c10),(3,.slice p13 L3.length c14),(4,nI i4),(5,nI i5)]) (w':=w102) (by kernel_rfl) ?_
  intro a108 hF107; clear hF106
  obtain ⟨hc109,hm110⟩:=ifTE hm92; clear hm92
  obtain ⟨g111,rfl⟩:=hp15.resolve_left (by have:=inR_spec hc109; omega)
  refine ev_one (nP g111 (x72.toNat)) w102 hF107 (by kernel_rfl) rfl (by kernel_rfl) (run_idx rfl rfl rfl rfl rfl (inR_spec hc109).1 (inR_spec hc109).2 _) (l':=[(53,nP g111 (x72.toNat)),(52,nI x72),(51,.slice (some ⟨g111,0,none⟩) L3.length c14),(17,nB w75),(16,nI x72),(15,.slice p80 L68.length c81),(0,nP bb0 0),(1,nI i1),(2,nS g93 L2 c10),(3,.slice (some ⟨g111,0,none⟩) L3.length c14),(4,nI i4),(5,nI i5)]) (by kernel_rfl) ?_
  intro a113 hF112; clear hF107
  refine ev_one (.bool (atB L3 x72)) w102 hF112 (by kernel_rfl) rfl (by kernel_rfl) (run_loadB rfl rfl rfl (hS104.atB 8 rfl hc109)) (l':=[(54,.bool (atB L3 x72)),(53,nP g111 (x72.toNat)),(52,nI x72),(51,.slice (some ⟨g111,0,none⟩) L3.length c14),(17,nB w75),(16,nI x72),(15,.slice p80 L68.length c81),(0,nP bb0 0),(1,nI i1),(2,nS g93 L2 c10),(3,.slice (some ⟨g111,0,none⟩) L3.length c14),(4,nI i4),(5,nI i5)]) (by kernel_rfl) ?_
  intro a115 hF114; clear hF112
  refine wpList_nil ?_
  have hF116:=hF114.keep [0,1,2,3,4,5,15,16,17,54]
  clear hF114
  refine thenN ?_
  refine joinQ (fun aI wI=>∃ (x117:Int),Fr 123 aI [(17,nB w75),(16,nI x72),(15,.slice p80 L68.length c81),(0,nP bb0 0),(1,nI i1),(2,nS g93 L2 c10),(3,.slice (some ⟨g111,0,none⟩) L3.length c14),(4,nI i4),(5,nI i5)]∧St w0 F0 (BlkP (w75.heap.size) 113 #[nI i1,nI (atI L2 x72),nI (IntKind.i64.wrap (i4+(IntKind.i64.wrap (2 * x72)))),nI (-1),nI (IntKind.i64.wrap (i5+x72)),nI x117,nI (-1)]::RowP (.slice p80 L68.length c81) L68::RHeapP bw0 abw0 sb0 g0 cb0 s70::BlkP bb0 55 #[nP b0 0,nP bw0 0,.slice p1 Lc0.length c2,.slice p5 Lg0.length c6]::HeapP b0 ab0 s71::RowP (.slice p1 Lc0.length c2) Lc0::RowP (.slice p5 Lg0.length c6) Lg0::RowP (nS g93 L2 c10) L2::BoolsP (.slice (some ⟨g111,0,none⟩) L3.length c14) L3::ps) wI∧law15_wait.j6 Lc0 Lg0 i1 L2 L3 i4 i5 k L68 s70 s71 x72 (law15_wait.l5 Lc0 Lg0 i1 L2 L3 i4 i5 k k73) x117=some (r0,t0,t1)) ?_ ?_
  rotate_left
  · rintro a119 w120 ⟨x117,hF121,hS122,hm123⟩
    clear hF116 hS104 hm110
    unfold law15_wait.j6 at hm123
    refine thenN (wp_seq (wp_region_lit ?_))
    refine ev_runs 1 hF121 (l':=[(56,nP bb0 0),(17,nB w75),(16,nI x72),(15,.slice p80 L68.length c81),(0,nP bb0 0),(1,nI i1),(2,nS g93 L2 c10),(3,.slice (some ⟨g111,0,none⟩) L3.length c14),(4,nI i4),(5,nI i5)]) (w':=w120) (by kernel_rfl) ?_
    intro a126 hF125; clear hF121
    have hS127:=hS122.pick6.pick6.pick4.pick6.pick6
    clear hS122
    refine ev_call 70 #[nP bb0 0,nI 3,nI 7] hF125 rfl rfl (by kernel_rfl) rfl (by kernel_rfl) (fun w=>by kernel_rfl) ?_
    obtain ⟨x128,s129,s130,hx131,hm132⟩:=bind3E hm123; clear hm123
    refine (law15_alloc.ok hS127 hx131).mono ?_
    rintro _ w133 ⟨rfl,hS135⟩ a134 hF136; clear hF125 hS127
    refine ev_runK 1 hF136 [0,1,2,3,4,5,15,16,17,18] (l':=[(18,nI x128),(17,nB w75),(16,nI x72),(15,.slice p80 L68.length c81),(0,nP bb0 0),(1,nI i1),(2,nS g93 L2 c10),(3,.slice (some ⟨g111,0,none⟩) L3.length c14),(4,nI i4),(5,nI i5)]) (w':=w133) (by kernel_rfl) ?_
    intro a138 hF137; clear hF136
    refine wpList_nil (thenN (wp_seq (wp_seq ?_)))
    refine joinQ (fun aI wI=>∃ (s139:HSt) (s140:HSt) (y141:Bool),Fr 123 aI [(103,.bool (y141)),(18,nI x128),(16,nI x72),(15,.slice p80 L68.length c81),(0,nP bb0 0),(1,nI i1),(2,nS g93 L2 c10),(3,.slice (some ⟨g111,0,none⟩) L3.length c14),(4,nI i4),(5,nI i5)]∧St w0 F0 (RHeapP bw0 abw0 sb0 g0 cb0 s139::HeapP b0 ab0 s140::BlkP bb0 55 #[nP b0 0,nP bw0 0,.slice p1 Lc0.length c2,.slice p5 Lg0.length c6]::RowP (nS g93 L2 c10) L2::BoolsP (.slice (some ⟨g111,0,none⟩) L3.length c14) L3::RowP (.slice p1 Lc0.length c2) Lc0::RowP (.slice p5 Lg0.length c6) Lg0::RowP (.slice p80 L68.length c81) L68::ps) wI∧law15_wait.j7 L68 x72 (law15_wait.l5 Lc0 Lg0 i1 L2 L3 i4 i5 k k73) x128 s139 s140 y141=some (r0,t0,t1)) ?_ ?_
    rotate_left
    · rintro a143 w144 ⟨s139,s140,y141,hF145,hS146,hm147⟩
      clear hF137 hS135 hm132
      unfold law15_wait.j7 at hm147
      refine thenN ?_
      cases hc149:(y141)
      case true =>
       rw [hc149] at hF145
       have hm150:=ifYes hc149 hm147; clear hm147
       refine ev_condT hF145 rfl rfl ?_
       refine wp_seq (wp_region_lit ?_)
       refine ev_runK 1 hF145 [12] (l':=[(12,.bool false)]) (w':=w144) (by kernel_rfl) ?_
       intro a152 hF151; clear hF145
       refine wpList_nil ?_
       have hS153:=hS146.pick7.drop
       clear hS146
       refine thenN ?_
       refine wp_ret ?_
       refine thenR ?_
       refine blockR ?_
       refine thenR (thenR ?_)
       refine blockR ?_
       refine thenR ?_
       have hS154:=hS153.pick4.pick4.pick6.pick6.pick4.pick5.pick6
       clear hS153
       simp only [Option.some.injEq,Prod.mk.injEq] at hm150
       obtain ⟨rfl,rfl,rfl⟩:=hm150
       refine ev_ret hF151 [12] (.bool false) rfl rfl rfl ?_
       exact ⟨rfl,hS154⟩
      rw [hc149] at hF145
      have hm158:=ifNot hc149 hm147; clear hm147
      refine ev_condF hF145 rfl rfl ?_
      refine wp_skip ?_
      have hF159:=hF145.keep [0,1,2,3,4,5,15,16,18]
      clear hF145
      refine thenN (wp_region_lit ?_)
      refine ev_runs 3 hF159 (l':=[(106,.slice (some ⟨w144.heap.size,0,none⟩) 1 1),(105,nI x128),(104,.slice p80 L68.length c81),(18,nI x128),(16,nI x72),(15,.slice p80 L68.length c81),(0,nP bb0 0),(1,nI i1),(2,nS g93 L2 c10),(3,.slice (some ⟨g111,0,none⟩) L3.length c14),(4,nI i4),(5,nI i5)]) (w':=w144.alloc (.cells #[nI x128] 3)) (by kernel_rfl) ?_
      intro a161 hF160; clear hF159
      have hS162:=hS146.pick7
      clear hS146
      obtain ⟨L163,hx164,hm165⟩:=bind1E hm158; clear hm158
      refine ev_push 107 (.tmp 104) (.tmp 106) hF160 rfl rfl rfl rfl rfl rfl rfl rfl hS162 hx164 ?_
      intro g166 c167 w168 a169 hS170 hF171; clear hF160 hS162
      refine ev_runK 1 hF171 [0,1,2,3,4,5,15,16] (l':=[(15,nS g166 L163 c167),(16,nI x72),(0,nP bb0 0),(1,nI i1),(2,nS g93 L2 c10),(3,.slice (some ⟨g111,0,none⟩) L3.length c14),(4,nI i4),(5,nI i5)]) (w':=w168) (by kernel_rfl) ?_
      intro a173 hF172; clear hF171
      refine wpList_nil ?_
      refine blockN ?_
      refine thenN (wp_region_lit ?_)
      refine ev_runK 3 hF172 [0,1,2,3,4,5,15,16] (l':=[(16,nI (IntKind.i64.wrap (x72+1))),(15,nS g166 L163 c167),(0,nP bb0 0),(1,nI i1),(2,nS g93 L2 c10),(3,.slice (some ⟨g111,0,none⟩) L3.length c14),(4,nI i4),(5,nI i5)]) (w':=w168) (by kernel_rfl) ?_
      intro a175 hF174; clear hF172
      refine wpList_nil ?_
      have hS176:=hS170.pick5.pick5.pick7.pick7.pick6.pick7.pick7.pick7
      clear hS170
      exact thenN ⟨k73,Nat.lt_succ_self _,nS g166 L163 c167,L163,s139,s140,IntKind.i64.wrap (x72+1),hF174,hS176,hm165⟩
    · skip
      have hS177:=hS135.pick8.pick8.pick7.pick3
      clear hS135
      have hS178:=hS177.drew; clear hS177
      refine any_start (fun wS=>∃ qs,St w0 F0 (BlkP bb0 55 #[nP b0 0,nP bw0 0,.slice p1 Lc0.length c2,.slice p5 Lg0.length c6]::BlkP (w75.heap.size) 113 #[nI i1,nI (atI L2 x72),nI (IntKind.i64.wrap (i4+(IntKind.i64.wrap (2 * x72)))),nI (-1),nI (IntKind.i64.wrap (i5+x72)),nI x117,nI (-1)]::RowP (nS g93 L2 c10) L2::BoolsP (.slice (some ⟨g111,0,none⟩) L3.length c14) L3::qs) wS) 46 #[false,false,false,false,false,false,false,false,false,false,false,false,false,false,false,false,false,false,false,false,false,false,false,false,false,false,false,false,false,false,false,false,false,false,false,false,false,false,false,false,false,false,false,false,false,false] (by kernel_rfl) (by kernel_rfl) (by kernel_rfl) ?_
      refine any_many 12 [(0,some (nP bb0 0)),(1,some (nP bb0 0)),(2,some (nP bb0 0)),(3,some (nP b0 0)),(4,some (nI x128)),(5,some (.agg #[nI i1,nI (atI L2 x72),nI (IntKind.i64.wrap (i4+(IntKind.i64.wrap (2 * x72)))),nI (-1),nI (IntKind.i64.wrap (i5+x72)),nI x117,nI (-1)])),(7,some (nP bb0 0)),(8,some (nP bb0 0)),(9,some (nP bb0 1)),(10,some (nP bw0 0)),(11,some (nI x128)),(12,some (.agg #[nI i1,nI (atI L2 x72),nI (IntKind.i64.wrap (i4+(IntKind.i64.wrap (2 * x72)))),nI (-1),nI (IntKind.i64.wrap (i5+x72)),nI x117,nI (-1)]))] [0,1,2,3,4,5,15,16,18,61,62,63,64,68,69,70,71,72,73,74,75,76,77,78,79,80,81,82,83,84,85,86,87,88,89,90,91,92,93,94,95,96,97,98,99,100,101,102,103] #[true,true,true,true,true,true,false,true,true,true,true,true,true,false,false,false,false,false,false,false,false,false,false,false,false,false,false,false,false,false,false,false,false,false,false,false,false,false,false,false,false,false,false,false,false,false] (by rfl) hF137 (by kernel_rfl) (by kernel_rfl) (by exact ⟨fun wS hw=>by kernel_rfl,fun wS hw=>by kernel_rfl,fun wS hw=>by kernel_rfl,fun wS hw=>hw.elim fun qs hw=>run_loadV rfl rfl (run_loadS rfl rfl (hw.cell 0 rfl 0 rfl)),fun wS hw=>by kernel_rfl,fun wS hw=>hw.elim fun qs hw=>run_loadV rfl rfl (run_loadA (cs:=[nI i1,nI (atI L2 x72),nI (IntKind.i64.wrap (i4+(IntKind.i64.wrap (2 * x72)))),nI (-1),nI (IntKind.i64.wrap (i5+x72)),nI x117,nI (-1)]) rfl rfl (by kernel_rfl) (blk_cells hw 1 rfl rfl)),fun wS hw=>by kernel_rfl,fun wS hw=>by kernel_rfl,fun wS hw=>by kernel_rfl,fun wS hw=>hw.elim fun qs hw=>run_loadV rfl rfl (run_loadS rfl rfl (hw.cell 0 rfl 1 rfl)),fun wS hw=>by kernel_rfl,fun wS hw=>hw.elim fun qs hw=>run_loadV rfl rfl (run_loadA (cs:=[nI i1,nI (atI L2 x72),nI (IntKind.i64.wrap (i4+(IntKind.i64.wrap (2 * x72)))),nI (-1),nI (IntKind.i64.wrap (i5+x72)),nI x117,nI (-1)]) rfl rfl (by kernel_rfl) (blk_cells hw 1 rfl rfl)),trivial⟩) (fun _ _ _ _ _ h=>h) ⟨_,hS178⟩ (l':=[(70,.agg #[nI i1,nI (atI L2 x72),nI (IntKind.i64.wrap (i4+(IntKind.i64.wrap (2 * x72)))),nI (-1),nI (IntKind.i64.wrap (i5+x72)),nI x117,nI (-1)]),(69,nI x128),(68,nP bw0 0),(63,.agg #[nI i1,nI (atI L2 x72),nI (IntKind.i64.wrap (i4+(IntKind.i64.wrap (2 * x72)))),nI (-1),nI (IntKind.i64.wrap (i5+x72)),nI x117,nI (-1)]),(62,nI x128),(61,nP b0 0),(18,nI x128),(16,nI x72),(15,.slice p80 L68.length c81),(0,nP bb0 0),(1,nI i1),(2,nS g93 L2 c10),(3,.slice (some ⟨g111,0,none⟩) L3.length c14),(4,nI i4),(5,nI i5)]) (by kernel_rfl) ?_
      intro a180 hF179; clear hF137
      have hS181:=hS178.pick4
      clear hS178
      refine any_call 6 #[true,true,true,true,true,true,true,true,true,true,true,true,true,false,false,false,false,false,false,false,false,false,false,false,false,false,false,false,false,false,false,false,false,false,false,false,false,false,false,false,false,false,false,false,false,false] 69 #[nP b0 0,nI x128,.agg #[nI i1,nI (atI L2 x72),nI (IntKind.i64.wrap (i4+(IntKind.i64.wrap (2 * x72)))),nI (-1),nI (IntKind.i64.wrap (i5+x72)),nI x117,nI (-1)]] hF179 rfl (by kernel_rfl) rfl rfl (by kernel_rfl) rfl (by kernel_rfl) (fun w=>by kernel_rfl) (by kernel_rfl) ?_
      obtain ⟨x182,s183,hx184,hm185⟩:=bind2E hm132; clear hm132
      refine (p_PutSudog hS181 hx184).mono ?_
      rintro _ w186 ⟨rfl,hS188⟩; clear hS181
      refine ⟨⟨_,hS188.pick4.pick4.pick4.pick4⟩,?_⟩
      intro a187 hF189; clear hF179
      have hS190:=hS188.pick5
      clear hS188
      refine any_call 13 #[true,true,true,true,true,true,true,true,true,true,true,true,true,true,false,false,false,false,false,false,false,false,false,false,false,false,false,false,false,false,false,false,false,false,false,false,false,false,false,false,false,false,false,false,false,false] 80 #[nP bw0 0,nI x128,.agg #[nI i1,nI (atI L2 x72),nI (IntKind.i64.wrap (i4+(IntKind.i64.wrap (2 * x72)))),nI (-1),nI (IntKind.i64.wrap (i5+x72)),nI x117,nI (-1)]] hF189 rfl (by kernel_rfl) rfl rfl (by kernel_rfl) rfl (by kernel_rfl) (fun w=>by kernel_rfl) (by kernel_rfl) ?_
      obtain ⟨x191,s192,hx193,hm194⟩:=bind2E hm185; clear hm185
      refine (ref11_PutSudog.ok hS190 hx193).mono ?_
      rintro _ w195 ⟨rfl,hS197⟩; clear hS190
      refine ⟨⟨_,hS197.pick5.pick5.pick5.pick5⟩,?_⟩
      intro a196 hF198; clear hF189
      refine any_many 2 [(14,some (.bool (x182 != x191))),(15,some (.bool (x182 != x191)))] [0,1,2,3,4,5,15,16,18,73,74,75,76,77,78,79,80,81,82,83,84,85,86,87,88,89,90,91,92,93,94,95,96,97,98,99,100,101,102,103] #[true,true,true,true,true,true,true,true,true,true,true,true,true,true,true,true,false,false,false,false,false,false,false,false,false,false,false,false,false,false,false,false,false,false,false,false,false,false,false,false,false,false,false,false,false,false] (by rfl) hF198 (by kernel_rfl) (by kernel_rfl) (by exact ⟨fun wS hw=>by kernel_rfl,fun wS hw=>by kernel_rfl,trivial⟩) (fun _ _ _ _ _ h=>h) ⟨_,hS197.pick5.pick5.pick5.pick5⟩ (l':=[(73,.bool (x182 != x191)),(18,nI x128),(16,nI x72),(15,.slice p80 L68.length c81),(0,nP bb0 0),(1,nI i1),(2,nS g93 L2 c10),(3,.slice (some ⟨g111,0,none⟩) L3.length c14),(4,nI i4),(5,nI i5)]) (by kernel_rfl) ?_
      intro a200 hF199; clear hF198
      cases hc201:(x182 != x191)
      case true =>
       rw [hc201] at hF199
       have hm202:=ifYes hc201 hm194; clear hm194
       refine any_many 30 [(16,none),(17,none),(18,none),(19,none),(20,none),(21,none),(22,none),(23,none),(24,none),(25,none),(26,none),(27,none),(28,none),(29,none),(30,none),(31,none),(32,none),(33,none),(34,none),(35,none),(36,none),(37,none),(38,none),(39,none),(40,none),(41,none),(42,none),(43,none),(44,none),(45,some (.bool true))] [0,1,2,3,4,5,15,16,18,103] #[true,true,true,true,true,true,true,true,true,true,true,true,true,true,true,true,true,true,true,true,true,true,true,true,true,true,true,true,true,true,true,true,true,true,true,true,true,true,true,true,true,true,true,true,true,true] (by rfl) hF199 (by kernel_rfl) (by kernel_rfl) (by exact (And.intro trivial (And.intro trivial (And.intro trivial (And.intro trivial (And.intro trivial (And.intro trivial (And.intro trivial (And.intro trivial (And.intro trivial (And.intro trivial (And.intro trivial (And.intro trivial (And.intro trivial (And.intro trivial (And.intro trivial (And.intro trivial (And.intro trivial (And.intro trivial (And.intro trivial (And.intro trivial (And.intro trivial (And.intro trivial (And.intro trivial (And.intro trivial (And.intro trivial (And.intro trivial (And.intro trivial (And.intro trivial (And.intro trivial (And.intro (fun wS hw=>by kernel_rfl) trivial))))))))))))))))))))))))))))))) (fun _ _ _ _ _ h=>h) ⟨_,hS197.pick5.pick5.pick5.pick5⟩ (l':=[(103,.bool true),(18,nI x128),(16,nI x72),(15,.slice p80 L68.length c81),(0,nP bb0 0),(1,nI i1),(2,nS g93 L2 c10),(3,.slice (some ⟨g111,0,none⟩) L3.length c14),(4,nI i4),(5,nI i5)]) (by kernel_rfl) ?_
       intro a204 hF203; clear hF199
       refine any_done (by kernel_rfl) ?_
       have hS205:=hS197.pick3.drop
       clear hS197
       exact thenN ⟨s192,s183,true,hF203,hS205,hm202⟩
      rw [hc201] at hF199
      have hm206:=ifNot hc201 hm194; clear hm194
      refine any_many 26 [(16,some (nP bb0 0)),(17,some (nP bb0 0)),(18,some (nP bb0 0)),(19,some (nP b0 0)),(20,some (nS g93 L2 c10)),(21,some (nI x72)),(22,some (nP g93 (x72.toNat))),(23,some (nI (atI L2 x72))),(24,some (.slice (some ⟨g111,0,none⟩) L3.length c14)),(25,some (nI x72)),(26,some (nP g111 (x72.toNat))),(27,some (.bool (atB L3 x72))),(28,some (nI x128)),(30,some (nP bb0 0)),(31,some (nP bb0 0)),(32,some (nP bb0 1)),(33,some (nP bw0 0)),(34,some (nS g93 L2 c10)),(35,some (nI x72)),(36,some (nP g93 (x72.toNat))),(37,some (nI (atI L2 x72))),(38,some (.slice (some ⟨g111,0,none⟩) L3.length c14)),(39,some (nI x72)),(40,some (nP g111 (x72.toNat))),(41,some (.bool (atB L3 x72))),(42,some (nI x128))] [0,1,2,3,4,5,15,16,18,73,77,81,85,86,87,91,95,99,100,101,102,103] #[true,true,true,true,true,true,true,true,true,true,true,true,true,true,true,true,true,true,true,true,true,true,true,true,true,true,true,true,true,false,true,true,true,true,true,true,true,true,true,true,true,true,true,false,false,false] (by rfl) hF199 (by kernel_rfl) (by kernel_rfl) (by exact ⟨fun wS hw=>by kernel_rfl,fun wS hw=>by kernel_rfl,fun wS hw=>by kernel_rfl,fun wS hw=>hw.elim fun qs hw=>run_loadV rfl rfl (run_loadS rfl rfl (hw.cell 0 rfl 0 rfl)),fun wS hw=>by kernel_rfl,fun wS hw=>by kernel_rfl,fun wS hw=>run_idx rfl rfl rfl rfl rfl (inR_spec hc91).1 (inR_spec hc91).2 _,fun wS hw=>run_load1 rfl rfl rfl (hw.elim fun qs hw=>hw.atI 2 rfl hc91),fun wS hw=>by kernel_rfl,fun wS hw=>by kernel_rfl,fun wS hw=>run_idx rfl rfl rfl rfl rfl (inR_spec hc109).1 (inR_spec hc109).2 _,fun wS hw=>run_loadB rfl rfl rfl (hw.elim fun qs hw=>hw.atB 3 rfl hc109),fun wS hw=>by kernel_rfl,fun wS hw=>by kernel_rfl,fun wS hw=>by kernel_rfl,fun wS hw=>by kernel_rfl,fun wS hw=>hw.elim fun qs hw=>run_loadV rfl rfl (run_loadS rfl rfl (hw.cell 0 rfl 1 rfl)),fun wS hw=>by kernel_rfl,fun wS hw=>by kernel_rfl,fun wS hw=>run_idx rfl rfl rfl rfl rfl (inR_spec hc91).1 (inR_spec hc91).2 _,fun wS hw=>run_load1 rfl rfl rfl (hw.elim fun qs hw=>hw.atI 2 rfl hc91),fun wS hw=>by kernel_rfl,fun wS hw=>by kernel_rfl,fun wS hw=>run_idx rfl rfl rfl rfl rfl (inR_spec hc109).1 (inR_spec hc109).2 _,fun wS hw=>run_loadB rfl rfl rfl (hw.elim fun qs hw=>hw.atB 3 rfl hc109),fun wS hw=>by kernel_rfl,trivial⟩) (fun _ _ _ _ _ h=>h) ⟨_,hS197.pick5.pick5.pick5.pick5⟩ (l':=[(100,nI x128),(99,.bool (atB L3 x72)),(95,nI (atI L2 x72)),(91,nP bw0 0),(86,nI x128),(85,.bool (atB L3 x72)),(81,nI (atI L2 x72)),(77,nP b0 0),(73,.bool false),(18,nI x128),(16,nI x72),(15,.slice p80 L68.length c81),(0,nP bb0 0),(1,nI i1),(2,nS g93 L2 c10),(3,.slice (some ⟨g111,0,none⟩) L3.length c14),(4,nI i4),(5,nI i5)]) (by kernel_rfl) ?_
      intro a208 hF207; clear hF199
      have hS209:=hS197.pick1
      clear hS197
      refine any_call 29 #[true,true,true,true,true,true,true,true,true,true,true,true,true,true,true,true,true,true,true,true,true,true,true,true,true,true,true,true,true,true,true,true,true,true,true,true,true,true,true,true,true,true,true,false,false,false] 81 #[nP b0 0,nI (atI L2 x72),.bool (atB L3 x72),nI x128] hF207 rfl (by kernel_rfl) rfl rfl (by kernel_rfl) rfl (by kernel_rfl) (fun w=>by kernel_rfl) (by kernel_rfl) ?_
      obtain ⟨x210,s211,hx212,hm213⟩:=bind2E hm206; clear hm206
      refine (list_Push.ok hS209 hx212).mono ?_
      rintro _ w214 ⟨rfl,hS216⟩; clear hS209
      refine ⟨⟨_,hS216.pick5.pick5.pick5.pick5⟩,?_⟩
      intro a215 hF217; clear hF207
      have hS218:=hS216.pick1
      clear hS216
      refine any_call 43 #[true,true,true,true,true,true,true,true,true,true,true,true,true,true,true,true,true,true,true,true,true,true,true,true,true,true,true,true,true,true,true,true,true,true,true,true,true,true,true,true,true,true,true,true,false,false] 82 #[nP bw0 0,nI (atI L2 x72),.bool (atB L3 x72),nI x128] hF217 rfl (by kernel_rfl) rfl rfl (by kernel_rfl) rfl (by kernel_rfl) (fun w=>by kernel_rfl) (by kernel_rfl) ?_
      obtain ⟨x219,s220,hx221,hm222⟩:=bind2E hm213; clear hm213
      refine (ref11_Push.ok hS218 hx221).mono ?_
      rintro _ w223 ⟨rfl,hS225⟩; clear hS218
      refine ⟨⟨_,hS225.pick5.pick5.pick5.pick5⟩,?_⟩
      intro a224 hF226; clear hF217
      refine any_many 2 [(44,some (.bool (x210 != x219))),(45,some (.bool (x210 != x219)))] [0,1,2,3,4,5,15,16,18,103] #[true,true,true,true,true,true,true,true,true,true,true,true,true,true,true,true,true,true,true,true,true,true,true,true,true,true,true,true,true,true,true,true,true,true,true,true,true,true,true,true,true,true,true,true,true,true] (by rfl) hF226 (by kernel_rfl) (by kernel_rfl) (by exact ⟨fun wS hw=>by kernel_rfl,fun wS hw=>by kernel_rfl,trivial⟩) (fun _ _ _ _ _ h=>h) ⟨_,hS225.pick5.pick5.pick5.pick5⟩ (l':=[(103,.bool (x210 != x219)),(18,nI x128),(16,nI x72),(15,.slice p80 L68.length c81),(0,nP bb0 0),(1,nI i1),(2,nS g93 L2 c10),(3,.slice (some ⟨g111,0,none⟩) L3.length c14),(4,nI i4),(5,nI i5)]) (by kernel_rfl) ?_
      intro a228 hF227; clear hF226
      refine any_done (by kernel_rfl) ?_
      have hS229:=hS225.pick3.drop
      clear hS225
      exact thenN ⟨s220,s211,x210 != x219,hF227,hS229,hm222⟩
  · skip
    cases hc230:(atB L3 x72)
    case true =>
     rw [hc230] at hF116
     have hm231:=ifYes hc230 hm110; clear hm110
     refine ev_condT hF116 rfl rfl ?_
     refine wp_region_lit ?_
     refine ev_runs 1 hF116 (l':=[(55,nP (w75.heap.size) 5),(54,.bool true),(17,nB w75),(16,nI x72),(15,.slice p80 L68.length c81),(0,nP bb0 0),(1,nI i1),(2,nS g93 L2 c10),(3,.slice (some ⟨g111,0,none⟩) L3.length c14),(4,nI i4),(5,nI i5)]) (w':=w102) (by kernel_rfl) ?_
     intro a233 hF232; clear hF116
     refine ev_store (nI (-1)) #[nI i1,nI (atI L2 x72),nI (IntKind.i64.wrap (i4+(IntKind.i64.wrap (2 * x72)))),nI (-1),nI (IntKind.i64.wrap (i5+x72)),nI (-1),nI (-1)] hF232 (by kernel_rfl) rfl rfl rfl rfl (by kernel_rfl) hS104 (by kernel_rfl) (by kernel_rfl) (by kernel_rfl) (l':=[(55,nP (w75.heap.size) 5),(54,.bool true),(17,nB w75),(16,nI x72),(15,.slice p80 L68.length c81),(0,nP bb0 0),(1,nI i1),(2,nS g93 L2 c10),(3,.slice (some ⟨g111,0,none⟩) L3.length c14),(4,nI i4),(5,nI i5)]) (by kernel_rfl) ?_
     intro w234 a235 hS236 hF237; clear hF232 hS104
     refine wpList_nil ?_
     have hF238:=hF237.keep [0,1,2,3,4,5,15,16,17]
     clear hF237
     exact thenN ⟨-1,hF238,hS236,hm231⟩
    rw [hc230] at hF116
    have hm239:=ifNot hc230 hm110; clear hm110
    refine ev_condF hF116 rfl rfl ?_
    refine wp_skip ?_
    have hF240:=hF116.keep [0,1,2,3,4,5,15,16,17]
    clear hF116
    exact thenN ⟨x72,hF240,hS104,hm239⟩
 rw [hc86] at hF84
 have hm241:=ifNot hc86 hm79; clear hm79
 refine ev_condF hF84 rfl rfl ?_
 refine wp_exit ?_
 refine thenE ?_
 refine thenE ?_
 refine blockE ?_
 refine thenN (wp_seq ?_)
 have hS242:=hS77.pick2
 clear hS77
 have hS243:=hS242.drew; clear hS242
 refine any_start (fun wS=>∃ qs,St w0 F0 (BlkP bb0 55 #[nP b0 0,nP bw0 0,.slice p1 Lc0.length c2,.slice p5 Lg0.length c6]::qs) wS) 16 #[false,false,false,false,false,false,false,false,false,false,false,false,false,false,false,false] (by kernel_rfl) (by kernel_rfl) (by kernel_rfl) ?_
 refine any_many 12 [(0,some (nP bb0 0)),(1,some (nP bb0 0)),(2,some (nP bb0 0)),(3,some (nP b0 0)),(4,some (nI i1)),(5,some (.slice p80 L68.length c81)),(7,some (nP bb0 0)),(8,some (nP bb0 0)),(9,some (nP bb0 1)),(10,some (nP bw0 0)),(11,some (nI i1)),(12,some (.slice p80 L68.length c81))] [12,111,112,113,114,118,119,120,121,122] #[true,true,true,true,true,true,false,true,true,true,true,true,true,false,false,false] (by rfl) hF84 (by kernel_rfl) (by kernel_rfl) (by exact ⟨fun wS hw=>by kernel_rfl,fun wS hw=>by kernel_rfl,fun wS hw=>by kernel_rfl,fun wS hw=>hw.elim fun qs hw=>run_loadV rfl rfl (run_loadS rfl rfl (hw.cell 0 rfl 0 rfl)),fun wS hw=>by kernel_rfl,fun wS hw=>by kernel_rfl,fun wS hw=>by kernel_rfl,fun wS hw=>by kernel_rfl,fun wS hw=>by kernel_rfl,fun wS hw=>hw.elim fun qs hw=>run_loadV rfl rfl (run_loadS rfl rfl (hw.cell 0 rfl 1 rfl)),fun wS hw=>by kernel_rfl,fun wS hw=>by kernel_rfl,trivial⟩) (fun _ _ _ _ _ h=>h) ⟨_,hS243⟩ (l':=[(120,.slice p80 L68.length c81),(119,nI i1),(118,nP bw0 0),(113,.slice p80 L68.length c81),(112,nI i1),(111,nP b0 0)]) (by kernel_rfl) ?_
 intro a245 hF244; clear hF84
 have hS246:=hS243.pick1.pick3
 clear hS243
 refine any_call 6 #[true,true,true,true,true,true,true,true,true,true,true,true,true,false,false,false] 25 #[nP b0 0,nI i1,.slice p80 L68.length c81] hF244 rfl (by kernel_rfl) rfl rfl (by kernel_rfl) rfl (by kernel_rfl) (fun w=>by kernel_rfl) (by kernel_rfl) ?_
 obtain ⟨x247,s248,hx249,hm250⟩:=bind2E hm241; clear hm241
 refine (wake_Park.ok hS246 hx249).mono ?_
 rintro _ w251 ⟨rfl,hS253⟩; clear hS246
 refine ⟨⟨_,hS253.pick2⟩,?_⟩
 intro a252 hF254; clear hF244
 have hS255:=hS253.pick1.pick3
 clear hS253
 refine any_call 13 #[true,true,true,true,true,true,true,true,true,true,true,true,true,true,false,false] 83 #[nP bw0 0,nI i1,.slice p80 L68.length c81] hF254 rfl (by kernel_rfl) rfl rfl (by kernel_rfl) rfl (by kernel_rfl) (fun w=>by kernel_rfl) (by kernel_rfl) ?_
 obtain ⟨x256,s257,hx258,hm259⟩:=bind2E hm250; clear hm250
 refine (ref11_Park.ok hS255 hx258).mono ?_
 rintro _ w260 ⟨rfl,hS262⟩; clear hS255
 refine ⟨⟨_,hS262.pick3⟩,?_⟩
 intro a261 hF263; clear hF254
 refine any_many 2 [(14,some (.bool (x247 == x256))),(15,some (.bool (x247 == x256)))] [12] #[true,true,true,true,true,true,true,true,true,true,true,true,true,true,true,true] (by rfl) hF263 (by kernel_rfl) (by kernel_rfl) (by exact ⟨fun wS hw=>by kernel_rfl,fun wS hw=>by kernel_rfl,trivial⟩) (fun _ _ _ _ _ h=>h) ⟨_,hS262.pick3⟩ (l':=[(12,.bool (x247 == x256))]) (by kernel_rfl) ?_
 intro a265 hF264; clear hF263
 refine any_done (by kernel_rfl) ?_
 have hS266:=hS262.pick1.drop
 clear hS262
 refine thenN ?_
 refine wp_ret ?_
 have hS267:=hS266.pick6.pick6.pick6.pick6.pick4.pick5.pick6
 clear hS266
 simp only [Option.some.injEq,Prod.mk.injEq] at hm259
 obtain ⟨rfl,rfl,rfl⟩:=hm259
 refine ev_ret hF264 [12] (.bool (x247 == x256)) rfl rfl rfl ?_
 exact ⟨rfl,hS267⟩
end Go.Proofs.YtgejcjcpchofiaaGreat
