/- G14w G14 GWakeRegs -/
import Derived.Test.YtaojmbkmicjecaaGreatKG14b
import Derived.Test.YtaojmbkmicjecaaGreatKGRef11
import Derived.Test.YtaojmbkmicjecaaGreatKGView
import Derived.Deep.LoopGhost
import Derived.KernelRfl
namespace Go.Proofs.YtaojmbkmicjecaaGreat
open Go.RowKit
set_option linter.unusedVariables false
def law14_wait.j7 (L68:List Int) (x72:Int) (rec75:List Int→HSt→HSt→Int→Option (Bool×HSt×HSt)) (x128:Int) (s139:HSt) (s140:HSt) (y141:Bool):Option (Bool×HSt×HSt):=(if (y141) then some (false,s140,s139) else bind1 (pushM L68 x128) fun L163=>rec75 L163 s139 s140 (IntKind.i64.wrap (x72+1)))
def law14_wait.j6 (Lc0:List Int) (Lg0:List Int) (i1:Int) (L2:List Int) (L3:List Bool) (i4:Int) (i5:Int) (k:Nat) (L68:List Int) (s70:HSt) (s71:HSt) (x72:Int) (rec75:List Int→HSt→HSt→Int→Option (Bool×HSt×HSt)) (x117:Int):Option (Bool×HSt×HSt):=bind3 (law14_alloc.m k s71 s70 Lc0 Lg0 3 7) fun x128 s129 s130=>bind2 (pPutSudog x128 (⟨i1,atI L2 x72,IntKind.i64.wrap (i4+(IntKind.i64.wrap (2 * x72))),-1,IntKind.i64.wrap (i5+x72),x117,-1⟩:Su) s129) fun x182 s183=>bind2 (ref11_PutSudog.m k s130 x128 (⟨i1,atI L2 x72,IntKind.i64.wrap (i4+(IntKind.i64.wrap (2 * x72))),-1,IntKind.i64.wrap (i5+x72),x117,-1⟩:Su)) fun x191 s192=>(if (x182 != x191) then law14_wait.j7 L68 x72 rec75 x128 s192 s183 true else bind2 (list_Push.m k s183 (atI L2 x72) (atB L3 x72) x128) fun x210 s211=>bind2 (ref11_Push.m k s192 (atI L2 x72) (atB L3 x72) x128) fun x219 s220=>law14_wait.j7 L68 x72 rec75 x128 s220 s211 (x210 != x219))
def law14_wait.l5b (Lc0:List Int) (Lg0:List Int) (i1:Int) (L2:List Int) (L3:List Bool) (i4:Int) (i5:Int) (k:Nat) (rec75:List Int→HSt→HSt→Int→Option (Bool×HSt×HSt)) (L68:List Int) (s70:HSt) (s71:HSt) (x72:Int):Option (Bool×HSt×HSt):=(if (decide (x72<(L2.length:Int))) then (if (inR x72 L2.length) then (if (inR x72 L3.length) then (if (atB L3 x72) then law14_wait.j6 Lc0 Lg0 i1 L2 L3 i4 i5 k L68 s70 s71 x72 rec75 (-1) else law14_wait.j6 Lc0 Lg0 i1 L2 L3 i4 i5 k L68 s70 s71 x72 rec75 x72) else none) else none) else bind2 (wake_Park.m k s71 i1 L68) fun x247 s248=>bind2 (ref11_Park.m k s70 i1 L68) fun x256 s257=>some (x247 == x256,s248,s257))
def law14_wait.l5 (Lc0:List Int) (Lg0:List Int) (i1:Int) (L2:List Int) (L3:List Bool) (i4:Int) (i5:Int) (k:Nat):Nat→List Int→HSt→HSt→Int→Option (Bool×HSt×HSt)
  | 0=>fun _ _ _ _=>none
  | kI+1=>law14_wait.l5b Lc0 Lg0 i1 L2 L3 i4 i5 k (law14_wait.l5 Lc0 Lg0 i1 L2 L3 i4 i5 k kI)
def law14_wait.m (k:Nat) (s0:HSt) (u0:HSt) (Lc0:List Int) (Lg0:List Int) (i1:Int) (L2:List Int) (L3:List Bool) (i4:Int) (i5:Int):Option (Bool×HSt×HSt):=bind3 (ref11_Gor.m k u0 i1) fun q26 x27 s28=>(if (q26.status != 0) then some (true,s0,s28) else law14_wait.l5 Lc0 Lg0 i1 L2 L3 i4 i5 k k [] s28 s0 0)
set_option maxRecDepth 100000 in
set_option maxHeartbeats 40000000 in
theorem law14_wait.ok {w0 w:World} {F0:List Nat} {ps:List Piece} {k:Nat} {bb0 b0 ab0 bw0 abw0 sb0 g0 cb0:Nat} {vc0 vg0:Value} {s0 u0:HSt} {Lc0 Lg0:List Int} {i1:Int} {v2:Value} {L2:List Int} {v3:Value} {L3:List Bool} {i4:Int} {i5:Int} {r0:Bool} {t0:HSt} {t1:HSt} (hS:St w0 F0 (BlkP bb0 66 #[nP b0 0,nP bw0 0,vc0,vg0]::HeapP b0 ab0 s0::RHeapP bw0 abw0 sb0 g0 cb0 u0::RowP (vc0) Lc0::RowP (vg0) Lg0::RowP (v2) L2::BoolsP (v3) L3::ps) w) (hm:law14_wait.m k s0 u0 Lc0 Lg0 i1 L2 L3 i4 i5=some (r0,t0,t1)) :
    Calls Tryz.prog 37 #[nP bb0 0,nI i1,v2,v3,nI i4,nI i5] w fun e w'=>e=.returned (.bool r0)∧St w0 F0 (BlkP bb0 66 #[nP b0 0,nP bw0 0,vc0,vg0]::HeapP b0 ab0 t0::RHeapP bw0 abw0 sb0 g0 cb0 t1::RowP (vc0) Lc0::RowP (vg0) Lg0::RowP (v2) L2::BoolsP (v3) L3::ps) w':=by
 refine ev_enterL 123 [nP bb0 0,nI i1,v2,v3,nI i4,nI i5] Tryz.func37 rfl rfl (by simp) ?_
 intro a hF
 have hF0:Fr 123 a [(0,nP bb0 0),(1,nI i1),(2,v2),(3,v3),(4,nI i4),(5,nI i5)]:=hF; clear hF
 unfold law14_wait.m at hm
 obtain ⟨hl4,p1,c2,rfl,hp3⟩:=St.shape hS 3 rfl
 obtain ⟨hl8,p5,c6,rfl,hp7⟩:=St.shape hS 4 rfl
 obtain ⟨hl12,p9,c10,rfl,hp11⟩:=St.shape hS 5 rfl
 obtain ⟨hl16,p13,c14,rfl,hp15⟩:=St.shapeB hS 6 rfl
 refine wp_seq (wp_region_lit ?_)
 refine ev_runK 1 hF0 [0,1,2,3,4,5] (l':=[(0,nP bb0 0),(1,nI i1),(2,.slice p9 L2.length c10),(3,.slice p13 L3.length c14),(4,nI i4),(5,nI i5)]) (w':=w) (by kernel_rfl) ?_
 intro a18 hF17; clear hF0
 refine wpList_nil (thenN (wp_seq (wp_region_lit ?_)))
 refine ev_runs 3 hF17 (l':=[(22,nP bb0 1),(21,nP bb0 0),(20,nP bb0 0),(0,nP bb0 0),(1,nI i1),(2,.slice p9 L2.length c10),(3,.slice p13 L3.length c14),(4,nI i4),(5,nI i5)]) (w':=w) (by kernel_rfl) ?_
 intro a20 hF19; clear hF17
 refine ev_one (nP bw0 0) w hF19 (by kernel_rfl) rfl (by kernel_rfl) (run_loadV rfl rfl (run_loadS rfl rfl (hS.cell 0 rfl 1 rfl))) (l':=[(23,nP bw0 0),(22,nP bb0 1),(21,nP bb0 0),(20,nP bb0 0),(0,nP bb0 0),(1,nI i1),(2,.slice p9 L2.length c10),(3,.slice p13 L3.length c14),(4,nI i4),(5,nI i5)]) (by kernel_rfl) ?_
 intro a22 hF21; clear hF19
 refine ev_runs 1 hF21 (l':=[(24,nI i1),(23,nP bw0 0),(22,nP bb0 1),(21,nP bb0 0),(20,nP bb0 0),(0,nP bb0 0),(1,nI i1),(2,.slice p9 L2.length c10),(3,.slice p13 L3.length c14),(4,nI i4),(5,nI i5)]) (w':=w) (by kernel_rfl) ?_
 intro a24 hF23; clear hF21
 have hS25:=hS.pick2
 refine ev_call 84 #[nP bw0 0,nI i1] hF23 rfl rfl (by kernel_rfl) rfl (by kernel_rfl) (fun w=>by kernel_rfl) ?_
 obtain ⟨q26,x27,s28,hx29,hm30⟩:=bind3E hm; clear hm
 refine (ref11_Gor.ok hS25 hx29).mono ?_
 rintro _ w31 ⟨rfl,hS33⟩ a32 hF34; clear hF23 hS25
 refine ev_runs 4 hF34 (l':=[(13,nB w31),(27,nI x27),(26,.agg #[nI (q26.id),nI (q26.status),nI (q26.pc),nI (q26.a),nI (q26.b),nI (q26.c),nI (q26.d),nI (q26.e),nI (q26.f),nI (q26.sudogs)]),(19,.tuple #[.agg #[nI (q26.id),nI (q26.status),nI (q26.pc),nI (q26.a),nI (q26.b),nI (q26.c),nI (q26.d),nI (q26.e),nI (q26.f),nI (q26.sudogs)],nI x27]),(25,.tuple #[.agg #[nI (q26.id),nI (q26.status),nI (q26.pc),nI (q26.a),nI (q26.b),nI (q26.c),nI (q26.d),nI (q26.e),nI (q26.f),nI (q26.sudogs)],nI x27]),(24,nI i1),(23,nP bw0 0),(22,nP bb0 1),(21,nP bb0 0),(20,nP bb0 0),(0,nP bb0 0),(1,nI i1),(2,.slice p9 L2.length c10),(3,.slice p13 L3.length c14),(4,nI i4),(5,nI i5)]) (w':=w31.alloc (.cells #[nI 0,nI 0,nI 0,nI 0,nI 0,nI 0,nI 0,nI 0,nI 0,nI 0] 70)) (by kernel_rfl) ?_
 intro a36 hF35; clear hF34
 have hS38:St w0 F0 (BlkP (w31.heap.size) 70 #[nI 0,nI 0,nI 0,nI 0,nI 0,nI 0,nI 0,nI 0,nI 0,nI 0]::RHeapP bw0 abw0 sb0 g0 cb0 s28::BlkP bb0 66 #[nP b0 0,nP bw0 0,.slice p1 Lc0.length c2,.slice p5 Lg0.length c6]::HeapP b0 ab0 s0::RowP (.slice p1 Lc0.length c2) Lc0::RowP (.slice p5 Lg0.length c6) Lg0::RowP (.slice p9 L2.length c10) L2::BoolsP (.slice p13 L3.length c14) L3::ps) (w31.alloc (.cells #[nI 0,nI 0,nI 0,nI 0,nI 0,nI 0,nI 0,nI 0,nI 0,nI 0] 70)):=St.new hS33 #[nI 0,nI 0,nI 0,nI 0,nI 0,nI 0,nI 0,nI 0,nI 0,nI 0] 70
 clear hS33
 refine ev_store (.agg #[nI (q26.id),nI (q26.status),nI (q26.pc),nI (q26.a),nI (q26.b),nI (q26.c),nI (q26.d),nI (q26.e),nI (q26.f),nI (q26.sudogs)]) #[nI (q26.id),nI (q26.status),nI (q26.pc),nI (q26.a),nI (q26.b),nI (q26.c),nI (q26.d),nI (q26.e),nI (q26.f),nI (q26.sudogs)] hF35 (by kernel_rfl) rfl rfl rfl rfl (by kernel_rfl) hS38 (by kernel_rfl) (by kernel_rfl) (by kernel_rfl) (l':=[(13,nB w31),(27,nI x27),(26,.agg #[nI (q26.id),nI (q26.status),nI (q26.pc),nI (q26.a),nI (q26.b),nI (q26.c),nI (q26.d),nI (q26.e),nI (q26.f),nI (q26.sudogs)]),(19,.tuple #[.agg #[nI (q26.id),nI (q26.status),nI (q26.pc),nI (q26.a),nI (q26.b),nI (q26.c),nI (q26.d),nI (q26.e),nI (q26.f),nI (q26.sudogs)],nI x27]),(25,.tuple #[.agg #[nI (q26.id),nI (q26.status),nI (q26.pc),nI (q26.a),nI (q26.b),nI (q26.c),nI (q26.d),nI (q26.e),nI (q26.f),nI (q26.sudogs)],nI x27]),(24,nI i1),(23,nP bw0 0),(22,nP bb0 1),(21,nP bb0 0),(20,nP bb0 0),(0,nP bb0 0),(1,nI i1),(2,.slice p9 L2.length c10),(3,.slice p13 L3.length c14),(4,nI i4),(5,nI i5)]) (by kernel_rfl) ?_
 intro w39 a40 hS41 hF42; clear hF35 hS38
 refine ev_runK 1 hF42 [0,1,2,3,4,5,13] (l':=[(13,nB w31),(0,nP bb0 0),(1,nI i1),(2,.slice p9 L2.length c10),(3,.slice p13 L3.length c14),(4,nI i4),(5,nI i5)]) (w':=w39) (by kernel_rfl) ?_
 intro a44 hF43; clear hF42
 refine wpList_nil (thenN (wp_seq (wp_seq (wp_region_lit ?_))))
 refine ev_runs 1 hF43 (l':=[(28,nP (w31.heap.size) 1),(13,nB w31),(0,nP bb0 0),(1,nI i1),(2,.slice p9 L2.length c10),(3,.slice p13 L3.length c14),(4,nI i4),(5,nI i5)]) (w':=w39) (by kernel_rfl) ?_
 intro a46 hF45; clear hF43
 refine ev_one (nI (q26.status)) w39 hF45 (by kernel_rfl) rfl (by kernel_rfl) (run_loadV rfl rfl (run_loadS rfl rfl (hS41.cell 0 rfl 1 rfl))) (l':=[(29,nI (q26.status)),(28,nP (w31.heap.size) 1),(13,nB w31),(0,nP bb0 0),(1,nI i1),(2,.slice p9 L2.length c10),(3,.slice p13 L3.length c14),(4,nI i4),(5,nI i5)]) (by kernel_rfl) ?_
 intro a48 hF47; clear hF45
 refine ev_runK 1 hF47 [0,1,2,3,4,5,30] (l':=[(30,.bool (q26.status != 0)),(0,nP bb0 0),(1,nI i1),(2,.slice p9 L2.length c10),(3,.slice p13 L3.length c14),(4,nI i4),(5,nI i5)]) (w':=w39) (by kernel_rfl) ?_
 intro a50 hF49; clear hF47
 refine wpList_nil ?_
 have hS51:=hS41.drop
 clear hS41
 refine thenN ?_
 cases hc52:(q26.status != 0)
 case true =>
  rw [hc52] at hF49
  have hm53:=ifYes hc52 hm30; clear hm30
  refine ev_condT hF49 rfl rfl ?_
  refine wp_seq (wp_region_lit ?_)
  refine ev_runK 1 hF49 [12] (l':=[(12,.bool true)]) (w':=w39) (by kernel_rfl) ?_
  intro a55 hF54; clear hF49
  refine wpList_nil (thenN ?_)
  refine wp_ret ?_
  refine thenR ?_
  have hS56:=hS51.pick6.pick6.pick6.pick6.pick4.pick6.pick6
  clear hS51
  simp only [Option.some.injEq,Prod.mk.injEq] at hm53
  obtain ⟨rfl,rfl,rfl⟩:=hm53
  refine ev_ret hF54 [12] (.bool true) rfl rfl rfl ?_
  exact ⟨rfl,hS56⟩
 rw [hc52] at hF49
 have hm60:=ifNot hc52 hm30; clear hm30
 refine ev_condF hF49 rfl rfl ?_
 refine wp_skip ?_
 have hF61:=hF49.keep [0,1,2,3,4,5]
 clear hF49
 refine thenN (wp_seq (wp_region_lit ?_))
 have hS63:St w0 F0 (RowP (.slice none 0 0) []::RHeapP bw0 abw0 sb0 g0 cb0 s28::BlkP bb0 66 #[nP b0 0,nP bw0 0,.slice p1 Lc0.length c2,.slice p5 Lg0.length c6]::HeapP b0 ab0 s0::RowP (.slice p1 Lc0.length c2) Lc0::RowP (.slice p5 Lg0.length c6) Lg0::RowP (.slice p9 L2.length c10) L2::BoolsP (.slice p13 L3.length c14) L3::ps) w39:=St.nil hS51
 clear hS51
 refine ev_runs 1 hF61 (l':=[(15,.slice none 0 0),(0,nP bb0 0),(1,nI i1),(2,.slice p9 L2.length c10),(3,.slice p13 L3.length c14),(4,nI i4),(5,nI i5)]) (w':=w39) (by kernel_rfl) ?_
 intro a65 hF64; clear hF61
 refine wpList_nil (thenN (wp_seq (wp_seq (wp_region_lit ?_))))
 refine ev_runs 1 hF64 (l':=[(16,nI 0),(15,.slice none 0 0),(0,nP bb0 0),(1,nI i1),(2,.slice p9 L2.length c10),(3,.slice p13 L3.length c14),(4,nI i4),(5,nI i5)]) (w':=w39) (by kernel_rfl) ?_
 intro a67 hF66; clear hF64
 refine wpList_nil (thenN ?_)
 refine wp_block ?_
 refine wp_loop_ghost (fun kI aI wI=>∃ (v69:Value) (L68:List Int) (s70:HSt) (s71:HSt) (x72:Int),Fr 123 aI [(16,nI x72),(15,v69),(0,nP bb0 0),(1,nI i1),(2,.slice p9 L2.length c10),(3,.slice p13 L3.length c14),(4,nI i4),(5,nI i5)]∧St w0 F0 (RowP (v69) L68::RHeapP bw0 abw0 sb0 g0 cb0 s70::BlkP bb0 66 #[nP b0 0,nP bw0 0,.slice p1 Lc0.length c2,.slice p5 Lg0.length c6]::HeapP b0 ab0 s71::RowP (.slice p1 Lc0.length c2) Lc0::RowP (.slice p5 Lg0.length c6) Lg0::RowP (.slice p9 L2.length c10) L2::BoolsP (.slice p13 L3.length c14) L3::ps) wI∧law14_wait.l5 Lc0 Lg0 i1 L2 L3 i4 i5 k kI L68 s70 s71 x72=some (r0,t0,t1)) k ⟨.slice none 0 0,[],s28,s0,0,hF66,hS63,hm60⟩ ?_
 rintro k73 a74 w75 ⟨v69,L68,s70,s71,x72,hF76,hS77,hm78⟩
 clear hF66 hS63 hm60
 rcases k73 with _ | k73
 · cases hm78
 have hm79:law14_wait.l5b Lc0 Lg0 i1 L2 L3 i4 i5 k (law14_wait.l5 Lc0 Lg0 i1 L2 L3 i4 i5 k k73) L68 s70 s71 x72=some (r0,t0,t1):=hm78
 clear hm78
 unfold law14_wait.l5b at hm79
 obtain ⟨hl83,p80,c81,rfl,hp82⟩:=St.shape hS77 0 rfl
 refine wp_seq (wp_seq (wp_region_lit ?_))
 refine ev_runK 4 hF76 [0,1,2,3,4,5,15,16,34] (l':=[(34,.bool (decide (x72<(L2.length:Int)))),(16,nI x72),(15,.slice p80 L68.length c81),(0,nP bb0 0),(1,nI i1),(2,.slice p9 L2.length c10),(3,.slice p13 L3.length c14),(4,nI i4),(5,nI i5)]) (w':=w75) (by kernel_rfl) ?_
 intro a85 hF84; clear hF76
 refine wpList_nil (thenN ?_)
 cases hc86:(decide (x72<(L2.length:Int)))
 case true =>
  rw [hc86] at hF84
  have hm87:=ifYes hc86 hm79; clear hm79
  refine ev_condT hF84 rfl rfl ?_
  refine wp_skip ?_
  have hF88:=hF84.keep [0,1,2,3,4,5,15,16]
  clear hF84
  refine thenN (wp_seq ?_)
  refine wp_block ?_
  refine wp_seq (wp_region_lit ?_)
  refine ev_runs 3 hF88 (l':=[(39,nI x72),(38,.slice p9 L2.length c10),(37,nI i1),(16,nI x72),(15,.slice p80 L68.length c81),(0,nP bb0 0),(1,nI i1),(2,.slice p9 L2.length c10),(3,.slice p13 L3.length c14),(4,nI i4),(5,nI i5)]) (w':=w75) (by kernel_rfl) ?_
  intro a90 hF89; clear hF88
  obtain ⟨hc91,hm92⟩:=ifTE hm87; clear hm87
  obtain ⟨g93,rfl⟩:=hp11.resolve_left (by have:=inR_spec hc91; omega)
  refine ev_one (nP g93 (x72.toNat)) w75 hF89 (by kernel_rfl) rfl (by kernel_rfl) (run_idx rfl rfl rfl rfl rfl (inR_spec hc91).1 (inR_spec hc91).2 _) (l':=[(40,nP g93 (x72.toNat)),(39,nI x72),(38,nS g93 L2 c10),(37,nI i1),(16,nI x72),(15,.slice p80 L68.length c81),(0,nP bb0 0),(1,nI i1),(2,nS g93 L2 c10),(3,.slice p13 L3.length c14),(4,nI i4),(5,nI i5)]) (by kernel_rfl) ?_
  intro a95 hF94; clear hF89
  refine ev_one (nI (atI L2 x72)) w75 hF94 (by kernel_rfl) rfl (by kernel_rfl) (run_load1 rfl rfl rfl (hS77.atI 6 rfl hc91)) (l':=[(41,nI (atI L2 x72)),(40,nP g93 (x72.toNat)),(39,nI x72),(38,nS g93 L2 c10),(37,nI i1),(16,nI x72),(15,.slice p80 L68.length c81),(0,nP bb0 0),(1,nI i1),(2,nS g93 L2 c10),(3,.slice p13 L3.length c14),(4,nI i4),(5,nI i5)]) (by kernel_rfl) ?_
  intro a97 hF96; clear hF94
  refine ev_runs 10 hF96 (l':=[(17,nB w75),(50,.agg #[nI i1,nI (atI L2 x72),nI (IntKind.i64.wrap (i4+(IntKind.i64.wrap (2 * x72)))),nI (-1),nI (IntKind.i64.wrap (i5+x72)),nI x72,nI (-1)]),(49,nI x72),(48,nI (IntKind.i64.wrap (i5+x72))),(47,nI x72),(46,nI i5),(45,nI (IntKind.i64.wrap (i4+(IntKind.i64.wrap (2 * x72))))),(44,nI (IntKind.i64.wrap (2 * x72))),(43,nI x72),(42,nI i4),(41,nI (atI L2 x72)),(40,nP g93 (x72.toNat)),(39,nI x72),(38,nS g93 L2 c10),(37,nI i1),(16,nI x72),(15,.slice p80 L68.length c81),(0,nP bb0 0),(1,nI i1),(2,nS g93 L2 c10),(3,.slice p13 L3.length c14),(4,nI i4),(5,nI i5)]) (w':=w75.alloc (.cells #[nI 0,nI 0,nI 0,nI 0,nI 0,nI 0,nI 0] 54)) (by kernel_rfl) ?_
  intro a99 hF98; clear hF96
  have hS101:St w0 F0 (BlkP (w75.heap.size) 54 #[nI 0,nI 0,nI 0,nI 0,nI 0,nI 0,nI 0]::RowP (.slice p80 L68.length c81) L68::RHeapP bw0 abw0 sb0 g0 cb0 s70::BlkP bb0 66 #[nP b0 0,nP bw0 0,.slice p1 Lc0.length c2,.slice p5 Lg0.length c6]::HeapP b0 ab0 s71::RowP (.slice p1 Lc0.length c2) Lc0::RowP (.slice p5 Lg0.length c6) Lg0::RowP (nS g93 L2 c10) L2::BoolsP (.slice p13 L3.length c14) L3::ps) (w75.alloc (.cells #[nI 0,nI 0,nI 0,nI 0,nI 0,nI 0,nI 0] 54)):=St.new hS77 #[nI 0,nI 0,nI 0,nI 0,nI 0,nI 0,nI 0] 54
  clear hS77
  refine ev_store (.agg #[nI i1,nI (atI L2 x72),nI (IntKind.i64.wrap (i4+(IntKind.i64.wrap (2 * x72)))),nI (-1),nI (IntKind.i64.wrap (i5+x72)),nI x72,nI (-1)]) #[nI i1,nI (atI L2 x72),nI (IntKind.i64.wrap (i4+(IntKind.i64.wrap (2 * x72)))),nI (-1),nI (IntKind.i64.wrap (i5+x72)),nI x72,nI (-1)] hF98 (by kernel_rfl) rfl rfl rfl rfl (by kernel_rfl) hS101 (by kernel_rfl) (by kernel_rfl) (by kernel_rfl) (l':=[(17,nB w75),(50,.agg #[nI i1,nI (atI L2 x72),nI (IntKind.i64.wrap (i4+(IntKind.i64.wrap (2 * x72)))),nI (-1),nI (IntKind.i64.wrap (i5+x72)),nI x72,nI (-1)]),(49,nI x72),(48,nI (IntKind.i64.wrap (i5+x72))),(47,nI x72),(46,nI i5),(45,nI (IntKind.i64.wrap (i4+(IntKind.i64.wrap (2 * x72))))),(44,nI (IntKind.i64.wrap (2 * x72))),(43,nI x72),(42,nI i4),(41,nI (atI L2 x72)),(40,nP g93 (x72.toNat)),(39,nI x72),(38,nS g93 L2 c10),(37,nI i1),(16,nI x72),(15,.slice p80 L68.length c81),(0,nP bb0 0),(1,nI i1),(2,nS g93 L2 c10),(3,.slice p13 L3.length c14),(4,nI i4),(5,nI i5)]) (by kernel_rfl) ?_
  intro w102 a103 hS104 hF105; clear hF98 hS101
  refine wpList_nil ?_
  have hF106:=hF105.keep [0,1,2,3,4,5,15,16,17]
  clear hF105
  refine thenN (wp_seq (wp_seq (wp_region_lit ?_)))
  refine ev_runs 2 hF106 (l':=[(52,nI x72),(51,.slice p13 L3.length c14),(17,nB w75),(16,nI x72),(15,.slice p80 L68.length c81),(0,nP bb0 0),(1,nI i1),(2,nS g93 L2 c10),(3,.slice p13 L3.length c14),(4,nI i4),(5,nI i5)]) (w':=w102) (by kernel_rfl) ?_
  intro a108 hF107; clear hF106
  obtain ⟨hc109,hm110⟩:=ifTE hm92; clear hm92
  obtain ⟨g111,rfl⟩:=hp15.resolve_left (by have:=inR_spec hc109; omega)
  refine ev_one (nP g111 (x72.toNat)) w102 hF107 (by kernel_rfl) rfl (by kernel_rfl) (run_idx rfl rfl rfl rfl rfl (inR_spec hc109).1 (inR_spec hc109).2 _) (l':=[(53,nP g111 (x72.toNat)),(52,nI x72),(51,.slice (some ⟨g111,0,none⟩) L3.length c14),(17,nB w75),(16,nI x72),(15,.slice p80 L68.length c81),(0,nP bb0 0),(1,nI i1),(2,nS g93 L2 c10),(3,.slice (some ⟨g111,0,none⟩) L3.length c14),(4,nI i4),(5,nI i5)]) (by kernel_rfl) ?_
  intro a113 hF112; clear hF107
  refine ev_one (.bool (atB L3 x72)) w102 hF112 (by kernel_rfl) rfl (by kernel_rfl) (run_loadB rfl rfl rfl (hS104.atB 8 rfl hc109)) (l':=[(54,.bool (atB L3 x72)),(53,nP g111 (x72.toNat)),(52,nI x72),(51,.slice (some ⟨g111,0,none⟩) L3.length c14),(17,nB w75),(16,nI x72),(15,.slice p80 L68.length c81),(0,nP bb0 0),(1,nI i1),(2,nS g93 L2 c10),(3,.slice (some ⟨g111,0,none⟩) L3.length c14),(4,nI i4),(5,nI i5)]) (by kernel_rfl) ?_
  intro a115 hF114; clear hF112
  refine wpList_nil ?_
  have hF116:=hF114.keep [0,1,2,3,4,5,15,16,17,54]
  clear hF114
  refine thenN ?_
  refine joinQ (fun aI wI=>∃ (x117:Int),Fr 123 aI [(17,nB w75),(16,nI x72),(15,.slice p80 L68.length c81),(0,nP bb0 0),(1,nI i1),(2,nS g93 L2 c10),(3,.slice (some ⟨g111,0,none⟩) L3.length c14),(4,nI i4),(5,nI i5)]∧St w0 F0 (BlkP (w75.heap.size) 54 #[nI i1,nI (atI L2 x72),nI (IntKind.i64.wrap (i4+(IntKind.i64.wrap (2 * x72)))),nI (-1),nI (IntKind.i64.wrap (i5+x72)),nI x117,nI (-1)]::RowP (.slice p80 L68.length c81) L68::RHeapP bw0 abw0 sb0 g0 cb0 s70::BlkP bb0 66 #[nP b0 0,nP bw0 0,.slice p1 Lc0.length c2,.slice p5 Lg0.length c6]::HeapP b0 ab0 s71::RowP (.slice p1 Lc0.length c2) Lc0::RowP (.slice p5 Lg0.length c6) Lg0::RowP (nS g93 L2 c10) L2::BoolsP (.slice (some ⟨g111,0,none⟩) L3.length c14) L3::ps) wI∧law14_wait.j6 Lc0 Lg0 i1 L2 L3 i4 i5 k L68 s70 s71 x72 (law14_wait.l5 Lc0 Lg0 i1 L2 L3 i4 i5 k k73) x117=some (r0,t0,t1)) ?_ ?_
  rotate_left
  · rintro a119 w120 ⟨x117,hF121,hS122,hm123⟩
    clear hF116 hS104 hm110
    unfold law14_wait.j6 at hm123
    refine thenN (wp_seq (wp_region_lit ?_))
    refine ev_runs 1 hF121 (l':=[(56,nP bb0 0),(17,nB w75),(16,nI x72),(15,.slice p80 L68.length c81),(0,nP bb0 0),(1,nI i1),(2,nS g93 L2 c10),(3,.slice (some ⟨g111,0,none⟩) L3.length c14),(4,nI i4),(5,nI i5)]) (w':=w120) (by kernel_rfl) ?_
    intro a126 hF125; clear hF121
    have hS127:=hS122.pick6.pick6.pick4.pick6.pick6
    clear hS122
    refine ev_call 40 #[nP bb0 0,nI 3,nI 7] hF125 rfl rfl (by kernel_rfl) rfl (by kernel_rfl) (fun w=>by kernel_rfl) ?_
    obtain ⟨x128,s129,s130,hx131,hm132⟩:=bind3E hm123; clear hm123
    refine (law14_alloc.ok hS127 hx131).mono ?_
    rintro _ w133 ⟨rfl,hS135⟩ a134 hF136; clear hF125 hS127
    refine ev_runK 1 hF136 [0,1,2,3,4,5,15,16,17,18] (l':=[(18,nI x128),(17,nB w75),(16,nI x72),(15,.slice p80 L68.length c81),(0,nP bb0 0),(1,nI i1),(2,nS g93 L2 c10),(3,.slice (some ⟨g111,0,none⟩) L3.length c14),(4,nI i4),(5,nI i5)]) (w':=w133) (by kernel_rfl) ?_
    intro a138 hF137; clear hF136
    refine wpList_nil (thenN (wp_seq (wp_seq ?_)))
    refine joinQ (fun aI wI=>∃ (s139:HSt) (s140:HSt) (y141:Bool),Fr 123 aI [(103,.bool (y141)),(18,nI x128),(16,nI x72),(15,.slice p80 L68.length c81),(0,nP bb0 0),(1,nI i1),(2,nS g93 L2 c10),(3,.slice (some ⟨g111,0,none⟩) L3.length c14),(4,nI i4),(5,nI i5)]∧St w0 F0 (RHeapP bw0 abw0 sb0 g0 cb0 s139::HeapP b0 ab0 s140::BlkP bb0 66 #[nP b0 0,nP bw0 0,.slice p1 Lc0.length c2,.slice p5 Lg0.length c6]::RowP (nS g93 L2 c10) L2::BoolsP (.slice (some ⟨g111,0,none⟩) L3.length c14) L3::RowP (.slice p1 Lc0.length c2) Lc0::RowP (.slice p5 Lg0.length c6) Lg0::RowP (.slice p80 L68.length c81) L68::ps) wI∧law14_wait.j7 L68 x72 (law14_wait.l5 Lc0 Lg0 i1 L2 L3 i4 i5 k k73) x128 s139 s140 y141=some (r0,t0,t1)) ?_ ?_
    rotate_left
    · rintro a143 w144 ⟨s139,s140,y141,hF145,hS146,hm147⟩
      clear hF137 hS135 hm132
      unfold law14_wait.j7 at hm147
      refine thenN ?_
      cases hc149:(y141)
      case true =>
       rw [hc149] at hF145
       have hm150:=ifYes hc149 hm147; clear hm147
       refine ev_condT hF145 rfl rfl ?_
       refine wp_seq (wp_region_lit ?_)
       refine ev_runK 1 hF145 [12] (l':=[(12,.bool false)]) (w':=w144) (by kernel_rfl) ?_
       intro a152 hF151; clear hF145
       refine wpList_nil ?_
       have hS153:=hS146.pick7.drop
       clear hS146
       refine thenN ?_
       refine wp_ret ?_
       refine thenR ?_
       refine blockR ?_
       refine thenR (thenR ?_)
       refine blockR ?_
       refine thenR ?_
       have hS154:=hS153.pick4.pick4.pick6.pick6.pick4.pick5.pick6
       clear hS153
       simp only [Option.some.injEq,Prod.mk.injEq] at hm150
       obtain ⟨rfl,rfl,rfl⟩:=hm150
       refine ev_ret hF151 [12] (.bool false) rfl rfl rfl ?_
       exact ⟨rfl,hS154⟩
      rw [hc149] at hF145
      have hm158:=ifNot hc149 hm147; clear hm147
      refine ev_condF hF145 rfl rfl ?_
      refine wp_skip ?_
      have hF159:=hF145.keep [0,1,2,3,4,5,15,16,18]
      clear hF145
      refine thenN (wp_region_lit ?_)
      refine ev_runs 3 hF159 (l':=[(106,.slice (some ⟨w144.heap.size,0,none⟩) 1 1),(105,nI x128),(104,.slice p80 L68.length c81),(18,nI x128),(16,nI x72),(15,.slice p80 L68.length c81),(0,nP bb0 0),(1,nI i1),(2,nS g93 L2 c10),(3,.slice (some ⟨g111,0,none⟩) L3.length c14),(4,nI i4),(5,nI i5)]) (w':=w144.alloc (.cells #[nI x128] 3)) (by kernel_rfl) ?_
      intro a161 hF160; clear hF159
      have hS162:=hS146.pick7
      clear hS146
      obtain ⟨L163,hx164,hm165⟩:=bind1E hm158; clear hm158
      refine ev_push 107 (.tmp 104) (.tmp 106) hF160 rfl rfl rfl rfl rfl rfl rfl rfl hS162 hx164 ?_
      intro g166 c167 w168 a169 hS170 hF171; clear hF160 hS162
      refine ev_runK 1 hF171 [0,1,2,3,4,5,15,16] (l':=[(15,nS g166 L163 c167),(16,nI x72),(0,nP bb0 0),(1,nI i1),(2,nS g93 L2 c10),(3,.slice (some ⟨g111,0,none⟩) L3.length c14),(4,nI i4),(5,nI i5)]) (w':=w168) (by kernel_rfl) ?_
      intro a173 hF172; clear hF171
      refine wpList_nil ?_
      refine blockN ?_
      refine thenN (wp_region_lit ?_)
      refine ev_runK 3 hF172 [0,1,2,3,4,5,15,16] (l':=[(16,nI (IntKind.i64.wrap (x72+1))),(15,nS g166 L163 c167),(0,nP bb0 0),(1,nI i1),(2,nS g93 L2 c10),(3,.slice (some ⟨g111,0,none⟩) L3.length c14),(4,nI i4),(5,nI i5)]) (w':=w168) (by kernel_rfl) ?_
      intro a175 hF174; clear hF172
      refine wpList_nil ?_
      have hS176:=hS170.pick5.pick5.pick7.pick7.pick6.pick7.pick7.pick7
      clear hS170
      exact thenN ⟨k73,Nat.lt_succ_self _,nS g166 L163 c167,L163,s139,s140,IntKind.i64.wrap (x72+1),hF174,hS176,hm165⟩
    · skip
      have hS177:=hS135.pick8.pick8.pick7.pick3
      clear hS135
      have hS178:=hS177.drew; clear hS177
      refine any_start (fun wS=>∃ qs,St w0 F0 (BlkP bb0 66 #[nP b0 0,nP bw0 0,.slice p1 Lc0.length c2,.slice p5 Lg0.length c6]::BlkP (w75.heap.size) 54 #[nI i1,nI (atI L2 x72),nI (IntKind.i64.wrap (i4+(IntKind.i64.wrap (2 * x72)))),nI (-1),nI (IntKind.i64.wrap (i5+x72)),nI x117,nI (-1)]::RowP (nS g93 L2 c10) L2::BoolsP (.slice (some ⟨g111,0,none⟩) L3.length c14) L3::qs) wS) 46 #[false,false,false,false,false,false,false,false,false,false,false,false,false,false,false,false,false,false,false,false,false,false,false,false,false,false,false,false,false,false,false,false,false,false,false,false,false,false,false,false,false,false,false,false,false,false] (by kernel_rfl) (by kernel_rfl) (by kernel_rfl) ?_
      refine any_many 12 [(0,some (nP bb0 0)),(1,some (nP bb0 0)),(2,some (nP bb0 0)),(3,some (nP b0 0)),(4,some (nI x128)),(5,some (.agg #[nI i1,nI (atI L2 x72),nI (IntKind.i64.wrap (i4+(IntKind.i64.wrap (2 * x72)))),nI (-1),nI (IntKind.i64.wrap (i5+x72)),nI x117,nI (-1)])),(7,some (nP bb0 0)),(8,some (nP bb0 0)),(9,some (nP bb0 1)),(10,some (nP bw0 0)),(11,some (nI x128)),(12,some (.agg #[nI i1,nI (atI L2 x72),nI (IntKind.i64.wrap (i4+(IntKind.i64.wrap (2 * x72)))),nI (-1),nI (IntKind.i64.wrap (i5+x72)),nI x117,nI (-1)]))] [0,1,2,3,4,5,15,16,18,61,62,63,64,68,69,70,71,72,73,74,75,76,77,78,79,80,81,82,83,84,85,86,87,88,89,90,91,92,93,94,95,96,97,98,99,100,101,102,103] #[true,true,true,true,true,true,false,true,true,true,true,true,true,false,false,false,false,false,false,false,false,false,false,false,false,false,false,false,false,false,false,false,false,false,false,false,false,false,false,false,false,false,false,false,false,false] (by rfl) hF137 (by kernel_rfl) (by kernel_rfl) (by exact ⟨fun wS hw=>by kernel_rfl,fun wS hw=>by kernel_rfl,fun wS hw=>by kernel_rfl,fun wS hw=>hw.elim fun qs hw=>run_loadV rfl rfl (run_loadS rfl rfl (hw.cell 0 rfl 0 rfl)),fun wS hw=>by kernel_rfl,fun wS hw=>hw.elim fun qs hw=>run_loadV rfl rfl (run_loadA (cs:=[nI i1,nI (atI L2 x72),nI (IntKind.i64.wrap (i4+(IntKind.i64.wrap (2 * x72)))),nI (-1),nI (IntKind.i64.wrap (i5+x72)),nI x117,nI (-1)]) rfl rfl (by kernel_rfl) (blk_cells hw 1 rfl rfl)),fun wS hw=>by kernel_rfl,fun wS hw=>by kernel_rfl,fun wS hw=>by kernel_rfl,fun wS hw=>hw.elim fun qs hw=>run_loadV rfl rfl (run_loadS rfl rfl (hw.cell 0 rfl 1 rfl)),fun wS hw=>by kernel_rfl,fun wS hw=>hw.elim fun qs hw=>run_loadV rfl rfl (run_loadA (cs:=[nI i1,nI (atI L2 x72),nI (IntKind.i64.wrap (i4+(IntKind.i64.wrap (2 * x72)))),nI (-1),nI (IntKind.i64.wrap (i5+x72)),nI x117,nI (-1)]) rfl rfl (by kernel_rfl) (blk_cells hw 1 rfl rfl)),trivial⟩) (fun _ _ _ _ _ h=>h) ⟨_,hS178⟩ (l':=[(70,.agg #[nI i1,nI (atI L2 x72),nI (IntKind.i64.wrap (i4+(IntKind.i64.wrap (2 * x72)))),nI (-1),nI (IntKind.i64.wrap (i5+x72)),nI x117,nI (-1)]),(69,nI x128),(68,nP bw0 0),(63,.agg #[nI i1,nI (atI L2 x72),nI (IntKind.i64.wrap (i4+(IntKind.i64.wrap (2 * x72)))),nI (-1),nI (IntKind.i64.wrap (i5+x72)),nI x117,nI (-1)]),(62,nI x128),(61,nP b0 0),(18,nI x128),(16,nI x72),(15,.slice p80 L68.length c81),(0,nP bb0 0),(1,nI i1),(2,nS g93 L2 c10),(3,.slice (some ⟨g111,0,none⟩) L3.length c14),(4,nI i4),(5,nI i5)]) (by kernel_rfl) ?_
      intro a180 hF179; clear hF137
      have hS181:=hS178.pick4
      clear hS178
      refine any_call 6 #[true,true,true,true,true,true,true,true,true,true,true,true,true,false,false,false,false,false,false,false,false,false,false,false,false,false,false,false,false,false,false,false,false,false,false,false,false,false,false,false,false,false,false,false,false,false] 41 #[nP b0 0,nI x128,.agg #[nI i1,nI (atI L2 x72),nI (IntKind.i64.wrap (i4+(IntKind.i64.wrap (2 * x72)))),nI (-1),nI (IntKind.i64.wrap (i5+x72)),nI x117,nI (-1)]] hF179 rfl (by kernel_rfl) rfl rfl (by kernel_rfl) rfl (by kernel_rfl) (fun w=>by kernel_rfl) (by kernel_rfl) ?_
      obtain ⟨x182,s183,hx184,hm185⟩:=bind2E hm132; clear hm132
      refine (p_PutSudog hS181 hx184).mono ?_
      rintro _ w186 ⟨rfl,hS188⟩; clear hS181
      refine ⟨⟨_,hS188.pick4.pick4.pick4.pick4⟩,?_⟩
      intro a187 hF189; clear hF179
      have hS190:=hS188.pick5
      clear hS188
      refine any_call 13 #[true,true,true,true,true,true,true,true,true,true,true,true,true,true,false,false,false,false,false,false,false,false,false,false,false,false,false,false,false,false,false,false,false,false,false,false,false,false,false,false,false,false,false,false,false,false] 77 #[nP bw0 0,nI x128,.agg #[nI i1,nI (atI L2 x72),nI (IntKind.i64.wrap (i4+(IntKind.i64.wrap (2 * x72)))),nI (-1),nI (IntKind.i64.wrap (i5+x72)),nI x117,nI (-1)]] hF189 rfl (by kernel_rfl) rfl rfl (by kernel_rfl) rfl (by kernel_rfl) (fun w=>by kernel_rfl) (by kernel_rfl) ?_
      obtain ⟨x191,s192,hx193,hm194⟩:=bind2E hm185; clear hm185
      refine (ref11_PutSudog.ok hS190 hx193).mono ?_
      rintro _ w195 ⟨rfl,hS197⟩; clear hS190
      refine ⟨⟨_,hS197.pick5.pick5.pick5.pick5⟩,?_⟩
      intro a196 hF198; clear hF189
      refine any_many 2 [(14,some (.bool (x182 != x191))),(15,some (.bool (x182 != x191)))] [0,1,2,3,4,5,15,16,18,73,74,75,76,77,78,79,80,81,82,83,84,85,86,87,88,89,90,91,92,93,94,95,96,97,98,99,100,101,102,103] #[true,true,true,true,true,true,true,true,true,true,true,true,true,true,true,true,false,false,false,false,false,false,false,false,false,false,false,false,false,false,false,false,false,false,false,false,false,false,false,false,false,false,false,false,false,false] (by rfl) hF198 (by kernel_rfl) (by kernel_rfl) (by exact ⟨fun wS hw=>by kernel_rfl,fun wS hw=>by kernel_rfl,trivial⟩) (fun _ _ _ _ _ h=>h) ⟨_,hS197.pick5.pick5.pick5.pick5⟩ (l':=[(73,.bool (x182 != x191)),(18,nI x128),(16,nI x72),(15,.slice p80 L68.length c81),(0,nP bb0 0),(1,nI i1),(2,nS g93 L2 c10),(3,.slice (some ⟨g111,0,none⟩) L3.length c14),(4,nI i4),(5,nI i5)]) (by kernel_rfl) ?_
      intro a200 hF199; clear hF198
      cases hc201:(x182 != x191)
      case true =>
       rw [hc201] at hF199
       have hm202:=ifYes hc201 hm194; clear hm194
       refine any_many 30 [(16,none),(17,none),(18,none),(19,none),(20,none),(21,none),(22,none),(23,none),(24,none),(25,none),(26,none),(27,none),(28,none),(29,none),(30,none),(31,none),(32,none),(33,none),(34,none),(35,none),(36,none),(37,none),(38,none),(39,none),(40,none),(41,none),(42,none),(43,none),(44,none),(45,some (.bool true))] [0,1,2,3,4,5,15,16,18,103] #[true,true,true,true,true,true,true,true,true,true,true,true,true,true,true,true,true,true,true,true,true,true,true,true,true,true,true,true,true,true,true,true,true,true,true,true,true,true,true,true,true,true,true,true,true,true] (by rfl) hF199 (by kernel_rfl) (by kernel_rfl) (by exact (And.intro trivial (And.intro trivial (And.intro trivial (And.intro trivial (And.intro trivial (And.intro trivial (And.intro trivial (And.intro trivial (And.intro trivial (And.intro trivial (And.intro trivial (And.intro trivial (And.intro trivial (And.intro trivial (And.intro trivial (And.intro trivial (And.intro trivial (And.intro trivial (And.intro trivial (And.intro trivial (And.intro trivial (And.intro trivial (And.intro trivial (And.intro trivial (And.intro trivial (And.intro trivial (And.intro trivial (And.intro trivial (And.intro trivial (And.intro (fun wS hw=>by kernel_rfl) trivial))))))))))))))))))))))))))))))) (fun _ _ _ _ _ h=>h) ⟨_,hS197.pick5.pick5.pick5.pick5⟩ (l':=[(103,.bool true),(18,nI x128),(16,nI x72),(15,.slice p80 L68.length c81),(0,nP bb0 0),(1,nI i1),(2,nS g93 L2 c10),(3,.slice (some ⟨g111,0,none⟩) L3.length c14),(4,nI i4),(5,nI i5)]) (by kernel_rfl) ?_
       intro a204 hF203; clear hF199
       refine any_done (by kernel_rfl) ?_
       have hS205:=hS197.pick3.drop
       clear hS197
       exact thenN ⟨s192,s183,true,hF203,hS205,hm202⟩
      rw [hc201] at hF199
      have hm206:=ifNot hc201 hm194; clear hm194
      refine any_many 26 [(16,some (nP bb0 0)),(17,some (nP bb0 0)),(18,some (nP bb0 0)),(19,some (nP b0 0)),(20,some (nS g93 L2 c10)),(21,some (nI x72)),(22,some (nP g93 (x72.toNat))),(23,some (nI (atI L2 x72))),(24,some (.slice (some ⟨g111,0,none⟩) L3.length c14)),(25,some (nI x72)),(26,some (nP g111 (x72.toNat))),(27,some (.bool (atB L3 x72))),(28,some (nI x128)),(30,some (nP bb0 0)),(31,some (nP bb0 0)),(32,some (nP bb0 1)),(33,some (nP bw0 0)),(34,some (nS g93 L2 c10)),(35,some (nI x72)),(36,some (nP g93 (x72.toNat))),(37,some (nI (atI L2 x72))),(38,some (.slice (some ⟨g111,0,none⟩) L3.length c14)),(39,some (nI x72)),(40,some (nP g111 (x72.toNat))),(41,some (.bool (atB L3 x72))),(42,some (nI x128))] [0,1,2,3,4,5,15,16,18,73,77,81,85,86,87,91,95,99,100,101,102,103] #[true,true,true,true,true,true,true,true,true,true,true,true,true,true,true,true,true,true,true,true,true,true,true,true,true,true,true,true,true,false,true,true,true,true,true,true,true,true,true,true,true,true,true,false,false,false] (by rfl) hF199 (by kernel_rfl) (by kernel_rfl) (by exact ⟨fun wS hw=>by kernel_rfl,fun wS hw=>by kernel_rfl,fun wS hw=>by kernel_rfl,fun wS hw=>hw.elim fun qs hw=>run_loadV rfl rfl (run_loadS rfl rfl (hw.cell 0 rfl 0 rfl)),fun wS hw=>by kernel_rfl,fun wS hw=>by kernel_rfl,fun wS hw=>run_idx rfl rfl rfl rfl rfl (inR_spec hc91).1 (inR_spec hc91).2 _,fun wS hw=>run_load1 rfl rfl rfl (hw.elim fun qs hw=>hw.atI 2 rfl hc91),fun wS hw=>by kernel_rfl,fun wS hw=>by kernel_rfl,fun wS hw=>run_idx rfl rfl rfl rfl rfl (inR_spec hc109).1 (inR_spec hc109).2 _,fun wS hw=>run_loadB rfl rfl rfl (hw.elim fun qs hw=>hw.atB 3 rfl hc109),fun wS hw=>by kernel_rfl,fun wS hw=>by kernel_rfl,fun wS hw=>by kernel_rfl,fun wS hw=>by kernel_rfl,fun wS hw=>hw.elim fun qs hw=>run_loadV rfl rfl (run_loadS rfl rfl (hw.cell 0 rfl 1 rfl)),fun wS hw=>by kernel_rfl,fun wS hw=>by kernel_rfl,fun wS hw=>run_idx rfl rfl rfl rfl rfl (inR_spec hc91).1 (inR_spec hc91).2 _,fun wS hw=>run_load1 rfl rfl rfl (hw.elim fun qs hw=>hw.atI 2 rfl hc91),fun wS hw=>by kernel_rfl,fun wS hw=>by kernel_rfl,fun wS hw=>run_idx rfl rfl rfl rfl rfl (inR_spec hc109).1 (inR_spec hc109).2 _,fun wS hw=>run_loadB rfl rfl rfl (hw.elim fun qs hw=>hw.atB 3 rfl hc109),fun wS hw=>by kernel_rfl,trivial⟩) (fun _ _ _ _ _ h=>h) ⟨_,hS197.pick5.pick5.pick5.pick5⟩ (l':=[(100,nI x128),(99,.bool (atB L3 x72)),(95,nI (atI L2 x72)),(91,nP bw0 0),(86,nI x128),(85,.bool (atB L3 x72)),(81,nI (atI L2 x72)),(77,nP b0 0),(73,.bool false),(18,nI x128),(16,nI x72),(15,.slice p80 L68.length c81),(0,nP bb0 0),(1,nI i1),(2,nS g93 L2 c10),(3,.slice (some ⟨g111,0,none⟩) L3.length c14),(4,nI i4),(5,nI i5)]) (by kernel_rfl) ?_
      intro a208 hF207; clear hF199
      have hS209:=hS197.pick1
      clear hS197
      refine any_call 29 #[true,true,true,true,true,true,true,true,true,true,true,true,true,true,true,true,true,true,true,true,true,true,true,true,true,true,true,true,true,true,true,true,true,true,true,true,true,true,true,true,true,true,true,false,false,false] 29 #[nP b0 0,nI (atI L2 x72),.bool (atB L3 x72),nI x128] hF207 rfl (by kernel_rfl) rfl rfl (by kernel_rfl) rfl (by kernel_rfl) (fun w=>by kernel_rfl) (by kernel_rfl) ?_
      obtain ⟨x210,s211,hx212,hm213⟩:=bind2E hm206; clear hm206
      refine (list_Push.ok hS209 hx212).mono ?_
      rintro _ w214 ⟨rfl,hS216⟩; clear hS209
      refine ⟨⟨_,hS216.pick5.pick5.pick5.pick5⟩,?_⟩
      intro a215 hF217; clear hF207
      have hS218:=hS216.pick1
      clear hS216
      refine any_call 43 #[true,true,true,true,true,true,true,true,true,true,true,true,true,true,true,true,true,true,true,true,true,true,true,true,true,true,true,true,true,true,true,true,true,true,true,true,true,true,true,true,true,true,true,true,false,false] 85 #[nP bw0 0,nI (atI L2 x72),.bool (atB L3 x72),nI x128] hF217 rfl (by kernel_rfl) rfl rfl (by kernel_rfl) rfl (by kernel_rfl) (fun w=>by kernel_rfl) (by kernel_rfl) ?_
      obtain ⟨x219,s220,hx221,hm222⟩:=bind2E hm213; clear hm213
      refine (ref11_Push.ok hS218 hx221).mono ?_
      rintro _ w223 ⟨rfl,hS225⟩; clear hS218
      refine ⟨⟨_,hS225.pick5.pick5.pick5.pick5⟩,?_⟩
      intro a224 hF226; clear hF217
      refine any_many 2 [(44,some (.bool (x210 != x219))),(45,some (.bool (x210 != x219)))] [0,1,2,3,4,5,15,16,18,103] #[true,true,true,true,true,true,true,true,true,true,true,true,true,true,true,true,true,true,true,true,true,true,true,true,true,true,true,true,true,true,true,true,true,true,true,true,true,true,true,true,true,true,true,true,true,true] (by rfl) hF226 (by kernel_rfl) (by kernel_rfl) (by exact ⟨fun wS hw=>by kernel_rfl,fun wS hw=>by kernel_rfl,trivial⟩) (fun _ _ _ _ _ h=>h) ⟨_,hS225.pick5.pick5.pick5.pick5⟩ (l':=[(103,.bool (x210 != x219)),(18,nI x128),(16,nI x72),(15,.slice p80 L68.length c81),(0,nP bb0 0),(1,nI i1),(2,nS g93 L2 c10),(3,.slice (some ⟨g111,0,none⟩) L3.length c14),(4,nI i4),(5,nI i5)]) (by kernel_rfl) ?_
      intro a228 hF227; clear hF226
      refine any_done (by kernel_rfl) ?_
      have hS229:=hS225.pick3.drop
      clear hS225
      exact thenN ⟨s220,s211,x210 != x219,hF227,hS229,hm222⟩
  · skip
    cases hc230:(atB L3 x72)
    case true =>
     rw [hc230] at hF116
     have hm231:=ifYes hc230 hm110; clear hm110
     refine ev_condT hF116 rfl rfl ?_
     refine wp_region_lit ?_
     refine ev_runs 1 hF116 (l':=[(55,nP (w75.heap.size) 5),(54,.bool true),(17,nB w75),(16,nI x72),(15,.slice p80 L68.length c81),(0,nP bb0 0),(1,nI i1),(2,nS g93 L2 c10),(3,.slice (some ⟨g111,0,none⟩) L3.length c14),(4,nI i4),(5,nI i5)]) (w':=w102) (by kernel_rfl) ?_
     intro a233 hF232; clear hF116
     refine ev_store (nI (-1)) #[nI i1,nI (atI L2 x72),nI (IntKind.i64.wrap (i4+(IntKind.i64.wrap (2 * x72)))),nI (-1),nI (IntKind.i64.wrap (i5+x72)),nI (-1),nI (-1)] hF232 (by kernel_rfl) rfl rfl rfl rfl (by kernel_rfl) hS104 (by kernel_rfl) (by kernel_rfl) (by kernel_rfl) (l':=[(55,nP (w75.heap.size) 5),(54,.bool true),(17,nB w75),(16,nI x72),(15,.slice p80 L68.length c81),(0,nP bb0 0),(1,nI i1),(2,nS g93 L2 c10),(3,.slice (some ⟨g111,0,none⟩) L3.length c14),(4,nI i4),(5,nI i5)]) (by kernel_rfl) ?_
     intro w234 a235 hS236 hF237; clear hF232 hS104
     refine wpList_nil ?_
     have hF238:=hF237.keep [0,1,2,3,4,5,15,16,17]
     clear hF237
     exact thenN ⟨-1,hF238,hS236,hm231⟩
    rw [hc230] at hF116
    have hm239:=ifNot hc230 hm110; clear hm110
    refine ev_condF hF116 rfl rfl ?_
    refine wp_skip ?_
    have hF240:=hF116.keep [0,1,2,3,4,5,15,16,17]
    clear hF116
    exact thenN ⟨x72,hF240,hS104,hm239⟩
 rw [hc86] at hF84
 have hm241:=ifNot hc86 hm79; clear hm79
 refine ev_condF hF84 rfl rfl ?_
 refine wp_exit ?_
 refine thenE ?_
 refine thenE ?_
 refine blockE ?_
 refine thenN (wp_seq ?_)
 have hS242:=hS77.pick2
 clear hS77
 have hS243:=hS242.drew; clear hS242
 refine any_start (fun wS=>∃ qs,St w0 F0 (BlkP bb0 66 #[nP b0 0,nP bw0 0,.slice p1 Lc0.length c2,.slice p5 Lg0.length c6]::qs) wS) 16 #[false,false,false,false,false,false,false,false,false,false,false,false,false,false,false,false] (by kernel_rfl) (by kernel_rfl) (by kernel_rfl) ?_
 refine any_many 12 [(0,some (nP bb0 0)),(1,some (nP bb0 0)),(2,some (nP bb0 0)),(3,some (nP b0 0)),(4,some (nI i1)),(5,some (.slice p80 L68.length c81)),(7,some (nP bb0 0)),(8,some (nP bb0 0)),(9,some (nP bb0 1)),(10,some (nP bw0 0)),(11,some (nI i1)),(12,some (.slice p80 L68.length c81))] [12,111,112,113,114,118,119,120,121,122] #[true,true,true,true,true,true,false,true,true,true,true,true,true,false,false,false] (by rfl) hF84 (by kernel_rfl) (by kernel_rfl) (by exact ⟨fun wS hw=>by kernel_rfl,fun wS hw=>by kernel_rfl,fun wS hw=>by kernel_rfl,fun wS hw=>hw.elim fun qs hw=>run_loadV rfl rfl (run_loadS rfl rfl (hw.cell 0 rfl 0 rfl)),fun wS hw=>by kernel_rfl,fun wS hw=>by kernel_rfl,fun wS hw=>by kernel_rfl,fun wS hw=>by kernel_rfl,fun wS hw=>by kernel_rfl,fun wS hw=>hw.elim fun qs hw=>run_loadV rfl rfl (run_loadS rfl rfl (hw.cell 0 rfl 1 rfl)),fun wS hw=>by kernel_rfl,fun wS hw=>by kernel_rfl,trivial⟩) (fun _ _ _ _ _ h=>h) ⟨_,hS243⟩ (l':=[(120,.slice p80 L68.length c81),(119,nI i1),(118,nP bw0 0),(113,.slice p80 L68.length c81),(112,nI i1),(111,nP b0 0)]) (by kernel_rfl) ?_
 intro a245 hF244; clear hF84
 have hS246:=hS243.pick1.pick3
 clear hS243
 refine any_call 6 #[true,true,true,true,true,true,true,true,true,true,true,true,true,false,false,false] 43 #[nP b0 0,nI i1,.slice p80 L68.length c81] hF244 rfl (by kernel_rfl) rfl rfl (by kernel_rfl) rfl (by kernel_rfl) (fun w=>by kernel_rfl) (by kernel_rfl) ?_
 obtain ⟨x247,s248,hx249,hm250⟩:=bind2E hm241; clear hm241
 refine (wake_Park.ok hS246 hx249).mono ?_
 rintro _ w251 ⟨rfl,hS253⟩; clear hS246
 refine ⟨⟨_,hS253.pick2⟩,?_⟩
 intro a252 hF254; clear hF244
 have hS255:=hS253.pick1.pick3
 clear hS253
 refine any_call 13 #[true,true,true,true,true,true,true,true,true,true,true,true,true,true,false,false] 86 #[nP bw0 0,nI i1,.slice p80 L68.length c81] hF254 rfl (by kernel_rfl) rfl rfl (by kernel_rfl) rfl (by kernel_rfl) (fun w=>by kernel_rfl) (by kernel_rfl) ?_
 obtain ⟨x256,s257,hx258,hm259⟩:=bind2E hm250; clear hm250
 refine (ref11_Park.ok hS255 hx258).mono ?_
 rintro _ w260 ⟨rfl,hS262⟩; clear hS255
 refine ⟨⟨_,hS262.pick3⟩,?_⟩
 intro a261 hF263; clear hF254
 refine any_many 2 [(14,some (.bool (x247 == x256))),(15,some (.bool (x247 == x256)))] [12] #[true,true,true,true,true,true,true,true,true,true,true,true,true,true,true,true] (by rfl) hF263 (by kernel_rfl) (by kernel_rfl) (by exact ⟨fun wS hw=>by kernel_rfl,fun wS hw=>by kernel_rfl,trivial⟩) (fun _ _ _ _ _ h=>h) ⟨_,hS262.pick3⟩ (l':=[(12,.bool (x247 == x256))]) (by kernel_rfl) ?_
 intro a265 hF264; clear hF263
 refine any_done (by kernel_rfl) ?_
 have hS266:=hS262.pick1.drop
 clear hS262
 refine thenN ?_
 refine wp_ret ?_
 have hS267:=hS266.pick6.pick6.pick6.pick6.pick4.pick5.pick6
 clear hS266
 simp only [Option.some.injEq,Prod.mk.injEq] at hm259
 obtain ⟨rfl,rfl,rfl⟩:=hm259
 refine ev_ret hF264 [12] (.bool (x247 == x256)) rfl rfl rfl ?_
 exact ⟨rfl,hS267⟩
end Go.Proofs.YtaojmbkmicjecaaGreat
namespace Go.Proofs.YtaojmbkmicjecaaGreat
open Go.RowKit
set_option linter.unusedVariables false
def law14_awake.j1 (y161:Bool):Option (Bool):=some (y161)
def law14_awake.m (k:Nat):Option (Bool):=bind4 (law14_made.m k [0] 1) fun s7 s8 L9 L10=>bind3 (law14_gor.m k s7 s8 L9 L10 0) fun x46 s47 s48=>bind3 (law14_ch.m k s47 s48 L9 L10 0) fun x57 s58 s59=>bind3 (law14_wait.m k s58 s59 L9 L10 x46 [x57] [false] 0 5) fun y75 s76 s77=>(if (!(y75)) then some (false) else bind3 (law14_ch.m k s76 s77 L9 L10 0) fun x98 s99 s100=>bind3 (list_Pop.m k s99 x98 (false)) fun x108 y109 s110=>bind3 (wake_Wake.m k s110 x108 8) fun x125 x126 s127=>bind3 (view_Gor.m k s127 x125) fun q142 x143 s144=>(if (y109) then (if (x126 == 0) then (if (x143 == 0) then bind3 (law14_gor.m k s144 s100 L9 L10 0) fun x185 s186 s187=>(if (x125 == x185) then (if (q142.pc == 5) then (if (q142.a == 8) then (if (q142.status == 0) then law14_awake.j1 (q142.sudogs == (-1)) else law14_awake.j1 false) else law14_awake.j1 false) else law14_awake.j1 false) else law14_awake.j1 false) else law14_awake.j1 false) else law14_awake.j1 false) else law14_awake.j1 false))
set_option maxRecDepth 100000 in
set_option maxHeartbeats 1500000 in
theorem law14_awake.ok {w0 w:World} {F0:List Nat} {ps:List Piece} {k:Nat}  {r0:Bool} (hS:St w0 F0 (ps) w) (hm:law14_awake.m k=some r0) :
    Calls Tryz.prog 36 #[] w fun e w'=>e=.returned (.bool r0)∧St w0 F0 (ps) w':=by
 refine ev_enterL 87 [] Tryz.func36 rfl rfl (by simp) ?_
 intro a hF
 have hF0:Fr 87 a []:=hF; clear hF
 unfold law14_awake.m at hm
 refine wp_seq (wp_region_lit ?_)
 refine ev_runK 1 hF0 [] (l':=[]) (w':=w) (by kernel_rfl) ?_
 intro a2 hF1; clear hF0
 refine wpList_nil (thenN (wp_seq (wp_region_lit ?_)))
 refine ev_runs 1 hF1 (l':=[(8,.slice (some ⟨w.heap.size,0,none⟩) 1 1)]) (w':=w.alloc (.cells #[nI 0] 3)) (by kernel_rfl) ?_
 intro a4 hF3; clear hF1
 have hS6:St w0 F0 (RowP (.slice (some ⟨w.heap.size,0,none⟩) 1 1) [0]::ps) (w.alloc (.cells #[nI 0] 3)):=St.lit hS [0] (by unfold maxLen; simp)
 refine ev_call 35 #[.slice (some ⟨w.heap.size,0,none⟩) 1 1,nI 1] hF3 rfl rfl (by kernel_rfl) rfl (by kernel_rfl) (fun w=>by kernel_rfl) ?_
 obtain ⟨s7,s8,L9,L10,hx11,hm12⟩:=bind4E hm; clear hm
 refine (law14_made.ok hS6 hx11).mono ?_
 rintro _ w13 ⟨z17,z18,z19,z20,z21,z22,z23,z24,z25,z26,rfl,hS15⟩ a14 hF16; clear hF3 hS6
 have hS32:St w0 F0 (RowP (.slice (some ⟨w.heap.size,0,none⟩) 1 1) [0]::BlkP z17 66 #[nP z18 0,nP z20 0,z25,z26]::HeapP z18 z19 s7::RHeapP z20 z21 z22 z23 z24 s8::RowP (z25) L9::RowP (z26) L10::ps) w13:=hS15
 clear hS15
 obtain ⟨hl36,p33,c34,rfl,hp35⟩:=St.shape hS32 4 rfl
 obtain ⟨hl40,p37,c38,rfl,hp39⟩:=St.shape hS32 5 rfl
 refine ev_runK 1 hF16 [1] (l':=[(1,nP z17 0)]) (w':=w13) (by kernel_rfl) ?_
 intro a42 hF41; clear hF16
 refine wpList_nil ?_
 have hS43:=hS32.drop
 clear hS32
 refine thenN (wp_seq (wp_seq (wp_region_lit ?_)))
 refine ev_runs 5 hF41 (l':=[(14,nP z17 0),(13,nP z17 0),(12,.bool false),(11,.bool false),(10,nP z17 0),(1,nP z17 0)]) (w':=w13) (by kernel_rfl) ?_
 intro a45 hF44; clear hF41
 refine ev_call 42 #[nP z17 0,nI 0] hF44 rfl rfl (by kernel_rfl) rfl (by kernel_rfl) (fun w=>by kernel_rfl) ?_
 obtain ⟨x46,s47,s48,hx49,hm50⟩:=bind3E hm12; clear hm12
 refine (law14_gor.ok hS43 hx49).mono ?_
 rintro _ w51 ⟨rfl,hS53⟩ a52 hF54; clear hF44 hS43
 refine ev_runs 1 hF54 (l':=[(16,nP z17 0),(15,nI x46),(14,nP z17 0),(13,nP z17 0),(12,.bool false),(11,.bool false),(10,nP z17 0),(1,nP z17 0)]) (w':=w51) (by kernel_rfl) ?_
 intro a56 hF55; clear hF54
 refine ev_call 44 #[nP z17 0,nI 0] hF55 rfl rfl (by kernel_rfl) rfl (by kernel_rfl) (fun w=>by kernel_rfl) ?_
 obtain ⟨x57,s58,s59,hx60,hm61⟩:=bind3E hm50; clear hm50
 refine (law14_ch.ok hS53 hx60).mono ?_
 rintro _ w62 ⟨rfl,hS64⟩ a63 hF65; clear hF55 hS53
 refine ev_runs 1 hF65 (l':=[(18,.slice (some ⟨w62.heap.size,0,none⟩) 1 1),(17,nI x57),(16,nP z17 0),(15,nI x46),(14,nP z17 0),(13,nP z17 0),(12,.bool false),(11,.bool false),(10,nP z17 0),(1,nP z17 0)]) (w':=w62.alloc (.cells #[nI x57] 3)) (by kernel_rfl) ?_
 intro a67 hF66; clear hF65
 have hS69:St w0 F0 (RowP (.slice (some ⟨w62.heap.size,0,none⟩) 1 1) [x57]::BlkP z17 66 #[nP z18 0,nP z20 0,.slice p33 L9.length c34,.slice p37 L10.length c38]::HeapP z18 z19 s58::RHeapP z20 z21 z22 z23 z24 s59::RowP (.slice p33 L9.length c34) L9::RowP (.slice p37 L10.length c38) L10::ps) (w62.alloc (.cells #[nI x57] 3)):=St.lit hS64 [x57] (by unfold maxLen; simp)
 clear hS64
 refine ev_runs 1 hF66 (l':=[(19,.slice (some ⟨(w62.alloc (.cells #[nI x57] 3)).heap.size,0,none⟩) 1 1),(18,.slice (some ⟨w62.heap.size,0,none⟩) 1 1),(17,nI x57),(16,nP z17 0),(15,nI x46),(14,nP z17 0),(13,nP z17 0),(12,.bool false),(11,.bool false),(10,nP z17 0),(1,nP z17 0)]) (w':=(w62.alloc (.cells #[nI x57] 3)).alloc (.cells #[.bool false] 4)) (by kernel_rfl) ?_
 intro a71 hF70; clear hF66
 have hS73:St w0 F0 (BoolsP (.slice (some ⟨(w62.alloc (.cells #[nI x57] 3)).heap.size,0,none⟩) 1 1) [false]::RowP (.slice (some ⟨w62.heap.size,0,none⟩) 1 1) [x57]::BlkP z17 66 #[nP z18 0,nP z20 0,.slice p33 L9.length c34,.slice p37 L10.length c38]::HeapP z18 z19 s58::RHeapP z20 z21 z22 z23 z24 s59::RowP (.slice p33 L9.length c34) L9::RowP (.slice p37 L10.length c38) L10::ps) ((w62.alloc (.cells #[nI x57] 3)).alloc (.cells #[.bool false] 4)):=St.litB hS69 [false] (by unfold maxLen; simp)
 clear hS69
 have hS74:=hS73.pick1.pick6.pick6.pick6.pick6.pick6
 clear hS73
 refine ev_call 37 #[nP z17 0,nI x46,.slice (some ⟨w62.heap.size,0,none⟩) 1 1,.slice (some ⟨(w62.alloc (.cells #[nI x57] 3)).heap.size,0,none⟩) 1 1,nI 0,nI 5] hF70 rfl rfl (by kernel_rfl) rfl (by kernel_rfl) (fun w=>by kernel_rfl) ?_
 obtain ⟨y75,s76,s77,hx78,hm79⟩:=bind3E hm61; clear hm61
 refine (law14_wait.ok hS74 hx78).mono ?_
 rintro _ w80 ⟨rfl,hS82⟩ a81 hF83; clear hF70 hS74
 refine ev_runK 2 hF83 [1,22] (l':=[(22,.bool (!(y75))),(1,nP z17 0)]) (w':=w80) (by kernel_rfl) ?_
 intro a85 hF84; clear hF83
 refine wpList_nil ?_
 have hS86:=hS82.pick5.drop.pick5.drop
 clear hS82
 refine thenN ?_
 cases hc87:(!(y75))
 case true =>
  rw [hc87] at hF84
  have hm88:=ifYes hc87 hm79; clear hm79
  refine ev_condT hF84 rfl rfl ?_
  refine wp_seq (wp_region_lit ?_)
  refine ev_runK 1 hF84 [0] (l':=[(0,.bool false)]) (w':=w80) (by kernel_rfl) ?_
  intro a90 hF89; clear hF84
  refine wpList_nil ?_
  have hS91:=hS86.drop.drop.drop.drop.drop
  clear hS86
  refine thenN ?_
  refine wp_ret ?_
  refine thenR ?_
  obtain rfl:=Option.some.inj hm88
  refine ev_ret hF89 [0] (.bool false) rfl rfl rfl ?_
  exact ⟨rfl,hS91⟩
 rw [hc87] at hF84
 have hm93:=ifNot hc87 hm79; clear hm79
 refine ev_condF hF84 rfl rfl ?_
 refine wp_skip ?_
 have hF94:=hF84.keep [1]
 clear hF84
 refine thenN (wp_seq ?_)
 have hS95:=hS86.drew; clear hS86
 refine any_start (fun wS=>∃ qs,St w0 F0 (BlkP z17 66 #[nP z18 0,nP z20 0,.slice p33 L9.length c34,.slice p37 L10.length c38]::qs) wS) 12 #[false,false,false,false,false,false,false,false,false,false,false,false] (by kernel_rfl) (by kernel_rfl) (by kernel_rfl) ?_
 refine any_many 5 [(0,some (nP z17 0)),(1,some (nP z17 0)),(2,some (nP z17 0)),(3,some (nP z18 0)),(4,some (nP z17 0))] [1,2,3,23,27,28,29,30,31,32] #[true,true,true,true,true,false,false,false,false,false,false,false] (by rfl) hF94 (by kernel_rfl) (by kernel_rfl) (by exact ⟨fun wS hw=>by kernel_rfl,fun wS hw=>by kernel_rfl,fun wS hw=>by kernel_rfl,fun wS hw=>hw.elim fun qs hw=>run_loadV rfl rfl (run_loadS rfl rfl (hw.cell 0 rfl 0 rfl)),fun wS hw=>by kernel_rfl,trivial⟩) (fun _ _ _ _ _ h=>h) ⟨_,hS95⟩ (l':=[(28,nP z17 0),(27,nP z18 0),(1,nP z17 0)]) (by kernel_rfl) ?_
 intro a97 hF96; clear hF94
 refine any_call 5 #[true,true,true,true,true,true,false,false,false,false,false,false] 44 #[nP z17 0,nI 0] hF96 rfl (by kernel_rfl) rfl rfl (by kernel_rfl) rfl (by kernel_rfl) (fun w=>by kernel_rfl) (by kernel_rfl) ?_
 obtain ⟨x98,s99,s100,hx101,hm102⟩:=bind3E hm93; clear hm93
 refine (law14_ch.ok hS95 hx101).mono ?_
 rintro _ w103 ⟨rfl,hS105⟩; clear hS95
 refine ⟨⟨_,hS105⟩,?_⟩
 intro a104 hF106; clear hF96
 have hS107:=hS105.pick1
 clear hS105
 refine any_call 6 #[true,true,true,true,true,true,true,false,false,false,false,false] 32 #[nP z18 0,nI x98,.bool false] hF106 rfl (by kernel_rfl) rfl rfl (by kernel_rfl) rfl (by kernel_rfl) (fun w=>by kernel_rfl) (by kernel_rfl) ?_
 obtain ⟨x108,y109,s110,hx111,hm112⟩:=bind3E hm102; clear hm102
 refine (list_Pop.ok hS107 hx111).mono ?_
 rintro _ w113 ⟨rfl,hS115⟩; clear hS107
 refine ⟨⟨_,hS115.pick1⟩,?_⟩
 intro a114 hF116; clear hF106
 refine any_many 5 [(7,some (.tuple #[nI x108,.bool (y109)])),(8,some (nI x108)),(9,some (.bool (y109))),(10,some (nI x108)),(11,some (.bool (y109)))] [1,2,3] #[true,true,true,true,true,true,true,true,true,true,true,true] (by rfl) hF116 (by kernel_rfl) (by kernel_rfl) (by exact ⟨fun wS hw=>by kernel_rfl,fun wS hw=>by kernel_rfl,fun wS hw=>by kernel_rfl,fun wS hw=>by kernel_rfl,fun wS hw=>by kernel_rfl,trivial⟩) (fun _ _ _ _ _ h=>h) ⟨_,hS115.pick1⟩ (l':=[(3,.bool (y109)),(2,nI x108),(1,nP z17 0)]) (by kernel_rfl) ?_
 intro a118 hF117; clear hF116
 refine any_done (by kernel_rfl) ?_
 refine thenN (wp_seq (wp_region_lit ?_))
 refine ev_runs 3 hF117 (l':=[(36,nP z17 0),(35,nP z17 0),(34,nP z17 0),(3,.bool (y109)),(2,nI x108),(1,nP z17 0)]) (w':=w113) (by kernel_rfl) ?_
 intro a120 hF119; clear hF117
 refine ev_one (nP z18 0) w113 hF119 (by kernel_rfl) rfl (by kernel_rfl) (run_loadV rfl rfl (run_loadS rfl rfl (hS115.cell 1 rfl 0 rfl))) (l':=[(37,nP z18 0),(36,nP z17 0),(35,nP z17 0),(34,nP z17 0),(3,.bool (y109)),(2,nI x108),(1,nP z17 0)]) (by kernel_rfl) ?_
 intro a122 hF121; clear hF119
 refine ev_runs 1 hF121 (l':=[(38,nI x108),(37,nP z18 0),(36,nP z17 0),(35,nP z17 0),(34,nP z17 0),(3,.bool (y109)),(2,nI x108),(1,nP z17 0)]) (w':=w113) (by kernel_rfl) ?_
 intro a124 hF123; clear hF121
 refine ev_call 39 #[nP z18 0,nI x108,nI 8] hF123 rfl rfl (by kernel_rfl) rfl (by kernel_rfl) (fun w=>by kernel_rfl) ?_
 obtain ⟨x125,x126,s127,hx128,hm129⟩:=bind3E hm112; clear hm112
 refine (wake_Wake.ok hS115 hx128).mono ?_
 rintro _ w130 ⟨rfl,hS132⟩ a131 hF133; clear hF123 hS115
 refine ev_runK 5 hF133 [1,3,4,5] (l':=[(5,nI x126),(4,nI x125),(3,.bool (y109)),(1,nP z17 0)]) (w':=w130) (by kernel_rfl) ?_
 intro a135 hF134; clear hF133
 refine wpList_nil (thenN (wp_seq (wp_region_lit ?_)))
 refine ev_runs 3 hF134 (l':=[(45,nP z17 0),(44,nP z17 0),(43,nP z17 0),(5,nI x126),(4,nI x125),(3,.bool (y109)),(1,nP z17 0)]) (w':=w130) (by kernel_rfl) ?_
 intro a137 hF136; clear hF134
 refine ev_one (nP z18 0) w130 hF136 (by kernel_rfl) rfl (by kernel_rfl) (run_loadV rfl rfl (run_loadS rfl rfl (hS132.cell 1 rfl 0 rfl))) (l':=[(46,nP z18 0),(45,nP z17 0),(44,nP z17 0),(43,nP z17 0),(5,nI x126),(4,nI x125),(3,.bool (y109)),(1,nP z17 0)]) (by kernel_rfl) ?_
 intro a139 hF138; clear hF136
 refine ev_runs 1 hF138 (l':=[(47,nI x125),(46,nP z18 0),(45,nP z17 0),(44,nP z17 0),(43,nP z17 0),(5,nI x126),(4,nI x125),(3,.bool (y109)),(1,nP z17 0)]) (w':=w130) (by kernel_rfl) ?_
 intro a141 hF140; clear hF138
 refine ev_call 38 #[nP z18 0,nI x125] hF140 rfl rfl (by kernel_rfl) rfl (by kernel_rfl) (fun w=>by kernel_rfl) ?_
 obtain ⟨q142,x143,s144,hx145,hm146⟩:=bind3E hm129; clear hm129
 refine (view_Gor.ok hS132 hx145).mono ?_
 rintro _ w147 ⟨rfl,hS149⟩ a148 hF150; clear hF140 hS132
 refine ev_runs 4 hF150 (l':=[(6,nB w147),(50,nI x143),(49,.agg #[nI (q142.id),nI (q142.status),nI (q142.pc),nI (q142.a),nI (q142.b),nI (q142.c),nI (q142.d),nI (q142.e),nI (q142.f),nI (q142.sudogs)]),(42,.tuple #[.agg #[nI (q142.id),nI (q142.status),nI (q142.pc),nI (q142.a),nI (q142.b),nI (q142.c),nI (q142.d),nI (q142.e),nI (q142.f),nI (q142.sudogs)],nI x143]),(48,.tuple #[.agg #[nI (q142.id),nI (q142.status),nI (q142.pc),nI (q142.a),nI (q142.b),nI (q142.c),nI (q142.d),nI (q142.e),nI (q142.f),nI (q142.sudogs)],nI x143]),(47,nI x125),(46,nP z18 0),(45,nP z17 0),(44,nP z17 0),(43,nP z17 0),(5,nI x126),(4,nI x125),(3,.bool (y109)),(1,nP z17 0)]) (w':=w147.alloc (.cells #[nI 0,nI 0,nI 0,nI 0,nI 0,nI 0,nI 0,nI 0,nI 0,nI 0] 70)) (by kernel_rfl) ?_
 intro a152 hF151; clear hF150
 have hS154:St w0 F0 (BlkP (w147.heap.size) 70 #[nI 0,nI 0,nI 0,nI 0,nI 0,nI 0,nI 0,nI 0,nI 0,nI 0]::HeapP z18 z19 s144::BlkP z17 66 #[nP z18 0,nP z20 0,.slice p33 L9.length c34,.slice p37 L10.length c38]::RHeapP z20 z21 z22 z23 z24 s100::RowP (.slice p33 L9.length c34) L9::RowP (.slice p37 L10.length c38) L10::ps) (w147.alloc (.cells #[nI 0,nI 0,nI 0,nI 0,nI 0,nI 0,nI 0,nI 0,nI 0,nI 0] 70)):=St.new hS149 #[nI 0,nI 0,nI 0,nI 0,nI 0,nI 0,nI 0,nI 0,nI 0,nI 0] 70
 clear hS149
 refine ev_store (.agg #[nI (q142.id),nI (q142.status),nI (q142.pc),nI (q142.a),nI (q142.b),nI (q142.c),nI (q142.d),nI (q142.e),nI (q142.f),nI (q142.sudogs)]) #[nI (q142.id),nI (q142.status),nI (q142.pc),nI (q142.a),nI (q142.b),nI (q142.c),nI (q142.d),nI (q142.e),nI (q142.f),nI (q142.sudogs)] hF151 (by kernel_rfl) rfl rfl rfl rfl (by kernel_rfl) hS154 (by kernel_rfl) (by kernel_rfl) (by kernel_rfl) (l':=[(6,nB w147),(50,nI x143),(49,.agg #[nI (q142.id),nI (q142.status),nI (q142.pc),nI (q142.a),nI (q142.b),nI (q142.c),nI (q142.d),nI (q142.e),nI (q142.f),nI (q142.sudogs)]),(42,.tuple #[.agg #[nI (q142.id),nI (q142.status),nI (q142.pc),nI (q142.a),nI (q142.b),nI (q142.c),nI (q142.d),nI (q142.e),nI (q142.f),nI (q142.sudogs)],nI x143]),(48,.tuple #[.agg #[nI (q142.id),nI (q142.status),nI (q142.pc),nI (q142.a),nI (q142.b),nI (q142.c),nI (q142.d),nI (q142.e),nI (q142.f),nI (q142.sudogs)],nI x143]),(47,nI x125),(46,nP z18 0),(45,nP z17 0),(44,nP z17 0),(43,nP z17 0),(5,nI x126),(4,nI x125),(3,.bool (y109)),(1,nP z17 0)]) (by kernel_rfl) ?_
 intro w155 a156 hS157 hF158; clear hF151 hS154
 refine ev_runK 1 hF158 [1,3,4,5,6,7] (l':=[(7,nI x143),(6,nB w147),(5,nI x126),(4,nI x125),(3,.bool (y109)),(1,nP z17 0)]) (w':=w155) (by kernel_rfl) ?_
 intro a160 hF159; clear hF158
 refine wpList_nil (thenN (wp_seq ?_))
 refine joinQ (fun aI wI=>∃ (y161:Bool),Fr 87 aI [(0,.bool (y161))]∧St w0 F0 (ps) wI∧law14_awake.j1 y161=some r0) ?_ ?_
 rotate_left
 · rintro a163 w164 ⟨y161,hF165,hS166,hm167⟩
   clear hF159 hS157 hm146
   unfold law14_awake.j1 at hm167
   refine thenN ?_
   refine wp_ret ?_
   obtain rfl:=Option.some.inj hm167
   refine ev_ret hF165 [0] (.bool (y161)) rfl rfl rfl ?_
   exact ⟨rfl,hS166⟩
 · skip
   refine wp_region_lit ?_
   refine ev_runs 2 hF159 (l':=[(52,.bool (y109)),(51,.bool (y109)),(7,nI x143),(6,nB w147),(5,nI x126),(4,nI x125),(3,.bool (y109)),(1,nP z17 0)]) (w':=w155) (by kernel_rfl) ?_
   intro a171 hF170; clear hF159
   cases hc172:(y109)
   case true =>
    rw [hc172] at hF170
    have hm173:=ifYes hc172 hm146; clear hm146
    refine ev_runs 4 hF170 (l':=[(56,.bool (x126 == 0)),(55,.bool (x126 == 0)),(54,.bool (x126 == 0)),(53,nI x126),(52,.bool true),(51,.bool true),(7,nI x143),(6,nB w147),(5,nI x126),(4,nI x125),(3,.bool true),(1,nP z17 0)]) (w':=w155) (by kernel_rfl) ?_
    intro a175 hF174; clear hF170
    cases hc176:(x126 == 0)
    case true =>
     rw [hc176] at hF174
     have hm177:=ifYes hc176 hm173; clear hm173
     refine ev_runs 4 hF174 (l':=[(60,.bool (x143 == 0)),(59,.bool (x143 == 0)),(58,.bool (x143 == 0)),(57,nI x143),(56,.bool true),(55,.bool true),(54,.bool true),(53,nI x126),(52,.bool true),(51,.bool true),(7,nI x143),(6,nB w147),(5,nI x126),(4,nI x125),(3,.bool true),(1,nP z17 0)]) (w':=w155) (by kernel_rfl) ?_
     intro a179 hF178; clear hF174
     cases hc180:(x143 == 0)
     case true =>
      rw [hc180] at hF178
      have hm181:=ifYes hc180 hm177; clear hm177
      refine ev_runs 2 hF178 (l':=[(62,nP z17 0),(61,nI x125),(60,.bool true),(59,.bool true),(58,.bool true),(57,nI x143),(56,.bool true),(55,.bool true),(54,.bool true),(53,nI x126),(52,.bool true),(51,.bool true),(7,nI x143),(6,nB w147),(5,nI x126),(4,nI x125),(3,.bool true),(1,nP z17 0)]) (w':=w155) (by kernel_rfl) ?_
      intro a183 hF182; clear hF178
      have hS184:=hS157.pick5.pick5.pick5.pick4.pick5
      clear hS157
      refine ev_call 42 #[nP z17 0,nI 0] hF182 rfl rfl (by kernel_rfl) rfl (by kernel_rfl) (fun w=>by kernel_rfl) ?_
      obtain ⟨x185,s186,s187,hx188,hm189⟩:=bind3E hm181; clear hm181
      refine (law14_gor.ok hS184 hx188).mono ?_
      rintro _ w190 ⟨rfl,hS192⟩ a191 hF193; clear hF182 hS184
      refine ev_runs 3 hF193 (l':=[(66,.bool (x125 == x185)),(65,.bool (x125 == x185)),(64,.bool (x125 == x185)),(63,nI x185),(62,nP z17 0),(61,nI x125),(60,.bool true),(59,.bool true),(58,.bool true),(57,nI x143),(56,.bool true),(55,.bool true),(54,.bool true),(53,nI x126),(52,.bool true),(51,.bool true),(7,nI x143),(6,nB w147),(5,nI x126),(4,nI x125),(3,.bool true),(1,nP z17 0)]) (w':=w190) (by kernel_rfl) ?_
      intro a195 hF194; clear hF193
      cases hc196:(x125 == x185)
      case true =>
       rw [hc196] at hF194
       have hm197:=ifYes hc196 hm189; clear hm189
       refine ev_runs 1 hF194 (l':=[(67,nP (w147.heap.size) 2),(66,.bool true),(65,.bool true),(64,.bool true),(63,nI x185),(62,nP z17 0),(61,nI x125),(60,.bool true),(59,.bool true),(58,.bool true),(57,nI x143),(56,.bool true),(55,.bool true),(54,.bool true),(53,nI x126),(52,.bool true),(51,.bool true),(7,nI x143),(6,nB w147),(5,nI x126),(4,nI x125),(3,.bool true),(1,nP z17 0)]) (w':=w190) (by kernel_rfl) ?_
       intro a199 hF198; clear hF194
       refine ev_one (nI (q142.pc)) w190 hF198 (by kernel_rfl) rfl (by kernel_rfl) (run_loadV rfl rfl (run_loadS rfl rfl (hS192.cell 5 rfl 2 rfl))) (l':=[(68,nI (q142.pc)),(67,nP (w147.heap.size) 2),(66,.bool true),(65,.bool true),(64,.bool true),(63,nI x185),(62,nP z17 0),(61,nI x125),(60,.bool true),(59,.bool true),(58,.bool true),(57,nI x143),(56,.bool true),(55,.bool true),(54,.bool true),(53,nI x126),(52,.bool true),(51,.bool true),(7,nI x143),(6,nB w147),(5,nI x126),(4,nI x125),(3,.bool true),(1,nP z17 0)]) (by kernel_rfl) ?_
       intro a201 hF200; clear hF198
       refine ev_runs 3 hF200 (l':=[(71,.bool (q142.pc == 5)),(70,.bool (q142.pc == 5)),(69,.bool (q142.pc == 5)),(68,nI (q142.pc)),(67,nP (w147.heap.size) 2),(66,.bool true),(65,.bool true),(64,.bool true),(63,nI x185),(62,nP z17 0),(61,nI x125),(60,.bool true),(59,.bool true),(58,.bool true),(57,nI x143),(56,.bool true),(55,.bool true),(54,.bool true),(53,nI x126),(52,.bool true),(51,.bool true),(7,nI x143),(6,nB w147),(5,nI x126),(4,nI x125),(3,.bool true),(1,nP z17 0)]) (w':=w190) (by kernel_rfl) ?_
       intro a203 hF202; clear hF200
       cases hc204:(q142.pc == 5)
       case true =>
        rw [hc204] at hF202
        have hm205:=ifYes hc204 hm197; clear hm197
        refine ev_runs 1 hF202 (l':=[(72,nP (w147.heap.size) 3),(71,.bool true),(70,.bool true),(69,.bool true),(68,nI (q142.pc)),(67,nP (w147.heap.size) 2),(66,.bool true),(65,.bool true),(64,.bool true),(63,nI x185),(62,nP z17 0),(61,nI x125),(60,.bool true),(59,.bool true),(58,.bool true),(57,nI x143),(56,.bool true),(55,.bool true),(54,.bool true),(53,nI x126),(52,.bool true),(51,.bool true),(7,nI x143),(6,nB w147),(5,nI x126),(4,nI x125),(3,.bool true),(1,nP z17 0)]) (w':=w190) (by kernel_rfl) ?_
        intro a207 hF206; clear hF202
        refine ev_one (nP (w147.heap.size) 3) w190 hF206 (by kernel_rfl) rfl (by kernel_rfl) (run_idxA (q:=0) rfl rfl rfl rfl rfl (by decide) (by decide) (by kernel_rfl) _) (l':=[(73,nP (w147.heap.size) 3),(72,nP (w147.heap.size) 3),(71,.bool true),(70,.bool true),(69,.bool true),(68,nI (q142.pc)),(67,nP (w147.heap.size) 2),(66,.bool true),(65,.bool true),(64,.bool true),(63,nI x185),(62,nP z17 0),(61,nI x125),(60,.bool true),(59,.bool true),(58,.bool true),(57,nI x143),(56,.bool true),(55,.bool true),(54,.bool true),(53,nI x126),(52,.bool true),(51,.bool true),(7,nI x143),(6,nB w147),(5,nI x126),(4,nI x125),(3,.bool true),(1,nP z17 0)]) (by kernel_rfl) ?_
        intro a209 hF208; clear hF206
        refine ev_one (nI (q142.a)) w190 hF208 (by kernel_rfl) rfl (by kernel_rfl) (run_loadV rfl rfl (run_loadS rfl rfl (hS192.cell 5 rfl 3 rfl))) (l':=[(74,nI (q142.a)),(73,nP (w147.heap.size) 3),(72,nP (w147.heap.size) 3),(71,.bool true),(70,.bool true),(69,.bool true),(68,nI (q142.pc)),(67,nP (w147.heap.size) 2),(66,.bool true),(65,.bool true),(64,.bool true),(63,nI x185),(62,nP z17 0),(61,nI x125),(60,.bool true),(59,.bool true),(58,.bool true),(57,nI x143),(56,.bool true),(55,.bool true),(54,.bool true),(53,nI x126),(52,.bool true),(51,.bool true),(7,nI x143),(6,nB w147),(5,nI x126),(4,nI x125),(3,.bool true),(1,nP z17 0)]) (by kernel_rfl) ?_
        intro a211 hF210; clear hF208
        refine ev_runs 3 hF210 (l':=[(77,.bool (q142.a == 8)),(76,.bool (q142.a == 8)),(75,.bool (q142.a == 8)),(74,nI (q142.a)),(73,nP (w147.heap.size) 3),(72,nP (w147.heap.size) 3),(71,.bool true),(70,.bool true),(69,.bool true),(68,nI (q142.pc)),(67,nP (w147.heap.size) 2),(66,.bool true),(65,.bool true),(64,.bool true),(63,nI x185),(62,nP z17 0),(61,nI x125),(60,.bool true),(59,.bool true),(58,.bool true),(57,nI x143),(56,.bool true),(55,.bool true),(54,.bool true),(53,nI x126),(52,.bool true),(51,.bool true),(7,nI x143),(6,nB w147),(5,nI x126),(4,nI x125),(3,.bool true),(1,nP z17 0)]) (w':=w190) (by kernel_rfl) ?_
        intro a213 hF212; clear hF210
        cases hc214:(q142.a == 8)
        case true =>
         rw [hc214] at hF212
         have hm215:=ifYes hc214 hm205; clear hm205
         refine ev_runs 1 hF212 (l':=[(78,nP (w147.heap.size) 1),(77,.bool true),(76,.bool true),(75,.bool true),(74,nI (q142.a)),(73,nP (w147.heap.size) 3),(72,nP (w147.heap.size) 3),(71,.bool true),(70,.bool true),(69,.bool true),(68,nI (q142.pc)),(67,nP (w147.heap.size) 2),(66,.bool true),(65,.bool true),(64,.bool true),(63,nI x185),(62,nP z17 0),(61,nI x125),(60,.bool true),(59,.bool true),(58,.bool true),(57,nI x143),(56,.bool true),(55,.bool true),(54,.bool true),(53,nI x126),(52,.bool true),(51,.bool true),(7,nI x143),(6,nB w147),(5,nI x126),(4,nI x125),(3,.bool true),(1,nP z17 0)]) (w':=w190) (by kernel_rfl) ?_
         intro a217 hF216; clear hF212
         refine ev_one (nI (q142.status)) w190 hF216 (by kernel_rfl) rfl (by kernel_rfl) (run_loadV rfl rfl (run_loadS rfl rfl (hS192.cell 5 rfl 1 rfl))) (l':=[(79,nI (q142.status)),(78,nP (w147.heap.size) 1),(77,.bool true),(76,.bool true),(75,.bool true),(74,nI (q142.a)),(73,nP (w147.heap.size) 3),(72,nP (w147.heap.size) 3),(71,.bool true),(70,.bool true),(69,.bool true),(68,nI (q142.pc)),(67,nP (w147.heap.size) 2),(66,.bool true),(65,.bool true),(64,.bool true),(63,nI x185),(62,nP z17 0),(61,nI x125),(60,.bool true),(59,.bool true),(58,.bool true),(57,nI x143),(56,.bool true),(55,.bool true),(54,.bool true),(53,nI x126),(52,.bool true),(51,.bool true),(7,nI x143),(6,nB w147),(5,nI x126),(4,nI x125),(3,.bool true),(1,nP z17 0)]) (by kernel_rfl) ?_
         intro a219 hF218; clear hF216
         refine ev_runs 3 hF218 (l':=[(82,.bool (q142.status == 0)),(81,.bool (q142.status == 0)),(80,.bool (q142.status == 0)),(79,nI (q142.status)),(78,nP (w147.heap.size) 1),(77,.bool true),(76,.bool true),(75,.bool true),(74,nI (q142.a)),(73,nP (w147.heap.size) 3),(72,nP (w147.heap.size) 3),(71,.bool true),(70,.bool true),(69,.bool true),(68,nI (q142.pc)),(67,nP (w147.heap.size) 2),(66,.bool true),(65,.bool true),(64,.bool true),(63,nI x185),(62,nP z17 0),(61,nI x125),(60,.bool true),(59,.bool true),(58,.bool true),(57,nI x143),(56,.bool true),(55,.bool true),(54,.bool true),(53,nI x126),(52,.bool true),(51,.bool true),(7,nI x143),(6,nB w147),(5,nI x126),(4,nI x125),(3,.bool true),(1,nP z17 0)]) (w':=w190) (by kernel_rfl) ?_
         intro a221 hF220; clear hF218
         cases hc222:(q142.status == 0)
         case true =>
          rw [hc222] at hF220
          have hm223:=ifYes hc222 hm215; clear hm215
          refine ev_runs 1 hF220 (l':=[(83,nP (w147.heap.size) 9),(82,.bool true),(81,.bool true),(80,.bool true),(79,nI (q142.status)),(78,nP (w147.heap.size) 1),(77,.bool true),(76,.bool true),(75,.bool true),(74,nI (q142.a)),(73,nP (w147.heap.size) 3),(72,nP (w147.heap.size) 3),(71,.bool true),(70,.bool true),(69,.bool true),(68,nI (q142.pc)),(67,nP (w147.heap.size) 2),(66,.bool true),(65,.bool true),(64,.bool true),(63,nI x185),(62,nP z17 0),(61,nI x125),(60,.bool true),(59,.bool true),(58,.bool true),(57,nI x143),(56,.bool true),(55,.bool true),(54,.bool true),(53,nI x126),(52,.bool true),(51,.bool true),(7,nI x143),(6,nB w147),(5,nI x126),(4,nI x125),(3,.bool true),(1,nP z17 0)]) (w':=w190) (by kernel_rfl) ?_
          intro a225 hF224; clear hF220
          refine ev_one (nI (q142.sudogs)) w190 hF224 (by kernel_rfl) rfl (by kernel_rfl) (run_loadV rfl rfl (run_loadS rfl rfl (hS192.cell 5 rfl 9 rfl))) (l':=[(84,nI (q142.sudogs)),(83,nP (w147.heap.size) 9),(82,.bool true),(81,.bool true),(80,.bool true),(79,nI (q142.status)),(78,nP (w147.heap.size) 1),(77,.bool true),(76,.bool true),(75,.bool true),(74,nI (q142.a)),(73,nP (w147.heap.size) 3),(72,nP (w147.heap.size) 3),(71,.bool true),(70,.bool true),(69,.bool true),(68,nI (q142.pc)),(67,nP (w147.heap.size) 2),(66,.bool true),(65,.bool true),(64,.bool true),(63,nI x185),(62,nP z17 0),(61,nI x125),(60,.bool true),(59,.bool true),(58,.bool true),(57,nI x143),(56,.bool true),(55,.bool true),(54,.bool true),(53,nI x126),(52,.bool true),(51,.bool true),(7,nI x143),(6,nB w147),(5,nI x126),(4,nI x125),(3,.bool true),(1,nP z17 0)]) (by kernel_rfl) ?_
          intro a227 hF226; clear hF224
          refine ev_runK 3 hF226 [0] (l':=[(0,.bool (q142.sudogs == (-1)))]) (w':=w190) (by kernel_rfl) ?_
          intro a229 hF228; clear hF226
          refine wpList_nil ?_
          have hS230:=hS192.drop.drop.drop.drop.drop.drop
          clear hS192
          exact thenN ⟨q142.sudogs == (-1),hF228,hS230,hm223⟩
         rw [hc222] at hF220
         have hm231:=ifNot hc222 hm215; clear hm215
         refine ev_runK 5 hF220 [0] (l':=[(0,.bool false)]) (w':=w190) (by kernel_rfl) ?_
         intro a233 hF232; clear hF220
         refine wpList_nil ?_
         have hS234:=hS192.drop.drop.drop.drop.drop.drop
         clear hS192
         exact thenN ⟨false,hF232,hS234,hm231⟩
        rw [hc214] at hF212
        have hm235:=ifNot hc214 hm205; clear hm205
        refine ev_runK 10 hF212 [0] (l':=[(0,.bool false)]) (w':=w190) (by kernel_rfl) ?_
        intro a237 hF236; clear hF212
        refine wpList_nil ?_
        have hS238:=hS192.drop.drop.drop.drop.drop.drop
        clear hS192
        exact thenN ⟨false,hF236,hS238,hm235⟩
       rw [hc204] at hF202
       have hm239:=ifNot hc204 hm197; clear hm197
       refine ev_runK 16 hF202 [0] (l':=[(0,.bool false)]) (w':=w190) (by kernel_rfl) ?_
       intro a241 hF240; clear hF202
       refine wpList_nil ?_
       have hS242:=hS192.drop.drop.drop.drop.drop.drop
       clear hS192
       exact thenN ⟨false,hF240,hS242,hm239⟩
      rw [hc196] at hF194
      have hm243:=ifNot hc196 hm189; clear hm189
      refine ev_runK 21 hF194 [0] (l':=[(0,.bool false)]) (w':=w190) (by kernel_rfl) ?_
      intro a245 hF244; clear hF194
      refine wpList_nil ?_
      have hS246:=hS192.drop.drop.drop.drop.drop.drop
      clear hS192
      exact thenN ⟨false,hF244,hS246,hm243⟩
     rw [hc180] at hF178
     have hm247:=ifNot hc180 hm177; clear hm177
     refine ev_runK 27 hF178 [0] (l':=[(0,.bool false)]) (w':=w155) (by kernel_rfl) ?_
     intro a249 hF248; clear hF178
     refine wpList_nil ?_
     have hS250:=hS157.drop.drop.drop.drop.drop.drop
     clear hS157
     exact thenN ⟨false,hF248,hS250,hm247⟩
    rw [hc176] at hF174
    have hm251:=ifNot hc176 hm173; clear hm173
    refine ev_runK 31 hF174 [0] (l':=[(0,.bool false)]) (w':=w155) (by kernel_rfl) ?_
    intro a253 hF252; clear hF174
    refine wpList_nil ?_
    have hS254:=hS157.drop.drop.drop.drop.drop.drop
    clear hS157
    exact thenN ⟨false,hF252,hS254,hm251⟩
   rw [hc172] at hF170
   have hm255:=ifNot hc172 hm146; clear hm146
   refine ev_runK 35 hF170 [0] (l':=[(0,.bool false)]) (w':=w155) (by kernel_rfl) ?_
   intro a257 hF256; clear hF170
   refine wpList_nil ?_
   have hS258:=hS157.drop.drop.drop.drop.drop.drop
   clear hS157
   exact thenN ⟨false,hF256,hS258,hm255⟩
end Go.Proofs.YtaojmbkmicjecaaGreat
namespace Go.Proofs.YtaojmbkmicjecaaGreat
open Go.RowKit
set_option linter.unusedVariables false
def WakeRegs.j7 (q185:Gr) (x206:Int) (rec209:Int→Option (Bool)) (x223:Int):Option (Bool):=(if (inR x206 6) then (if ((atI [q185.a,q185.b,q185.c,q185.d,q185.e,q185.f] x206) != x223) then some (false) else rec209 (IntKind.i64.wrap (x206+1))) else none)
def WakeRegs.j8 (y258:Bool):Option (Bool):=some (y258)
def WakeRegs.l6b (i2:Int) (k:Nat) (x5:Int) (x11:Int) (L22:List Int) (L23:List Int) (s143:HSt) (y154:Bool) (x168:Int) (x169:Int) (q185:Gr) (x186:Int) (s187:HSt) (rec209:Int→Option (Bool)) (x206:Int):Option (Bool):=(if (decide (x206<6)) then (if (x206 == x5) then WakeRegs.j7 q185 x206 rec209 i2 else WakeRegs.j7 q185 x206 rec209 0) else (if (x169 == 0) then (if (x186 == 0) then (if (q185.pc == x11) then bind1 (pColour x168 s187) fun x284=>(if ((x284 == 0) == (!(y154))) then bind3 (law14_ch.m k s187 s143 L22 L23 0) fun x298 s299 s300=>bind2 (list_All.m k s299 x298 (false)) fun L308 s309=>WakeRegs.j8 ((L308.length:Int) == 0) else WakeRegs.j8 false) else WakeRegs.j8 false) else WakeRegs.j8 false) else WakeRegs.j8 false))
def WakeRegs.l6 (i2:Int) (k:Nat) (x5:Int) (x11:Int) (L22:List Int) (L23:List Int) (s143:HSt) (y154:Bool) (x168:Int) (x169:Int) (q185:Gr) (x186:Int) (s187:HSt):Nat→Int→Option (Bool)
  | 0=>fun _=>none
  | kI+1=>WakeRegs.l6b i2 k x5 x11 L22 L23 s143 y154 x168 x169 q185 x186 s187 (WakeRegs.l6 i2 k x5 x11 L22 L23 s143 y154 x168 x169 q185 x186 s187 kI)
def WakeRegs.j3 (i2:Int) (k:Nat) (x5:Int) (x11:Int) (L22:List Int) (L23:List Int) (x75:Int) (s143:HSt) (s153:HSt) (y154:Bool):Option (Bool):=bind3 (wake_Wake.m k s153 x75 i2) fun x168 x169 s170=>bind3 (view_Gor.m k s170 x168) fun q185 x186 s187=>WakeRegs.l6 i2 k x5 x11 L22 L23 s143 y154 x168 x169 q185 x186 s187 k 0
def WakeRegs.j2 (i2:Int) (i3:Bool) (k:Nat) (x5:Int) (x11:Int) (L22:List Int) (L23:List Int) (x75:Int) (s142:HSt) (s143:HSt):Option (Bool):=(if (i3) then bind2 (pBegin s142 []) fun x350 s351=>WakeRegs.j3 i2 k x5 x11 L22 L23 x75 s143 s351 true else WakeRegs.j3 i2 k x5 x11 L22 L23 x75 s143 s142 false)
def WakeRegs.j1 (i2:Int) (i3:Bool) (k:Nat) (x5:Int) (x11:Int) (s20:HSt) (s21:HSt) (L22:List Int) (L23:List Int) (y57:Bool):Option (Bool):=(if (y57) then some (false) else bind3 (law14_alloc.m k s20 s21 L22 L23 3 7) fun x75 s76 s77=>bind3 (law14_gor.m k s76 s77 L22 L23 0) fun x89 s90 s91=>bind3 (law14_ch.m k s90 s91 L22 L23 0) fun x98 s99 s100=>bind2 (pPutSudog x75 (⟨x89,x98,0,-1,x11,x5,-1⟩:Su) s99) fun x110 s111=>bind3 (law14_ch.m k s111 s100 L22 L23 0) fun x123 s124 s125=>bind2 (list_Push.m k s124 x123 (false) x75) fun x133 s134=>bind3 (law14_gor.m k s134 s125 L22 L23 0) fun x366 s367 s368=>bind2 (wake_Park.m k s367 x366 [x75]) fun x379 s380=>WakeRegs.j2 i2 i3 k x5 x11 L22 L23 x75 s380 s368)
def WakeRegs.m (k:Nat) (i0:Int) (i1:Int) (i2:Int) (i3:Bool):Option (Bool):=bind1 (some (Int.tmod i0 9)) fun x5=>bind1 (some (IntKind.i64.wrap (Int.tmod (IntKind.u64.wrap i1) 100))) fun x11=>bind4 (law14_made.m k [0] 1) fun s20 s21 L22 L23=>bind1 (law14_awake.m k ) fun y413=>(if (!(y413)) then WakeRegs.j1 i2 i3 k x5 x11 s20 s21 L22 L23 true else WakeRegs.j1 i2 i3 k x5 x11 s20 s21 L22 L23 false)
set_option maxRecDepth 100000 in
set_option maxHeartbeats 40000000 in
theorem WakeRegs.ok {w0 w:World} {F0:List Nat} {ps:List Piece} {k:Nat} {i0:Int} {i1:Int} {i2:Int} {i3:Bool} {r0:Bool} (hS:St w0 F0 (ps) w) (hm:WakeRegs.m k i0 i1 i2 i3=some r0) :
    Calls Tryz.prog 11 #[nI i0,nI i1,nI i2,.bool (i3)] w fun e w'=>e=.returned (.bool r0)∧St w0 F0 (ps) w':=by
 refine ev_enterL 137 [nI i0,nI i1,nI i2,.bool (i3)] Tryz.func11 rfl rfl (by simp) ?_
 intro a hF
 have hF0:Fr 137 a [(0,nI i0),(1,nI i1),(2,nI i2),(3,.bool (i3))]:=hF; clear hF
 unfold WakeRegs.m at hm
 refine wp_seq (wp_region_lit ?_)
 refine ev_runK 1 hF0 [0,1,2,3] (l':=[(0,nI i0),(1,nI i1),(2,nI i2),(3,.bool (i3))]) (w':=w) (by kernel_rfl) ?_
 intro a2 hF1; clear hF0
 refine wpList_nil (thenN (wp_seq (wp_region_lit ?_)))
 refine ev_runs 7 hF1 (l':=[(0,nI (Int.tmod i0 9)),(22,nI (IntKind.i64.wrap (Int.tmod (IntKind.u64.wrap i1) 100))),(21,.int .u64 (Int.tmod (IntKind.u64.wrap i1) 100)),(20,.int .u64 (IntKind.u64.wrap i1)),(19,nI i1),(18,nI (Int.tmod i0 9)),(17,nI i0),(1,nI i1),(2,nI i2),(3,.bool (i3))]) (w':=w) (by kernel_rfl) ?_
 intro a4 hF3; clear hF1
 obtain ⟨x5,hx6,hm7⟩:=bind1E hm; clear hm
 have hF8:=hF3; rw [Option.some.inj hx6] at hF8; clear hF3
 refine ev_runs 1 hF8 (l':=[(1,nI (IntKind.i64.wrap (Int.tmod (IntKind.u64.wrap i1) 100))),(0,nI x5),(22,nI (IntKind.i64.wrap (Int.tmod (IntKind.u64.wrap i1) 100))),(21,.int .u64 (Int.tmod (IntKind.u64.wrap i1) 100)),(20,.int .u64 (IntKind.u64.wrap i1)),(19,nI i1),(18,nI x5),(17,nI i0),(2,nI i2),(3,.bool (i3))]) (w':=w) (by kernel_rfl) ?_
 intro a10 hF9; clear hF8
 obtain ⟨x11,hx12,hm13⟩:=bind1E hm7; clear hm7
 have hF14:=hF9; rw [Option.some.inj hx12] at hF14; clear hF9
 refine wpList_nil ?_
 have hF15:=hF14.keep [0,1,2,3]
 clear hF14
 refine thenN (wp_seq (wp_region_lit ?_))
 refine ev_runs 1 hF15 (l':=[(23,.slice (some ⟨w.heap.size,0,none⟩) 1 1),(1,nI x11),(0,nI x5),(2,nI i2),(3,.bool (i3))]) (w':=w.alloc (.cells #[nI 0] 3)) (by kernel_rfl) ?_
 intro a17 hF16; clear hF15
 have hS19:St w0 F0 (RowP (.slice (some ⟨w.heap.size,0,none⟩) 1 1) [0]::ps) (w.alloc (.cells #[nI 0] 3)):=St.lit hS [0] (by unfold maxLen; simp)
 refine ev_call 35 #[.slice (some ⟨w.heap.size,0,none⟩) 1 1,nI 1] hF16 rfl rfl (by kernel_rfl) rfl (by kernel_rfl) (fun w=>by kernel_rfl) ?_
 obtain ⟨s20,s21,L22,L23,hx24,hm25⟩:=bind4E hm13; clear hm13
 refine (law14_made.ok hS19 hx24).mono ?_
 rintro _ w26 ⟨z30,z31,z32,z33,z34,z35,z36,z37,z38,z39,rfl,hS28⟩ a27 hF29; clear hF16 hS19
 have hS45:St w0 F0 (RowP (.slice (some ⟨w.heap.size,0,none⟩) 1 1) [0]::BlkP z30 66 #[nP z31 0,nP z33 0,z38,z39]::HeapP z31 z32 s20::RHeapP z33 z34 z35 z36 z37 s21::RowP (z38) L22::RowP (z39) L23::ps) w26:=hS28
 clear hS28
 obtain ⟨hl49,p46,c47,rfl,hp48⟩:=St.shape hS45 4 rfl
 obtain ⟨hl53,p50,c51,rfl,hp52⟩:=St.shape hS45 5 rfl
 refine ev_runK 1 hF29 [0,1,2,3,9] (l':=[(9,nP z30 0),(1,nI x11),(0,nI x5),(2,nI i2),(3,.bool (i3))]) (w':=w26) (by kernel_rfl) ?_
 intro a55 hF54; clear hF29
 refine wpList_nil ?_
 have hS56:=hS45.drop
 clear hS45
 refine thenN (wp_seq (wp_seq ?_))
 refine joinQ (fun aI wI=>∃ (y57:Bool),Fr 137 aI [(30,.bool (y57)),(9,nP z30 0),(1,nI x11),(0,nI x5),(2,nI i2),(3,.bool (i3))]∧St w0 F0 (BlkP z30 66 #[nP z31 0,nP z33 0,.slice p46 L22.length c47,.slice p50 L23.length c51]::HeapP z31 z32 s20::RHeapP z33 z34 z35 z36 z37 s21::RowP (.slice p46 L22.length c47) L22::RowP (.slice p50 L23.length c51) L23::ps) wI∧WakeRegs.j1 i2 i3 k x5 x11 s20 s21 L22 L23 y57=some r0) ?_ ?_
 rotate_left
 · rintro a59 w60 ⟨y57,hF61,hS62,hm63⟩
   clear hF54 hS56 hm25
   unfold WakeRegs.j1 at hm63
   refine thenN ?_
   cases hc65:(y57)
   case true =>
    rw [hc65] at hF61
    have hm66:=ifYes hc65 hm63; clear hm63
    refine ev_condT hF61 rfl rfl ?_
    refine wp_seq (wp_region_lit ?_)
    refine ev_runK 1 hF61 [8] (l':=[(8,.bool false)]) (w':=w60) (by kernel_rfl) ?_
    intro a68 hF67; clear hF61
    refine wpList_nil ?_
    have hS69:=hS62.drop.drop.drop.drop.drop
    clear hS62
    refine thenN ?_
    refine wp_ret ?_
    refine thenR ?_
    obtain rfl:=Option.some.inj hm66
    refine ev_ret hF67 [8] (.bool false) rfl rfl rfl ?_
    exact ⟨rfl,hS69⟩
   rw [hc65] at hF61
   have hm71:=ifNot hc65 hm63; clear hm63
   refine ev_condF hF61 rfl rfl ?_
   refine wp_skip ?_
   have hF72:=hF61.keep [0,1,2,3,9]
   clear hF61
   refine thenN (wp_seq (wp_region_lit ?_))
   refine ev_runs 1 hF72 (l':=[(31,nP z30 0),(9,nP z30 0),(1,nI x11),(0,nI x5),(2,nI i2),(3,.bool (i3))]) (w':=w60) (by kernel_rfl) ?_
   intro a74 hF73; clear hF72
   refine ev_call 40 #[nP z30 0,nI 3,nI 7] hF73 rfl rfl (by kernel_rfl) rfl (by kernel_rfl) (fun w=>by kernel_rfl) ?_
   obtain ⟨x75,s76,s77,hx78,hm79⟩:=bind3E hm71; clear hm71
   refine (law14_alloc.ok hS62 hx78).mono ?_
   rintro _ w80 ⟨rfl,hS82⟩ a81 hF83; clear hF73 hS62
   refine ev_runK 1 hF83 [0,1,2,3,9,10] (l':=[(10,nI x75),(9,nP z30 0),(1,nI x11),(0,nI x5),(2,nI i2),(3,.bool (i3))]) (w':=w80) (by kernel_rfl) ?_
   intro a85 hF84; clear hF83
   refine wpList_nil (thenN (wp_seq ?_))
   have hS86:=hS82.drew; clear hS82
   refine any_start (fun wS=>∃ qs,St w0 F0 (BlkP z30 66 #[nP z31 0,nP z33 0,.slice p46 L22.length c47,.slice p50 L23.length c51]::qs) wS) 13 #[false,false,false,false,false,false,false,false,false,false,false,false,false] (by kernel_rfl) (by kernel_rfl) (by kernel_rfl) ?_
   refine any_many 9 [(0,some (nP z30 0)),(1,some (nP z30 0)),(2,some (nP z30 0)),(3,some (nP z31 0)),(4,some (nI x75)),(5,some (nP z30 0)),(7,some (nP z30 0)),(9,some (nI x11)),(10,some (nI x5))] [0,1,2,3,9,10,36,37,38,39,40,41,42,43,44] #[true,true,true,true,true,true,false,true,false,true,true,false,false] (by rfl) hF84 (by kernel_rfl) (by kernel_rfl) (by exact ⟨fun wS hw=>by kernel_rfl,fun wS hw=>by kernel_rfl,fun wS hw=>by kernel_rfl,fun wS hw=>hw.elim fun qs hw=>run_loadV rfl rfl (run_loadS rfl rfl (hw.cell 0 rfl 0 rfl)),fun wS hw=>by kernel_rfl,fun wS hw=>by kernel_rfl,fun wS hw=>by kernel_rfl,fun wS hw=>by kernel_rfl,fun wS hw=>by kernel_rfl,trivial⟩) (fun _ _ _ _ _ h=>h) ⟨_,hS86⟩ (l':=[(43,nI x5),(42,nI x11),(40,nP z30 0),(38,nP z30 0),(37,nI x75),(36,nP z31 0),(10,nI x75),(9,nP z30 0),(1,nI x11),(0,nI x5),(2,nI i2),(3,.bool (i3))]) (by kernel_rfl) ?_
   intro a88 hF87; clear hF84
   refine any_call 6 #[true,true,true,true,true,true,true,true,false,true,true,false,false] 42 #[nP z30 0,nI 0] hF87 rfl (by kernel_rfl) rfl rfl (by kernel_rfl) rfl (by kernel_rfl) (fun w=>by kernel_rfl) (by kernel_rfl) ?_
   obtain ⟨x89,s90,s91,hx92,hm93⟩:=bind3E hm79; clear hm79
   refine (law14_gor.ok hS86 hx92).mono ?_
   rintro _ w94 ⟨rfl,hS96⟩; clear hS86
   refine ⟨⟨_,hS96⟩,?_⟩
   intro a95 hF97; clear hF87
   refine any_call 8 #[true,true,true,true,true,true,true,true,true,true,true,false,false] 44 #[nP z30 0,nI 0] hF97 rfl (by kernel_rfl) rfl rfl (by kernel_rfl) rfl (by kernel_rfl) (fun w=>by kernel_rfl) (by kernel_rfl) ?_
   obtain ⟨x98,s99,s100,hx101,hm102⟩:=bind3E hm93; clear hm93
   refine (law14_ch.ok hS96 hx101).mono ?_
   rintro _ w103 ⟨rfl,hS105⟩; clear hS96
   refine ⟨⟨_,hS105⟩,?_⟩
   intro a104 hF106; clear hF97
   refine any_many 1 [(11,some (.agg #[nI x89,nI x98,nI 0,nI (-1),nI x11,nI x5,nI (-1)]))] [0,1,2,3,9,10,36,37,44] #[true,true,true,true,true,true,true,true,true,true,true,true,false] (by rfl) hF106 (by kernel_rfl) (by kernel_rfl) (by exact ⟨fun wS hw=>by kernel_rfl,trivial⟩) (fun _ _ _ _ _ h=>h) ⟨_,hS105⟩ (l':=[(44,.agg #[nI x89,nI x98,nI 0,nI (-1),nI x11,nI x5,nI (-1)]),(37,nI x75),(36,nP z31 0),(10,nI x75),(9,nP z30 0),(1,nI x11),(0,nI x5),(2,nI i2),(3,.bool (i3))]) (by kernel_rfl) ?_
   intro a108 hF107; clear hF106
   have hS109:=hS105.pick1
   clear hS105
   refine any_call 12 #[true,true,true,true,true,true,true,true,true,true,true,true,true] 41 #[nP z31 0,nI x75,.agg #[nI x89,nI x98,nI 0,nI (-1),nI x11,nI x5,nI (-1)]] hF107 rfl (by kernel_rfl) rfl rfl (by kernel_rfl) rfl (by kernel_rfl) (fun w=>by kernel_rfl) (by kernel_rfl) ?_
   obtain ⟨x110,s111,hx112,hm113⟩:=bind2E hm102; clear hm102
   refine (p_PutSudog hS109 hx112).mono ?_
   rintro _ w114 ⟨rfl,hS116⟩; clear hS109
   refine ⟨⟨_,hS116.pick1⟩,?_⟩
   intro a115 hF117; clear hF107
   refine any_done (by kernel_rfl) ?_
   have hF118:=hF117.keep [0,1,2,3,9,10]
   clear hF117
   refine thenN (wp_seq ?_)
   have hS119:=hS116.pick1
   clear hS116
   have hS120:=hS119.drew; clear hS119
   refine any_start (fun wS=>∃ qs,St w0 F0 (BlkP z30 66 #[nP z31 0,nP z33 0,.slice p46 L22.length c47,.slice p50 L23.length c51]::qs) wS) 8 #[false,false,false,false,false,false,false,false] (by kernel_rfl) (by kernel_rfl) (by kernel_rfl) ?_
   refine any_many 6 [(0,some (nP z30 0)),(1,some (nP z30 0)),(2,some (nP z30 0)),(3,some (nP z31 0)),(4,some (nP z30 0)),(6,some (nI x75))] [0,1,2,3,9,10,49,50,51,52] #[true,true,true,true,true,false,true,false] (by rfl) hF118 (by kernel_rfl) (by kernel_rfl) (by exact ⟨fun wS hw=>by kernel_rfl,fun wS hw=>by kernel_rfl,fun wS hw=>by kernel_rfl,fun wS hw=>hw.elim fun qs hw=>run_loadV rfl rfl (run_loadS rfl rfl (hw.cell 0 rfl 0 rfl)),fun wS hw=>by kernel_rfl,fun wS hw=>by kernel_rfl,trivial⟩) (fun _ _ _ _ _ h=>h) ⟨_,hS120⟩ (l':=[(52,nI x75),(50,nP z30 0),(49,nP z31 0),(10,nI x75),(9,nP z30 0),(1,nI x11),(0,nI x5),(2,nI i2),(3,.bool (i3))]) (by kernel_rfl) ?_
   intro a122 hF121; clear hF118
   refine any_call 5 #[true,true,true,true,true,true,true,false] 44 #[nP z30 0,nI 0] hF121 rfl (by kernel_rfl) rfl rfl (by kernel_rfl) rfl (by kernel_rfl) (fun w=>by kernel_rfl) (by kernel_rfl) ?_
   obtain ⟨x123,s124,s125,hx126,hm127⟩:=bind3E hm113; clear hm113
   refine (law14_ch.ok hS120 hx126).mono ?_
   rintro _ w128 ⟨rfl,hS130⟩; clear hS120
   refine ⟨⟨_,hS130⟩,?_⟩
   intro a129 hF131; clear hF121
   have hS132:=hS130.pick1
   clear hS130
   refine any_call 7 #[true,true,true,true,true,true,true,true] 29 #[nP z31 0,nI x123,.bool false,nI x75] hF131 rfl (by kernel_rfl) rfl rfl (by kernel_rfl) rfl (by kernel_rfl) (fun w=>by kernel_rfl) (by kernel_rfl) ?_
   obtain ⟨x133,s134,hx135,hm136⟩:=bind2E hm127; clear hm127
   refine (list_Push.ok hS132 hx135).mono ?_
   rintro _ w137 ⟨rfl,hS139⟩; clear hS132
   refine ⟨⟨_,hS139.pick1⟩,?_⟩
   intro a138 hF140; clear hF131
   refine any_done (by kernel_rfl) ?_
   have hF141:=hF140.keep [0,1,2,3,9,10]
   clear hF140
   refine thenN (wp_seq ?_)
   refine joinQ (fun aI wI=>∃ (s142:HSt) (s143:HSt),Fr 137 aI [(10,nI x75),(9,nP z30 0),(1,nI x11),(0,nI x5),(2,nI i2),(3,.bool (i3))]∧St w0 F0 (HeapP z31 z32 s142::BlkP z30 66 #[nP z31 0,nP z33 0,.slice p46 L22.length c47,.slice p50 L23.length c51]::RHeapP z33 z34 z35 z36 z37 s143::RowP (.slice p46 L22.length c47) L22::RowP (.slice p50 L23.length c51) L23::ps) wI∧WakeRegs.j2 i2 i3 k x5 x11 L22 L23 x75 s142 s143=some r0) ?_ ?_
   rotate_left
   · rintro a145 w146 ⟨s142,s143,hF147,hS148,hm149⟩
     clear hF141 hS139 hm136
     unfold WakeRegs.j2 at hm149
     refine thenN (wp_seq (wp_seq (wp_region_lit ?_)))
     refine ev_runs 1 hF147 (l':=[(63,.bool (i3)),(10,nI x75),(9,nP z30 0),(1,nI x11),(0,nI x5),(2,nI i2),(3,.bool (i3))]) (w':=w146) (by kernel_rfl) ?_
     intro a152 hF151; clear hF147
     refine wpList_nil (thenN ?_)
     refine joinQ (fun aI wI=>∃ (s153:HSt) (y154:Bool),Fr 137 aI [(10,nI x75),(9,nP z30 0),(1,nI x11),(0,nI x5),(2,nI i2),(3,.bool (y154))]∧St w0 F0 (HeapP z31 z32 s153::BlkP z30 66 #[nP z31 0,nP z33 0,.slice p46 L22.length c47,.slice p50 L23.length c51]::RHeapP z33 z34 z35 z36 z37 s143::RowP (.slice p46 L22.length c47) L22::RowP (.slice p50 L23.length c51) L23::ps) wI∧WakeRegs.j3 i2 k x5 x11 L22 L23 x75 s143 s153 y154=some r0) ?_ ?_
     rotate_left
     · rintro a156 w157 ⟨s153,y154,hF158,hS159,hm160⟩
       clear hF151 hS148 hm149
       unfold WakeRegs.j3 at hm160
       refine thenN (wp_seq (wp_region_lit ?_))
       refine ev_runs 3 hF158 (l':=[(72,nP z30 0),(71,nP z30 0),(70,nP z30 0),(10,nI x75),(9,nP z30 0),(1,nI x11),(0,nI x5),(2,nI i2),(3,.bool (y154))]) (w':=w157) (by kernel_rfl) ?_
       intro a163 hF162; clear hF158
       refine ev_one (nP z31 0) w157 hF162 (by kernel_rfl) rfl (by kernel_rfl) (run_loadV rfl rfl (run_loadS rfl rfl (hS159.cell 1 rfl 0 rfl))) (l':=[(73,nP z31 0),(72,nP z30 0),(71,nP z30 0),(70,nP z30 0),(10,nI x75),(9,nP z30 0),(1,nI x11),(0,nI x5),(2,nI i2),(3,.bool (y154))]) (by kernel_rfl) ?_
       intro a165 hF164; clear hF162
       refine ev_runs 2 hF164 (l':=[(75,nI i2),(74,nI x75),(73,nP z31 0),(72,nP z30 0),(71,nP z30 0),(70,nP z30 0),(10,nI x75),(9,nP z30 0),(1,nI x11),(0,nI x5),(2,nI i2),(3,.bool (y154))]) (w':=w157) (by kernel_rfl) ?_
       intro a167 hF166; clear hF164
       refine ev_call 39 #[nP z31 0,nI x75,nI i2] hF166 rfl rfl (by kernel_rfl) rfl (by kernel_rfl) (fun w=>by kernel_rfl) ?_
       obtain ⟨x168,x169,s170,hx171,hm172⟩:=bind3E hm160; clear hm160
       refine (wake_Wake.ok hS159 hx171).mono ?_
       rintro _ w173 ⟨rfl,hS175⟩ a174 hF176; clear hF166 hS159
       refine ev_runK 5 hF176 [0,1,2,3,9,11,12] (l':=[(12,nI x169),(11,nI x168),(9,nP z30 0),(1,nI x11),(0,nI x5),(2,nI i2),(3,.bool (y154))]) (w':=w173) (by kernel_rfl) ?_
       intro a178 hF177; clear hF176
       refine wpList_nil (thenN (wp_seq (wp_region_lit ?_)))
       refine ev_runs 3 hF177 (l':=[(82,nP z30 0),(81,nP z30 0),(80,nP z30 0),(12,nI x169),(11,nI x168),(9,nP z30 0),(1,nI x11),(0,nI x5),(2,nI i2),(3,.bool (y154))]) (w':=w173) (by kernel_rfl) ?_
       intro a180 hF179; clear hF177
       refine ev_one (nP z31 0) w173 hF179 (by kernel_rfl) rfl (by kernel_rfl) (run_loadV rfl rfl (run_loadS rfl rfl (hS175.cell 1 rfl 0 rfl))) (l':=[(83,nP z31 0),(82,nP z30 0),(81,nP z30 0),(80,nP z30 0),(12,nI x169),(11,nI x168),(9,nP z30 0),(1,nI x11),(0,nI x5),(2,nI i2),(3,.bool (y154))]) (by kernel_rfl) ?_
       intro a182 hF181; clear hF179
       refine ev_runs 1 hF181 (l':=[(84,nI x168),(83,nP z31 0),(82,nP z30 0),(81,nP z30 0),(80,nP z30 0),(12,nI x169),(11,nI x168),(9,nP z30 0),(1,nI x11),(0,nI x5),(2,nI i2),(3,.bool (y154))]) (w':=w173) (by kernel_rfl) ?_
       intro a184 hF183; clear hF181
       refine ev_call 38 #[nP z31 0,nI x168] hF183 rfl rfl (by kernel_rfl) rfl (by kernel_rfl) (fun w=>by kernel_rfl) ?_
       obtain ⟨q185,x186,s187,hx188,hm189⟩:=bind3E hm172; clear hm172
       refine (view_Gor.ok hS175 hx188).mono ?_
       rintro _ w190 ⟨rfl,hS192⟩ a191 hF193; clear hF183 hS175
       refine ev_runs 4 hF193 (l':=[(13,nB w190),(87,nI x186),(86,.agg #[nI (q185.id),nI (q185.status),nI (q185.pc),nI (q185.a),nI (q185.b),nI (q185.c),nI (q185.d),nI (q185.e),nI (q185.f),nI (q185.sudogs)]),(79,.tuple #[.agg #[nI (q185.id),nI (q185.status),nI (q185.pc),nI (q185.a),nI (q185.b),nI (q185.c),nI (q185.d),nI (q185.e),nI (q185.f),nI (q185.sudogs)],nI x186]),(85,.tuple #[.agg #[nI (q185.id),nI (q185.status),nI (q185.pc),nI (q185.a),nI (q185.b),nI (q185.c),nI (q185.d),nI (q185.e),nI (q185.f),nI (q185.sudogs)],nI x186]),(84,nI x168),(83,nP z31 0),(82,nP z30 0),(81,nP z30 0),(80,nP z30 0),(12,nI x169),(11,nI x168),(9,nP z30 0),(1,nI x11),(0,nI x5),(2,nI i2),(3,.bool (y154))]) (w':=w190.alloc (.cells #[nI 0,nI 0,nI 0,nI 0,nI 0,nI 0,nI 0,nI 0,nI 0,nI 0] 70)) (by kernel_rfl) ?_
       intro a195 hF194; clear hF193
       have hS197:St w0 F0 (BlkP (w190.heap.size) 70 #[nI 0,nI 0,nI 0,nI 0,nI 0,nI 0,nI 0,nI 0,nI 0,nI 0]::HeapP z31 z32 s187::BlkP z30 66 #[nP z31 0,nP z33 0,.slice p46 L22.length c47,.slice p50 L23.length c51]::RHeapP z33 z34 z35 z36 z37 s143::RowP (.slice p46 L22.length c47) L22::RowP (.slice p50 L23.length c51) L23::ps) (w190.alloc (.cells #[nI 0,nI 0,nI 0,nI 0,nI 0,nI 0,nI 0,nI 0,nI 0,nI 0] 70)):=St.new hS192 #[nI 0,nI 0,nI 0,nI 0,nI 0,nI 0,nI 0,nI 0,nI 0,nI 0] 70
       clear hS192
       refine ev_store (.agg #[nI (q185.id),nI (q185.status),nI (q185.pc),nI (q185.a),nI (q185.b),nI (q185.c),nI (q185.d),nI (q185.e),nI (q185.f),nI (q185.sudogs)]) #[nI (q185.id),nI (q185.status),nI (q185.pc),nI (q185.a),nI (q185.b),nI (q185.c),nI (q185.d),nI (q185.e),nI (q185.f),nI (q185.sudogs)] hF194 (by kernel_rfl) rfl rfl rfl rfl (by kernel_rfl) hS197 (by kernel_rfl) (by kernel_rfl) (by kernel_rfl) (l':=[(13,nB w190),(87,nI x186),(86,.agg #[nI (q185.id),nI (q185.status),nI (q185.pc),nI (q185.a),nI (q185.b),nI (q185.c),nI (q185.d),nI (q185.e),nI (q185.f),nI (q185.sudogs)]),(79,.tuple #[.agg #[nI (q185.id),nI (q185.status),nI (q185.pc),nI (q185.a),nI (q185.b),nI (q185.c),nI (q185.d),nI (q185.e),nI (q185.f),nI (q185.sudogs)],nI x186]),(85,.tuple #[.agg #[nI (q185.id),nI (q185.status),nI (q185.pc),nI (q185.a),nI (q185.b),nI (q185.c),nI (q185.d),nI (q185.e),nI (q185.f),nI (q185.sudogs)],nI x186]),(84,nI x168),(83,nP z31 0),(82,nP z30 0),(81,nP z30 0),(80,nP z30 0),(12,nI x169),(11,nI x168),(9,nP z30 0),(1,nI x11),(0,nI x5),(2,nI i2),(3,.bool (y154))]) (by kernel_rfl) ?_
       intro w198 a199 hS200 hF201; clear hF194 hS197
       refine ev_runK 1 hF201 [0,1,2,3,9,11,12,13,14] (l':=[(14,nI x186),(13,nB w190),(12,nI x169),(11,nI x168),(9,nP z30 0),(1,nI x11),(0,nI x5),(2,nI i2),(3,.bool (y154))]) (w':=w198) (by kernel_rfl) ?_
       intro a203 hF202; clear hF201
       refine wpList_nil (thenN (wp_seq (wp_seq (wp_region_lit ?_))))
       refine ev_runs 1 hF202 (l':=[(15,nI 0),(14,nI x186),(13,nB w190),(12,nI x169),(11,nI x168),(9,nP z30 0),(1,nI x11),(0,nI x5),(2,nI i2),(3,.bool (y154))]) (w':=w198) (by kernel_rfl) ?_
       intro a205 hF204; clear hF202
       refine wpList_nil (thenN ?_)
       refine wp_block ?_
       refine wp_loop_ghost (fun kI aI wI=>∃ (x206:Int),Fr 137 aI [(15,nI x206),(14,nI x186),(13,nB w190),(12,nI x169),(11,nI x168),(9,nP z30 0),(1,nI x11),(0,nI x5),(2,nI i2),(3,.bool (y154))]∧St w0 F0 (BlkP (w190.heap.size) 70 #[nI (q185.id),nI (q185.status),nI (q185.pc),nI (q185.a),nI (q185.b),nI (q185.c),nI (q185.d),nI (q185.e),nI (q185.f),nI (q185.sudogs)]::HeapP z31 z32 s187::BlkP z30 66 #[nP z31 0,nP z33 0,.slice p46 L22.length c47,.slice p50 L23.length c51]::RHeapP z33 z34 z35 z36 z37 s143::RowP (.slice p46 L22.length c47) L22::RowP (.slice p50 L23.length c51) L23::ps) wI∧WakeRegs.l6 i2 k x5 x11 L22 L23 s143 y154 x168 x169 q185 x186 s187 kI x206=some r0) k ⟨0,hF204,hS200,hm189⟩ ?_
       rintro k207 a208 w209 ⟨x206,hF210,hS211,hm212⟩
       clear hF204 hS200 hm189
       rcases k207 with _ | k207
       · cases hm212
       have hm213:WakeRegs.l6b i2 k x5 x11 L22 L23 s143 y154 x168 x169 q185 x186 s187 (WakeRegs.l6 i2 k x5 x11 L22 L23 s143 y154 x168 x169 q185 x186 s187 k207) x206=some r0:=hm212
       clear hm212
       unfold WakeRegs.l6b at hm213
       refine wp_seq (wp_seq (wp_region_lit ?_))
       refine ev_runK 2 hF210 [0,1,2,3,9,11,12,13,14,15,89] (l':=[(89,.bool (decide (x206<6))),(15,nI x206),(14,nI x186),(13,nB w190),(12,nI x169),(11,nI x168),(9,nP z30 0),(1,nI x11),(0,nI x5),(2,nI i2),(3,.bool (y154))]) (w':=w209) (by kernel_rfl) ?_
       intro a215 hF214; clear hF210
       refine wpList_nil (thenN ?_)
       cases hc216:(decide (x206<6))
       case true =>
        rw [hc216] at hF214
        have hm217:=ifYes hc216 hm213; clear hm213
        refine ev_condT hF214 rfl rfl ?_
        refine wp_skip ?_
        have hF218:=hF214.keep [0,1,2,3,9,11,12,13,14,15]
        clear hF214
        refine thenN (wp_seq ?_)
        refine wp_block ?_
        refine wp_seq (wp_region_lit ?_)
        refine ev_runs 1 hF218 (l':=[(16,nI 0),(15,nI x206),(14,nI x186),(13,nB w190),(12,nI x169),(11,nI x168),(9,nP z30 0),(1,nI x11),(0,nI x5),(2,nI i2),(3,.bool (y154))]) (w':=w209) (by kernel_rfl) ?_
        intro a220 hF219; clear hF218
        refine wpList_nil (thenN (wp_seq (wp_seq (wp_region_lit ?_))))
        refine ev_runK 3 hF219 [0,1,2,3,9,11,12,13,14,15,16,94] (l':=[(94,.bool (x206 == x5)),(16,nI 0),(15,nI x206),(14,nI x186),(13,nB w190),(12,nI x169),(11,nI x168),(9,nP z30 0),(1,nI x11),(0,nI x5),(2,nI i2),(3,.bool (y154))]) (w':=w209) (by kernel_rfl) ?_
        intro a222 hF221; clear hF219
        refine wpList_nil (thenN ?_)
        refine joinQ (fun aI wI=>∃ (x223:Int),Fr 137 aI [(16,nI x223),(15,nI x206),(14,nI x186),(13,nB w190),(12,nI x169),(11,nI x168),(9,nP z30 0),(1,nI x11),(0,nI x5),(2,nI i2),(3,.bool (y154))]∧St w0 F0 (BlkP (w190.heap.size) 70 #[nI (q185.id),nI (q185.status),nI (q185.pc),nI (q185.a),nI (q185.b),nI (q185.c),nI (q185.d),nI (q185.e),nI (q185.f),nI (q185.sudogs)]::HeapP z31 z32 s187::BlkP z30 66 #[nP z31 0,nP z33 0,.slice p46 L22.length c47,.slice p50 L23.length c51]::RHeapP z33 z34 z35 z36 z37 s143::RowP (.slice p46 L22.length c47) L22::RowP (.slice p50 L23.length c51) L23::ps) wI∧WakeRegs.j7 q185 x206 (WakeRegs.l6 i2 k x5 x11 L22 L23 s143 y154 x168 x169 q185 x186 s187 k207) x223=some r0) ?_ ?_
        rotate_left
        · rintro a225 w226 ⟨x223,hF227,hS228,hm229⟩
          clear hF221 hS211 hm217
          unfold WakeRegs.j7 at hm229
          refine thenN (wp_seq (wp_region_lit ?_))
          refine ev_runs 2 hF227 (l':=[(97,nP (w190.heap.size) 3),(96,nI x206),(16,nI x223),(15,nI x206),(14,nI x186),(13,nB w190),(12,nI x169),(11,nI x168),(9,nP z30 0),(1,nI x11),(0,nI x5),(2,nI i2),(3,.bool (y154))]) (w':=w226) (by kernel_rfl) ?_
          intro a232 hF231; clear hF227
          obtain ⟨hc233,hm234⟩:=ifTE hm229; clear hm229
          refine ev_one (nP (w190.heap.size) ((3+x206.toNat))) w226 hF231 (by kernel_rfl) rfl (by kernel_rfl) (run_idxA (sz:=1) (q:=x206) rfl rfl rfl rfl rfl (inR_spec hc233).1 (inR_spec hc233).2 (by rw [Nat.mul_one]) _) (l':=[(98,nP (w190.heap.size) ((3+x206.toNat))),(97,nP (w190.heap.size) 3),(96,nI x206),(16,nI x223),(15,nI x206),(14,nI x186),(13,nB w190),(12,nI x169),(11,nI x168),(9,nP z30 0),(1,nI x11),(0,nI x5),(2,nI i2),(3,.bool (y154))]) (by kernel_rfl) ?_
          intro a236 hF235; clear hF231
          refine ev_one (nI (atI [q185.a,q185.b,q185.c,q185.d,q185.e,q185.f] x206)) w226 hF235 (by kernel_rfl) rfl (by kernel_rfl) (run_load1 rfl rfl rfl (St.arrAt hS228 0 rfl 3 [q185.a,q185.b,q185.c,q185.d,q185.e,q185.f] rfl hc233)) (l':=[(99,nI (atI [q185.a,q185.b,q185.c,q185.d,q185.e,q185.f] x206)),(98,nP (w190.heap.size) ((3+x206.toNat))),(97,nP (w190.heap.size) 3),(96,nI x206),(16,nI x223),(15,nI x206),(14,nI x186),(13,nB w190),(12,nI x169),(11,nI x168),(9,nP z30 0),(1,nI x11),(0,nI x5),(2,nI i2),(3,.bool (y154))]) (by kernel_rfl) ?_
          intro a238 hF237; clear hF235
          refine ev_runK 2 hF237 [0,1,2,3,9,11,12,13,14,15,101] (l':=[(101,.bool ((atI [q185.a,q185.b,q185.c,q185.d,q185.e,q185.f] x206) != x223)),(15,nI x206),(14,nI x186),(13,nB w190),(12,nI x169),(11,nI x168),(9,nP z30 0),(1,nI x11),(0,nI x5),(2,nI i2),(3,.bool (y154))]) (w':=w226) (by kernel_rfl) ?_
          intro a240 hF239; clear hF237
          refine wpList_nil (thenN ?_)
          cases hc241:((atI [q185.a,q185.b,q185.c,q185.d,q185.e,q185.f] x206) != x223)
          case true =>
           rw [hc241] at hF239
           have hm242:=ifYes hc241 hm234; clear hm234
           refine ev_condT hF239 rfl rfl ?_
           refine wp_seq (wp_region_lit ?_)
           refine ev_runK 1 hF239 [8] (l':=[(8,.bool false)]) (w':=w226) (by kernel_rfl) ?_
           intro a244 hF243; clear hF239
           refine wpList_nil ?_
           have hS245:=hS228.drop.drop.drop.drop.drop.drop
           clear hS228
           refine thenN ?_
           refine wp_ret ?_
           refine blockR ?_
           refine thenR (thenR ?_)
           refine blockR ?_
           refine thenR ?_
           obtain rfl:=Option.some.inj hm242
           refine ev_ret hF243 [8] (.bool false) rfl rfl rfl ?_
           exact ⟨rfl,hS245⟩
          rw [hc241] at hF239
          have hm247:=ifNot hc241 hm234; clear hm234
          refine ev_condF hF239 rfl rfl ?_
          refine wp_skip ?_
          have hF248:=hF239.keep [0,1,2,3,9,11,12,13,14,15]
          clear hF239
          refine blockN ?_
          refine thenN (wp_region_lit ?_)
          refine ev_runK 3 hF248 [0,1,2,3,9,11,12,13,14,15] (l':=[(15,nI (IntKind.i64.wrap (x206+1))),(14,nI x186),(13,nB w190),(12,nI x169),(11,nI x168),(9,nP z30 0),(1,nI x11),(0,nI x5),(2,nI i2),(3,.bool (y154))]) (w':=w226) (by kernel_rfl) ?_
          intro a250 hF249; clear hF248
          refine wpList_nil ?_
          exact thenN ⟨k207,Nat.lt_succ_self _,IntKind.i64.wrap (x206+1),hF249,hS228,hm247⟩
        · skip
          cases hc251:(x206 == x5)
          case true =>
           rw [hc251] at hF221
           have hm252:=ifYes hc251 hm217; clear hm217
           refine ev_condT hF221 rfl rfl ?_
           refine wp_region_lit ?_
           refine ev_runK 2 hF221 [0,1,2,3,9,11,12,13,14,15,16] (l':=[(16,nI i2),(15,nI x206),(14,nI x186),(13,nB w190),(12,nI x169),(11,nI x168),(9,nP z30 0),(1,nI x11),(0,nI x5),(2,nI i2),(3,.bool (y154))]) (w':=w209) (by kernel_rfl) ?_
           intro a254 hF253; clear hF221
           refine wpList_nil ?_
           exact thenN ⟨i2,hF253,hS211,hm252⟩
          rw [hc251] at hF221
          have hm255:=ifNot hc251 hm217; clear hm217
          refine ev_condF hF221 rfl rfl ?_
          refine wp_skip ?_
          have hF256:=hF221.keep [0,1,2,3,9,11,12,13,14,15,16]
          clear hF221
          exact thenN ⟨0,hF256,hS211,hm255⟩
       rw [hc216] at hF214
       have hm257:=ifNot hc216 hm213; clear hm213
       refine ev_condF hF214 rfl rfl ?_
       refine wp_exit ?_
       refine thenE ?_
       refine thenE ?_
       refine blockE ?_
       refine thenN (wp_seq ?_)
       refine joinQ (fun aI wI=>∃ (y258:Bool),Fr 137 aI [(8,.bool (y258))]∧St w0 F0 (ps) wI∧WakeRegs.j8 y258=some r0) ?_ ?_
       rotate_left
       · rintro a260 w261 ⟨y258,hF262,hS263,hm264⟩
         clear hF214 hS211 hm257
         unfold WakeRegs.j8 at hm264
         refine thenN ?_
         refine wp_ret ?_
         obtain rfl:=Option.some.inj hm264
         refine ev_ret hF262 [8] (.bool (y258)) rfl rfl rfl ?_
         exact ⟨rfl,hS263⟩
       · skip
         have hS267:=hS211.pick2.pick1
         clear hS211
         have hS268:=hS267.drew; clear hS267
         refine any_start (fun wS=>∃ qs,St w0 F0 (BlkP (w190.heap.size) 70 #[nI (q185.id),nI (q185.status),nI (q185.pc),nI (q185.a),nI (q185.b),nI (q185.c),nI (q185.d),nI (q185.e),nI (q185.f),nI (q185.sudogs)]::BlkP z30 66 #[nP z31 0,nP z33 0,.slice p46 L22.length c47,.slice p50 L23.length c51]::qs) wS) 36 #[false,false,false,false,false,false,false,false,false,false,false,false,false,false,false,false,false,false,false,false,false,false,false,false,false,false,false,false,false,false,false,false,false,false,false,false] (by kernel_rfl) (by kernel_rfl) (by kernel_rfl) ?_
         refine any_many 3 [(0,some (nI x169)),(1,some (.bool (x169 == 0))),(2,some (.bool (x169 == 0)))] [1,3,8,9,11,13,14,104,105,106,107,108,109,110,111,112,113,114,115,116,117,118,119,120,121,122,123,124,125,126,127,128,129,130,131,132,133,134,135,136] #[true,true,true,false,false,false,false,false,false,false,false,false,false,false,false,false,false,false,false,false,false,false,false,false,false,false,false,false,false,false,false,false,false,false,false,false] (by rfl) hF214 (by kernel_rfl) (by kernel_rfl) (by exact ⟨fun wS hw=>by kernel_rfl,fun wS hw=>by kernel_rfl,fun wS hw=>by kernel_rfl,trivial⟩) (fun _ _ _ _ _ h=>h) ⟨_,hS268⟩ (l':=[(104,.bool (x169 == 0)),(14,nI x186),(13,nB w190),(11,nI x168),(9,nP z30 0),(1,nI x11),(3,.bool (y154))]) (by kernel_rfl) ?_
         intro a270 hF269; clear hF214
         cases hc271:(x169 == 0)
         case true =>
          rw [hc271] at hF269
          have hm272:=ifYes hc271 hm257; clear hm257
          refine any_many 4 [(3,some (nI x186)),(4,some (.bool (x186 == 0))),(5,some (.bool (x186 == 0))),(6,some (.bool (x186 == 0)))] [1,3,8,9,11,13,108,109,110,111,112,113,114,115,116,117,118,119,120,121,122,123,124,125,126,127,128,129,130,131,132,133,134,135,136] #[true,true,true,true,true,true,true,false,false,false,false,false,false,false,false,false,false,false,false,false,false,false,false,false,false,false,false,false,false,false,false,false,false,false,false,false] (by rfl) hF269 (by kernel_rfl) (by kernel_rfl) (by exact ⟨fun wS hw=>by kernel_rfl,fun wS hw=>by kernel_rfl,fun wS hw=>by kernel_rfl,fun wS hw=>by kernel_rfl,trivial⟩) (fun _ _ _ _ _ h=>h) ⟨_,hS268⟩ (l':=[(108,.bool (x186 == 0)),(13,nB w190),(11,nI x168),(9,nP z30 0),(1,nI x11),(3,.bool (y154))]) (by kernel_rfl) ?_
          intro a274 hF273; clear hF269
          cases hc275:(x186 == 0)
          case true =>
           rw [hc275] at hF273
           have hm276:=ifYes hc275 hm272; clear hm272
           refine any_many 6 [(7,some (nP (w190.heap.size) 2)),(8,some (nI (q185.pc))),(9,some (nI x11)),(10,some (.bool (q185.pc == x11))),(11,some (.bool (q185.pc == x11))),(12,some (.bool (q185.pc == x11)))] [3,8,9,11,114,115,116,117,118,119,120,121,122,123,124,125,126,127,128,129,130,131,132,133,134,135,136] #[true,true,true,true,true,true,true,true,true,true,true,true,true,false,false,false,false,false,false,false,false,false,false,false,false,false,false,false,false,false,false,false,false,false,false,false] (by rfl) hF273 (by kernel_rfl) (by kernel_rfl) (by exact ⟨fun wS hw=>by kernel_rfl,fun wS hw=>hw.elim fun qs hw=>run_loadV rfl rfl (run_loadS rfl rfl (hw.cell 0 rfl 2 rfl)),fun wS hw=>by kernel_rfl,fun wS hw=>by kernel_rfl,fun wS hw=>by kernel_rfl,fun wS hw=>by kernel_rfl,trivial⟩) (fun _ _ _ _ _ h=>h) ⟨_,hS268⟩ (l':=[(114,.bool (q185.pc == x11)),(11,nI x168),(9,nP z30 0),(3,.bool (y154))]) (by kernel_rfl) ?_
           intro a278 hF277; clear hF273
           cases hc279:(q185.pc == x11)
           case true =>
            rw [hc279] at hF277
            have hm280:=ifYes hc279 hm276; clear hm276
            refine any_many 7 [(13,some (nP z30 0)),(14,some (nP z30 0)),(15,some (nP z30 0)),(16,some (nP z31 0)),(17,some (nI x168)),(20,some (.bool (y154))),(21,some (.bool (!(y154))))] [8,9,114,118,119,120,121,123,124,125,126,127,128,129,130,131,132,133,134,135,136] #[true,true,true,true,true,true,true,true,true,true,true,true,true,true,true,true,true,true,false,false,true,true,false,false,false,false,false,false,false,false,false,false,false,false,false,false] (by rfl) hF277 (by kernel_rfl) (by kernel_rfl) (by exact ⟨fun wS hw=>by kernel_rfl,fun wS hw=>by kernel_rfl,fun wS hw=>by kernel_rfl,fun wS hw=>hw.elim fun qs hw=>run_loadV rfl rfl (run_loadS rfl rfl (hw.cell 1 rfl 0 rfl)),fun wS hw=>by kernel_rfl,fun wS hw=>by kernel_rfl,fun wS hw=>by kernel_rfl,trivial⟩) (fun _ _ _ _ _ h=>h) ⟨_,hS268⟩ (l':=[(123,.bool (!(y154))),(119,nI x168),(118,nP z31 0),(114,.bool true),(9,nP z30 0)]) (by kernel_rfl) ?_
            intro a282 hF281; clear hF277
            have hS283:=hS268.pick2
            clear hS268
            refine any_call 18 #[true,true,true,true,true,true,true,true,true,true,true,true,true,true,true,true,true,true,true,false,true,true,false,false,false,false,false,false,false,false,false,false,false,false,false,false] 46 #[nP z31 0,nI x168] hF281 rfl (by kernel_rfl) rfl rfl (by kernel_rfl) rfl (by kernel_rfl) (fun w=>by kernel_rfl) (by kernel_rfl) ?_
            obtain ⟨x284,hx285,hm286⟩:=bind1E hm280; clear hm280
            refine (p_Colour hS283 hx285).mono ?_
            rintro _ w287 ⟨rfl,hS289⟩; clear hS283
            refine ⟨⟨_,hS289.pick2.pick2⟩,?_⟩
            intro a288 hF290; clear hF281
            refine any_many 4 [(19,some (.bool (x284 == 0))),(22,some (.bool ((x284 == 0) == (!(y154))))),(23,some (.bool ((x284 == 0) == (!(y154))))),(24,some (.bool ((x284 == 0) == (!(y154)))))] [8,9,126,127,128,129,130,131,132,133,134,135,136] #[true,true,true,true,true,true,true,true,true,true,true,true,true,true,true,true,true,true,true,true,true,true,true,true,true,false,false,false,false,false,false,false,false,false,false,false] (by rfl) hF290 (by kernel_rfl) (by kernel_rfl) (by exact ⟨fun wS hw=>by kernel_rfl,fun wS hw=>by kernel_rfl,fun wS hw=>by kernel_rfl,fun wS hw=>by kernel_rfl,trivial⟩) (fun _ _ _ _ _ h=>h) ⟨_,hS289.pick2.pick2⟩ (l':=[(126,.bool ((x284 == 0) == (!(y154)))),(9,nP z30 0)]) (by kernel_rfl) ?_
            intro a292 hF291; clear hF290
            cases hc293:((x284 == 0) == (!(y154)))
            case true =>
             rw [hc293] at hF291
             have hm294:=ifYes hc293 hm286; clear hm286
             refine any_many 5 [(25,some (nP z30 0)),(26,some (nP z30 0)),(27,some (nP z30 0)),(28,some (nP z31 0)),(29,some (nP z30 0))] [8,126,130,131,132,133,134,135,136] #[true,true,true,true,true,true,true,true,true,true,true,true,true,true,true,true,true,true,true,true,true,true,true,true,true,true,true,true,true,true,false,false,false,false,false,false] (by rfl) hF291 (by kernel_rfl) (by kernel_rfl) (by exact ⟨fun wS hw=>by kernel_rfl,fun wS hw=>by kernel_rfl,fun wS hw=>by kernel_rfl,fun wS hw=>hw.elim fun qs hw=>run_loadV rfl rfl (run_loadS rfl rfl (hw.cell 1 rfl 0 rfl)),fun wS hw=>by kernel_rfl,trivial⟩) (fun _ _ _ _ _ h=>h) ⟨_,hS289.pick2.pick2⟩ (l':=[(131,nP z30 0),(130,nP z31 0),(126,.bool true)]) (by kernel_rfl) ?_
             intro a296 hF295; clear hF291
             have hS297:=hS289.pick5.pick5.pick5.pick3.pick5
             clear hS289
             refine any_call 30 #[true,true,true,true,true,true,true,true,true,true,true,true,true,true,true,true,true,true,true,true,true,true,true,true,true,true,true,true,true,true,true,false,false,false,false,false] 44 #[nP z30 0,nI 0] hF295 rfl (by kernel_rfl) rfl rfl (by kernel_rfl) rfl (by kernel_rfl) (fun w=>by kernel_rfl) (by kernel_rfl) ?_
             obtain ⟨x298,s299,s300,hx301,hm302⟩:=bind3E hm294; clear hm294
             refine (law14_ch.ok hS297 hx301).mono ?_
             rintro _ w303 ⟨rfl,hS305⟩; clear hS297
             refine ⟨⟨_,hS305.pick5⟩,?_⟩
             intro a304 hF306; clear hF295
             have hS307:=hS305.pick1
             clear hS305
             refine any_call 31 #[true,true,true,true,true,true,true,true,true,true,true,true,true,true,true,true,true,true,true,true,true,true,true,true,true,true,true,true,true,true,true,true,false,false,false,false] 34 #[nP z31 0,nI x298,.bool false] hF306 rfl (by kernel_rfl) rfl rfl (by kernel_rfl) rfl (by kernel_rfl) (fun w=>by kernel_rfl) (by kernel_rfl) ?_
             obtain ⟨L308,s309,hx310,hm311⟩:=bind2E hm302; clear hm302
             refine (list_All.ok hS307 hx310).mono ?_
             rintro _ w312 ⟨z316,rfl,hS314⟩; clear hS307
             obtain ⟨hl321,p318,c319,rfl,hp320⟩:=St.shape hS314 1 rfl
             refine ⟨⟨_,hS314.pick2.pick6⟩,?_⟩
             intro a313 hF315; clear hF306
             refine any_many 4 [(32,some (nI ((L308.length:Int)))),(33,some (.bool ((L308.length:Int) == 0))),(34,some (.bool ((L308.length:Int) == 0))),(35,some (.bool ((L308.length:Int) == 0)))] [8] #[true,true,true,true,true,true,true,true,true,true,true,true,true,true,true,true,true,true,true,true,true,true,true,true,true,true,true,true,true,true,true,true,true,true,true,true] (by rfl) hF315 (by kernel_rfl) (by kernel_rfl) (by exact ⟨fun wS hw=>by kernel_rfl,fun wS hw=>by kernel_rfl,fun wS hw=>by kernel_rfl,fun wS hw=>by kernel_rfl,trivial⟩) (fun _ _ _ _ _ h=>h) ⟨_,hS314.pick2.pick6⟩ (l':=[(8,.bool ((L308.length:Int) == 0))]) (by kernel_rfl) ?_
             intro a323 hF322; clear hF315
             refine any_done (by kernel_rfl) ?_
             have hS324:=hS314.drop.drop.drop.drop.drop.drop.drop
             clear hS314
             exact thenN ⟨(L308.length:Int) == 0,hF322,hS324,hm311⟩
            rw [hc293] at hF291
            have hm325:=ifNot hc293 hm286; clear hm286
            refine any_many 11 [(25,none),(26,none),(27,none),(28,none),(29,none),(30,none),(31,none),(32,none),(33,none),(34,some (.bool false)),(35,some (.bool false))] [8] #[true,true,true,true,true,true,true,true,true,true,true,true,true,true,true,true,true,true,true,true,true,true,true,true,true,true,true,true,true,true,true,true,true,true,true,true] (by rfl) hF291 (by kernel_rfl) (by kernel_rfl) (by exact (And.intro trivial (And.intro trivial (And.intro trivial (And.intro trivial (And.intro trivial (And.intro trivial (And.intro trivial (And.intro trivial (And.intro trivial (And.intro (fun wS hw=>by kernel_rfl) (And.intro (fun wS hw=>by kernel_rfl) trivial)))))))))))) (fun _ _ _ _ _ h=>h) ⟨_,hS289.pick2.pick2⟩ (l':=[(8,.bool false)]) (by kernel_rfl) ?_
            intro a327 hF326; clear hF291
            refine any_done (by kernel_rfl) ?_
            have hS328:=hS289.drop.drop.drop.drop.drop.drop
            clear hS289
            exact thenN ⟨false,hF326,hS328,hm325⟩
           rw [hc279] at hF277
           have hm329:=ifNot hc279 hm276; clear hm276
           refine any_many 23 [(13,none),(14,none),(15,none),(16,none),(17,none),(18,none),(19,none),(20,none),(21,none),(22,none),(23,some (.bool false)),(24,some (.bool false)),(25,none),(26,none),(27,none),(28,none),(29,none),(30,none),(31,none),(32,none),(33,none),(34,some (.bool false)),(35,some (.bool false))] [8] #[true,true,true,true,true,true,true,true,true,true,true,true,true,true,true,true,true,true,true,true,true,true,true,true,true,true,true,true,true,true,true,true,true,true,true,true] (by rfl) hF277 (by kernel_rfl) (by kernel_rfl) (by exact (And.intro trivial (And.intro trivial (And.intro trivial (And.intro trivial (And.intro trivial (And.intro trivial (And.intro trivial (And.intro trivial (And.intro trivial (And.intro trivial (And.intro (fun wS hw=>by kernel_rfl) (And.intro (fun wS hw=>by kernel_rfl) (And.intro trivial (And.intro trivial (And.intro trivial (And.intro trivial (And.intro trivial (And.intro trivial (And.intro trivial (And.intro trivial (And.intro trivial (And.intro (fun wS hw=>by kernel_rfl) (And.intro (fun wS hw=>by kernel_rfl) trivial)))))))))))))))))))))))) (fun _ _ _ _ _ h=>h) ⟨_,hS268⟩ (l':=[(8,.bool false)]) (by kernel_rfl) ?_
           intro a331 hF330; clear hF277
           refine any_done (by kernel_rfl) ?_
           have hS332:=hS268.drop.drop.drop.drop.drop.drop
           clear hS268
           exact thenN ⟨false,hF330,hS332,hm329⟩
          rw [hc275] at hF273
          have hm333:=ifNot hc275 hm272; clear hm272
          refine any_many 29 [(7,none),(8,none),(9,none),(10,none),(11,some (.bool false)),(12,some (.bool false)),(13,none),(14,none),(15,none),(16,none),(17,none),(18,none),(19,none),(20,none),(21,none),(22,none),(23,some (.bool false)),(24,some (.bool false)),(25,none),(26,none),(27,none),(28,none),(29,none),(30,none),(31,none),(32,none),(33,none),(34,some (.bool false)),(35,some (.bool false))] [8] #[true,true,true,true,true,true,true,true,true,true,true,true,true,true,true,true,true,true,true,true,true,true,true,true,true,true,true,true,true,true,true,true,true,true,true,true] (by rfl) hF273 (by kernel_rfl) (by kernel_rfl) (by exact (And.intro trivial (And.intro trivial (And.intro trivial (And.intro trivial (And.intro (fun wS hw=>by kernel_rfl) (And.intro (fun wS hw=>by kernel_rfl) (And.intro trivial (And.intro trivial (And.intro trivial (And.intro trivial (And.intro trivial (And.intro trivial (And.intro trivial (And.intro trivial (And.intro trivial (And.intro trivial (And.intro (fun wS hw=>by kernel_rfl) (And.intro (fun wS hw=>by kernel_rfl) (And.intro trivial (And.intro trivial (And.intro trivial (And.intro trivial (And.intro trivial (And.intro trivial (And.intro trivial (And.intro trivial (And.intro trivial (And.intro (fun wS hw=>by kernel_rfl) (And.intro (fun wS hw=>by kernel_rfl) trivial)))))))))))))))))))))))))))))) (fun _ _ _ _ _ h=>h) ⟨_,hS268⟩ (l':=[(8,.bool false)]) (by kernel_rfl) ?_
          intro a335 hF334; clear hF273
          refine any_done (by kernel_rfl) ?_
          have hS336:=hS268.drop.drop.drop.drop.drop.drop
          clear hS268
          exact thenN ⟨false,hF334,hS336,hm333⟩
         rw [hc271] at hF269
         have hm337:=ifNot hc271 hm257; clear hm257
         refine any_many 33 [(3,none),(4,none),(5,some (.bool false)),(6,some (.bool false)),(7,none),(8,none),(9,none),(10,none),(11,some (.bool false)),(12,some (.bool false)),(13,none),(14,none),(15,none),(16,none),(17,none),(18,none),(19,none),(20,none),(21,none),(22,none),(23,some (.bool false)),(24,some (.bool false)),(25,none),(26,none),(27,none),(28,none),(29,none),(30,none),(31,none),(32,none),(33,none),(34,some (.bool false)),(35,some (.bool false))] [8] #[true,true,true,true,true,true,true,true,true,true,true,true,true,true,true,true,true,true,true,true,true,true,true,true,true,true,true,true,true,true,true,true,true,true,true,true] (by rfl) hF269 (by kernel_rfl) (by kernel_rfl) (by exact (And.intro trivial (And.intro trivial (And.intro (fun wS hw=>by kernel_rfl) (And.intro (fun wS hw=>by kernel_rfl) (And.intro trivial (And.intro trivial (And.intro trivial (And.intro trivial (And.intro (fun wS hw=>by kernel_rfl) (And.intro (fun wS hw=>by kernel_rfl) (And.intro trivial (And.intro trivial (And.intro trivial (And.intro trivial (And.intro trivial (And.intro trivial (And.intro trivial (And.intro trivial (And.intro trivial (And.intro trivial (And.intro (fun wS hw=>by kernel_rfl) (And.intro (fun wS hw=>by kernel_rfl) (And.intro trivial (And.intro trivial (And.intro trivial (And.intro trivial (And.intro trivial (And.intro trivial (And.intro trivial (And.intro trivial (And.intro trivial (And.intro (fun wS hw=>by kernel_rfl) (And.intro (fun wS hw=>by kernel_rfl) trivial)))))))))))))))))))))))))))))))))) (fun _ _ _ _ _ h=>h) ⟨_,hS268⟩ (l':=[(8,.bool false)]) (by kernel_rfl) ?_
         intro a339 hF338; clear hF269
         refine any_done (by kernel_rfl) ?_
         have hS340:=hS268.drop.drop.drop.drop.drop.drop
         clear hS268
         exact thenN ⟨false,hF338,hS340,hm337⟩
     · skip
       cases hc341:(i3)
       case true =>
        rw [hc341] at hF151
        have hm342:=ifYes hc341 hm149; clear hm149
        refine ev_condT hF151 rfl rfl ?_
        refine wp_region_lit ?_
        refine ev_runs 3 hF151 (l':=[(66,nP z30 0),(65,nP z30 0),(64,nP z30 0),(63,.bool true),(10,nI x75),(9,nP z30 0),(1,nI x11),(0,nI x5),(2,nI i2),(3,.bool true)]) (w':=w146) (by kernel_rfl) ?_
        intro a344 hF343; clear hF151
        refine ev_one (nP z31 0) w146 hF343 (by kernel_rfl) rfl (by kernel_rfl) (run_loadV rfl rfl (run_loadS rfl rfl (hS148.cell 1 rfl 0 rfl))) (l':=[(67,nP z31 0),(66,nP z30 0),(65,nP z30 0),(64,nP z30 0),(63,.bool true),(10,nI x75),(9,nP z30 0),(1,nI x11),(0,nI x5),(2,nI i2),(3,.bool true)]) (by kernel_rfl) ?_
        intro a346 hF345; clear hF343
        have hS348:St w0 F0 (RowP (.slice none 0 0) []::HeapP z31 z32 s142::BlkP z30 66 #[nP z31 0,nP z33 0,.slice p46 L22.length c47,.slice p50 L23.length c51]::RHeapP z33 z34 z35 z36 z37 s143::RowP (.slice p46 L22.length c47) L22::RowP (.slice p50 L23.length c51) L23::ps) w146:=St.nil hS148
        clear hS148
        have hS349:=hS348.pick1
        clear hS348
        refine ev_call 45 #[nP z31 0,.slice none 0 0] hF345 rfl rfl (by kernel_rfl) rfl (by kernel_rfl) (fun w=>by kernel_rfl) ?_
        obtain ⟨x350,s351,hx352,hm353⟩:=bind2E hm342; clear hm342
        refine (p_Begin hS349 hx352).mono ?_
        rintro _ w354 ⟨rfl,hS356⟩ a355 hF357; clear hF345 hS349
        refine wpList_nil ?_
        have hF358:=hF357.keep [0,1,2,3,9,10]
        clear hF357
        have hS359:=hS356.pick1.drop
        clear hS356
        exact thenN ⟨s351,true,hF358,hS359,hm353⟩
       rw [hc341] at hF151
       have hm360:=ifNot hc341 hm149; clear hm149
       refine ev_condF hF151 rfl rfl ?_
       refine wp_skip ?_
       have hF361:=hF151.keep [0,1,2,3,9,10]
       clear hF151
       exact thenN ⟨s142,false,hF361,hS148,hm360⟩
   · skip
     have hS362:=hS139.pick1
     clear hS139
     have hS363:=hS362.drew; clear hS362
     refine any_start (fun wS=>∃ qs,St w0 F0 (BlkP z30 66 #[nP z31 0,nP z33 0,.slice p46 L22.length c47,.slice p50 L23.length c51]::qs) wS) 9 #[false,false,false,false,false,false,false,false,false] (by kernel_rfl) (by kernel_rfl) (by kernel_rfl) ?_
     refine any_many 6 [(0,some (nP z30 0)),(1,some (nP z30 0)),(2,some (nP z30 0)),(3,some (nP z31 0)),(4,some (nP z30 0)),(6,some (nI x75))] [0,1,2,3,9,10,57,58,59,60,61] #[true,true,true,true,true,false,true,false,false] (by rfl) hF141 (by kernel_rfl) (by kernel_rfl) (by exact ⟨fun wS hw=>by kernel_rfl,fun wS hw=>by kernel_rfl,fun wS hw=>by kernel_rfl,fun wS hw=>hw.elim fun qs hw=>run_loadV rfl rfl (run_loadS rfl rfl (hw.cell 0 rfl 0 rfl)),fun wS hw=>by kernel_rfl,fun wS hw=>by kernel_rfl,trivial⟩) (fun _ _ _ _ _ h=>h) ⟨_,hS363⟩ (l':=[(60,nI x75),(58,nP z30 0),(57,nP z31 0),(10,nI x75),(9,nP z30 0),(1,nI x11),(0,nI x5),(2,nI i2),(3,.bool (i3))]) (by kernel_rfl) ?_
     intro a365 hF364; clear hF141
     refine any_two 5 7 (by kernel_rfl) ?_ ?_
     · skip
       refine op_call 5 #[true,true,true,true,true,true,true,false,false] 42 #[nP z30 0,nI 0] hF364 rfl rfl rfl (by kernel_rfl) rfl (by kernel_rfl) (fun w=>by kernel_rfl) (by kernel_rfl) ?_
       obtain ⟨x366,s367,s368,hx369,hm370⟩:=bind3E hm136; clear hm136
       refine (law14_gor.ok hS363 hx369).mono ?_
       rintro _ w371 ⟨rfl,hS373⟩; clear hS363
       refine ⟨⟨_,hS373⟩,?_⟩
       intro a372 hF374; clear hF364
       refine any_one 7 (by kernel_rfl) ?_
       have hS375:St w0 F0 (RowP (.slice (some ⟨w371.heap.size,0,none⟩) 1 1) [x75]::BlkP z30 66 #[nP z31 0,nP z33 0,.slice p46 L22.length c47,.slice p50 L23.length c51]::HeapP z31 z32 s367::RHeapP z33 z34 z35 z36 z37 s368::RowP (.slice p46 L22.length c47) L22::RowP (.slice p50 L23.length c51) L23::ps) (w371.alloc (.cells #[nI x75] 3)):=St.lit hS373 [x75] (by unfold maxLen; simp)
       clear hS373
       refine op_step 7 #[true,true,true,true,true,true,true,true,false] (.slice (some ⟨w371.heap.size,0,none⟩) 1 1) (w371.alloc (.cells #[nI x75] 3)) hF374 rfl (by kernel_rfl) rfl (by kernel_rfl) (by kernel_rfl) (l':=[(61,.slice (some ⟨w371.heap.size,0,none⟩) 1 1),(59,nI x366),(60,nI x75),(58,nP z30 0),(57,nP z31 0),(10,nI x75),(9,nP z30 0),(1,nI x11),(0,nI x5),(2,nI i2),(3,.bool (i3))]) (by kernel_rfl) ⟨_,hS375.pick1⟩ (by kernel_rfl) ?_
       intro a377 hF376; clear hF374
       have hS378:=hS375.pick2
       clear hS375
       refine any_call 8 #[true,true,true,true,true,true,true,true,true] 43 #[nP z31 0,nI x366,.slice (some ⟨w371.heap.size,0,none⟩) 1 1] hF376 rfl (by kernel_rfl) rfl rfl (by kernel_rfl) rfl (by kernel_rfl) (fun w=>by kernel_rfl) (by kernel_rfl) ?_
       obtain ⟨x379,s380,hx381,hm382⟩:=bind2E hm370; clear hm370
       refine (wake_Park.ok hS378 hx381).mono ?_
       rintro _ w383 ⟨rfl,hS385⟩; clear hS378
       refine ⟨⟨_,hS385.pick2⟩,?_⟩
       intro a384 hF386; clear hF376
       refine any_done (by kernel_rfl) ?_
       have hF387:=hF386.keep [0,1,2,3,9,10]
       clear hF386
       have hS388:=hS385.pick1.drop
       clear hS385
       exact thenN ⟨s380,s368,hF387,hS388,hm382⟩
     · skip
       have hS389:St w0 F0 (RowP (.slice (some ⟨(w137.drew).heap.size,0,none⟩) 1 1) [x75]::BlkP z30 66 #[nP z31 0,nP z33 0,.slice p46 L22.length c47,.slice p50 L23.length c51]::HeapP z31 z32 s134::RHeapP z33 z34 z35 z36 z37 s125::RowP (.slice p46 L22.length c47) L22::RowP (.slice p50 L23.length c51) L23::ps) ((w137.drew).alloc (.cells #[nI x75] 3)):=St.lit hS363 [x75] (by unfold maxLen; simp)
       clear hS363
       refine op_step 7 #[true,true,true,true,true,false,true,true,false] (.slice (some ⟨(w137.drew).heap.size,0,none⟩) 1 1) ((w137.drew).alloc (.cells #[nI x75] 3)) hF364 rfl (by kernel_rfl) rfl (by kernel_rfl) (by kernel_rfl) (l':=[(61,.slice (some ⟨(w137.drew).heap.size,0,none⟩) 1 1),(60,nI x75),(58,nP z30 0),(57,nP z31 0),(10,nI x75),(9,nP z30 0),(1,nI x11),(0,nI x5),(2,nI i2),(3,.bool (i3))]) (by kernel_rfl) ⟨_,hS389.pick1⟩ (by kernel_rfl) ?_
       intro a391 hF390; clear hF364
       have hS392:=hS389.pick5.pick5.pick5.pick5.pick5
       clear hS389
       refine any_call 5 #[true,true,true,true,true,true,true,true,false] 42 #[nP z30 0,nI 0] hF390 rfl (by kernel_rfl) rfl rfl (by kernel_rfl) rfl (by kernel_rfl) (fun w=>by kernel_rfl) (by kernel_rfl) ?_
       obtain ⟨x393,s394,s395,hx396,hm397⟩:=bind3E hm136; clear hm136
       refine (law14_gor.ok hS392 hx396).mono ?_
       rintro _ w398 ⟨rfl,hS400⟩; clear hS392
       refine ⟨⟨_,hS400⟩,?_⟩
       intro a399 hF401; clear hF390
       have hS402:=hS400.pick5.pick2
       clear hS400
       refine any_call 8 #[true,true,true,true,true,true,true,true,true] 43 #[nP z31 0,nI x393,.slice (some ⟨(w137.drew).heap.size,0,none⟩) 1 1] hF401 rfl (by kernel_rfl) rfl rfl (by kernel_rfl) rfl (by kernel_rfl) (fun w=>by kernel_rfl) (by kernel_rfl) ?_
       obtain ⟨x403,s404,hx405,hm406⟩:=bind2E hm397; clear hm397
       refine (wake_Park.ok hS402 hx405).mono ?_
       rintro _ w407 ⟨rfl,hS409⟩; clear hS402
       refine ⟨⟨_,hS409.pick2⟩,?_⟩
       intro a408 hF410; clear hF401
       refine any_done (by kernel_rfl) ?_
       have hF411:=hF410.keep [0,1,2,3,9,10]
       clear hF410
       have hS412:=hS409.pick1.drop
       clear hS409
       exact thenN ⟨s404,s395,hF411,hS412,hm406⟩
 · skip
   refine wp_region_lit ?_
   refine ev_call 36 #[] hF54 rfl rfl (by kernel_rfl) rfl (by kernel_rfl) (fun w=>by kernel_rfl) ?_
   obtain ⟨y413,hx414,hm415⟩:=bind1E hm25; clear hm25
   refine (law14_awake.ok hS56 hx414).mono ?_
   rintro _ w416 ⟨rfl,hS418⟩ a417 hF419; clear hF54 hS56
   refine ev_runs 2 hF419 (l':=[(27,.bool (!(y413))),(26,.bool (!(y413))),(25,.bool (y413)),(9,nP z30 0),(1,nI x11),(0,nI x5),(2,nI i2),(3,.bool (i3))]) (w':=w416) (by kernel_rfl) ?_
   intro a421 hF420; clear hF419
   cases hc422:(!(y413))
   case true =>
    rw [hc422] at hF420
    have hm423:=ifYes hc422 hm415; clear hm415
    refine ev_runK 3 hF420 [0,1,2,3,9,30] (l':=[(30,.bool true),(9,nP z30 0),(1,nI x11),(0,nI x5),(2,nI i2),(3,.bool (i3))]) (w':=w416) (by kernel_rfl) ?_
    intro a425 hF424; clear hF420
    refine wpList_nil ?_
    exact thenN ⟨true,hF424,hS418,hm423⟩
   rw [hc422] at hF420
   have hm426:=ifNot hc422 hm415; clear hm415
   refine ev_runK 3 hF420 [0,1,2,3,9,30] (l':=[(30,.bool false),(9,nP z30 0),(1,nI x11),(0,nI x5),(2,nI i2),(3,.bool (i3))]) (w':=w416) (by kernel_rfl) ?_
   intro a428 hF427; clear hF420
   refine wpList_nil ?_
   exact thenN ⟨false,hF427,hS418,hm426⟩
end Go.Proofs.YtaojmbkmicjecaaGreat
