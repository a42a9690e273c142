/- G14w G14 GWakeNowhere -/
import Derived.Test.YtaojmbkmicjecaaGreatKG14b
import Derived.Test.YtaojmbkmicjecaaGreatKGRef11
import Derived.Test.YtaojmbkmicjecaaGreatKGView
import Derived.Deep.LoopGhost
import Derived.KernelRfl
namespace Go.Proofs.YtaojmbkmicjecaaGreat
open Go.RowKit
set_option linter.unusedVariables false
def law14_wait.j7 (L68:List Int) (x72:Int) (rec75:List Int→HSt→HSt→Int→Option (Bool×HSt×HSt)) (x128:Int) (s139:HSt) (s140:HSt) (y141:Bool):Option (Bool×HSt×HSt):=(if (y141) then some (false,s140,s139) else bind1 (pushM L68 x128) fun L163=>rec75 L163 s139 s140 (IntKind.i64.wrap (x72+1)))
def law14_wait.j6 (Lc0:List Int) (Lg0:List Int) (i1:Int) (L2:List Int) (L3:List Bool) (i4:Int) (i5:Int) (k:Nat) (L68:List Int) (s70:HSt) (s71:HSt) (x72:Int) (rec75:List Int→HSt→HSt→Int→Option (Bool×HSt×HSt)) (x117:Int):Option (Bool×HSt×HSt):=bind3 (law14_alloc.m k s71 s70 Lc0 Lg0 3 7) fun x128 s129 s130=>bind2 (pPutSudog x128 (⟨i1,atI L2 x72,IntKind.i64.wrap (i4+(IntKind.i64.wrap (2 * x72))),-1,IntKind.i64.wrap (i5+x72),x117,-1⟩:Su) s129) fun x182 s183=>bind2 (ref11_PutSudog.m k s130 x128 (⟨i1,atI L2 x72,IntKind.i64.wrap (i4+(IntKind.i64.wrap (2 * x72))),-1,IntKind.i64.wrap (i5+x72),x117,-1⟩:Su)) fun x191 s192=>(if (x182 != x191) then law14_wait.j7 L68 x72 rec75 x128 s192 s183 true else bind2 (list_Push.m k s183 (atI L2 x72) (atB L3 x72) x128) fun x210 s211=>bind2 (ref11_Push.m k s192 (atI L2 x72) (atB L3 x72) x128) fun x219 s220=>law14_wait.j7 L68 x72 rec75 x128 s220 s211 (x210 != x219))
def law14_wait.l5b (Lc0:List Int) (Lg0:List Int) (i1:Int) (L2:List Int) (L3:List Bool) (i4:Int) (i5:Int) (k:Nat) (rec75:List Int→HSt→HSt→Int→Option (Bool×HSt×HSt)) (L68:List Int) (s70:HSt) (s71:HSt) (x72:Int):Option (Bool×HSt×HSt):=(if (decide (x72<(L2.length:Int))) then (if (inR x72 L2.length) then (if (inR x72 L3.length) then (if (atB L3 x72) then law14_wait.j6 Lc0 Lg0 i1 L2 L3 i4 i5 k L68 s70 s71 x72 rec75 (-1) else law14_wait.j6 Lc0 Lg0 i1 L2 L3 i4 i5 k L68 s70 s71 x72 rec75 x72) else none) else none) else bind2 (wake_Park.m k s71 i1 L68) fun x247 s248=>bind2 (ref11_Park.m k s70 i1 L68) fun x256 s257=>some (x247 == x256,s248,s257))
def law14_wait.l5 (Lc0:List Int) (Lg0:List Int) (i1:Int) (L2:List Int) (L3:List Bool) (i4:Int) (i5:Int) (k:Nat):Nat→List Int→HSt→HSt→Int→Option (Bool×HSt×HSt)
  | 0=>fun _ _ _ _=>none
  | kI+1=>law14_wait.l5b Lc0 Lg0 i1 L2 L3 i4 i5 k (law14_wait.l5 Lc0 Lg0 i1 L2 L3 i4 i5 k kI)
def law14_wait.m (k:Nat) (s0:HSt) (u0:HSt) (Lc0:List Int) (Lg0:List Int) (i1:Int) (L2:List Int) (L3:List Bool) (i4:Int) (i5:Int):Option (Bool×HSt×HSt):=bind3 (ref11_Gor.m k u0 i1) fun q26 x27 s28=>(if (q26.status != 0) then some (true,s0,s28) else law14_wait.l5 Lc0 Lg0 i1 L2 L3 i4 i5 k k [] s28 s0 0)
set_option maxRecDepth 100000 in
set_option maxHeartbeats 40000000 in
theorem law14_wait.ok {w0 w:World} {F0:List Nat} {ps:List Piece} {k:Nat} {bb0 b0 ab0 bw0 abw0 sb0 g0 cb0:Nat} {vc0 vg0:Value} {s0 u0:HSt} {Lc0 Lg0:List Int} {i1:Int} {v2:Value} {L2:List Int} {v3:Value} {L3:List Bool} {i4:Int} {i5:Int} {r0:Bool} {t0:HSt} {t1:HSt} (hS:St w0 F0 (BlkP bb0 66 #[nP b0 0,nP bw0 0,vc0,vg0]::HeapP b0 ab0 s0::RHeapP bw0 abw0 sb0 g0 cb0 u0::RowP (vc0) Lc0::RowP (vg0) Lg0::RowP (v2) L2::BoolsP (v3) L3::ps) w) (hm:law14_wait.m k s0 u0 Lc0 Lg0 i1 L2 L3 i4 i5=some (r0,t0,t1)) :
    Calls Tryz.prog 37 #[nP bb0 0,nI i1,v2,v3,nI i4,nI i5] w fun e w'=>e=.returned (.bool r0)∧St w0 F0 (BlkP bb0 66 #[nP b0 0,nP bw0 0,vc0,vg0]::HeapP b0 ab0 t0::RHeapP bw0 abw0 sb0 g0 cb0 t1::RowP (vc0) Lc0::RowP (vg0) Lg0::RowP (v2) L2::BoolsP (v3) L3::ps) w':=by
 refine ev_enterL 123 [nP bb0 0,nI i1,v2,v3,nI i4,nI i5] Tryz.func37 rfl rfl (by simp) ?_
 intro a hF
 have hF0:Fr 123 a [(0,nP bb0 0),(1,nI i1),(2,v2),(3,v3),(4,nI i4),(5,nI i5)]:=hF; clear hF
 unfold law14_wait.m at hm
 obtain ⟨hl4,p1,c2,rfl,hp3⟩:=St.shape hS 3 rfl
 obtain ⟨hl8,p5,c6,rfl,hp7⟩:=St.shape hS 4 rfl
 obtain ⟨hl12,p9,c10,rfl,hp11⟩:=St.shape hS 5 rfl
 obtain ⟨hl16,p13,c14,rfl,hp15⟩:=St.shapeB hS 6 rfl
 refine wp_seq (wp_region_lit ?_)
 refine ev_runK 1 hF0 [0,1,2,3,4,5] (l':=[(0,nP bb0 0),(1,nI i1),(2,.slice p9 L2.length c10),(3,.slice p13 L3.length c14),(4,nI i4),(5,nI i5)]) (w':=w) (by kernel_rfl) ?_
 intro a18 hF17; clear hF0
 refine wpList_nil (thenN (wp_seq (wp_region_lit ?_)))
 refine ev_runs 3 hF17 (l':=[(22,nP bb0 1),(21,nP bb0 0),(20,nP bb0 0),(0,nP bb0 0),(1,nI i1),(2,.slice p9 L2.length c10),(3,.slice p13 L3.length c14),(4,nI i4),(5,nI i5)]) (w':=w) (by kernel_rfl) ?_
 intro a20 hF19; clear hF17
 refine ev_one (nP bw0 0) w hF19 (by kernel_rfl) rfl (by kernel_rfl) (run_loadV rfl rfl (run_loadS rfl rfl (hS.cell 0 rfl 1 rfl))) (l':=[(23,nP bw0 0),(22,nP bb0 1),(21,nP bb0 0),(20,nP bb0 0),(0,nP bb0 0),(1,nI i1),(2,.slice p9 L2.length c10),(3,.slice p13 L3.length c14),(4,nI i4),(5,nI i5)]) (by kernel_rfl) ?_
 intro a22 hF21; clear hF19
 refine ev_runs 1 hF21 (l':=[(24,nI i1),(23,nP bw0 0),(22,nP bb0 1),(21,nP bb0 0),(20,nP bb0 0),(0,nP bb0 0),(1,nI i1),(2,.slice p9 L2.length c10),(3,.slice p13 L3.length c14),(4,nI i4),(5,nI i5)]) (w':=w) (by kernel_rfl) ?_
 intro a24 hF23; clear hF21
 have hS25:=hS.pick2
 refine ev_call 84 #[nP bw0 0,nI i1] hF23 rfl rfl (by kernel_rfl) rfl (by kernel_rfl) (fun w=>by kernel_rfl) ?_
 obtain ⟨q26,x27,s28,hx29,hm30⟩:=bind3E hm; clear hm
 refine (ref11_Gor.ok hS25 hx29).mono ?_
 rintro _ w31 ⟨rfl,hS33⟩ a32 hF34; clear hF23 hS25
 refine ev_runs 4 hF34 (l':=[(13,nB w31),(27,nI x27),(26,.agg #[nI (q26.id),nI (q26.status),nI (q26.pc),nI (q26.a),nI (q26.b),nI (q26.c),nI (q26.d),nI (q26.e),nI (q26.f),nI (q26.sudogs)]),(19,.tuple #[.agg #[nI (q26.id),nI (q26.status),nI (q26.pc),nI (q26.a),nI (q26.b),nI (q26.c),nI (q26.d),nI (q26.e),nI (q26.f),nI (q26.sudogs)],nI x27]),(25,.tuple #[.agg #[nI (q26.id),nI (q26.status),nI (q26.pc),nI (q26.a),nI (q26.b),nI (q26.c),nI (q26.d),nI (q26.e),nI (q26.f),nI (q26.sudogs)],nI x27]),(24,nI i1),(23,nP bw0 0),(22,nP bb0 1),(21,nP bb0 0),(20,nP bb0 0),(0,nP bb0 0),(1,nI i1),(2,.slice p9 L2.length c10),(3,.slice p13 L3.length c14),(4,nI i4),(5,nI i5)]) (w':=w31.alloc (.cells #[nI 0,nI 0,nI 0,nI 0,nI 0,nI 0,nI 0,nI 0,nI 0,nI 0] 70)) (by kernel_rfl) ?_
 intro a36 hF35; clear hF34
 have hS38:St w0 F0 (BlkP (w31.heap.size) 70 #[nI 0,nI 0,nI 0,nI 0,nI 0,nI 0,nI 0,nI 0,nI 0,nI 0]::RHeapP bw0 abw0 sb0 g0 cb0 s28::BlkP bb0 66 #[nP b0 0,nP bw0 0,.slice p1 Lc0.length c2,.slice p5 Lg0.length c6]::HeapP b0 ab0 s0::RowP (.slice p1 Lc0.length c2) Lc0::RowP (.slice p5 Lg0.length c6) Lg0::RowP (.slice p9 L2.length c10) L2::BoolsP (.slice p13 L3.length c14) L3::ps) (w31.alloc (.cells #[nI 0,nI 0,nI 0,nI 0,nI 0,nI 0,nI 0,nI 0,nI 0,nI 0] 70)):=St.new hS33 #[nI 0,nI 0,nI 0,nI 0,nI 0,nI 0,nI 0,nI 0,nI 0,nI 0] 70
 clear hS33
 refine ev_store (.agg #[nI (q26.id),nI (q26.status),nI (q26.pc),nI (q26.a),nI (q26.b),nI (q26.c),nI (q26.d),nI (q26.e),nI (q26.f),nI (q26.sudogs)]) #[nI (q26.id),nI (q26.status),nI (q26.pc),nI (q26.a),nI (q26.b),nI (q26.c),nI (q26.d),nI (q26.e),nI (q26.f),nI (q26.sudogs)] hF35 (by kernel_rfl) rfl rfl rfl rfl (by kernel_rfl) hS38 (by kernel_rfl) (by kernel_rfl) (by kernel_rfl) (l':=[(13,nB w31),(27,nI x27),(26,.agg #[nI (q26.id),nI (q26.status),nI (q26.pc),nI (q26.a),nI (q26.b),nI (q26.c),nI (q26.d),nI (q26.e),nI (q26.f),nI (q26.sudogs)]),(19,.tuple #[.agg #[nI (q26.id),nI (q26.status),nI (q26.pc),nI (q26.a),nI (q26.b),nI (q26.c),nI (q26.d),nI (q26.e),nI (q26.f),nI (q26.sudogs)],nI x27]),(25,.tuple #[.agg #[nI (q26.id),nI (q26.status),nI (q26.pc),nI (q26.a),nI (q26.b),nI (q26.c),nI (q26.d),nI (q26.e),nI (q26.f),nI (q26.sudogs)],nI x27]),(24,nI i1),(23,nP bw0 0),(22,nP bb0 1),(21,nP bb0 0),(20,nP bb0 0),(0,nP bb0 0),(1,nI i1),(2,.slice p9 L2.length c10),(3,.slice p13 L3.length c14),(4,nI i4),(5,nI i5)]) (by kernel_rfl) ?_
 intro w39 a40 hS41 hF42; clear hF35 hS38
 refine ev_runK 1 hF42 [0,1,2,3,4,5,13] (l':=[(13,nB w31),(0,nP bb0 0),(1,nI i1),(2,.slice p9 L2.length c10),(3,.slice p13 L3.length c14),(4,nI i4),(5,nI i5)]) (w':=w39) (by kernel_rfl) ?_
 intro a44 hF43; clear hF42
 refine wpList_nil (thenN (wp_seq (wp_seq (wp_region_lit ?_))))
 refine ev_runs 1 hF43 (l':=[(28,nP (w31.heap.size) 1),(13,nB w31),(0,nP bb0 0),(1,nI i1),(2,.slice p9 L2.length c10),(3,.slice p13 L3.length c14),(4,nI i4),(5,nI i5)]) (w':=w39) (by kernel_rfl) ?_
 intro a46 hF45; clear hF43
 refine ev_one (nI (q26.status)) w39 hF45 (by kernel_rfl) rfl (by kernel_rfl) (run_loadV rfl rfl (run_loadS rfl rfl (hS41.cell 0 rfl 1 rfl))) (l':=[(29,nI (q26.status)),(28,nP (w31.heap.size) 1),(13,nB w31),(0,nP bb0 0),(1,nI i1),(2,.slice p9 L2.length c10),(3,.slice p13 L3.length c14),(4,nI i4),(5,nI i5)]) (by kernel_rfl) ?_
 intro a48 hF47; clear hF45
 refine ev_runK 1 hF47 [0,1,2,3,4,5,30] (l':=[(30,.bool (q26.status != 0)),(0,nP bb0 0),(1,nI i1),(2,.slice p9 L2.length c10),(3,.slice p13 L3.length c14),(4,nI i4),(5,nI i5)]) (w':=w39) (by kernel_rfl) ?_
 intro a50 hF49; clear hF47
 refine wpList_nil ?_
 have hS51:=hS41.drop
 clear hS41
 refine thenN ?_
 cases hc52:(q26.status != 0)
 case true =>
  rw [hc52] at hF49
  have hm53:=ifYes hc52 hm30; clear hm30
  refine ev_condT hF49 rfl rfl ?_
  refine wp_seq (wp_region_lit ?_)
  refine ev_runK 1 hF49 [12] (l':=[(12,.bool true)]) (w':=w39) (by kernel_rfl) ?_
  intro a55 hF54; clear hF49
  refine wpList_nil (thenN ?_)
  refine wp_ret ?_
  refine thenR ?_
  have hS56:=hS51.pick6.pick6.pick6.pick6.pick4.pick6.pick6
  clear hS51
  simp only [Option.some.injEq,Prod.mk.injEq] at hm53
  obtain ⟨rfl,rfl,rfl⟩:=hm53
  refine ev_ret hF54 [12] (.bool true) rfl rfl rfl ?_
  exact ⟨rfl,hS56⟩
 rw [hc52] at hF49
 have hm60:=ifNot hc52 hm30; clear hm30
 refine ev_condF hF49 rfl rfl ?_
 refine wp_skip ?_
 have hF61:=hF49.keep [0,1,2,3,4,5]
 clear hF49
 refine thenN (wp_seq (wp_region_lit ?_))
 have hS63:St w0 F0 (RowP (.slice none 0 0) []::RHeapP bw0 abw0 sb0 g0 cb0 s28::BlkP bb0 66 #[nP b0 0,nP bw0 0,.slice p1 Lc0.length c2,.slice p5 Lg0.length c6]::HeapP b0 ab0 s0::RowP (.slice p1 Lc0.length c2) Lc0::RowP (.slice p5 Lg0.length c6) Lg0::RowP (.slice p9 L2.length c10) L2::BoolsP (.slice p13 L3.length c14) L3::ps) w39:=St.nil hS51
 clear hS51
 refine ev_runs 1 hF61 (l':=[(15,.slice none 0 0),(0,nP bb0 0),(1,nI i1),(2,.slice p9 L2.length c10),(3,.slice p13 L3.length c14),(4,nI i4),(5,nI i5)]) (w':=w39) (by kernel_rfl) ?_
 intro a65 hF64; clear hF61
 refine wpList_nil (thenN (wp_seq (wp_seq (wp_region_lit ?_))))
 refine ev_runs 1 hF64 (l':=[(16,nI 0),(15,.slice none 0 0),(0,nP bb0 0),(1,nI i1),(2,.slice p9 L2.length c10),(3,.slice p13 L3.length c14),(4,nI i4),(5,nI i5)]) (w':=w39) (by kernel_rfl) ?_
 intro a67 hF66; clear hF64
 refine wpList_nil (thenN ?_)
 refine wp_block ?_
 refine wp_loop_ghost (fun kI aI wI=>∃ (v69:Value) (L68:List Int) (s70:HSt) (s71:HSt) (x72:Int),Fr 123 aI [(16,nI x72),(15,v69),(0,nP bb0 0),(1,nI i1),(2,.slice p9 L2.length c10),(3,.slice p13 L3.length c14),(4,nI i4),(5,nI i5)]∧St w0 F0 (RowP (v69) L68::RHeapP bw0 abw0 sb0 g0 cb0 s70::BlkP bb0 66 #[nP b0 0,nP bw0 0,.slice p1 Lc0.length c2,.slice p5 Lg0.length c6]::HeapP b0 ab0 s71::RowP (.slice p1 Lc0.length c2) Lc0::RowP (.slice p5 Lg0.length c6) Lg0::RowP (.slice p9 L2.length c10) L2::BoolsP (.slice p13 L3.length c14) L3::ps) wI∧law14_wait.l5 Lc0 Lg0 i1 L2 L3 i4 i5 k kI L68 s70 s71 x72=some (r0,t0,t1)) k ⟨.slice none 0 0,[],s28,s0,0,hF66,hS63,hm60⟩ ?_
 rintro k73 a74 w75 ⟨v69,L68,s70,s71,x72,hF76,hS77,hm78⟩
 clear hF66 hS63 hm60
 rcases k73 with _ | k73
 · cases hm78
 have hm79:law14_wait.l5b Lc0 Lg0 i1 L2 L3 i4 i5 k (law14_wait.l5 Lc0 Lg0 i1 L2 L3 i4 i5 k k73) L68 s70 s71 x72=some (r0,t0,t1):=hm78
 clear hm78
 unfold law14_wait.l5b at hm79
 obtain ⟨hl83,p80,c81,rfl,hp82⟩:=St.shape hS77 0 rfl
 refine wp_seq (wp_seq (wp_region_lit ?_))
 refine ev_runK 4 hF76 [0,1,2,3,4,5,15,16,34] (l':=[(34,.bool (decide (x72<(L2.length:Int)))),(16,nI x72),(15,.slice p80 L68.length c81),(0,nP bb0 0),(1,nI i1),(2,.slice p9 L2.length c10),(3,.slice p13 L3.length c14),(4,nI i4),(5,nI i5)]) (w':=w75) (by kernel_rfl) ?_
 intro a85 hF84; clear hF76
 refine wpList_nil (thenN ?_)
 cases hc86:(decide (x72<(L2.length:Int)))
 case true =>
  rw [hc86] at hF84
  have hm87:=ifYes hc86 hm79; clear hm79
  refine ev_condT hF84 rfl rfl ?_
  refine wp_skip ?_
  have hF88:=hF84.keep [0,1,2,3,4,5,15,16]
  clear hF84
  refine thenN (wp_seq ?_)
  refine wp_block ?_
  refine wp_seq (wp_region_lit ?_)
  refine ev_runs 3 hF88 (l':=[(39,nI x72),(38,.slice p9 L2.length c10),(37,nI i1),(16,nI x72),(15,.slice p80 L68.length c81),(0,nP bb0 0),(1,nI i1),(2,.slice p9 L2.length c10),(3,.slice p13 L3.length c14),(4,nI i4),(5,nI i5)]) (w':=w75) (by kernel_rfl) ?_
  intro a90 hF89; clear hF88
  obtain ⟨hc91,hm92⟩:=ifTE hm87; clear hm87
  obtain ⟨g93,rfl⟩:=hp11.resolve_left (by have:=inR_spec hc91; omega)
  refine ev_one (nP g93 (x72.toNat)) w75 hF89 (by kernel_rfl) rfl (by kernel_rfl) (run_idx rfl rfl rfl rfl rfl (inR_spec hc91).1 (inR_spec hc91).2 _) (l':=[(40,nP g93 (x72.toNat)),(39,nI x72),(38,nS g93 L2 c10),(37,nI i1),(16,nI x72),(15,.slice p80 L68.length c81),(0,nP bb0 0),(1,nI i1),(2,nS g93 L2 c10),(3,.slice p13 L3.length c14),(4,nI i4),(5,nI i5)]) (by kernel_rfl) ?_
  intro a95 hF94; clear hF89
  refine ev_one (nI (atI L2 x72)) w75 hF94 (by kernel_rfl) rfl (by kernel_rfl) (run_load1 rfl rfl rfl (hS77.atI 6 rfl hc91)) (l':=[(41,nI (atI L2 x72)),(40,nP g93 (x72.toNat)),(39,nI x72),(38,nS g93 L2 c10),(37,nI i1),(16,nI x72),(15,.slice p80 L68.length c81),(0,nP bb0 0),(1,nI i1),(2,nS g93 L2 c10),(3,.slice p13 L3.length c14),(4,nI i4),(5,nI i5)]) (by kernel_rfl) ?_
  intro a97 hF96; clear hF94
  refine ev_runs 10 hF96 (l':=[(17,nB w75),(50,.agg #[nI i1,nI (atI L2 x72),nI (IntKind.i64.wrap (i4+(IntKind.i64.wrap (2 * x72)))),nI (-1),nI (IntKind.i64.wrap (i5+x72)),nI x72,nI (-1)]),(49,nI x72),(48,nI (IntKind.i64.wrap (i5+x72))),(47,nI x72),(46,nI i5),(45,nI (IntKind.i64.wrap (i4+(IntKind.i64.wrap (2 * x72))))),(44,nI (IntKind.i64.wrap (2 * x72))),(43,nI x72),(42,nI i4),(41,nI (atI L2 x72)),(40,nP g93 (x72.toNat)),(39,nI x72),(38,nS g93 L2 c10),(37,nI i1),(16,nI x72),(15,.slice p80 L68.length c81),(0,nP bb0 0),(1,nI i1),(2,nS g93 L2 c10),(3,.slice p13 L3.length c14),(4,nI i4),(5,nI i5)]) (w':=w75.alloc (.cells #[nI 0,nI 0,nI 0,nI 0,nI 0,nI 0,nI 0] 54)) (by kernel_rfl) ?_
  intro a99 hF98; clear hF96
  have hS101:St w0 F0 (BlkP (w75.heap.size) 54 #[nI 0,nI 0,nI 0,nI 0,nI 0,nI 0,nI 0]::RowP (.slice p80 L68.length c81) L68::RHeapP bw0 abw0 sb0 g0 cb0 s70::BlkP bb0 66 #[nP b0 0,nP bw0 0,.slice p1 Lc0.length c2,.slice p5 Lg0.length c6]::HeapP b0 ab0 s71::RowP (.slice p1 Lc0.length c2) Lc0::RowP (.slice p5 Lg0.length c6) Lg0::RowP (nS g93 L2 c10) L2::BoolsP (.slice p13 L3.length c14) L3::ps) (w75.alloc (.cells #[nI 0,nI 0,nI 0,nI 0,nI 0,nI 0,nI 0] 54)):=St.new hS77 #[nI 0,nI 0,nI 0,nI 0,nI 0,nI 0,nI 0] 54
  clear hS77
  refine ev_store (.agg #[nI i1,nI (atI L2 x72),nI (IntKind.i64.wrap (i4+(IntKind.i64.wrap (2 * x72)))),nI (-1),nI (IntKind.i64.wrap (i5+x72)),nI x72,nI (-1)]) #[nI i1,nI (atI L2 x72),nI (IntKind.i64.wrap (i4+(IntKind.i64.wrap (2 * x72)))),nI (-1),nI (IntKind.i64.wrap (i5+x72)),nI x72,nI (-1)] hF98 (by kernel_rfl) rfl rfl rfl rfl (by kernel_rfl) hS101 (by kernel_rfl) (by kernel_rfl) (by kernel_rfl) (l':=[(17,nB w75),(50,.agg #[nI i1,nI (atI L2 x72),nI (IntKind.i64.wrap (i4+(IntKind.i64.wrap (2 * x72)))),nI (-1),nI (IntKind.i64.wrap (i5+x72)),nI x72,nI (-1)]),(49,nI x72),(48,nI (IntKind.i64.wrap (i5+x72))),(47,nI x72),(46,nI i5),(45,nI (IntKind.i64.wrap (i4+(IntKind.i64.wrap (2 * x72))))),(44,nI (IntKind.i64.wrap (2 * x72))),(43,nI x72),(42,nI i4),(41,nI (atI L2 x72)),(40,nP g93 (x72.toNat)),(39,nI x72),(38,nS g93 L2 c10),(37,nI i1),(16,nI x72),(15,.slice p80 L68.length c81),(0,nP bb0 0),(1,nI i1),(2,nS g93 L2 c10),(3,.slice p13 L3.length c14),(4,nI i4),(5,nI i5)]) (by kernel_rfl) ?_
  intro w102 a103 hS104 hF105; clear hF98 hS101
  refine wpList_nil ?_
  have hF106:=hF105.keep [0,1,2,3,4,5,15,16,17]
  clear hF105
  refine thenN (wp_seq (wp_seq (wp_region_lit ?_)))
  refine ev_runs 2 hF106 (l':=[(52,nI x72),(51,.slice p13 L3.length c14),(17,nB w75),(16,nI x72),(15,.slice p80 L68.length c81),(0,nP bb0 0),(1,nI i1),(2,nS g93 L2 c10),(3,.slice p13 L3.length c14),(4,nI i4),(5,nI i5)]) (w':=w102) (by kernel_rfl) ?_
  intro a108 hF107; clear hF106
  obtain ⟨hc109,hm110⟩:=ifTE hm92; clear hm92
  obtain ⟨g111,rfl⟩:=hp15.resolve_left (by have:=inR_spec hc109; omega)
  refine ev_one (nP g111 (x72.toNat)) w102 hF107 (by kernel_rfl) rfl (by kernel_rfl) (run_idx rfl rfl rfl rfl rfl (inR_spec hc109).1 (inR_spec hc109).2 _) (l':=[(53,nP g111 (x72.toNat)),(52,nI x72),(51,.slice (some ⟨g111,0,none⟩) L3.length c14),(17,nB w75),(16,nI x72),(15,.slice p80 L68.length c81),(0,nP bb0 0),(1,nI i1),(2,nS g93 L2 c10),(3,.slice (some ⟨g111,0,none⟩) L3.length c14),(4,nI i4),(5,nI i5)]) (by kernel_rfl) ?_
  intro a113 hF112; clear hF107
  refine ev_one (.bool (atB L3 x72)) w102 hF112 (by kernel_rfl) rfl (by kernel_rfl) (run_loadB rfl rfl rfl (hS104.atB 8 rfl hc109)) (l':=[(54,.bool (atB L3 x72)),(53,nP g111 (x72.toNat)),(52,nI x72),(51,.slice (some ⟨g111,0,none⟩) L3.length c14),(17,nB w75),(16,nI x72),(15,.slice p80 L68.length c81),(0,nP bb0 0),(1,nI i1),(2,nS g93 L2 c10),(3,.slice (some ⟨g111,0,none⟩) L3.length c14),(4,nI i4),(5,nI i5)]) (by kernel_rfl) ?_
  intro a115 hF114; clear hF112
  refine wpList_nil ?_
  have hF116:=hF114.keep [0,1,2,3,4,5,15,16,17,54]
  clear hF114
  refine thenN ?_
  refine joinQ (fun aI wI=>∃ (x117:Int),Fr 123 aI [(17,nB w75),(16,nI x72),(15,.slice p80 L68.length c81),(0,nP bb0 0),(1,nI i1),(2,nS g93 L2 c10),(3,.slice (some ⟨g111,0,none⟩) L3.length c14),(4,nI i4),(5,nI i5)]∧St w0 F0 (BlkP (w75.heap.size) 54 #[nI i1,nI (atI L2 x72),nI (IntKind.i64.wrap (i4+(IntKind.i64.wrap (2 * x72)))),nI (-1),nI (IntKind.i64.wrap (i5+x72)),nI x117,nI (-1)]::RowP (.slice p80 L68.length c81) L68::RHeapP bw0 abw0 sb0 g0 cb0 s70::BlkP bb0 66 #[nP b0 0,nP bw0 0,.slice p1 Lc0.length c2,.slice p5 Lg0.length c6]::HeapP b0 ab0 s71::RowP (.slice p1 Lc0.length c2) Lc0::RowP (.slice p5 Lg0.length c6) Lg0::RowP (nS g93 L2 c10) L2::BoolsP (.slice (some ⟨g111,0,none⟩) L3.length c14) L3::ps) wI∧law14_wait.j6 Lc0 Lg0 i1 L2 L3 i4 i5 k L68 s70 s71 x72 (law14_wait.l5 Lc0 Lg0 i1 L2 L3 i4 i5 k k73) x117=some (r0,t0,t1)) ?_ ?_
  rotate_left
  · rintro a119 w120 ⟨x117,hF121,hS122,hm123⟩
    clear hF116 hS104 hm110
    unfold law14_wait.j6 at hm123
    refine thenN (wp_seq (wp_region_lit ?_))
    refine ev_runs 1 hF121 (l':=[(56,nP bb0 0),(17,nB w75),(16,nI x72),(15,.slice p80 L68.length c81),(0,nP bb0 0),(1,nI i1),(2,nS g93 L2 c10),(3,.slice (some ⟨g111,0,none⟩) L3.length c14),(4,nI i4),(5,nI i5)]) (w':=w120) (by kernel_rfl) ?_
    intro a126 hF125; clear hF121
    have hS127:=hS122.pick6.pick6.pick4.pick6.pick6
    clear hS122
    refine ev_call 40 #[nP bb0 0,nI 3,nI 7] hF125 rfl rfl (by kernel_rfl) rfl (by kernel_rfl) (fun w=>by kernel_rfl) ?_
    obtain ⟨x128,s129,s130,hx131,hm132⟩:=bind3E hm123; clear hm123
    refine (law14_alloc.ok hS127 hx131).mono ?_
    rintro _ w133 ⟨rfl,hS135⟩ a134 hF136; clear hF125 hS127
    refine ev_runK 1 hF136 [0,1,2,3,4,5,15,16,17,18] (l':=[(18,nI x128),(17,nB w75),(16,nI x72),(15,.slice p80 L68.length c81),(0,nP bb0 0),(1,nI i1),(2,nS g93 L2 c10),(3,.slice (some ⟨g111,0,none⟩) L3.length c14),(4,nI i4),(5,nI i5)]) (w':=w133) (by kernel_rfl) ?_
    intro a138 hF137; clear hF136
    refine wpList_nil (thenN (wp_seq (wp_seq ?_)))
    refine joinQ (fun aI wI=>∃ (s139:HSt) (s140:HSt) (y141:Bool),Fr 123 aI [(103,.bool (y141)),(18,nI x128),(16,nI x72),(15,.slice p80 L68.length c81),(0,nP bb0 0),(1,nI i1),(2,nS g93 L2 c10),(3,.slice (some ⟨g111,0,none⟩) L3.length c14),(4,nI i4),(5,nI i5)]∧St w0 F0 (RHeapP bw0 abw0 sb0 g0 cb0 s139::HeapP b0 ab0 s140::BlkP bb0 66 #[nP b0 0,nP bw0 0,.slice p1 Lc0.length c2,.slice p5 Lg0.length c6]::RowP (nS g93 L2 c10) L2::BoolsP (.slice (some ⟨g111,0,none⟩) L3.length c14) L3::RowP (.slice p1 Lc0.length c2) Lc0::RowP (.slice p5 Lg0.length c6) Lg0::RowP (.slice p80 L68.length c81) L68::ps) wI∧law14_wait.j7 L68 x72 (law14_wait.l5 Lc0 Lg0 i1 L2 L3 i4 i5 k k73) x128 s139 s140 y141=some (r0,t0,t1)) ?_ ?_
    rotate_left
    · rintro a143 w144 ⟨s139,s140,y141,hF145,hS146,hm147⟩
      clear hF137 hS135 hm132
      unfold law14_wait.j7 at hm147
      refine thenN ?_
      cases hc149:(y141)
      case true =>
       rw [hc149] at hF145
       have hm150:=ifYes hc149 hm147; clear hm147
       refine ev_condT hF145 rfl rfl ?_
       refine wp_seq (wp_region_lit ?_)
       refine ev_runK 1 hF145 [12] (l':=[(12,.bool false)]) (w':=w144) (by kernel_rfl) ?_
       intro a152 hF151; clear hF145
       refine wpList_nil ?_
       have hS153:=hS146.pick7.drop
       clear hS146
       refine thenN ?_
       refine wp_ret ?_
       refine thenR ?_
       refine blockR ?_
       refine thenR (thenR ?_)
       refine blockR ?_
       refine thenR ?_
       have hS154:=hS153.pick4.pick4.pick6.pick6.pick4.pick5.pick6
       clear hS153
       simp only [Option.some.injEq,Prod.mk.injEq] at hm150
       obtain ⟨rfl,rfl,rfl⟩:=hm150
       refine ev_ret hF151 [12] (.bool false) rfl rfl rfl ?_
       exact ⟨rfl,hS154⟩
      rw [hc149] at hF145
      have hm158:=ifNot hc149 hm147; clear hm147
      refine ev_condF hF145 rfl rfl ?_
      refine wp_skip ?_
      have hF159:=hF145.keep [0,1,2,3,4,5,15,16,18]
      clear hF145
      refine thenN (wp_region_lit ?_)
      refine ev_runs 3 hF159 (l':=[(106,.slice (some ⟨w144.heap.size,0,none⟩) 1 1),(105,nI x128),(104,.slice p80 L68.length c81),(18,nI x128),(16,nI x72),(15,.slice p80 L68.length c81),(0,nP bb0 0),(1,nI i1),(2,nS g93 L2 c10),(3,.slice (some ⟨g111,0,none⟩) L3.length c14),(4,nI i4),(5,nI i5)]) (w':=w144.alloc (.cells #[nI x128] 3)) (by kernel_rfl) ?_
      intro a161 hF160; clear hF159
      have hS162:=hS146.pick7
      clear hS146
      obtain ⟨L163,hx164,hm165⟩:=bind1E hm158; clear hm158
      refine ev_push 107 (.tmp 104) (.tmp 106) hF160 rfl rfl rfl rfl rfl rfl rfl rfl hS162 hx164 ?_
      intro g166 c167 w168 a169 hS170 hF171; clear hF160 hS162
      refine ev_runK 1 hF171 [0,1,2,3,4,5,15,16] (l':=[(15,nS g166 L163 c167),(16,nI x72),(0,nP bb0 0),(1,nI i1),(2,nS g93 L2 c10),(3,.slice (some ⟨g111,0,none⟩) L3.length c14),(4,nI i4),(5,nI i5)]) (w':=w168) (by kernel_rfl) ?_
      intro a173 hF172; clear hF171
      refine wpList_nil ?_
      refine blockN ?_
      refine thenN (wp_region_lit ?_)
      refine ev_runK 3 hF172 [0,1,2,3,4,5,15,16] (l':=[(16,nI (IntKind.i64.wrap (x72+1))),(15,nS g166 L163 c167),(0,nP bb0 0),(1,nI i1),(2,nS g93 L2 c10),(3,.slice (some ⟨g111,0,none⟩) L3.length c14),(4,nI i4),(5,nI i5)]) (w':=w168) (by kernel_rfl) ?_
      intro a175 hF174; clear hF172
      refine wpList_nil ?_
      have hS176:=hS170.pick5.pick5.pick7.pick7.pick6.pick7.pick7.pick7
      clear hS170
      exact thenN ⟨k73,Nat.lt_succ_self _,nS g166 L163 c167,L163,s139,s140,IntKind.i64.wrap (x72+1),hF174,hS176,hm165⟩
    · skip
      have hS177:=hS135.pick8.pick8.pick7.pick3
      clear hS135
      have hS178:=hS177.drew; clear hS177
      refine any_start (fun wS=>∃ qs,St w0 F0 (BlkP bb0 66 #[nP b0 0,nP bw0 0,.slice p1 Lc0.length c2,.slice p5 Lg0.length c6]::BlkP (w75.heap.size) 54 #[nI i1,nI (atI L2 x72),nI (IntKind.i64.wrap (i4+(IntKind.i64.wrap (2 * x72)))),nI (-1),nI (IntKind.i64.wrap (i5+x72)),nI x117,nI (-1)]::RowP (nS g93 L2 c10) L2::BoolsP (.slice (some ⟨g111,0,none⟩) L3.length c14) L3::qs) wS) 46 #[false,false,false,false,false,false,false,false,false,false,false,false,false,false,false,false,false,false,false,false,false,false,false,false,false,false,false,false,false,false,false,false,false,false,false,false,false,false,false,false,false,false,false,false,false,false] (by kernel_rfl) (by kernel_rfl) (by kernel_rfl) ?_
      refine any_many 12 [(0,some (nP bb0 0)),(1,some (nP bb0 0)),(2,some (nP bb0 0)),(3,some (nP b0 0)),(4,some (nI x128)),(5,some (.agg #[nI i1,nI (atI L2 x72),nI (IntKind.i64.wrap (i4+(IntKind.i64.wrap (2 * x72)))),nI (-1),nI (IntKind.i64.wrap (i5+x72)),nI x117,nI (-1)])),(7,some (nP bb0 0)),(8,some (nP bb0 0)),(9,some (nP bb0 1)),(10,some (nP bw0 0)),(11,some (nI x128)),(12,some (.agg #[nI i1,nI (atI L2 x72),nI (IntKind.i64.wrap (i4+(IntKind.i64.wrap (2 * x72)))),nI (-1),nI (IntKind.i64.wrap (i5+x72)),nI x117,nI (-1)]))] [0,1,2,3,4,5,15,16,18,61,62,63,64,68,69,70,71,72,73,74,75,76,77,78,79,80,81,82,83,84,85,86,87,88,89,90,91,92,93,94,95,96,97,98,99,100,101,102,103] #[true,true,true,true,true,true,false,true,true,true,true,true,true,false,false,false,false,false,false,false,false,false,false,false,false,false,false,false,false,false,false,false,false,false,false,false,false,false,false,false,false,false,false,false,false,false] (by rfl) hF137 (by kernel_rfl) (by kernel_rfl) (by exact ⟨fun wS hw=>by kernel_rfl,fun wS hw=>by kernel_rfl,fun wS hw=>by kernel_rfl,fun wS hw=>hw.elim fun qs hw=>run_loadV rfl rfl (run_loadS rfl rfl (hw.cell 0 rfl 0 rfl)),fun wS hw=>by kernel_rfl,fun wS hw=>hw.elim fun qs hw=>run_loadV rfl rfl (run_loadA (cs:=[nI i1,nI (atI L2 x72),nI (IntKind.i64.wrap (i4+(IntKind.i64.wrap (2 * x72)))),nI (-1),nI (IntKind.i64.wrap (i5+x72)),nI x117,nI (-1)]) rfl rfl (by kernel_rfl) (blk_cells hw 1 rfl rfl)),fun wS hw=>by kernel_rfl,fun wS hw=>by kernel_rfl,fun wS hw=>by kernel_rfl,fun wS hw=>hw.elim fun qs hw=>run_loadV rfl rfl (run_loadS rfl rfl (hw.cell 0 rfl 1 rfl)),fun wS hw=>by kernel_rfl,fun wS hw=>hw.elim fun qs hw=>run_loadV rfl rfl (run_loadA (cs:=[nI i1,nI (atI L2 x72),nI (IntKind.i64.wrap (i4+(IntKind.i64.wrap (2 * x72)))),nI (-1),nI (IntKind.i64.wrap (i5+x72)),nI x117,nI (-1)]) rfl rfl (by kernel_rfl) (blk_cells hw 1 rfl rfl)),trivial⟩) (fun _ _ _ _ _ h=>h) ⟨_,hS178⟩ (l':=[(70,.agg #[nI i1,nI (atI L2 x72),nI (IntKind.i64.wrap (i4+(IntKind.i64.wrap (2 * x72)))),nI (-1),nI (IntKind.i64.wrap (i5+x72)),nI x117,nI (-1)]),(69,nI x128),(68,nP bw0 0),(63,.agg #[nI i1,nI (atI L2 x72),nI (IntKind.i64.wrap (i4+(IntKind.i64.wrap (2 * x72)))),nI (-1),nI (IntKind.i64.wrap (i5+x72)),nI x117,nI (-1)]),(62,nI x128),(61,nP b0 0),(18,nI x128),(16,nI x72),(15,.slice p80 L68.length c81),(0,nP bb0 0),(1,nI i1),(2,nS g93 L2 c10),(3,.slice (some ⟨g111,0,none⟩) L3.length c14),(4,nI i4),(5,nI i5)]) (by kernel_rfl) ?_
      intro a180 hF179; clear hF137
      have hS181:=hS178.pick4
      clear hS178
      refine any_call 6 #[true,true,true,true,true,true,true,true,true,true,true,true,true,false,false,false,false,false,false,false,false,false,false,false,false,false,false,false,false,false,false,false,false,false,false,false,false,false,false,false,false,false,false,false,false,false] 41 #[nP b0 0,nI x128,.agg #[nI i1,nI (atI L2 x72),nI (IntKind.i64.wrap (i4+(IntKind.i64.wrap (2 * x72)))),nI (-1),nI (IntKind.i64.wrap (i5+x72)),nI x117,nI (-1)]] hF179 rfl (by kernel_rfl) rfl rfl (by kernel_rfl) rfl (by kernel_rfl) (fun w=>by kernel_rfl) (by kernel_rfl) ?_
      obtain ⟨x182,s183,hx184,hm185⟩:=bind2E hm132; clear hm132
      refine (p_PutSudog hS181 hx184).mono ?_
      rintro _ w186 ⟨rfl,hS188⟩; clear hS181
      refine ⟨⟨_,hS188.pick4.pick4.pick4.pick4⟩,?_⟩
      intro a187 hF189; clear hF179
      have hS190:=hS188.pick5
      clear hS188
      refine any_call 13 #[true,true,true,true,true,true,true,true,true,true,true,true,true,true,false,false,false,false,false,false,false,false,false,false,false,false,false,false,false,false,false,false,false,false,false,false,false,false,false,false,false,false,false,false,false,false] 77 #[nP bw0 0,nI x128,.agg #[nI i1,nI (atI L2 x72),nI (IntKind.i64.wrap (i4+(IntKind.i64.wrap (2 * x72)))),nI (-1),nI (IntKind.i64.wrap (i5+x72)),nI x117,nI (-1)]] hF189 rfl (by kernel_rfl) rfl rfl (by kernel_rfl) rfl (by kernel_rfl) (fun w=>by kernel_rfl) (by kernel_rfl) ?_
      obtain ⟨x191,s192,hx193,hm194⟩:=bind2E hm185; clear hm185
      refine (ref11_PutSudog.ok hS190 hx193).mono ?_
      rintro _ w195 ⟨rfl,hS197⟩; clear hS190
      refine ⟨⟨_,hS197.pick5.pick5.pick5.pick5⟩,?_⟩
      intro a196 hF198; clear hF189
      refine any_many 2 [(14,some (.bool (x182 != x191))),(15,some (.bool (x182 != x191)))] [0,1,2,3,4,5,15,16,18,73,74,75,76,77,78,79,80,81,82,83,84,85,86,87,88,89,90,91,92,93,94,95,96,97,98,99,100,101,102,103] #[true,true,true,true,true,true,true,true,true,true,true,true,true,true,true,true,false,false,false,false,false,false,false,false,false,false,false,false,false,false,false,false,false,false,false,false,false,false,false,false,false,false,false,false,false,false] (by rfl) hF198 (by kernel_rfl) (by kernel_rfl) (by exact ⟨fun wS hw=>by kernel_rfl,fun wS hw=>by kernel_rfl,trivial⟩) (fun _ _ _ _ _ h=>h) ⟨_,hS197.pick5.pick5.pick5.pick5⟩ (l':=[(73,.bool (x182 != x191)),(18,nI x128),(16,nI x72),(15,.slice p80 L68.length c81),(0,nP bb0 0),(1,nI i1),(2,nS g93 L2 c10),(3,.slice (some ⟨g111,0,none⟩) L3.length c14),(4,nI i4),(5,nI i5)]) (by kernel_rfl) ?_
      intro a200 hF199; clear hF198
      cases hc201:(x182 != x191)
      case true =>
       rw [hc201] at hF199
       have hm202:=ifYes hc201 hm194; clear hm194
       refine any_many 30 [(16,none),(17,none),(18,none),(19,none),(20,none),(21,none),(22,none),(23,none),(24,none),(25,none),(26,none),(27,none),(28,none),(29,none),(30,none),(31,none),(32,none),(33,none),(34,none),(35,none),(36,none),(37,none),(38,none),(39,none),(40,none),(41,none),(42,none),(43,none),(44,none),(45,some (.bool true))] [0,1,2,3,4,5,15,16,18,103] #[true,true,true,true,true,true,true,true,true,true,true,true,true,true,true,true,true,true,true,true,true,true,true,true,true,true,true,true,true,true,true,true,true,true,true,true,true,true,true,true,true,true,true,true,true,true] (by rfl) hF199 (by kernel_rfl) (by kernel_rfl) (by exact (And.intro trivial (And.intro trivial (And.intro trivial (And.intro trivial (And.intro trivial (And.intro trivial (And.intro trivial (And.intro trivial (And.intro trivial (And.intro trivial (And.intro trivial (And.intro trivial (And.intro trivial (And.intro trivial (And.intro trivial (And.intro trivial (And.intro trivial (And.intro trivial (And.intro trivial (And.intro trivial (And.intro trivial (And.intro trivial (And.intro trivial (And.intro trivial (And.intro trivial (And.intro trivial (And.intro trivial (And.intro trivial (And.intro trivial (And.intro (fun wS hw=>by kernel_rfl) trivial))))))))))))))))))))))))))))))) (fun _ _ _ _ _ h=>h) ⟨_,hS197.pick5.pick5.pick5.pick5⟩ (l':=[(103,.bool true),(18,nI x128),(16,nI x72),(15,.slice p80 L68.length c81),(0,nP bb0 0),(1,nI i1),(2,nS g93 L2 c10),(3,.slice (some ⟨g111,0,none⟩) L3.length c14),(4,nI i4),(5,nI i5)]) (by kernel_rfl) ?_
       intro a204 hF203; clear hF199
       refine any_done (by kernel_rfl) ?_
       have hS205:=hS197.pick3.drop
       clear hS197
       exact thenN ⟨s192,s183,true,hF203,hS205,hm202⟩
      rw [hc201] at hF199
      have hm206:=ifNot hc201 hm194; clear hm194
      refine any_many 26 [(16,some (nP bb0 0)),(17,some (nP bb0 0)),(18,some (nP bb0 0)),(19,some (nP b0 0)),(20,some (nS g93 L2 c10)),(21,some (nI x72)),(22,some (nP g93 (x72.toNat))),(23,some (nI (atI L2 x72))),(24,some (.slice (some ⟨g111,0,none⟩) L3.length c14)),(25,some (nI x72)),(26,some (nP g111 (x72.toNat))),(27,some (.bool (atB L3 x72))),(28,some (nI x128)),(30,some (nP bb0 0)),(31,some (nP bb0 0)),(32,some (nP bb0 1)),(33,some (nP bw0 0)),(34,some (nS g93 L2 c10)),(35,some (nI x72)),(36,some (nP g93 (x72.toNat))),(37,some (nI (atI L2 x72))),(38,some (.slice (some ⟨g111,0,none⟩) L3.length c14)),(39,some (nI x72)),(40,some (nP g111 (x72.toNat))),(41,some (.bool (atB L3 x72))),(42,some (nI x128))] [0,1,2,3,4,5,15,16,18,73,77,81,85,86,87,91,95,99,100,101,102,103] #[true,true,true,true,true,true,true,true,true,true,true,true,true,true,true,true,true,true,true,true,true,true,true,true,true,true,true,true,true,false,true,true,true,true,true,true,true,true,true,true,true,true,true,false,false,false] (by rfl) hF199 (by kernel_rfl) (by kernel_rfl) (by exact ⟨fun wS hw=>by kernel_rfl,fun wS hw=>by kernel_rfl,fun wS hw=>by kernel_rfl,fun wS hw=>hw.elim fun qs hw=>run_loadV rfl rfl (run_loadS rfl rfl (hw.cell 0 rfl 0 rfl)),fun wS hw=>by kernel_rfl,fun wS hw=>by kernel_rfl,fun wS hw=>run_idx rfl rfl rfl rfl rfl (inR_spec hc91).1 (inR_spec hc91).2 _,fun wS hw=>run_load1 rfl rfl rfl (hw.elim fun qs hw=>hw.atI 2 rfl hc91),fun wS hw=>by kernel_rfl,fun wS hw=>by kernel_rfl,fun wS hw=>run_idx rfl rfl rfl rfl rfl (inR_spec hc109).1 (inR_spec hc109).2 _,fun wS hw=>run_loadB rfl rfl rfl (hw.elim fun qs hw=>hw.atB 3 rfl hc109),fun wS hw=>by kernel_rfl,fun wS hw=>by kernel_rfl,fun wS hw=>by kernel_rfl,fun wS hw=>by kernel_rfl,fun wS hw=>hw.elim fun qs hw=>run_loadV rfl rfl (run_loadS rfl rfl (hw.cell 0 rfl 1 rfl)),fun wS hw=>by kernel_rfl,fun wS hw=>by kernel_rfl,fun wS hw=>run_idx rfl rfl rfl rfl rfl (inR_spec hc91).1 (inR_spec hc91).2 _,fun wS hw=>run_load1 rfl rfl rfl (hw.elim fun qs hw=>hw.atI 2 rfl hc91),fun wS hw=>by kernel_rfl,fun wS hw=>by kernel_rfl,fun wS hw=>run_idx rfl rfl rfl rfl rfl (inR_spec hc109).1 (inR_spec hc109).2 _,fun wS hw=>run_loadB rfl rfl rfl (hw.elim fun qs hw=>hw.atB 3 rfl hc109),fun wS hw=>by kernel_rfl,trivial⟩) (fun _ _ _ _ _ h=>h) ⟨_,hS197.pick5.pick5.pick5.pick5⟩ (l':=[(100,nI x128),(99,.bool (atB L3 x72)),(95,nI (atI L2 x72)),(91,nP bw0 0),(86,nI x128),(85,.bool (atB L3 x72)),(81,nI (atI L2 x72)),(77,nP b0 0),(73,.bool false),(18,nI x128),(16,nI x72),(15,.slice p80 L68.length c81),(0,nP bb0 0),(1,nI i1),(2,nS g93 L2 c10),(3,.slice (some ⟨g111,0,none⟩) L3.length c14),(4,nI i4),(5,nI i5)]) (by kernel_rfl) ?_
      intro a208 hF207; clear hF199
      have hS209:=hS197.pick1
      clear hS197
      refine any_call 29 #[true,true,true,true,true,true,true,true,true,true,true,true,true,true,true,true,true,true,true,true,true,true,true,true,true,true,true,true,true,true,true,true,true,true,true,true,true,true,true,true,true,true,true,false,false,false] 29 #[nP b0 0,nI (atI L2 x72),.bool (atB L3 x72),nI x128] hF207 rfl (by kernel_rfl) rfl rfl (by kernel_rfl) rfl (by kernel_rfl) (fun w=>by kernel_rfl) (by kernel_rfl) ?_
      obtain ⟨x210,s211,hx212,hm213⟩:=bind2E hm206; clear hm206
      refine (list_Push.ok hS209 hx212).mono ?_
      rintro _ w214 ⟨rfl,hS216⟩; clear hS209
      refine ⟨⟨_,hS216.pick5.pick5.pick5.pick5⟩,?_⟩
      intro a215 hF217; clear hF207
      have hS218:=hS216.pick1
      clear hS216
      refine any_call 43 #[true,true,true,true,true,true,true,true,true,true,true,true,true,true,true,true,true,true,true,true,true,true,true,true,true,true,true,true,true,true,true,true,true,true,true,true,true,true,true,true,true,true,true,true,false,false] 85 #[nP bw0 0,nI (atI L2 x72),.bool (atB L3 x72),nI x128] hF217 rfl (by kernel_rfl) rfl rfl (by kernel_rfl) rfl (by kernel_rfl) (fun w=>by kernel_rfl) (by kernel_rfl) ?_
      obtain ⟨x219,s220,hx221,hm222⟩:=bind2E hm213; clear hm213
      refine (ref11_Push.ok hS218 hx221).mono ?_
      rintro _ w223 ⟨rfl,hS225⟩; clear hS218
      refine ⟨⟨_,hS225.pick5.pick5.pick5.pick5⟩,?_⟩
      intro a224 hF226; clear hF217
      refine any_many 2 [(44,some (.bool (x210 != x219))),(45,some (.bool (x210 != x219)))] [0,1,2,3,4,5,15,16,18,103] #[true,true,true,true,true,true,true,true,true,true,true,true,true,true,true,true,true,true,true,true,true,true,true,true,true,true,true,true,true,true,true,true,true,true,true,true,true,true,true,true,true,true,true,true,true,true] (by rfl) hF226 (by kernel_rfl) (by kernel_rfl) (by exact ⟨fun wS hw=>by kernel_rfl,fun wS hw=>by kernel_rfl,trivial⟩) (fun _ _ _ _ _ h=>h) ⟨_,hS225.pick5.pick5.pick5.pick5⟩ (l':=[(103,.bool (x210 != x219)),(18,nI x128),(16,nI x72),(15,.slice p80 L68.length c81),(0,nP bb0 0),(1,nI i1),(2,nS g93 L2 c10),(3,.slice (some ⟨g111,0,none⟩) L3.length c14),(4,nI i4),(5,nI i5)]) (by kernel_rfl) ?_
      intro a228 hF227; clear hF226
      refine any_done (by kernel_rfl) ?_
      have hS229:=hS225.pick3.drop
      clear hS225
      exact thenN ⟨s220,s211,x210 != x219,hF227,hS229,hm222⟩
  · skip
    cases hc230:(atB L3 x72)
    case true =>
     rw [hc230] at hF116
     have hm231:=ifYes hc230 hm110; clear hm110
     refine ev_condT hF116 rfl rfl ?_
     refine wp_region_lit ?_
     refine ev_runs 1 hF116 (l':=[(55,nP (w75.heap.size) 5),(54,.bool true),(17,nB w75),(16,nI x72),(15,.slice p80 L68.length c81),(0,nP bb0 0),(1,nI i1),(2,nS g93 L2 c10),(3,.slice (some ⟨g111,0,none⟩) L3.length c14),(4,nI i4),(5,nI i5)]) (w':=w102) (by kernel_rfl) ?_
     intro a233 hF232; clear hF116
     refine ev_store (nI (-1)) #[nI i1,nI (atI L2 x72),nI (IntKind.i64.wrap (i4+(IntKind.i64.wrap (2 * x72)))),nI (-1),nI (IntKind.i64.wrap (i5+x72)),nI (-1),nI (-1)] hF232 (by kernel_rfl) rfl rfl rfl rfl (by kernel_rfl) hS104 (by kernel_rfl) (by kernel_rfl) (by kernel_rfl) (l':=[(55,nP (w75.heap.size) 5),(54,.bool true),(17,nB w75),(16,nI x72),(15,.slice p80 L68.length c81),(0,nP bb0 0),(1,nI i1),(2,nS g93 L2 c10),(3,.slice (some ⟨g111,0,none⟩) L3.length c14),(4,nI i4),(5,nI i5)]) (by kernel_rfl) ?_
     intro w234 a235 hS236 hF237; clear hF232 hS104
     refine wpList_nil ?_
     have hF238:=hF237.keep [0,1,2,3,4,5,15,16,17]
     clear hF237
     exact thenN ⟨-1,hF238,hS236,hm231⟩
    rw [hc230] at hF116
    have hm239:=ifNot hc230 hm110; clear hm110
    refine ev_condF hF116 rfl rfl ?_
    refine wp_skip ?_
    have hF240:=hF116.keep [0,1,2,3,4,5,15,16,17]
    clear hF116
    exact thenN ⟨x72,hF240,hS104,hm239⟩
 rw [hc86] at hF84
 have hm241:=ifNot hc86 hm79; clear hm79
 refine ev_condF hF84 rfl rfl ?_
 refine wp_exit ?_
 refine thenE ?_
 refine thenE ?_
 refine blockE ?_
 refine thenN (wp_seq ?_)
 have hS242:=hS77.pick2
 clear hS77
 have hS243:=hS242.drew; clear hS242
 refine any_start (fun wS=>∃ qs,St w0 F0 (BlkP bb0 66 #[nP b0 0,nP bw0 0,.slice p1 Lc0.length c2,.slice p5 Lg0.length c6]::qs) wS) 16 #[false,false,false,false,false,false,false,false,false,false,false,false,false,false,false,false] (by kernel_rfl) (by kernel_rfl) (by kernel_rfl) ?_
 refine any_many 12 [(0,some (nP bb0 0)),(1,some (nP bb0 0)),(2,some (nP bb0 0)),(3,some (nP b0 0)),(4,some (nI i1)),(5,some (.slice p80 L68.length c81)),(7,some (nP bb0 0)),(8,some (nP bb0 0)),(9,some (nP bb0 1)),(10,some (nP bw0 0)),(11,some (nI i1)),(12,some (.slice p80 L68.length c81))] [12,111,112,113,114,118,119,120,121,122] #[true,true,true,true,true,true,false,true,true,true,true,true,true,false,false,false] (by rfl) hF84 (by kernel_rfl) (by kernel_rfl) (by exact ⟨fun wS hw=>by kernel_rfl,fun wS hw=>by kernel_rfl,fun wS hw=>by kernel_rfl,fun wS hw=>hw.elim fun qs hw=>run_loadV rfl rfl (run_loadS rfl rfl (hw.cell 0 rfl 0 rfl)),fun wS hw=>by kernel_rfl,fun wS hw=>by kernel_rfl,fun wS hw=>by kernel_rfl,fun wS hw=>by kernel_rfl,fun wS hw=>by kernel_rfl,fun wS hw=>hw.elim fun qs hw=>run_loadV rfl rfl (run_loadS rfl rfl (hw.cell 0 rfl 1 rfl)),fun wS hw=>by kernel_rfl,fun wS hw=>by kernel_rfl,trivial⟩) (fun _ _ _ _ _ h=>h) ⟨_,hS243⟩ (l':=[(120,.slice p80 L68.length c81),(119,nI i1),(118,nP bw0 0),(113,.slice p80 L68.length c81),(112,nI i1),(111,nP b0 0)]) (by kernel_rfl) ?_
 intro a245 hF244; clear hF84
 have hS246:=hS243.pick1.pick3
 clear hS243
 refine any_call 6 #[true,true,true,true,true,true,true,true,true,true,true,true,true,false,false,false] 43 #[nP b0 0,nI i1,.slice p80 L68.length c81] hF244 rfl (by kernel_rfl) rfl rfl (by kernel_rfl) rfl (by kernel_rfl) (fun w=>by kernel_rfl) (by kernel_rfl) ?_
 obtain ⟨x247,s248,hx249,hm250⟩:=bind2E hm241; clear hm241
 refine (wake_Park.ok hS246 hx249).mono ?_
 rintro _ w251 ⟨rfl,hS253⟩; clear hS246
 refine ⟨⟨_,hS253.pick2⟩,?_⟩
 intro a252 hF254; clear hF244
 have hS255:=hS253.pick1.pick3
 clear hS253
 refine any_call 13 #[true,true,true,true,true,true,true,true,true,true,true,true,true,true,false,false] 86 #[nP bw0 0,nI i1,.slice p80 L68.length c81] hF254 rfl (by kernel_rfl) rfl rfl (by kernel_rfl) rfl (by kernel_rfl) (fun w=>by kernel_rfl) (by kernel_rfl) ?_
 obtain ⟨x256,s257,hx258,hm259⟩:=bind2E hm250; clear hm250
 refine (ref11_Park.ok hS255 hx258).mono ?_
 rintro _ w260 ⟨rfl,hS262⟩; clear hS255
 refine ⟨⟨_,hS262.pick3⟩,?_⟩
 intro a261 hF263; clear hF254
 refine any_many 2 [(14,some (.bool (x247 == x256))),(15,some (.bool (x247 == x256)))] [12] #[true,true,true,true,true,true,true,true,true,true,true,true,true,true,true,true] (by rfl) hF263 (by kernel_rfl) (by kernel_rfl) (by exact ⟨fun wS hw=>by kernel_rfl,fun wS hw=>by kernel_rfl,trivial⟩) (fun _ _ _ _ _ h=>h) ⟨_,hS262.pick3⟩ (l':=[(12,.bool (x247 == x256))]) (by kernel_rfl) ?_
 intro a265 hF264; clear hF263
 refine any_done (by kernel_rfl) ?_
 have hS266:=hS262.pick1.drop
 clear hS262
 refine thenN ?_
 refine wp_ret ?_
 have hS267:=hS266.pick6.pick6.pick6.pick6.pick4.pick5.pick6
 clear hS266
 simp only [Option.some.injEq,Prod.mk.injEq] at hm259
 obtain ⟨rfl,rfl,rfl⟩:=hm259
 refine ev_ret hF264 [12] (.bool (x247 == x256)) rfl rfl rfl ?_
 exact ⟨rfl,hS267⟩
end Go.Proofs.YtaojmbkmicjecaaGreat
namespace Go.Proofs.YtaojmbkmicjecaaGreat
open Go.RowKit
set_option linter.unusedVariables false
def law14_awake.j1 (y161:Bool):Option (Bool):=some (y161)
def law14_awake.m (k:Nat):Option (Bool):=bind4 (law14_made.m k [0] 1) fun s7 s8 L9 L10=>bind3 (law14_gor.m k s7 s8 L9 L10 0) fun x46 s47 s48=>bind3 (law14_ch.m k s47 s48 L9 L10 0) fun x57 s58 s59=>bind3 (law14_wait.m k s58 s59 L9 L10 x46 [x57] [false] 0 5) fun y75 s76 s77=>(if (!(y75)) then some (false) else bind3 (law14_ch.m k s76 s77 L9 L10 0) fun x98 s99 s100=>bind3 (list_Pop.m k s99 x98 (false)) fun x108 y109 s110=>bind3 (wake_Wake.m k s110 x108 8) fun x125 x126 s127=>bind3 (view_Gor.m k s127 x125) fun q142 x143 s144=>(if (y109) then (if (x126 == 0) then (if (x143 == 0) then bind3 (law14_gor.m k s144 s100 L9 L10 0) fun x185 s186 s187=>(if (x125 == x185) then (if (q142.pc == 5) then (if (q142.a == 8) then (if (q142.status == 0) then law14_awake.j1 (q142.sudogs == (-1)) else law14_awake.j1 false) else law14_awake.j1 false) else law14_awake.j1 false) else law14_awake.j1 false) else law14_awake.j1 false) else law14_awake.j1 false) else law14_awake.j1 false))
set_option maxRecDepth 100000 in
set_option maxHeartbeats 1500000 in
theorem law14_awake.ok {w0 w:World} {F0:List Nat} {ps:List Piece} {k:Nat}  {r0:Bool} (hS:St w0 F0 (ps) w) (hm:law14_awake.m k=some r0) :
    Calls Tryz.prog 36 #[] w fun e w'=>e=.returned (.bool r0)∧St w0 F0 (ps) w':=by
 refine ev_enterL 87 [] Tryz.func36 rfl rfl (by simp) ?_
 intro a hF
 have hF0:Fr 87 a []:=hF; clear hF
 unfold law14_awake.m at hm
 refine wp_seq (wp_region_lit ?_)
 refine ev_runK 1 hF0 [] (l':=[]) (w':=w) (by kernel_rfl) ?_
 intro a2 hF1; clear hF0
 refine wpList_nil (thenN (wp_seq (wp_region_lit ?_)))
 refine ev_runs 1 hF1 (l':=[(8,.slice (some ⟨w.heap.size,0,none⟩) 1 1)]) (w':=w.alloc (.cells #[nI 0] 3)) (by kernel_rfl) ?_
 intro a4 hF3; clear hF1
 have hS6:St w0 F0 (RowP (.slice (some ⟨w.heap.size,0,none⟩) 1 1) [0]::ps) (w.alloc (.cells #[nI 0] 3)):=St.lit hS [0] (by unfold maxLen; simp)
 refine ev_call 35 #[.slice (some ⟨w.heap.size,0,none⟩) 1 1,nI 1] hF3 rfl rfl (by kernel_rfl) rfl (by kernel_rfl) (fun w=>by kernel_rfl) ?_
 obtain ⟨s7,s8,L9,L10,hx11,hm12⟩:=bind4E hm; clear hm
 refine (law14_made.ok hS6 hx11).mono ?_
 rintro _ w13 ⟨z17,z18,z19,z20,z21,z22,z23,z24,z25,z26,rfl,hS15⟩ a14 hF16; clear hF3 hS6
 have hS32:St w0 F0 (RowP (.slice (some ⟨w.heap.size,0,none⟩) 1 1) [0]::BlkP z17 66 #[nP z18 0,nP z20 0,z25,z26]::HeapP z18 z19 s7::RHeapP z20 z21 z22 z23 z24 s8::RowP (z25) L9::RowP (z26) L10::ps) w13:=hS15
 clear hS15
 obtain ⟨hl36,p33,c34,rfl,hp35⟩:=St.shape hS32 4 rfl
 obtain ⟨hl40,p37,c38,rfl,hp39⟩:=St.shape hS32 5 rfl
 refine ev_runK 1 hF16 [1] (l':=[(1,nP z17 0)]) (w':=w13) (by kernel_rfl) ?_
 intro a42 hF41; clear hF16
 refine wpList_nil ?_
 have hS43:=hS32.drop
 clear hS32
 refine thenN (wp_seq (wp_seq (wp_region_lit ?_)))
 refine ev_runs 5 hF41 (l':=[(14,nP z17 0),(13,nP z17 0),(12,.bool false),(11,.bool false),(10,nP z17 0),(1,nP z17 0)]) (w':=w13) (by kernel_rfl) ?_
 intro a45 hF44; clear hF41
 refine ev_call 42 #[nP z17 0,nI 0] hF44 rfl rfl (by kernel_rfl) rfl (by kernel_rfl) (fun w=>by kernel_rfl) ?_
 obtain ⟨x46,s47,s48,hx49,hm50⟩:=bind3E hm12; clear hm12
 refine (law14_gor.ok hS43 hx49).mono ?_
 rintro _ w51 ⟨rfl,hS53⟩ a52 hF54; clear hF44 hS43
 refine ev_runs 1 hF54 (l':=[(16,nP z17 0),(15,nI x46),(14,nP z17 0),(13,nP z17 0),(12,.bool false),(11,.bool false),(10,nP z17 0),(1,nP z17 0)]) (w':=w51) (by kernel_rfl) ?_
 intro a56 hF55; clear hF54
 refine ev_call 44 #[nP z17 0,nI 0] hF55 rfl rfl (by kernel_rfl) rfl (by kernel_rfl) (fun w=>by kernel_rfl) ?_
 obtain ⟨x57,s58,s59,hx60,hm61⟩:=bind3E hm50; clear hm50
 refine (law14_ch.ok hS53 hx60).mono ?_
 rintro _ w62 ⟨rfl,hS64⟩ a63 hF65; clear hF55 hS53
 refine ev_runs 1 hF65 (l':=[(18,.slice (some ⟨w62.heap.size,0,none⟩) 1 1),(17,nI x57),(16,nP z17 0),(15,nI x46),(14,nP z17 0),(13,nP z17 0),(12,.bool false),(11,.bool false),(10,nP z17 0),(1,nP z17 0)]) (w':=w62.alloc (.cells #[nI x57] 3)) (by kernel_rfl) ?_
 intro a67 hF66; clear hF65
 have hS69:St w0 F0 (RowP (.slice (some ⟨w62.heap.size,0,none⟩) 1 1) [x57]::BlkP z17 66 #[nP z18 0,nP z20 0,.slice p33 L9.length c34,.slice p37 L10.length c38]::HeapP z18 z19 s58::RHeapP z20 z21 z22 z23 z24 s59::RowP (.slice p33 L9.length c34) L9::RowP (.slice p37 L10.length c38) L10::ps) (w62.alloc (.cells #[nI x57] 3)):=St.lit hS64 [x57] (by unfold maxLen; simp)
 clear hS64
 refine ev_runs 1 hF66 (l':=[(19,.slice (some ⟨(w62.alloc (.cells #[nI x57] 3)).heap.size,0,none⟩) 1 1),(18,.slice (some ⟨w62.heap.size,0,none⟩) 1 1),(17,nI x57),(16,nP z17 0),(15,nI x46),(14,nP z17 0),(13,nP z17 0),(12,.bool false),(11,.bool false),(10,nP z17 0),(1,nP z17 0)]) (w':=(w62.alloc (.cells #[nI x57] 3)).alloc (.cells #[.bool false] 4)) (by kernel_rfl) ?_
 intro a71 hF70; clear hF66
 have hS73:St w0 F0 (BoolsP (.slice (some ⟨(w62.alloc (.cells #[nI x57] 3)).heap.size,0,none⟩) 1 1) [false]::RowP (.slice (some ⟨w62.heap.size,0,none⟩) 1 1) [x57]::BlkP z17 66 #[nP z18 0,nP z20 0,.slice p33 L9.length c34,.slice p37 L10.length c38]::HeapP z18 z19 s58::RHeapP z20 z21 z22 z23 z24 s59::RowP (.slice p33 L9.length c34) L9::RowP (.slice p37 L10.length c38) L10::ps) ((w62.alloc (.cells #[nI x57] 3)).alloc (.cells #[.bool false] 4)):=St.litB hS69 [false] (by unfold maxLen; simp)
 clear hS69
 have hS74:=hS73.pick1.pick6.pick6.pick6.pick6.pick6
 clear hS73
 refine ev_call 37 #[nP z17 0,nI x46,.slice (some ⟨w62.heap.size,0,none⟩) 1 1,.slice (some ⟨(w62.alloc (.cells #[nI x57] 3)).heap.size,0,none⟩) 1 1,nI 0,nI 5] hF70 rfl rfl (by kernel_rfl) rfl (by kernel_rfl) (fun w=>by kernel_rfl) ?_
 obtain ⟨y75,s76,s77,hx78,hm79⟩:=bind3E hm61; clear hm61
 refine (law14_wait.ok hS74 hx78).mono ?_
 rintro _ w80 ⟨rfl,hS82⟩ a81 hF83; clear hF70 hS74
 refine ev_runK 2 hF83 [1,22] (l':=[(22,.bool (!(y75))),(1,nP z17 0)]) (w':=w80) (by kernel_rfl) ?_
 intro a85 hF84; clear hF83
 refine wpList_nil ?_
 have hS86:=hS82.pick5.drop.pick5.drop
 clear hS82
 refine thenN ?_
 cases hc87:(!(y75))
 case true =>
  rw [hc87] at hF84
  have hm88:=ifYes hc87 hm79; clear hm79
  refine ev_condT hF84 rfl rfl ?_
  refine wp_seq (wp_region_lit ?_)
  refine ev_runK 1 hF84 [0] (l':=[(0,.bool false)]) (w':=w80) (by kernel_rfl) ?_
  intro a90 hF89; clear hF84
  refine wpList_nil ?_
  have hS91:=hS86.drop.drop.drop.drop.drop
  clear hS86
  refine thenN ?_
  refine wp_ret ?_
  refine thenR ?_
  obtain rfl:=Option.some.inj hm88
  refine ev_ret hF89 [0] (.bool false) rfl rfl rfl ?_
  exact ⟨rfl,hS91⟩
 rw [hc87] at hF84
 have hm93:=ifNot hc87 hm79; clear hm79
 refine ev_condF hF84 rfl rfl ?_
 refine wp_skip ?_
 have hF94:=hF84.keep [1]
 clear hF84
 refine thenN (wp_seq ?_)
 have hS95:=hS86.drew; clear hS86
 refine any_start (fun wS=>∃ qs,St w0 F0 (BlkP z17 66 #[nP z18 0,nP z20 0,.slice p33 L9.length c34,.slice p37 L10.length c38]::qs) wS) 12 #[false,false,false,false,false,false,false,false,false,false,false,false] (by kernel_rfl) (by kernel_rfl) (by kernel_rfl) ?_
 refine any_many 5 [(0,some (nP z17 0)),(1,some (nP z17 0)),(2,some (nP z17 0)),(3,some (nP z18 0)),(4,some (nP z17 0))] [1,2,3,23,27,28,29,30,31,32] #[true,true,true,true,true,false,false,false,false,false,false,false] (by rfl) hF94 (by kernel_rfl) (by kernel_rfl) (by exact ⟨fun wS hw=>by kernel_rfl,fun wS hw=>by kernel_rfl,fun wS hw=>by kernel_rfl,fun wS hw=>hw.elim fun qs hw=>run_loadV rfl rfl (run_loadS rfl rfl (hw.cell 0 rfl 0 rfl)),fun wS hw=>by kernel_rfl,trivial⟩) (fun _ _ _ _ _ h=>h) ⟨_,hS95⟩ (l':=[(28,nP z17 0),(27,nP z18 0),(1,nP z17 0)]) (by kernel_rfl) ?_
 intro a97 hF96; clear hF94
 refine any_call 5 #[true,true,true,true,true,true,false,false,false,false,false,false] 44 #[nP z17 0,nI 0] hF96 rfl (by kernel_rfl) rfl rfl (by kernel_rfl) rfl (by kernel_rfl) (fun w=>by kernel_rfl) (by kernel_rfl) ?_
 obtain ⟨x98,s99,s100,hx101,hm102⟩:=bind3E hm93; clear hm93
 refine (law14_ch.ok hS95 hx101).mono ?_
 rintro _ w103 ⟨rfl,hS105⟩; clear hS95
 refine ⟨⟨_,hS105⟩,?_⟩
 intro a104 hF106; clear hF96
 have hS107:=hS105.pick1
 clear hS105
 refine any_call 6 #[true,true,true,true,true,true,true,false,false,false,false,false] 32 #[nP z18 0,nI x98,.bool false] hF106 rfl (by kernel_rfl) rfl rfl (by kernel_rfl) rfl (by kernel_rfl) (fun w=>by kernel_rfl) (by kernel_rfl) ?_
 obtain ⟨x108,y109,s110,hx111,hm112⟩:=bind3E hm102; clear hm102
 refine (list_Pop.ok hS107 hx111).mono ?_
 rintro _ w113 ⟨rfl,hS115⟩; clear hS107
 refine ⟨⟨_,hS115.pick1⟩,?_⟩
 intro a114 hF116; clear hF106
 refine any_many 5 [(7,some (.tuple #[nI x108,.bool (y109)])),(8,some (nI x108)),(9,some (.bool (y109))),(10,some (nI x108)),(11,some (.bool (y109)))] [1,2,3] #[true,true,true,true,true,true,true,true,true,true,true,true] (by rfl) hF116 (by kernel_rfl) (by kernel_rfl) (by exact ⟨fun wS hw=>by kernel_rfl,fun wS hw=>by kernel_rfl,fun wS hw=>by kernel_rfl,fun wS hw=>by kernel_rfl,fun wS hw=>by kernel_rfl,trivial⟩) (fun _ _ _ _ _ h=>h) ⟨_,hS115.pick1⟩ (l':=[(3,.bool (y109)),(2,nI x108),(1,nP z17 0)]) (by kernel_rfl) ?_
 intro a118 hF117; clear hF116
 refine any_done (by kernel_rfl) ?_
 refine thenN (wp_seq (wp_region_lit ?_))
 refine ev_runs 3 hF117 (l':=[(36,nP z17 0),(35,nP z17 0),(34,nP z17 0),(3,.bool (y109)),(2,nI x108),(1,nP z17 0)]) (w':=w113) (by kernel_rfl) ?_
 intro a120 hF119; clear hF117
 refine ev_one (nP z18 0) w113 hF119 (by kernel_rfl) rfl (by kernel_rfl) (run_loadV rfl rfl (run_loadS rfl rfl (hS115.cell 1 rfl 0 rfl))) (l':=[(37,nP z18 0),(36,nP z17 0),(35,nP z17 0),(34,nP z17 0),(3,.bool (y109)),(2,nI x108),(1,nP z17 0)]) (by kernel_rfl) ?_
 intro a122 hF121; clear hF119
 refine ev_runs 1 hF121 (l':=[(38,nI x108),(37,nP z18 0),(36,nP z17 0),(35,nP z17 0),(34,nP z17 0),(3,.bool (y109)),(2,nI x108),(1,nP z17 0)]) (w':=w113) (by kernel_rfl) ?_
 intro a124 hF123; clear hF121
 refine ev_call 39 #[nP z18 0,nI x108,nI 8] hF123 rfl rfl (by kernel_rfl) rfl (by kernel_rfl) (fun w=>by kernel_rfl) ?_
 obtain ⟨x125,x126,s127,hx128,hm129⟩:=bind3E hm112; clear hm112
 refine (wake_Wake.ok hS115 hx128).mono ?_
 rintro _ w130 ⟨rfl,hS132⟩ a131 hF133; clear hF123 hS115
 refine ev_runK 5 hF133 [1,3,4,5] (l':=[(5,nI x126),(4,nI x125),(3,.bool (y109)),(1,nP z17 0)]) (w':=w130) (by kernel_rfl) ?_
 intro a135 hF134; clear hF133
 refine wpList_nil (thenN (wp_seq (wp_region_lit ?_)))
 refine ev_runs 3 hF134 (l':=[(45,nP z17 0),(44,nP z17 0),(43,nP z17 0),(5,nI x126),(4,nI x125),(3,.bool (y109)),(1,nP z17 0)]) (w':=w130) (by kernel_rfl) ?_
 intro a137 hF136; clear hF134
 refine ev_one (nP z18 0) w130 hF136 (by kernel_rfl) rfl (by kernel_rfl) (run_loadV rfl rfl (run_loadS rfl rfl (hS132.cell 1 rfl 0 rfl))) (l':=[(46,nP z18 0),(45,nP z17 0),(44,nP z17 0),(43,nP z17 0),(5,nI x126),(4,nI x125),(3,.bool (y109)),(1,nP z17 0)]) (by kernel_rfl) ?_
 intro a139 hF138; clear hF136
 refine ev_runs 1 hF138 (l':=[(47,nI x125),(46,nP z18 0),(45,nP z17 0),(44,nP z17 0),(43,nP z17 0),(5,nI x126),(4,nI x125),(3,.bool (y109)),(1,nP z17 0)]) (w':=w130) (by kernel_rfl) ?_
 intro a141 hF140; clear hF138
 refine ev_call 38 #[nP z18 0,nI x125] hF140 rfl rfl (by kernel_rfl) rfl (by kernel_rfl) (fun w=>by kernel_rfl) ?_
 obtain ⟨q142,x143,s144,hx145,hm146⟩:=bind3E hm129; clear hm129
 refine (view_Gor.ok hS132 hx145).mono ?_
 rintro _ w147 ⟨rfl,hS149⟩ a148 hF150; clear hF140 hS132
 refine ev_runs 4 hF150 (l':=[(6,nB w147),(50,nI x143),(49,.agg #[nI (q142.id),nI (q142.status),nI (q142.pc),nI (q142.a),nI (q142.b),nI (q142.c),nI (q142.d),nI (q142.e),nI (q142.f),nI (q142.sudogs)]),(42,.tuple #[.agg #[nI (q142.id),nI (q142.status),nI (q142.pc),nI (q142.a),nI (q142.b),nI (q142.c),nI (q142.d),nI (q142.e),nI (q142.f),nI (q142.sudogs)],nI x143]),(48,.tuple #[.agg #[nI (q142.id),nI (q142.status),nI (q142.pc),nI (q142.a),nI (q142.b),nI (q142.c),nI (q142.d),nI (q142.e),nI (q142.f),nI (q142.sudogs)],nI x143]),(47,nI x125),(46,nP z18 0),(45,nP z17 0),(44,nP z17 0),(43,nP z17 0),(5,nI x126),(4,nI x125),(3,.bool (y109)),(1,nP z17 0)]) (w':=w147.alloc (.cells #[nI 0,nI 0,nI 0,nI 0,nI 0,nI 0,nI 0,nI 0,nI 0,nI 0] 70)) (by kernel_rfl) ?_
 intro a152 hF151; clear hF150
 have hS154:St w0 F0 (BlkP (w147.heap.size) 70 #[nI 0,nI 0,nI 0,nI 0,nI 0,nI 0,nI 0,nI 0,nI 0,nI 0]::HeapP z18 z19 s144::BlkP z17 66 #[nP z18 0,nP z20 0,.slice p33 L9.length c34,.slice p37 L10.length c38]::RHeapP z20 z21 z22 z23 z24 s100::RowP (.slice p33 L9.length c34) L9::RowP (.slice p37 L10.length c38) L10::ps) (w147.alloc (.cells #[nI 0,nI 0,nI 0,nI 0,nI 0,nI 0,nI 0,nI 0,nI 0,nI 0] 70)):=St.new hS149 #[nI 0,nI 0,nI 0,nI 0,nI 0,nI 0,nI 0,nI 0,nI 0,nI 0] 70
 clear hS149
 refine ev_store (.agg #[nI (q142.id),nI (q142.status),nI (q142.pc),nI (q142.a),nI (q142.b),nI (q142.c),nI (q142.d),nI (q142.e),nI (q142.f),nI (q142.sudogs)]) #[nI (q142.id),nI (q142.status),nI (q142.pc),nI (q142.a),nI (q142.b),nI (q142.c),nI (q142.d),nI (q142.e),nI (q142.f),nI (q142.sudogs)] hF151 (by kernel_rfl) rfl rfl rfl rfl (by kernel_rfl) hS154 (by kernel_rfl) (by kernel_rfl) (by kernel_rfl) (l':=[(6,nB w147),(50,nI x143),(49,.agg #[nI (q142.id),nI (q142.status),nI (q142.pc),nI (q142.a),nI (q142.b),nI (q142.c),nI (q142.d),nI (q142.e),nI (q142.f),nI (q142.sudogs)]),(42,.tuple #[.agg #[nI (q142.id),nI (q142.status),nI (q142.pc),nI (q142.a),nI (q142.b),nI (q142.c),nI (q142.d),nI (q142.e),nI (q142.f),nI (q142.sudogs)],nI x143]),(48,.tuple #[.agg #[nI (q142.id),nI (q142.status),nI (q142.pc),nI (q142.a),nI (q142.b),nI (q142.c),nI (q142.d),nI (q142.e),nI (q142.f),nI (q142.sudogs)],nI x143]),(47,nI x125),(46,nP z18 0),(45,nP z17 0),(44,nP z17 0),(43,nP z17 0),(5,nI x126),(4,nI x125),(3,.bool (y109)),(1,nP z17 0)]) (by kernel_rfl) ?_
 intro w155 a156 hS157 hF158; clear hF151 hS154
 refine ev_runK 1 hF158 [1,3,4,5,6,7] (l':=[(7,nI x143),(6,nB w147),(5,nI x126),(4,nI x125),(3,.bool (y109)),(1,nP z17 0)]) (w':=w155) (by kernel_rfl) ?_
 intro a160 hF159; clear hF158
 refine wpList_nil (thenN (wp_seq ?_))
 refine joinQ (fun aI wI=>∃ (y161:Bool),Fr 87 aI [(0,.bool (y161))]∧St w0 F0 (ps) wI∧law14_awake.j1 y161=some r0) ?_ ?_
 rotate_left
 · rintro a163 w164 ⟨y161,hF165,hS166,hm167⟩
   clear hF159 hS157 hm146
   unfold law14_awake.j1 at hm167
   refine thenN ?_
   refine wp_ret ?_
   obtain rfl:=Option.some.inj hm167
   refine ev_ret hF165 [0] (.bool (y161)) rfl rfl rfl ?_
   exact ⟨rfl,hS166⟩
 · skip
   refine wp_region_lit ?_
   refine ev_runs 2 hF159 (l':=[(52,.bool (y109)),(51,.bool (y109)),(7,nI x143),(6,nB w147),(5,nI x126),(4,nI x125),(3,.bool (y109)),(1,nP z17 0)]) (w':=w155) (by kernel_rfl) ?_
   intro a171 hF170; clear hF159
   cases hc172:(y109)
   case true =>
    rw [hc172] at hF170
    have hm173:=ifYes hc172 hm146; clear hm146
    refine ev_runs 4 hF170 (l':=[(56,.bool (x126 == 0)),(55,.bool (x126 == 0)),(54,.bool (x126 == 0)),(53,nI x126),(52,.bool true),(51,.bool true),(7,nI x143),(6,nB w147),(5,nI x126),(4,nI x125),(3,.bool true),(1,nP z17 0)]) (w':=w155) (by kernel_rfl) ?_
    intro a175 hF174; clear hF170
    cases hc176:(x126 == 0)
    case true =>
     rw [hc176] at hF174
     have hm177:=ifYes hc176 hm173; clear hm173
     refine ev_runs 4 hF174 (l':=[(60,.bool (x143 == 0)),(59,.bool (x143 == 0)),(58,.bool (x143 == 0)),(57,nI x143),(56,.bool true),(55,.bool true),(54,.bool true),(53,nI x126),(52,.bool true),(51,.bool true),(7,nI x143),(6,nB w147),(5,nI x126),(4,nI x125),(3,.bool true),(1,nP z17 0)]) (w':=w155) (by kernel_rfl) ?_
     intro a179 hF178; clear hF174
     cases hc180:(x143 == 0)
     case true =>
      rw [hc180] at hF178
      have hm181:=ifYes hc180 hm177; clear hm177
      refine ev_runs 2 hF178 (l':=[(62,nP z17 0),(61,nI x125),(60,.bool true),(59,.bool true),(58,.bool true),(57,nI x143),(56,.bool true),(55,.bool true),(54,.bool true),(53,nI x126),(52,.bool true),(51,.bool true),(7,nI x143),(6,nB w147),(5,nI x126),(4,nI x125),(3,.bool true),(1,nP z17 0)]) (w':=w155) (by kernel_rfl) ?_
      intro a183 hF182; clear hF178
      have hS184:=hS157.pick5.pick5.pick5.pick4.pick5
      clear hS157
      refine ev_call 42 #[nP z17 0,nI 0] hF182 rfl rfl (by kernel_rfl) rfl (by kernel_rfl) (fun w=>by kernel_rfl) ?_
      obtain ⟨x185,s186,s187,hx188,hm189⟩:=bind3E hm181; clear hm181
      refine (law14_gor.ok hS184 hx188).mono ?_
      rintro _ w190 ⟨rfl,hS192⟩ a191 hF193; clear hF182 hS184
      refine ev_runs 3 hF193 (l':=[(66,.bool (x125 == x185)),(65,.bool (x125 == x185)),(64,.bool (x125 == x185)),(63,nI x185),(62,nP z17 0),(61,nI x125),(60,.bool true),(59,.bool true),(58,.bool true),(57,nI x143),(56,.bool true),(55,.bool true),(54,.bool true),(53,nI x126),(52,.bool true),(51,.bool true),(7,nI x143),(6,nB w147),(5,nI x126),(4,nI x125),(3,.bool true),(1,nP z17 0)]) (w':=w190) (by kernel_rfl) ?_
      intro a195 hF194; clear hF193
      cases hc196:(x125 == x185)
      case true =>
       rw [hc196] at hF194
       have hm197:=ifYes hc196 hm189; clear hm189
       refine ev_runs 1 hF194 (l':=[(67,nP (w147.heap.size) 2),(66,.bool true),(65,.bool true),(64,.bool true),(63,nI x185),(62,nP z17 0),(61,nI x125),(60,.bool true),(59,.bool true),(58,.bool true),(57,nI x143),(56,.bool true),(55,.bool true),(54,.bool true),(53,nI x126),(52,.bool true),(51,.bool true),(7,nI x143),(6,nB w147),(5,nI x126),(4,nI x125),(3,.bool true),(1,nP z17 0)]) (w':=w190) (by kernel_rfl) ?_
       intro a199 hF198; clear hF194
       refine ev_one (nI (q142.pc)) w190 hF198 (by kernel_rfl) rfl (by kernel_rfl) (run_loadV rfl rfl (run_loadS rfl rfl (hS192.cell 5 rfl 2 rfl))) (l':=[(68,nI (q142.pc)),(67,nP (w147.heap.size) 2),(66,.bool true),(65,.bool true),(64,.bool true),(63,nI x185),(62,nP z17 0),(61,nI x125),(60,.bool true),(59,.bool true),(58,.bool true),(57,nI x143),(56,.bool true),(55,.bool true),(54,.bool true),(53,nI x126),(52,.bool true),(51,.bool true),(7,nI x143),(6,nB w147),(5,nI x126),(4,nI x125),(3,.bool true),(1,nP z17 0)]) (by kernel_rfl) ?_
       intro a201 hF200; clear hF198
       refine ev_runs 3 hF200 (l':=[(71,.bool (q142.pc == 5)),(70,.bool (q142.pc == 5)),(69,.bool (q142.pc == 5)),(68,nI (q142.pc)),(67,nP (w147.heap.size) 2),(66,.bool true),(65,.bool true),(64,.bool true),(63,nI x185),(62,nP z17 0),(61,nI x125),(60,.bool true),(59,.bool true),(58,.bool true),(57,nI x143),(56,.bool true),(55,.bool true),(54,.bool true),(53,nI x126),(52,.bool true),(51,.bool true),(7,nI x143),(6,nB w147),(5,nI x126),(4,nI x125),(3,.bool true),(1,nP z17 0)]) (w':=w190) (by kernel_rfl) ?_
       intro a203 hF202; clear hF200
       cases hc204:(q142.pc == 5)
       case true =>
        rw [hc204] at hF202
        have hm205:=ifYes hc204 hm197; clear hm197
        refine ev_runs 1 hF202 (l':=[(72,nP (w147.heap.size) 3),(71,.bool true),(70,.bool true),(69,.bool true),(68,nI (q142.pc)),(67,nP (w147.heap.size) 2),(66,.bool true),(65,.bool true),(64,.bool true),(63,nI x185),(62,nP z17 0),(61,nI x125),(60,.bool true),(59,.bool true),(58,.bool true),(57,nI x143),(56,.bool true),(55,.bool true),(54,.bool true),(53,nI x126),(52,.bool true),(51,.bool true),(7,nI x143),(6,nB w147),(5,nI x126),(4,nI x125),(3,.bool true),(1,nP z17 0)]) (w':=w190) (by kernel_rfl) ?_
        intro a207 hF206; clear hF202
        refine ev_one (nP (w147.heap.size) 3) w190 hF206 (by kernel_rfl) rfl (by kernel_rfl) (run_idxA (q:=0) rfl rfl rfl rfl rfl (by decide) (by decide) (by kernel_rfl) _) (l':=[(73,nP (w147.heap.size) 3),(72,nP (w147.heap.size) 3),(71,.bool true),(70,.bool true),(69,.bool true),(68,nI (q142.pc)),(67,nP (w147.heap.size) 2),(66,.bool true),(65,.bool true),(64,.bool true),(63,nI x185),(62,nP z17 0),(61,nI x125),(60,.bool true),(59,.bool true),(58,.bool true),(57,nI x143),(56,.bool true),(55,.bool true),(54,.bool true),(53,nI x126),(52,.bool true),(51,.bool true),(7,nI x143),(6,nB w147),(5,nI x126),(4,nI x125),(3,.bool true),(1,nP z17 0)]) (by kernel_rfl) ?_
        intro a209 hF208; clear hF206
        refine ev_one (nI (q142.a)) w190 hF208 (by kernel_rfl) rfl (by kernel_rfl) (run_loadV rfl rfl (run_loadS rfl rfl (hS192.cell 5 rfl 3 rfl))) (l':=[(74,nI (q142.a)),(73,nP (w147.heap.size) 3),(72,nP (w147.heap.size) 3),(71,.bool true),(70,.bool true),(69,.bool true),(68,nI (q142.pc)),(67,nP (w147.heap.size) 2),(66,.bool true),(65,.bool true),(64,.bool true),(63,nI x185),(62,nP z17 0),(61,nI x125),(60,.bool true),(59,.bool true),(58,.bool true),(57,nI x143),(56,.bool true),(55,.bool true),(54,.bool true),(53,nI x126),(52,.bool true),(51,.bool true),(7,nI x143),(6,nB w147),(5,nI x126),(4,nI x125),(3,.bool true),(1,nP z17 0)]) (by kernel_rfl) ?_
        intro a211 hF210; clear hF208
        refine ev_runs 3 hF210 (l':=[(77,.bool (q142.a == 8)),(76,.bool (q142.a == 8)),(75,.bool (q142.a == 8)),(74,nI (q142.a)),(73,nP (w147.heap.size) 3),(72,nP (w147.heap.size) 3),(71,.bool true),(70,.bool true),(69,.bool true),(68,nI (q142.pc)),(67,nP (w147.heap.size) 2),(66,.bool true),(65,.bool true),(64,.bool true),(63,nI x185),(62,nP z17 0),(61,nI x125),(60,.bool true),(59,.bool true),(58,.bool true),(57,nI x143),(56,.bool true),(55,.bool true),(54,.bool true),(53,nI x126),(52,.bool true),(51,.bool true),(7,nI x143),(6,nB w147),(5,nI x126),(4,nI x125),(3,.bool true),(1,nP z17 0)]) (w':=w190) (by kernel_rfl) ?_
        intro a213 hF212; clear hF210
        cases hc214:(q142.a == 8)
        case true =>
         rw [hc214] at hF212
         have hm215:=ifYes hc214 hm205; clear hm205
         refine ev_runs 1 hF212 (l':=[(78,nP (w147.heap.size) 1),(77,.bool true),(76,.bool true),(75,.bool true),(74,nI (q142.a)),(73,nP (w147.heap.size) 3),(72,nP (w147.heap.size) 3),(71,.bool true),(70,.bool true),(69,.bool true),(68,nI (q142.pc)),(67,nP (w147.heap.size) 2),(66,.bool true),(65,.bool true),(64,.bool true),(63,nI x185),(62,nP z17 0),(61,nI x125),(60,.bool true),(59,.bool true),(58,.bool true),(57,nI x143),(56,.bool true),(55,.bool true),(54,.bool true),(53,nI x126),(52,.bool true),(51,.bool true),(7,nI x143),(6,nB w147),(5,nI x126),(4,nI x125),(3,.bool true),(1,nP z17 0)]) (w':=w190) (by kernel_rfl) ?_
         intro a217 hF216; clear hF212
         refine ev_one (nI (q142.status)) w190 hF216 (by kernel_rfl) rfl (by kernel_rfl) (run_loadV rfl rfl (run_loadS rfl rfl (hS192.cell 5 rfl 1 rfl))) (l':=[(79,nI (q142.status)),(78,nP (w147.heap.size) 1),(77,.bool true),(76,.bool true),(75,.bool true),(74,nI (q142.a)),(73,nP (w147.heap.size) 3),(72,nP (w147.heap.size) 3),(71,.bool true),(70,.bool true),(69,.bool true),(68,nI (q142.pc)),(67,nP (w147.heap.size) 2),(66,.bool true),(65,.bool true),(64,.bool true),(63,nI x185),(62,nP z17 0),(61,nI x125),(60,.bool true),(59,.bool true),(58,.bool true),(57,nI x143),(56,.bool true),(55,.bool true),(54,.bool true),(53,nI x126),(52,.bool true),(51,.bool true),(7,nI x143),(6,nB w147),(5,nI x126),(4,nI x125),(3,.bool true),(1,nP z17 0)]) (by kernel_rfl) ?_
         intro a219 hF218; clear hF216
         refine ev_runs 3 hF218 (l':=[(82,.bool (q142.status == 0)),(81,.bool (q142.status == 0)),(80,.bool (q142.status == 0)),(79,nI (q142.status)),(78,nP (w147.heap.size) 1),(77,.bool true),(76,.bool true),(75,.bool true),(74,nI (q142.a)),(73,nP (w147.heap.size) 3),(72,nP (w147.heap.size) 3),(71,.bool true),(70,.bool true),(69,.bool true),(68,nI (q142.pc)),(67,nP (w147.heap.size) 2),(66,.bool true),(65,.bool true),(64,.bool true),(63,nI x185),(62,nP z17 0),(61,nI x125),(60,.bool true),(59,.bool true),(58,.bool true),(57,nI x143),(56,.bool true),(55,.bool true),(54,.bool true),(53,nI x126),(52,.bool true),(51,.bool true),(7,nI x143),(6,nB w147),(5,nI x126),(4,nI x125),(3,.bool true),(1,nP z17 0)]) (w':=w190) (by kernel_rfl) ?_
         intro a221 hF220; clear hF218
         cases hc222:(q142.status == 0)
         case true =>
          rw [hc222] at hF220
          have hm223:=ifYes hc222 hm215; clear hm215
          refine ev_runs 1 hF220 (l':=[(83,nP (w147.heap.size) 9),(82,.bool true),(81,.bool true),(80,.bool true),(79,nI (q142.status)),(78,nP (w147.heap.size) 1),(77,.bool true),(76,.bool true),(75,.bool true),(74,nI (q142.a)),(73,nP (w147.heap.size) 3),(72,nP (w147.heap.size) 3),(71,.bool true),(70,.bool true),(69,.bool true),(68,nI (q142.pc)),(67,nP (w147.heap.size) 2),(66,.bool true),(65,.bool true),(64,.bool true),(63,nI x185),(62,nP z17 0),(61,nI x125),(60,.bool true),(59,.bool true),(58,.bool true),(57,nI x143),(56,.bool true),(55,.bool true),(54,.bool true),(53,nI x126),(52,.bool true),(51,.bool true),(7,nI x143),(6,nB w147),(5,nI x126),(4,nI x125),(3,.bool true),(1,nP z17 0)]) (w':=w190) (by kernel_rfl) ?_
          intro a225 hF224; clear hF220
          refine ev_one (nI (q142.sudogs)) w190 hF224 (by kernel_rfl) rfl (by kernel_rfl) (run_loadV rfl rfl (run_loadS rfl rfl (hS192.cell 5 rfl 9 rfl))) (l':=[(84,nI (q142.sudogs)),(83,nP (w147.heap.size) 9),(82,.bool true),(81,.bool true),(80,.bool true),(79,nI (q142.status)),(78,nP (w147.heap.size) 1),(77,.bool true),(76,.bool true),(75,.bool true),(74,nI (q142.a)),(73,nP (w147.heap.size) 3),(72,nP (w147.heap.size) 3),(71,.bool true),(70,.bool true),(69,.bool true),(68,nI (q142.pc)),(67,nP (w147.heap.size) 2),(66,.bool true),(65,.bool true),(64,.bool true),(63,nI x185),(62,nP z17 0),(61,nI x125),(60,.bool true),(59,.bool true),(58,.bool true),(57,nI x143),(56,.bool true),(55,.bool true),(54,.bool true),(53,nI x126),(52,.bool true),(51,.bool true),(7,nI x143),(6,nB w147),(5,nI x126),(4,nI x125),(3,.bool true),(1,nP z17 0)]) (by kernel_rfl) ?_
          intro a227 hF226; clear hF224
          refine ev_runK 3 hF226 [0] (l':=[(0,.bool (q142.sudogs == (-1)))]) (w':=w190) (by kernel_rfl) ?_
          intro a229 hF228; clear hF226
          refine wpList_nil ?_
          have hS230:=hS192.drop.drop.drop.drop.drop.drop
          clear hS192
          exact thenN ⟨q142.sudogs == (-1),hF228,hS230,hm223⟩
         rw [hc222] at hF220
         have hm231:=ifNot hc222 hm215; clear hm215
         refine ev_runK 5 hF220 [0] (l':=[(0,.bool false)]) (w':=w190) (by kernel_rfl) ?_
         intro a233 hF232; clear hF220
         refine wpList_nil ?_
         have hS234:=hS192.drop.drop.drop.drop.drop.drop
         clear hS192
         exact thenN ⟨false,hF232,hS234,hm231⟩
        rw [hc214] at hF212
        have hm235:=ifNot hc214 hm205; clear hm205
        refine ev_runK 10 hF212 [0] (l':=[(0,.bool false)]) (w':=w190) (by kernel_rfl) ?_
        intro a237 hF236; clear hF212
        refine wpList_nil ?_
        have hS238:=hS192.drop.drop.drop.drop.drop.drop
        clear hS192
        exact thenN ⟨false,hF236,hS238,hm235⟩
       rw [hc204] at hF202
       have hm239:=ifNot hc204 hm197; clear hm197
       refine ev_runK 16 hF202 [0] (l':=[(0,.bool false)]) (w':=w190) (by kernel_rfl) ?_
       intro a241 hF240; clear hF202
       refine wpList_nil ?_
       have hS242:=hS192.drop.drop.drop.drop.drop.drop
       clear hS192
       exact thenN ⟨false,hF240,hS242,hm239⟩
      rw [hc196] at hF194
      have hm243:=ifNot hc196 hm189; clear hm189
      refine ev_runK 21 hF194 [0] (l':=[(0,.bool false)]) (w':=w190) (by kernel_rfl) ?_
      intro a245 hF244; clear hF194
      refine wpList_nil ?_
      have hS246:=hS192.drop.drop.drop.drop.drop.drop
      clear hS192
      exact thenN ⟨false,hF244,hS246,hm243⟩
     rw [hc180] at hF178
     have hm247:=ifNot hc180 hm177; clear hm177
     refine ev_runK 27 hF178 [0] (l':=[(0,.bool false)]) (w':=w155) (by kernel_rfl) ?_
     intro a249 hF248; clear hF178
     refine wpList_nil ?_
     have hS250:=hS157.drop.drop.drop.drop.drop.drop
     clear hS157
     exact thenN ⟨false,hF248,hS250,hm247⟩
    rw [hc176] at hF174
    have hm251:=ifNot hc176 hm173; clear hm173
    refine ev_runK 31 hF174 [0] (l':=[(0,.bool false)]) (w':=w155) (by kernel_rfl) ?_
    intro a253 hF252; clear hF174
    refine wpList_nil ?_
    have hS254:=hS157.drop.drop.drop.drop.drop.drop
    clear hS157
    exact thenN ⟨false,hF252,hS254,hm251⟩
   rw [hc172] at hF170
   have hm255:=ifNot hc172 hm146; clear hm146
   refine ev_runK 35 hF170 [0] (l':=[(0,.bool false)]) (w':=w155) (by kernel_rfl) ?_
   intro a257 hF256; clear hF170
   refine wpList_nil ?_
   have hS258:=hS157.drop.drop.drop.drop.drop.drop
   clear hS157
   exact thenN ⟨false,hF256,hS258,hm255⟩
end Go.Proofs.YtaojmbkmicjecaaGreat
namespace Go.Proofs.YtaojmbkmicjecaaGreat
open Go.RowKit
set_option linter.unusedVariables false
def WakeNowhere.j8 (x73:Int) (rec76:HSt→HSt→Int→Option (Bool)) (s98:HSt) (s99:HSt) (y100:Bool):Option (Bool):=(if (y100) then some (false) else rec76 s98 s99 (IntKind.i64.wrap (x73+1)))
def WakeNowhere.j7 (k:Nat) (L18:List Int) (L19:List Int) (s71:HSt) (s72:HSt) (x73:Int) (rec76:HSt→HSt→Int→Option (Bool)) (y90:Bool):Option (Bool):=(if (inR x73 L19.length) then (if (inR (Int.tmod x73 3) L18.length) then (if (inR (Int.tmod (IntKind.i64.wrap (x73+1)) 3) L18.length) then bind3 (law14_wait.m k s71 s72 L18 L19 (atI L19 x73) [atI L18 (Int.tmod x73 3),atI L18 (Int.tmod (IntKind.i64.wrap (x73+1)) 3)] [y90,!(y90)] (IntKind.i64.wrap (2 * x73)) (IntKind.i64.wrap (10 * x73))) fun y137 s138 s139=>WakeNowhere.j8 x73 rec76 s138 s139 (!(y137)) else none) else none) else none)
def WakeNowhere.j37 (x408:Int) (rec411:Int→Option (Bool)) (y437:Bool):Option (Bool):=(if (y437) then some (false) else rec411 (IntKind.i64.wrap (x408+1)))
def WakeNowhere.j36 (L19:List Int) (x200:Int) (x408:Int) (rec411:Int→Option (Bool)) (x422:Int) (x423:Int) (x424:Int) (x425:Int) (x426:Int) (x427:Int) (x428:Int) (x429:Int):Option (Bool):=(if (x429 != 0) then WakeNowhere.j37 x408 rec411 true else (if (inR x200 L19.length) then WakeNowhere.j37 x408 rec411 (x422 == (atI L19 x200)) else none))
def WakeNowhere.j39 (f232:(Int→Int)) (x341:Int) (rec344:HSt→Int→Option (Bool)) (s377:HSt) (L391:List Int) (x537:Int):Option (Bool):=(if (wdR x341) then (if ((L391.length:Int) != (IntKind.i64.wrap ((f232 x341) - x537))) then some (false) else rec344 s377 (IntKind.i64.wrap (x341+1))) else none)
def WakeNowhere.j38 (x200:Int) (f232:(Int→Int)) (x341:Int) (rec344:HSt→Int→Option (Bool)) (s377:HSt) (L391:List Int) (x527:Int):Option (Bool):=(if (x341 == (Int.tmod (IntKind.i64.wrap (x200+1)) 3)) then WakeNowhere.j39 f232 x341 rec344 s377 L391 (IntKind.i64.wrap (x527+1)) else WakeNowhere.j39 f232 x341 rec344 s377 L391 x527)
def WakeNowhere.l35b (L19:List Int) (x200:Int) (f232:(Int→Int)) (x341:Int) (rec344:HSt→Int→Option (Bool)) (s377:HSt) (L391:List Int) (rec411:Int→Option (Bool)) (x408:Int):Option (Bool):=(if (decide (x408<(L391.length:Int))) then (if (inR x408 L391.length) then bind2 (pSudog (atI L391 x408) s377) fun q482 x483=>WakeNowhere.j36 L19 x200 x408 rec411 q482.gor q482.chan q482.value q482.next q482.to q482.reg q482.more x483 else none) else (if (x341 == (Int.tmod x200 3)) then WakeNowhere.j38 x200 f232 x341 rec344 s377 L391 1 else WakeNowhere.j38 x200 f232 x341 rec344 s377 L391 0))
def WakeNowhere.l35 (L19:List Int) (x200:Int) (f232:(Int→Int)) (x341:Int) (rec344:HSt→Int→Option (Bool)) (s377:HSt) (L391:List Int):Nat→Int→Option (Bool)
  | 0=>fun _=>none
  | kI+1=>WakeNowhere.l35b L19 x200 f232 x341 rec344 s377 L391 (WakeNowhere.l35 L19 x200 f232 x341 rec344 s377 L391 kI)
def WakeNowhere.j40 (y579:Bool):Option (Bool):=some (y579)
def WakeNowhere.l30b (k:Nat) (L18:List Int) (L19:List Int) (x200:Int) (f232:(Int→Int)) (x307:Int) (x308:Int) (x322:Int) (x323:Int) (x330:Int) (rec344:HSt→Int→Option (Bool)) (s340:HSt) (x341:Int):Option (Bool):=(if (decide (x341<3)) then (if (inR x341 L18.length) then bind2 (list_All.m k s340 (atI L18 x341) (true)) fun L362 s363=>bind2 (list_All.m k s363 (atI L18 x341) (false)) fun L376 s377=>bind1 (appM L362 L376) fun L391=>WakeNowhere.l35 L19 x200 f232 x341 rec344 s377 L391 k 0 else none) else (if (x308 == 0) then (if (inR x200 L19.length) then (if (x307 == (atI L19 x200)) then (if (x330 == (-1)) then (if (x322 == 0) then WakeNowhere.j40 (x323 == (IntKind.i64.wrap (10 * x200))) else WakeNowhere.j40 false) else WakeNowhere.j40 false) else WakeNowhere.j40 false) else none) else WakeNowhere.j40 false))
def WakeNowhere.l30 (k:Nat) (L18:List Int) (L19:List Int) (x200:Int) (f232:(Int→Int)) (x307:Int) (x308:Int) (x322:Int) (x323:Int) (x330:Int):Nat→HSt→Int→Option (Bool)
  | 0=>fun _ _=>none
  | kI+1=>WakeNowhere.l30b k L18 L19 x200 f232 x307 x308 x322 x323 x330 (WakeNowhere.l30 k L18 L19 x200 f232 x307 x308 x322 x323 x330 kI)
def WakeNowhere.j11 (k:Nat) (L18:List Int) (L19:List Int) (x200:Int) (f232:(Int→Int)) (x307:Int) (x308:Int) (s320:HSt) (x321:Int) (x322:Int) (x323:Int) (x324:Int) (x325:Int) (x326:Int) (x327:Int) (x328:Int) (x329:Int) (x330:Int):Option (Bool):=WakeNowhere.l30 k L18 L19 x200 f232 x307 x308 x322 x323 x330 k s320 0
def WakeNowhere.l10b (k:Nat) (L18:List Int) (L19:List Int) (x200:Int) (x216:Int) (rec237:(Int→Int)→HSt→Int→Option (Bool)) (f232:(Int→Int)) (s233:HSt) (x234:Int):Option (Bool):=(if (decide (x234<3)) then (if (inR x234 L18.length) then bind2 (list_All.m k s233 (atI L18 x234) (true)) fun L255 s256=>bind2 (list_All.m k s256 (atI L18 x234) (false)) fun L271 s272=>(if (keyR x234) then (if (wdR (IntKind.i64.wrap ((L255.length:Int)+(L271.length:Int)))) then rec237 ((updM f232 x234 (IntKind.i64.wrap ((L255.length:Int)+(L271.length:Int))))) s272 (IntKind.i64.wrap (x234+1)) else none) else none) else none) else bind3 (wake_Wake.m k s233 x216 6) fun x307 x308 s309=>(if (inR x200 L19.length) then bind3 (view_Gor.m k s309 (atI L19 x200)) fun q656 x657 s658=>WakeNowhere.j11 k L18 L19 x200 f232 x307 x308 s658 q656.id q656.status q656.pc q656.a q656.b q656.c q656.d q656.e q656.f q656.sudogs else none))
def WakeNowhere.l10 (k:Nat) (L18:List Int) (L19:List Int) (x200:Int) (x216:Int):Nat→(Int→Int)→HSt→Int→Option (Bool)
  | 0=>fun _ _ _=>none
  | kI+1=>WakeNowhere.l10b k L18 L19 x200 x216 (WakeNowhere.l10 k L18 L19 x200 x216 kI)
def WakeNowhere.j9 (k:Nat) (L18:List Int) (L19:List Int) (x200:Int) (s206:HSt) (x207:Int) (x208:Int) (x209:Int) (x210:Int) (x211:Int) (x212:Int) (x213:Int) (x214:Int) (x215:Int) (x216:Int):Option (Bool):=WakeNowhere.l10 k L18 L19 x200 x216 k (fun _=>0) s206 0
def WakeNowhere.l6b (K1:List Bool) (i2:Int) (k:Nat) (L18:List Int) (L19:List Int) (rec76:HSt→HSt→Int→Option (Bool)) (s71:HSt) (s72:HSt) (x73:Int):Option (Bool):=(if (decide (x73<(L19.length:Int))) then (if (decide (x73<(K1.length:Int))) then (if (inR x73 K1.length) then WakeNowhere.j7 k L18 L19 s71 s72 x73 rec76 (atB K1 x73) else none) else WakeNowhere.j7 k L18 L19 s71 s72 x73 rec76 false) else (if ((IntKind.u64.wrap (L19.length:Int)) == 0) then none else bind1 (some (IntKind.i64.wrap (Int.tmod (IntKind.u64.wrap i2) (IntKind.u64.wrap (L19.length:Int))))) fun x200=>(if (inR x200 L19.length) then bind3 (view_Gor.m k s71 (atI L19 x200)) fun q706 x707 s708=>WakeNowhere.j9 k L18 L19 x200 s708 q706.id q706.status q706.pc q706.a q706.b q706.c q706.d q706.e q706.f q706.sudogs else none)))
def WakeNowhere.l6 (K1:List Bool) (i2:Int) (k:Nat) (L18:List Int) (L19:List Int):Nat→HSt→HSt→Int→Option (Bool)
  | 0=>fun _ _ _=>none
  | kI+1=>WakeNowhere.l6b K1 i2 k L18 L19 (WakeNowhere.l6 K1 i2 k L18 L19 kI)
def WakeNowhere.j1 (K1:List Bool) (i2:Int) (k:Nat) (s16:HSt) (s17:HSt) (L18:List Int) (L19:List Int) (y53:Bool):Option (Bool):=(if (y53) then some (false) else WakeNowhere.l6 K1 i2 k L18 L19 k s16 s17 0)
def WakeNowhere.m (k:Nat) (i0:Int) (K1:List Bool) (i2:Int):Option (Bool):=bind1 (some (IntKind.i64.wrap (1+(IntKind.i64.wrap (Int.tmod (IntKind.u64.wrap i0) 5))))) fun x5=>bind4 (law14_made.m k [0,0,0] x5) fun s16 s17 L18 L19=>bind1 (law14_awake.m k ) fun y748=>(if (!(y748)) then WakeNowhere.j1 K1 i2 k s16 s17 L18 L19 true else WakeNowhere.j1 K1 i2 k s16 s17 L18 L19 false)
set_option maxRecDepth 100000 in
set_option maxHeartbeats 40000000 in
theorem WakeNowhere.ok {w0 w:World} {ps:List Piece} {k:Nat} {i0:Int} {pa1:Option Addr} {ca1:Nat} {K1:List Bool} (hA1:ArgBools w0 (.slice pa1 K1.length ca1) K1) {i2:Int} {r0:Bool} (hS:St w0 [] (ps) w) (hm:WakeNowhere.m k i0 K1 i2=some r0) :
    Calls Tryz.prog 9 #[nI i0,.slice pa1 K1.length ca1,nI i2] w fun e w'=>e=.returned (.bool r0)∧St w0 [] (ps) w':=by
 refine ev_enterL 290 [nI i0,.slice pa1 K1.length ca1,nI i2] Tryz.func9 rfl rfl (by simp) ?_
 intro a hF
 have hF0:Fr 290 a [(0,nI i0),(1,.slice pa1 K1.length ca1),(2,nI i2)]:=hF; clear hF
 unfold WakeNowhere.m at hm
 refine wp_seq (wp_region_lit ?_)
 refine ev_runK 1 hF0 [0,1,2] (l':=[(0,nI i0),(1,.slice pa1 K1.length ca1),(2,nI i2)]) (w':=w) (by kernel_rfl) ?_
 intro a2 hF1; clear hF0
 refine wpList_nil (thenN (wp_seq (wp_region_lit ?_)))
 refine ev_runs 6 hF1 (l':=[(0,nI (IntKind.i64.wrap (1+(IntKind.i64.wrap (Int.tmod (IntKind.u64.wrap i0) 5))))),(29,nI (IntKind.i64.wrap (1+(IntKind.i64.wrap (Int.tmod (IntKind.u64.wrap i0) 5))))),(28,nI (IntKind.i64.wrap (Int.tmod (IntKind.u64.wrap i0) 5))),(27,.int .u64 (Int.tmod (IntKind.u64.wrap i0) 5)),(26,.int .u64 (IntKind.u64.wrap i0)),(25,nI i0),(1,.slice pa1 K1.length ca1),(2,nI i2)]) (w':=w) (by kernel_rfl) ?_
 intro a4 hF3; clear hF1
 obtain ⟨x5,hx6,hm7⟩:=bind1E hm; clear hm
 have hF8:=hF3; rw [Option.some.inj hx6] at hF8; clear hF3
 refine wpList_nil ?_
 have hF9:=hF8.keep [0,1,2]
 clear hF8
 refine thenN (wp_seq (wp_region_lit ?_))
 refine ev_runs 1 hF9 (l':=[(30,.slice (some ⟨w.heap.size,0,none⟩) 3 3),(0,nI x5),(1,.slice pa1 K1.length ca1),(2,nI i2)]) (w':=w.alloc (.cells #[nI 0,nI 0,nI 0] 3)) (by kernel_rfl) ?_
 intro a11 hF10; clear hF9
 have hS13:St w0 [] (RowP (.slice (some ⟨w.heap.size,0,none⟩) 3 3) [0,0,0]::ps) (w.alloc (.cells #[nI 0,nI 0,nI 0] 3)):=St.lit hS [0,0,0] (by unfold maxLen; simp)
 refine ev_runs 1 hF10 (l':=[(31,nI x5),(30,.slice (some ⟨w.heap.size,0,none⟩) 3 3),(0,nI x5),(1,.slice pa1 K1.length ca1),(2,nI i2)]) (w':=w.alloc (.cells #[nI 0,nI 0,nI 0] 3)) (by kernel_rfl) ?_
 intro a15 hF14; clear hF10
 refine ev_call 35 #[.slice (some ⟨w.heap.size,0,none⟩) 3 3,nI x5] hF14 rfl rfl (by kernel_rfl) rfl (by kernel_rfl) (fun w=>by kernel_rfl) ?_
 obtain ⟨s16,s17,L18,L19,hx20,hm21⟩:=bind4E hm7; clear hm7
 refine (law14_made.ok hS13 hx20).mono ?_
 rintro _ w22 ⟨z26,z27,z28,z29,z30,z31,z32,z33,z34,z35,rfl,hS24⟩ a23 hF25; clear hF14 hS13
 have hS41:St w0 [] (RowP (.slice (some ⟨w.heap.size,0,none⟩) 3 3) [0,0,0]::BlkP z26 66 #[nP z27 0,nP z29 0,z34,z35]::HeapP z27 z28 s16::RHeapP z29 z30 z31 z32 z33 s17::RowP (z34) L18::RowP (z35) L19::ps) w22:=hS24
 clear hS24
 obtain ⟨hl45,p42,c43,rfl,hp44⟩:=St.shape hS41 4 rfl
 obtain ⟨hl49,p46,c47,rfl,hp48⟩:=St.shape hS41 5 rfl
 refine ev_runK 1 hF25 [1,2,7] (l':=[(7,nP z26 0),(1,.slice pa1 K1.length ca1),(2,nI i2)]) (w':=w22) (by kernel_rfl) ?_
 intro a51 hF50; clear hF25
 refine wpList_nil ?_
 have hS52:=hS41.drop
 clear hS41
 refine thenN (wp_seq (wp_seq ?_))
 refine joinQ (fun aI wI=>∃ (y53:Bool),Fr 290 aI [(38,.bool (y53)),(7,nP z26 0),(1,.slice pa1 K1.length ca1),(2,nI i2)]∧St w0 [] (BlkP z26 66 #[nP z27 0,nP z29 0,.slice p42 L18.length c43,.slice p46 L19.length c47]::HeapP z27 z28 s16::RHeapP z29 z30 z31 z32 z33 s17::RowP (.slice p42 L18.length c43) L18::RowP (.slice p46 L19.length c47) L19::ps) wI∧WakeNowhere.j1 K1 i2 k s16 s17 L18 L19 y53=some r0) ?_ ?_
 rotate_left
 · rintro a55 w56 ⟨y53,hF57,hS58,hm59⟩
   clear hF50 hS52 hm21
   unfold WakeNowhere.j1 at hm59
   refine thenN ?_
   cases hc61:(y53)
   case true =>
    rw [hc61] at hF57
    have hm62:=ifYes hc61 hm59; clear hm59
    refine ev_condT hF57 rfl rfl ?_
    refine wp_seq (wp_region_lit ?_)
    refine ev_runK 1 hF57 [6] (l':=[(6,.bool false)]) (w':=w56) (by kernel_rfl) ?_
    intro a64 hF63; clear hF57
    refine wpList_nil ?_
    have hS65:=hS58.drop.drop.drop.drop.drop
    clear hS58
    refine thenN ?_
    refine wp_ret ?_
    refine thenR ?_
    obtain rfl:=Option.some.inj hm62
    refine ev_ret hF63 [6] (.bool false) rfl rfl rfl ?_
    exact ⟨rfl,hS65⟩
   rw [hc61] at hF57
   have hm67:=ifNot hc61 hm59; clear hm59
   refine ev_condF hF57 rfl rfl ?_
   refine wp_skip ?_
   have hF68:=hF57.keep [1,2,7]
   clear hF57
   refine thenN (wp_seq (wp_seq (wp_region_lit ?_)))
   refine ev_runs 1 hF68 (l':=[(8,nI 0),(7,nP z26 0),(1,.slice pa1 K1.length ca1),(2,nI i2)]) (w':=w56) (by kernel_rfl) ?_
   intro a70 hF69; clear hF68
   refine wpList_nil (thenN ?_)
   refine wp_block ?_
   refine wp_loop_ghost (fun kI aI wI=>∃ (s71:HSt) (s72:HSt) (x73:Int),Fr 290 aI [(8,nI x73),(7,nP z26 0),(1,.slice pa1 K1.length ca1),(2,nI i2)]∧St w0 [] (BlkP z26 66 #[nP z27 0,nP z29 0,.slice p42 L18.length c43,.slice p46 L19.length c47]::HeapP z27 z28 s71::RHeapP z29 z30 z31 z32 z33 s72::RowP (.slice p42 L18.length c43) L18::RowP (.slice p46 L19.length c47) L19::ps) wI∧WakeNowhere.l6 K1 i2 k L18 L19 kI s71 s72 x73=some r0) k ⟨s16,s17,0,hF69,hS58,hm67⟩ ?_
   rintro k74 a75 w76 ⟨s71,s72,x73,hF77,hS78,hm79⟩
   clear hF69 hS58 hm67
   rcases k74 with _ | k74
   · cases hm79
   have hm80:WakeNowhere.l6b K1 i2 k L18 L19 (WakeNowhere.l6 K1 i2 k L18 L19 k74) s71 s72 x73=some r0:=hm79
   clear hm79
   unfold WakeNowhere.l6b at hm80
   refine wp_seq (wp_seq (wp_region_lit ?_))
   refine ev_runs 4 hF77 (l':=[(42,nP z26 3),(41,nP z26 0),(40,nP z26 0),(39,nI x73),(8,nI x73),(7,nP z26 0),(1,.slice pa1 K1.length ca1),(2,nI i2)]) (w':=w76) (by kernel_rfl) ?_
   intro a82 hF81; clear hF77
   refine ev_one (.slice p46 L19.length c47) w76 hF81 (by kernel_rfl) rfl (by kernel_rfl) (run_loadV rfl rfl (run_loadS rfl rfl (hS78.cell 0 rfl 3 rfl))) (l':=[(43,.slice p46 L19.length c47),(42,nP z26 3),(41,nP z26 0),(40,nP z26 0),(39,nI x73),(8,nI x73),(7,nP z26 0),(1,.slice pa1 K1.length ca1),(2,nI i2)]) (by kernel_rfl) ?_
   intro a84 hF83; clear hF81
   refine ev_runK 2 hF83 [1,2,7,8,45] (l':=[(45,.bool (decide (x73<(L19.length:Int)))),(8,nI x73),(7,nP z26 0),(1,.slice pa1 K1.length ca1),(2,nI i2)]) (w':=w76) (by kernel_rfl) ?_
   intro a86 hF85; clear hF83
   refine wpList_nil (thenN ?_)
   cases hc87:(decide (x73<(L19.length:Int)))
   case true =>
    rw [hc87] at hF85
    have hm88:=ifYes hc87 hm80; clear hm80
    refine ev_condT hF85 rfl rfl ?_
    refine wp_skip ?_
    have hF89:=hF85.keep [1,2,7,8]
    clear hF85
    refine thenN (wp_seq ?_)
    refine wp_block ?_
    refine wp_seq ?_
    refine joinQ (fun aI wI=>∃ (y90:Bool),Fr 290 aI [(9,.bool (y90)),(8,nI x73),(7,nP z26 0),(1,.slice pa1 K1.length ca1),(2,nI i2)]∧St w0 [] (BlkP z26 66 #[nP z27 0,nP z29 0,.slice p42 L18.length c43,.slice p46 L19.length c47]::HeapP z27 z28 s71::RHeapP z29 z30 z31 z32 z33 s72::RowP (.slice p42 L18.length c43) L18::RowP (.slice p46 L19.length c47) L19::ps) wI∧WakeNowhere.j7 k L18 L19 s71 s72 x73 (WakeNowhere.l6 K1 i2 k L18 L19 k74) y90=some r0) ?_ ?_
    rotate_left
    · rintro a92 w93 ⟨y90,hF94,hS95,hm96⟩
      clear hF89 hS78 hm88
      unfold WakeNowhere.j7 at hm96
      refine thenN (wp_seq ?_)
      refine joinQ (fun aI wI=>∃ (s98:HSt) (s99:HSt) (y100:Bool),Fr 290 aI [(93,.bool (y100)),(8,nI x73),(7,nP z26 0),(1,.slice pa1 K1.length ca1),(2,nI i2)]∧St w0 [] (BlkP z26 66 #[nP z27 0,nP z29 0,.slice p42 L18.length c43,.slice p46 L19.length c47]::HeapP z27 z28 s98::RHeapP z29 z30 z31 z32 z33 s99::RowP (.slice p42 L18.length c43) L18::RowP (.slice p46 L19.length c47) L19::ps) wI∧WakeNowhere.j8 x73 (WakeNowhere.l6 K1 i2 k L18 L19 k74) s98 s99 y100=some r0) ?_ ?_
      rotate_left
      · rintro a102 w103 ⟨s98,s99,y100,hF104,hS105,hm106⟩
        clear hF94 hS95 hm96
        unfold WakeNowhere.j8 at hm106
        refine thenN ?_
        cases hc108:(y100)
        case true =>
         rw [hc108] at hF104
         have hm109:=ifYes hc108 hm106; clear hm106
         refine ev_condT hF104 rfl rfl ?_
         refine wp_seq (wp_region_lit ?_)
         refine ev_runK 1 hF104 [6] (l':=[(6,.bool false)]) (w':=w103) (by kernel_rfl) ?_
         intro a111 hF110; clear hF104
         refine wpList_nil ?_
         have hS112:=hS105.drop.drop.drop.drop.drop
         clear hS105
         refine thenN ?_
         refine wp_ret ?_
         refine blockR ?_
         refine thenR (thenR ?_)
         refine blockR ?_
         refine thenR ?_
         obtain rfl:=Option.some.inj hm109
         refine ev_ret hF110 [6] (.bool false) rfl rfl rfl ?_
         exact ⟨rfl,hS112⟩
        rw [hc108] at hF104
        have hm114:=ifNot hc108 hm106; clear hm106
        refine ev_condF hF104 rfl rfl ?_
        refine wp_skip ?_
        have hF115:=hF104.keep [1,2,7,8]
        clear hF104
        refine blockN ?_
        refine thenN (wp_region_lit ?_)
        refine ev_runK 3 hF115 [1,2,7,8] (l':=[(8,nI (IntKind.i64.wrap (x73+1))),(7,nP z26 0),(1,.slice pa1 K1.length ca1),(2,nI i2)]) (w':=w103) (by kernel_rfl) ?_
        intro a117 hF116; clear hF115
        refine wpList_nil ?_
        exact thenN ⟨k74,Nat.lt_succ_self _,s98,s99,IntKind.i64.wrap (x73+1),hF116,hS105,hm114⟩
      · skip
        obtain ⟨hc118,hm119⟩:=ifTE hm96; clear hm96
        obtain ⟨g120,rfl⟩:=hp48.resolve_left (by have:=inR_spec hc118; omega)
        obtain ⟨hc121,hm122⟩:=ifTE hm119; clear hm119
        obtain ⟨g123,rfl⟩:=hp44.resolve_left (by have:=inR_spec hc121; omega)
        obtain ⟨hc124,hm125⟩:=ifTE hm122; clear hm122
        have hS126:=hS95.pick3.pick4.pick2
        clear hS95
        have hS127:=hS126.drew; clear hS126
        refine any_start (fun wS=>∃ qs,St w0 [] (BlkP z26 66 #[nP z27 0,nP z29 0,nS g123 L18 c43,nS g120 L19 c47]::RowP (nS g120 L19 c47) L19::RowP (nS g123 L18 c43) L18::qs) wS) 36 #[false,false,false,false,false,false,false,false,false,false,false,false,false,false,false,false,false,false,false,false,false,false,false,false,false,false,false,false,false,false,false,false,false,false,false,false] (by kernel_rfl) (by kernel_rfl) (by kernel_rfl) ?_
        refine any_many 32 [(0,some (nP z26 0)),(1,some (nP z26 0)),(2,some (nP z26 0)),(3,some (nP z26 3)),(4,some (nS g120 L19 c47)),(5,some (nI x73)),(6,some (nP g120 (x73.toNat))),(7,some (nI (atI L19 x73))),(8,some (nP z26 0)),(9,some (nP z26 0)),(10,some (nP z26 2)),(11,some (nS g123 L18 c43)),(12,some (nI x73)),(13,some (nI (Int.tmod x73 3))),(14,some (nP g123 ((Int.tmod x73 3).toNat))),(15,some (nI (atI L18 (Int.tmod x73 3)))),(16,some (nP z26 0)),(17,some (nP z26 0)),(18,some (nP z26 2)),(19,some (nS g123 L18 c43)),(20,some (nI x73)),(21,some (nI (IntKind.i64.wrap (x73+1)))),(22,some (nI (Int.tmod (IntKind.i64.wrap (x73+1)) 3))),(23,some (nP g123 ((Int.tmod (IntKind.i64.wrap (x73+1)) 3).toNat))),(24,some (nI (atI L18 (Int.tmod (IntKind.i64.wrap (x73+1)) 3)))),(26,some (.bool (y90))),(27,some (.bool (y90))),(28,some (.bool (!(y90)))),(30,some (nI x73)),(31,some (nI (IntKind.i64.wrap (2 * x73)))),(32,some (nI x73)),(33,some (nI (IntKind.i64.wrap (10 * x73))))] [1,2,7,8,58,65,73,82,83,84,86,87,89,91,92,93] #[true,true,true,true,true,true,true,true,true,true,true,true,true,true,true,true,true,true,true,true,true,true,true,true,true,false,true,true,true,false,true,true,true,true,false,false] (by rfl) hF94 (by kernel_rfl) (by kernel_rfl) (by exact ⟨fun wS hw=>by kernel_rfl,fun wS hw=>by kernel_rfl,fun wS hw=>by kernel_rfl,fun wS hw=>by kernel_rfl,fun wS hw=>hw.elim fun qs hw=>run_loadV rfl rfl (run_loadS rfl rfl (hw.cell 0 rfl 3 rfl)),fun wS hw=>by kernel_rfl,fun wS hw=>run_idx rfl rfl rfl rfl rfl (inR_spec hc118).1 (inR_spec hc118).2 _,fun wS hw=>run_load1 rfl rfl rfl (hw.elim fun qs hw=>hw.atI 1 rfl hc118),fun wS hw=>by kernel_rfl,fun wS hw=>by kernel_rfl,fun wS hw=>by kernel_rfl,fun wS hw=>hw.elim fun qs hw=>run_loadV rfl rfl (run_loadS rfl rfl (hw.cell 0 rfl 2 rfl)),fun wS hw=>by kernel_rfl,fun wS hw=>by kernel_rfl,fun wS hw=>run_idx rfl rfl rfl rfl rfl (inR_spec hc121).1 (inR_spec hc121).2 _,fun wS hw=>run_load1 rfl rfl rfl (hw.elim fun qs hw=>hw.atI 2 rfl hc121),fun wS hw=>by kernel_rfl,fun wS hw=>by kernel_rfl,fun wS hw=>by kernel_rfl,fun wS hw=>hw.elim fun qs hw=>run_loadV rfl rfl (run_loadS rfl rfl (hw.cell 0 rfl 2 rfl)),fun wS hw=>by kernel_rfl,fun wS hw=>by kernel_rfl,fun wS hw=>by kernel_rfl,fun wS hw=>run_idx rfl rfl rfl rfl rfl (inR_spec hc124).1 (inR_spec hc124).2 _,fun wS hw=>run_load1 rfl rfl rfl (hw.elim fun qs hw=>hw.atI 2 rfl hc124),fun wS hw=>by kernel_rfl,fun wS hw=>by kernel_rfl,fun wS hw=>by kernel_rfl,fun wS hw=>by kernel_rfl,fun wS hw=>by kernel_rfl,fun wS hw=>by kernel_rfl,fun wS hw=>by kernel_rfl,trivial⟩) (fun _ _ _ _ _ h=>h) ⟨_,hS127⟩ (l':=[(91,nI (IntKind.i64.wrap (10 * x73))),(89,nI (IntKind.i64.wrap (2 * x73))),(86,.bool (!(y90))),(84,.bool (y90)),(82,nI (atI L18 (Int.tmod (IntKind.i64.wrap (x73+1)) 3))),(73,nI (atI L18 (Int.tmod x73 3))),(65,nI (atI L19 x73)),(58,nP z26 0),(8,nI x73),(7,nP z26 0),(1,.slice pa1 K1.length ca1),(2,nI i2)]) (by kernel_rfl) ?_
        intro a129 hF128; clear hF94
        refine any_two 25 29 (by kernel_rfl) ?_ ?_
        · skip
          have hS130:St w0 [] (RowP (.slice (some ⟨(w93.drew).heap.size,0,none⟩) 2 2) [atI L18 (Int.tmod x73 3),atI L18 (Int.tmod (IntKind.i64.wrap (x73+1)) 3)]::BlkP z26 66 #[nP z27 0,nP z29 0,nS g123 L18 c43,nS g120 L19 c47]::RowP (nS g120 L19 c47) L19::RowP (nS g123 L18 c43) L18::HeapP z27 z28 s71::RHeapP z29 z30 z31 z32 z33 s72::ps) ((w93.drew).alloc (.cells #[nI (atI L18 (Int.tmod x73 3)),nI (atI L18 (Int.tmod (IntKind.i64.wrap (x73+1)) 3))] 3)):=St.lit hS127 [atI L18 (Int.tmod x73 3),atI L18 (Int.tmod (IntKind.i64.wrap (x73+1)) 3)] (by unfold maxLen; simp)
          clear hS127
          refine op_step 25 #[true,true,true,true,true,true,true,true,true,true,true,true,true,true,true,true,true,true,true,true,true,true,true,true,true,true,true,true,true,false,true,true,true,true,false,false] (.slice (some ⟨(w93.drew).heap.size,0,none⟩) 2 2) ((w93.drew).alloc (.cells #[nI (atI L18 (Int.tmod x73 3)),nI (atI L18 (Int.tmod (IntKind.i64.wrap (x73+1)) 3))] 3)) hF128 rfl (by kernel_rfl) rfl (by kernel_rfl) (by kernel_rfl) (l':=[(83,.slice (some ⟨(w93.drew).heap.size,0,none⟩) 2 2),(91,nI (IntKind.i64.wrap (10 * x73))),(89,nI (IntKind.i64.wrap (2 * x73))),(86,.bool (!(y90))),(84,.bool (y90)),(82,nI (atI L18 (Int.tmod (IntKind.i64.wrap (x73+1)) 3))),(73,nI (atI L18 (Int.tmod x73 3))),(65,nI (atI L19 x73)),(58,nP z26 0),(8,nI x73),(7,nP z26 0),(1,.slice pa1 K1.length ca1),(2,nI i2)]) (by kernel_rfl) ⟨_,hS130.pick3.pick3.pick3⟩ (by kernel_rfl) ?_
          intro a132 hF131; clear hF128
          refine any_one 29 (by kernel_rfl) ?_
          have hS133:St w0 [] (BoolsP (.slice (some ⟨((w93.drew).alloc (.cells #[nI (atI L18 (Int.tmod x73 3)),nI (atI L18 (Int.tmod (IntKind.i64.wrap (x73+1)) 3))] 3)).heap.size,0,none⟩) 2 2) [y90,!(y90)]::RowP (.slice (some ⟨(w93.drew).heap.size,0,none⟩) 2 2) [atI L18 (Int.tmod x73 3),atI L18 (Int.tmod (IntKind.i64.wrap (x73+1)) 3)]::BlkP z26 66 #[nP z27 0,nP z29 0,nS g123 L18 c43,nS g120 L19 c47]::RowP (nS g120 L19 c47) L19::RowP (nS g123 L18 c43) L18::HeapP z27 z28 s71::RHeapP z29 z30 z31 z32 z33 s72::ps) (((w93.drew).alloc (.cells #[nI (atI L18 (Int.tmod x73 3)),nI (atI L18 (Int.tmod (IntKind.i64.wrap (x73+1)) 3))] 3)).alloc (.cells #[.bool (y90),.bool (!(y90))] 4)):=St.litB hS130 [y90,!(y90)] (by unfold maxLen; simp)
          clear hS130
          refine op_step 29 #[true,true,true,true,true,true,true,true,true,true,true,true,true,true,true,true,true,true,true,true,true,true,true,true,true,true,true,true,true,true,true,true,true,true,false,false] (.slice (some ⟨((w93.drew).alloc (.cells #[nI (atI L18 (Int.tmod x73 3)),nI (atI L18 (Int.tmod (IntKind.i64.wrap (x73+1)) 3))] 3)).heap.size,0,none⟩) 2 2) (((w93.drew).alloc (.cells #[nI (atI L18 (Int.tmod x73 3)),nI (atI L18 (Int.tmod (IntKind.i64.wrap (x73+1)) 3))] 3)).alloc (.cells #[.bool (y90),.bool (!(y90))] 4)) hF131 rfl (by kernel_rfl) rfl (by kernel_rfl) (by kernel_rfl) (l':=[(87,.slice (some ⟨((w93.drew).alloc (.cells #[nI (atI L18 (Int.tmod x73 3)),nI (atI L18 (Int.tmod (IntKind.i64.wrap (x73+1)) 3))] 3)).heap.size,0,none⟩) 2 2),(83,.slice (some ⟨(w93.drew).heap.size,0,none⟩) 2 2),(91,nI (IntKind.i64.wrap (10 * x73))),(89,nI (IntKind.i64.wrap (2 * x73))),(86,.bool (!(y90))),(84,.bool (y90)),(82,nI (atI L18 (Int.tmod (IntKind.i64.wrap (x73+1)) 3))),(73,nI (atI L18 (Int.tmod x73 3))),(65,nI (atI L19 x73)),(58,nP z26 0),(8,nI x73),(7,nP z26 0),(1,.slice pa1 K1.length ca1),(2,nI i2)]) (by kernel_rfl) ⟨_,hS133.pick4.pick4.pick4⟩ (by kernel_rfl) ?_
          intro a135 hF134; clear hF131
          have hS136:=hS133.pick1.pick3.pick4.pick6.pick6.pick6
          clear hS133
          refine any_call 34 #[true,true,true,true,true,true,true,true,true,true,true,true,true,true,true,true,true,true,true,true,true,true,true,true,true,true,true,true,true,true,true,true,true,true,true,false] 37 #[nP z26 0,nI (atI L19 x73),.slice (some ⟨(w93.drew).heap.size,0,none⟩) 2 2,.slice (some ⟨((w93.drew).alloc (.cells #[nI (atI L18 (Int.tmod x73 3)),nI (atI L18 (Int.tmod (IntKind.i64.wrap (x73+1)) 3))] 3)).heap.size,0,none⟩) 2 2,nI (IntKind.i64.wrap (2 * x73)),nI (IntKind.i64.wrap (10 * x73))] hF134 rfl (by kernel_rfl) rfl rfl (by kernel_rfl) rfl (by kernel_rfl) (fun w=>by kernel_rfl) (by kernel_rfl) ?_
          obtain ⟨y137,s138,s139,hx140,hm141⟩:=bind3E hm125; clear hm125
          refine (law14_wait.ok hS136 hx140).mono ?_
          rintro _ w142 ⟨rfl,hS144⟩; clear hS136
          refine ⟨⟨_,hS144.pick3.pick4.pick2⟩,?_⟩
          intro a143 hF145; clear hF134
          refine any_many 1 [(35,some (.bool (!(y137))))] [1,2,7,8,93] #[true,true,true,true,true,true,true,true,true,true,true,true,true,true,true,true,true,true,true,true,true,true,true,true,true,true,true,true,true,true,true,true,true,true,true,true] (by rfl) hF145 (by kernel_rfl) (by kernel_rfl) (by exact ⟨fun wS hw=>by kernel_rfl,trivial⟩) (fun _ _ _ _ _ h=>h) ⟨_,hS144.pick3.pick4.pick2⟩ (l':=[(93,.bool (!(y137))),(8,nI x73),(7,nP z26 0),(1,.slice pa1 K1.length ca1),(2,nI i2)]) (by kernel_rfl) ?_
          intro a147 hF146; clear hF145
          refine any_done (by kernel_rfl) ?_
          have hS148:=hS144.pick5.drop.pick5.drop
          clear hS144
          exact thenN ⟨s138,s139,!(y137),hF146,hS148,hm141⟩
        · skip
          have hS149:St w0 [] (BoolsP (.slice (some ⟨(w93.drew).heap.size,0,none⟩) 2 2) [y90,!(y90)]::BlkP z26 66 #[nP z27 0,nP z29 0,nS g123 L18 c43,nS g120 L19 c47]::RowP (nS g120 L19 c47) L19::RowP (nS g123 L18 c43) L18::HeapP z27 z28 s71::RHeapP z29 z30 z31 z32 z33 s72::ps) ((w93.drew).alloc (.cells #[.bool (y90),.bool (!(y90))] 4)):=St.litB hS127 [y90,!(y90)] (by unfold maxLen; simp)
          clear hS127
          refine op_step 29 #[true,true,true,true,true,true,true,true,true,true,true,true,true,true,true,true,true,true,true,true,true,true,true,true,true,false,true,true,true,true,true,true,true,true,false,false] (.slice (some ⟨(w93.drew).heap.size,0,none⟩) 2 2) ((w93.drew).alloc (.cells #[.bool (y90),.bool (!(y90))] 4)) hF128 rfl (by kernel_rfl) rfl (by kernel_rfl) (by kernel_rfl) (l':=[(87,.slice (some ⟨(w93.drew).heap.size,0,none⟩) 2 2),(91,nI (IntKind.i64.wrap (10 * x73))),(89,nI (IntKind.i64.wrap (2 * x73))),(86,.bool (!(y90))),(84,.bool (y90)),(82,nI (atI L18 (Int.tmod (IntKind.i64.wrap (x73+1)) 3))),(73,nI (atI L18 (Int.tmod x73 3))),(65,nI (atI L19 x73)),(58,nP z26 0),(8,nI x73),(7,nP z26 0),(1,.slice pa1 K1.length ca1),(2,nI i2)]) (by kernel_rfl) ⟨_,hS149.pick3.pick3.pick3⟩ (by kernel_rfl) ?_
          intro a151 hF150; clear hF128
          refine any_one 25 (by kernel_rfl) ?_
          have hS152:St w0 [] (RowP (.slice (some ⟨((w93.drew).alloc (.cells #[.bool (y90),.bool (!(y90))] 4)).heap.size,0,none⟩) 2 2) [atI L18 (Int.tmod x73 3),atI L18 (Int.tmod (IntKind.i64.wrap (x73+1)) 3)]::BoolsP (.slice (some ⟨(w93.drew).heap.size,0,none⟩) 2 2) [y90,!(y90)]::BlkP z26 66 #[nP z27 0,nP z29 0,nS g123 L18 c43,nS g120 L19 c47]::RowP (nS g120 L19 c47) L19::RowP (nS g123 L18 c43) L18::HeapP z27 z28 s71::RHeapP z29 z30 z31 z32 z33 s72::ps) (((w93.drew).alloc (.cells #[.bool (y90),.bool (!(y90))] 4)).alloc (.cells #[nI (atI L18 (Int.tmod x73 3)),nI (atI L18 (Int.tmod (IntKind.i64.wrap (x73+1)) 3))] 3)):=St.lit hS149 [atI L18 (Int.tmod x73 3),atI L18 (Int.tmod (IntKind.i64.wrap (x73+1)) 3)] (by unfold maxLen; simp)
          clear hS149
          refine op_step 25 #[true,true,true,true,true,true,true,true,true,true,true,true,true,true,true,true,true,true,true,true,true,true,true,true,true,true,true,true,true,true,true,true,true,true,false,false] (.slice (some ⟨((w93.drew).alloc (.cells #[.bool (y90),.bool (!(y90))] 4)).heap.size,0,none⟩) 2 2) (((w93.drew).alloc (.cells #[.bool (y90),.bool (!(y90))] 4)).alloc (.cells #[nI (atI L18 (Int.tmod x73 3)),nI (atI L18 (Int.tmod (IntKind.i64.wrap (x73+1)) 3))] 3)) hF150 rfl (by kernel_rfl) rfl (by kernel_rfl) (by kernel_rfl) (l':=[(83,.slice (some ⟨((w93.drew).alloc (.cells #[.bool (y90),.bool (!(y90))] 4)).heap.size,0,none⟩) 2 2),(87,.slice (some ⟨(w93.drew).heap.size,0,none⟩) 2 2),(91,nI (IntKind.i64.wrap (10 * x73))),(89,nI (IntKind.i64.wrap (2 * x73))),(86,.bool (!(y90))),(84,.bool (y90)),(82,nI (atI L18 (Int.tmod (IntKind.i64.wrap (x73+1)) 3))),(73,nI (atI L18 (Int.tmod x73 3))),(65,nI (atI L19 x73)),(58,nP z26 0),(8,nI x73),(7,nP z26 0),(1,.slice pa1 K1.length ca1),(2,nI i2)]) (by kernel_rfl) ⟨_,hS152.pick4.pick4.pick4⟩ (by kernel_rfl) ?_
          intro a154 hF153; clear hF150
          have hS155:=hS152.pick1.pick1.pick3.pick4.pick6.pick6.pick6
          clear hS152
          refine any_call 34 #[true,true,true,true,true,true,true,true,true,true,true,true,true,true,true,true,true,true,true,true,true,true,true,true,true,true,true,true,true,true,true,true,true,true,true,false] 37 #[nP z26 0,nI (atI L19 x73),.slice (some ⟨((w93.drew).alloc (.cells #[.bool (y90),.bool (!(y90))] 4)).heap.size,0,none⟩) 2 2,.slice (some ⟨(w93.drew).heap.size,0,none⟩) 2 2,nI (IntKind.i64.wrap (2 * x73)),nI (IntKind.i64.wrap (10 * x73))] hF153 rfl (by kernel_rfl) rfl rfl (by kernel_rfl) rfl (by kernel_rfl) (fun w=>by kernel_rfl) (by kernel_rfl) ?_
          obtain ⟨y156,s157,s158,hx159,hm160⟩:=bind3E hm125; clear hm125
          refine (law14_wait.ok hS155 hx159).mono ?_
          rintro _ w161 ⟨rfl,hS163⟩; clear hS155
          refine ⟨⟨_,hS163.pick3.pick4.pick2⟩,?_⟩
          intro a162 hF164; clear hF153
          refine any_many 1 [(35,some (.bool (!(y156))))] [1,2,7,8,93] #[true,true,true,true,true,true,true,true,true,true,true,true,true,true,true,true,true,true,true,true,true,true,true,true,true,true,true,true,true,true,true,true,true,true,true,true] (by rfl) hF164 (by kernel_rfl) (by kernel_rfl) (by exact ⟨fun wS hw=>by kernel_rfl,trivial⟩) (fun _ _ _ _ _ h=>h) ⟨_,hS163.pick3.pick4.pick2⟩ (l':=[(93,.bool (!(y156))),(8,nI x73),(7,nP z26 0),(1,.slice pa1 K1.length ca1),(2,nI i2)]) (by kernel_rfl) ?_
          intro a166 hF165; clear hF164
          refine any_done (by kernel_rfl) ?_
          have hS167:=hS163.pick5.drop.pick5.drop
          clear hS163
          exact thenN ⟨s157,s158,!(y156),hF165,hS167,hm160⟩
    · skip
      refine wp_region_lit ?_
      refine ev_runs 5 hF89 (l':=[(52,.bool (decide (x73<(K1.length:Int)))),(51,.bool (decide (x73<(K1.length:Int)))),(50,nI ((K1.length:Int))),(49,.slice pa1 K1.length ca1),(48,nI x73),(8,nI x73),(7,nP z26 0),(1,.slice pa1 K1.length ca1),(2,nI i2)]) (w':=w76) (by kernel_rfl) ?_
      intro a169 hF168; clear hF89
      cases hc170:(decide (x73<(K1.length:Int)))
      case true =>
       rw [hc170] at hF168
       have hm171:=ifYes hc170 hm88; clear hm88
       refine ev_runs 2 hF168 (l':=[(54,nI x73),(53,.slice pa1 K1.length ca1),(52,.bool true),(51,.bool true),(50,nI ((K1.length:Int))),(49,.slice pa1 K1.length ca1),(48,nI x73),(8,nI x73),(7,nP z26 0),(1,.slice pa1 K1.length ca1),(2,nI i2)]) (w':=w76) (by kernel_rfl) ?_
       intro a173 hF172; clear hF168
       obtain ⟨hc174,hm175⟩:=ifTE hm171; clear hm171
       obtain ⟨b176,o177,rfl⟩:=argKB hA1 hc174
       refine ev_one (nP b176 ((o177+x73.toNat))) w76 hF172 (by kernel_rfl) rfl (by kernel_rfl) (run_idxO rfl rfl rfl rfl rfl (inR_spec hc174).1 (inR_spec hc174).2 _) (l':=[(55,nP b176 ((o177+x73.toNat))),(54,nI x73),(53,.slice (some ⟨b176,o177,none⟩) K1.length ca1),(52,.bool true),(51,.bool true),(50,nI ((K1.length:Int))),(49,.slice (some ⟨b176,o177,none⟩) K1.length ca1),(48,nI x73),(8,nI x73),(7,nP z26 0),(1,.slice (some ⟨b176,o177,none⟩) K1.length ca1),(2,nI i2)]) (by kernel_rfl) ?_
       intro a179 hF178; clear hF172
       refine ev_one (.bool (atB K1 x73)) w76 hF178 (by kernel_rfl) rfl (by kernel_rfl) (run_loadB rfl rfl rfl (argAtB hA1 hS78 hc174)) (l':=[(56,.bool (atB K1 x73)),(55,nP b176 ((o177+x73.toNat))),(54,nI x73),(53,.slice (some ⟨b176,o177,none⟩) K1.length ca1),(52,.bool true),(51,.bool true),(50,nI ((K1.length:Int))),(49,.slice (some ⟨b176,o177,none⟩) K1.length ca1),(48,nI x73),(8,nI x73),(7,nP z26 0),(1,.slice (some ⟨b176,o177,none⟩) K1.length ca1),(2,nI i2)]) (by kernel_rfl) ?_
       intro a181 hF180; clear hF178
       refine ev_runK 2 hF180 [1,2,7,8,9] (l':=[(9,.bool (atB K1 x73)),(8,nI x73),(7,nP z26 0),(1,.slice (some ⟨b176,o177,none⟩) K1.length ca1),(2,nI i2)]) (w':=w76) (by kernel_rfl) ?_
       intro a183 hF182; clear hF180
       refine wpList_nil ?_
       exact thenN ⟨atB K1 x73,hF182,hS78,hm175⟩
      rw [hc170] at hF168
      have hm184:=ifNot hc170 hm88; clear hm88
      refine ev_runK 6 hF168 [1,2,7,8,9] (l':=[(9,.bool false),(8,nI x73),(7,nP z26 0),(1,.slice pa1 K1.length ca1),(2,nI i2)]) (w':=w76) (by kernel_rfl) ?_
      intro a186 hF185; clear hF168
      refine wpList_nil ?_
      exact thenN ⟨false,hF185,hS78,hm184⟩
   rw [hc87] at hF85
   have hm187:=ifNot hc87 hm80; clear hm80
   refine ev_condF hF85 rfl rfl ?_
   refine wp_exit ?_
   refine thenE ?_
   refine thenE ?_
   refine blockE ?_
   refine thenN (wp_seq (wp_region_lit ?_))
   refine ev_runs 5 hF85 (l':=[(98,nP z26 3),(97,nP z26 0),(96,nP z26 0),(95,.int .u64 (IntKind.u64.wrap i2)),(94,nI i2),(45,.bool false),(8,nI x73),(7,nP z26 0),(1,.slice pa1 K1.length ca1),(2,nI i2)]) (w':=w76) (by kernel_rfl) ?_
   intro a189 hF188; clear hF85
   refine ev_one (.slice p46 L19.length c47) w76 hF188 (by kernel_rfl) rfl (by kernel_rfl) (run_loadV rfl rfl (run_loadS rfl rfl (hS78.cell 0 rfl 3 rfl))) (l':=[(99,.slice p46 L19.length c47),(98,nP z26 3),(97,nP z26 0),(96,nP z26 0),(95,.int .u64 (IntKind.u64.wrap i2)),(94,nI i2),(45,.bool false),(8,nI x73),(7,nP z26 0),(1,.slice pa1 K1.length ca1),(2,nI i2)]) (by kernel_rfl) ?_
   intro a191 hF190; clear hF188
   refine ev_runs 2 hF190 (l':=[(101,.int .u64 (IntKind.u64.wrap (L19.length:Int))),(100,nI ((L19.length:Int))),(99,.slice p46 L19.length c47),(98,nP z26 3),(97,nP z26 0),(96,nP z26 0),(95,.int .u64 (IntKind.u64.wrap i2)),(94,nI i2),(45,.bool false),(8,nI x73),(7,nP z26 0),(1,.slice pa1 K1.length ca1),(2,nI i2)]) (w':=w76) (by kernel_rfl) ?_
   intro a193 hF192; clear hF190
   obtain ⟨hc194,hm195⟩:=ifFE hm187; clear hm187
   refine ev_one (.int .u64 (Int.tmod (IntKind.u64.wrap i2) (IntKind.u64.wrap (L19.length:Int)))) w76 hF192 (by kernel_rfl) rfl (by kernel_rfl) (run_rem rfl rfl rfl hc194 _) (l':=[(102,.int .u64 (Int.tmod (IntKind.u64.wrap i2) (IntKind.u64.wrap (L19.length:Int)))),(101,.int .u64 (IntKind.u64.wrap (L19.length:Int))),(100,nI ((L19.length:Int))),(99,.slice p46 L19.length c47),(98,nP z26 3),(97,nP z26 0),(96,nP z26 0),(95,.int .u64 (IntKind.u64.wrap i2)),(94,nI i2),(45,.bool false),(8,nI x73),(7,nP z26 0),(1,.slice pa1 K1.length ca1),(2,nI i2)]) (by kernel_rfl) ?_
   intro a197 hF196; clear hF192
   refine ev_runs 2 hF196 (l':=[(10,nI (IntKind.i64.wrap (Int.tmod (IntKind.u64.wrap i2) (IntKind.u64.wrap (L19.length:Int))))),(103,nI (IntKind.i64.wrap (Int.tmod (IntKind.u64.wrap i2) (IntKind.u64.wrap (L19.length:Int))))),(102,.int .u64 (Int.tmod (IntKind.u64.wrap i2) (IntKind.u64.wrap (L19.length:Int)))),(101,.int .u64 (IntKind.u64.wrap (L19.length:Int))),(100,nI ((L19.length:Int))),(99,.slice p46 L19.length c47),(98,nP z26 3),(97,nP z26 0),(96,nP z26 0),(95,.int .u64 (IntKind.u64.wrap i2)),(94,nI i2),(45,.bool false),(8,nI x73),(7,nP z26 0),(1,.slice pa1 K1.length ca1),(2,nI i2)]) (w':=w76) (by kernel_rfl) ?_
   intro a199 hF198; clear hF196
   obtain ⟨x200,hx201,hm202⟩:=bind1E hm195; clear hm195
   have hF203:=hF198; rw [Option.some.inj hx201] at hF203; clear hF198
   refine wpList_nil ?_
   have hF204:=hF203.keep [7,10]
   clear hF203
   refine thenN (wp_seq ?_)
   refine joinQ (fun aI wI=>∃ (g205:Nat) (s206:HSt) (x207:Int) (x208:Int) (x209:Int) (x210:Int) (x211:Int) (x212:Int) (x213:Int) (x214:Int) (x215:Int) (x216:Int),Fr 290 aI [(11,nP g205 0),(10,nI x200),(7,nP z26 0)]∧St w0 [] (BlkP g205 70 #[nI x207,nI x208,nI x209,nI x210,nI x211,nI x212,nI x213,nI x214,nI x215,nI x216]::HeapP z27 z28 s206::BlkP z26 66 #[nP z27 0,nP z29 0,.slice p42 L18.length c43,.slice p46 L19.length c47]::RowP (.slice p46 L19.length c47) L19::RHeapP z29 z30 z31 z32 z33 s72::RowP (.slice p42 L18.length c43) L18::ps) wI∧WakeNowhere.j9 k L18 L19 x200 s206 x207 x208 x209 x210 x211 x212 x213 x214 x215 x216=some r0) ?_ ?_
   rotate_left
   · rintro a218 w219 ⟨g205,s206,x207,x208,x209,x210,x211,x212,x213,x214,x215,x216,hF220,hS221,hm222⟩
     clear hF204 hS78 hm202
     unfold WakeNowhere.j9 at hm222
     refine thenN (wp_seq (wp_region_lit ?_))
     refine ev_runs 1 hF220 (l':=[(119,.map (some (w219.heap.size))),(11,nP g205 0),(10,nI x200),(7,nP z26 0)]) (w':=w219.alloc (.map #[] 0)) (by kernel_rfl) ?_
     intro a226 hF225; clear hF220
     have hS227:St w0 [] (ColP (w219.heap.size) (fun _=>0)::BlkP g205 70 #[nI x207,nI x208,nI x209,nI x210,nI x211,nI x212,nI x213,nI x214,nI x215,nI x216]::HeapP z27 z28 s206::BlkP z26 66 #[nP z27 0,nP z29 0,.slice p42 L18.length c43,.slice p46 L19.length c47]::RowP (.slice p46 L19.length c47) L19::RHeapP z29 z30 z31 z32 z33 s72::RowP (.slice p42 L18.length c43) L18::ps) (w219.alloc (.map #[] 0)):=St.newMap hS221
     clear hS221
     refine ev_runK 1 hF225 [7,10,11,13] (l':=[(13,.map (some (w219.heap.size))),(11,nP g205 0),(10,nI x200),(7,nP z26 0)]) (w':=w219.alloc (.map #[] 0)) (by kernel_rfl) ?_
     intro a229 hF228; clear hF225
     refine wpList_nil (thenN (wp_seq (wp_seq (wp_region_lit ?_))))
     refine ev_runs 1 hF228 (l':=[(14,nI 0),(13,.map (some (w219.heap.size))),(11,nP g205 0),(10,nI x200),(7,nP z26 0)]) (w':=w219.alloc (.map #[] 0)) (by kernel_rfl) ?_
     intro a231 hF230; clear hF228
     refine wpList_nil (thenN ?_)
     refine wp_block ?_
     refine wp_loop_ghost (fun kI aI wI=>∃ (f232:(Int→Int)) (s233:HSt) (x234:Int),Fr 290 aI [(14,nI x234),(13,.map (some (w219.heap.size))),(11,nP g205 0),(10,nI x200),(7,nP z26 0)]∧St w0 [] (ColP (w219.heap.size) f232::BlkP g205 70 #[nI x207,nI x208,nI x209,nI x210,nI x211,nI x212,nI x213,nI x214,nI x215,nI x216]::HeapP z27 z28 s233::BlkP z26 66 #[nP z27 0,nP z29 0,.slice p42 L18.length c43,.slice p46 L19.length c47]::RowP (.slice p46 L19.length c47) L19::RHeapP z29 z30 z31 z32 z33 s72::RowP (.slice p42 L18.length c43) L18::ps) wI∧WakeNowhere.l10 k L18 L19 x200 x216 kI f232 s233 x234=some r0) k ⟨(fun _=>0),s206,0,hF230,hS227,hm222⟩ ?_
     rintro k235 a236 w237 ⟨f232,s233,x234,hF238,hS239,hm240⟩
     clear hF230 hS227 hm222
     rcases k235 with _ | k235
     · cases hm240
     have hm241:WakeNowhere.l10b k L18 L19 x200 x216 (WakeNowhere.l10 k L18 L19 x200 x216 k235) f232 s233 x234=some r0:=hm240
     clear hm240
     unfold WakeNowhere.l10b at hm241
     refine wp_seq (wp_seq (wp_region_lit ?_))
     refine ev_runK 2 hF238 [7,10,11,13,14,121] (l':=[(121,.bool (decide (x234<3))),(14,nI x234),(13,.map (some (w219.heap.size))),(11,nP g205 0),(10,nI x200),(7,nP z26 0)]) (w':=w237) (by kernel_rfl) ?_
     intro a243 hF242; clear hF238
     refine wpList_nil (thenN ?_)
     cases hc244:(decide (x234<3))
     case true =>
      rw [hc244] at hF242
      have hm245:=ifYes hc244 hm241; clear hm241
      refine ev_condT hF242 rfl rfl ?_
      refine wp_skip ?_
      have hF246:=hF242.keep [7,10,11,13,14]
      clear hF242
      refine thenN (wp_seq ?_)
      refine wp_block ?_
      obtain ⟨hc247,hm248⟩:=ifTE hm245; clear hm245
      obtain ⟨g249,rfl⟩:=hp44.resolve_left (by have:=inR_spec hc247; omega)
      have hS250:=hS239.pick6.pick4
      clear hS239
      have hS251:=hS250.drew; clear hS250
      refine any_start (fun wS=>∃ qs,St w0 [] (BlkP z26 66 #[nP z27 0,nP z29 0,nS g249 L18 c43,.slice p46 L19.length c47]::RowP (nS g249 L18 c43) L18::qs) wS) 30 #[false,false,false,false,false,false,false,false,false,false,false,false,false,false,false,false,false,false,false,false,false,false,false,false,false,false,false,false,false,false] (by kernel_rfl) (by kernel_rfl) (by kernel_rfl) ?_
      refine any_many 24 [(0,some (.map (some (w219.heap.size)))),(1,some (nI x234)),(2,some (nP z26 0)),(3,some (nP z26 0)),(4,some (nP z26 0)),(5,some (nP z27 0)),(6,some (nP z26 0)),(7,some (nP z26 0)),(8,some (nP z26 2)),(9,some (nS g249 L18 c43)),(10,some (nI x234)),(11,some (nP g249 (x234.toNat))),(12,some (nI (atI L18 x234))),(15,some (nP z26 0)),(16,some (nP z26 0)),(17,some (nP z26 0)),(18,some (nP z27 0)),(19,some (nP z26 0)),(20,some (nP z26 0)),(21,some (nP z26 2)),(22,some (nS g249 L18 c43)),(23,some (nI x234)),(24,some (nP g249 (x234.toNat))),(25,some (nI (atI L18 x234)))] [7,10,11,13,14,124,125,129,136,137,138,142,149,150,151,152] #[true,true,true,true,true,true,true,true,true,true,true,true,true,false,false,true,true,true,true,true,true,true,true,true,true,true,false,false,false,false] (by rfl) hF246 (by kernel_rfl) (by kernel_rfl) (by exact ⟨fun wS hw=>by kernel_rfl,fun wS hw=>by kernel_rfl,fun wS hw=>by kernel_rfl,fun wS hw=>by kernel_rfl,fun wS hw=>by kernel_rfl,fun wS hw=>hw.elim fun qs hw=>run_loadV rfl rfl (run_loadS rfl rfl (hw.cell 0 rfl 0 rfl)),fun wS hw=>by kernel_rfl,fun wS hw=>by kernel_rfl,fun wS hw=>by kernel_rfl,fun wS hw=>hw.elim fun qs hw=>run_loadV rfl rfl (run_loadS rfl rfl (hw.cell 0 rfl 2 rfl)),fun wS hw=>by kernel_rfl,fun wS hw=>run_idx rfl rfl rfl rfl rfl (inR_spec hc247).1 (inR_spec hc247).2 _,fun wS hw=>run_load1 rfl rfl rfl (hw.elim fun qs hw=>hw.atI 1 rfl hc247),fun wS hw=>by kernel_rfl,fun wS hw=>by kernel_rfl,fun wS hw=>by kernel_rfl,fun wS hw=>hw.elim fun qs hw=>run_loadV rfl rfl (run_loadS rfl rfl (hw.cell 0 rfl 0 rfl)),fun wS hw=>by kernel_rfl,fun wS hw=>by kernel_rfl,fun wS hw=>by kernel_rfl,fun wS hw=>hw.elim fun qs hw=>run_loadV rfl rfl (run_loadS rfl rfl (hw.cell 0 rfl 2 rfl)),fun wS hw=>by kernel_rfl,fun wS hw=>run_idx rfl rfl rfl rfl rfl (inR_spec hc247).1 (inR_spec hc247).2 _,fun wS hw=>run_load1 rfl rfl rfl (hw.elim fun qs hw=>hw.atI 1 rfl hc247),trivial⟩) (fun _ _ _ _ _ h=>h) ⟨_,hS251⟩ (l':=[(149,nI (atI L18 x234)),(142,nP z27 0),(136,nI (atI L18 x234)),(129,nP z27 0),(125,nI x234),(124,.map (some (w219.heap.size))),(14,nI x234),(13,.map (some (w219.heap.size))),(11,nP g205 0),(10,nI x200),(7,nP z26 0)]) (by kernel_rfl) ?_
      intro a253 hF252; clear hF246
      have hS254:=hS251.pick4
      clear hS251
      refine any_call 13 #[true,true,true,true,true,true,true,true,true,true,true,true,true,true,false,true,true,true,true,true,true,true,true,true,true,true,false,false,false,false] 34 #[nP z27 0,nI (atI L18 x234),.bool true] hF252 rfl (by kernel_rfl) rfl rfl (by kernel_rfl) rfl (by kernel_rfl) (fun w=>by kernel_rfl) (by kernel_rfl) ?_
      obtain ⟨L255,s256,hx257,hm258⟩:=bind2E hm248; clear hm248
      refine (list_All.ok hS254 hx257).mono ?_
      rintro _ w259 ⟨z263,rfl,hS261⟩; clear hS254
      obtain ⟨hl268,p265,c266,rfl,hp267⟩:=St.shape hS261 1 rfl
      refine ⟨⟨_,hS261.pick3.pick3⟩,?_⟩
      intro a260 hF262; clear hF252
      refine any_many 1 [(14,some (nI ((L255.length:Int))))] [7,10,11,13,14,124,125,138,142,149,150,151,152] #[true,true,true,true,true,true,true,true,true,true,true,true,true,true,true,true,true,true,true,true,true,true,true,true,true,true,false,false,false,false] (by rfl) hF262 (by kernel_rfl) (by kernel_rfl) (by exact ⟨fun wS hw=>by kernel_rfl,trivial⟩) (fun _ _ _ _ _ h=>h) ⟨_,hS261.pick3.pick3⟩ (l':=[(138,nI ((L255.length:Int))),(149,nI (atI L18 x234)),(142,nP z27 0),(125,nI x234),(124,.map (some (w219.heap.size))),(14,nI x234),(13,.map (some (w219.heap.size))),(11,nP g205 0),(10,nI x200),(7,nP z26 0)]) (by kernel_rfl) ?_
      intro a270 hF269; clear hF262
      refine any_call 26 #[true,true,true,true,true,true,true,true,true,true,true,true,true,true,true,true,true,true,true,true,true,true,true,true,true,true,true,false,false,false] 34 #[nP z27 0,nI (atI L18 x234),.bool false] hF269 rfl (by kernel_rfl) rfl rfl (by kernel_rfl) rfl (by kernel_rfl) (fun w=>by kernel_rfl) (by kernel_rfl) ?_
      obtain ⟨L271,s272,hx273,hm274⟩:=bind2E hm258; clear hm258
      refine (list_All.ok hS261 hx273).mono ?_
      rintro _ w275 ⟨z279,rfl,hS277⟩; clear hS261
      obtain ⟨hl284,p281,c282,rfl,hp283⟩:=St.shape hS277 1 rfl
      refine ⟨⟨_,hS277.pick4.pick4⟩,?_⟩
      intro a276 hF278; clear hF269
      refine any_many 2 [(27,some (nI ((L271.length:Int)))),(28,some (nI (IntKind.i64.wrap ((L255.length:Int)+(L271.length:Int)))))] [7,10,11,13,14,124,125,152] #[true,true,true,true,true,true,true,true,true,true,true,true,true,true,true,true,true,true,true,true,true,true,true,true,true,true,true,true,true,false] (by rfl) hF278 (by kernel_rfl) (by kernel_rfl) (by exact ⟨fun wS hw=>by kernel_rfl,fun wS hw=>by kernel_rfl,trivial⟩) (fun _ _ _ _ _ h=>h) ⟨_,hS277.pick4.pick4⟩ (l':=[(152,nI (IntKind.i64.wrap ((L255.length:Int)+(L271.length:Int)))),(125,nI x234),(124,.map (some (w219.heap.size))),(14,nI x234),(13,.map (some (w219.heap.size))),(11,nP g205 0),(10,nI x200),(7,nP z26 0)]) (by kernel_rfl) ?_
      intro a286 hF285; clear hF278
      refine any_one 29 (by kernel_rfl) ?_
      have hS287:=hS277.pick5
      clear hS277
      obtain ⟨hc288,hm289⟩:=ifTE hm274; clear hm274
      obtain ⟨hc290,hm291⟩:=ifTE hm289; clear hm289
      refine op_colSet 29 #[true,true,true,true,true,true,true,true,true,true,true,true,true,true,true,true,true,true,true,true,true,true,true,true,true,true,true,true,true,true] (.tmp 124) (.tmp 125) (.tmp 152) x234 (IntKind.i64.wrap ((L255.length:Int)+(L271.length:Int))) hF285 hS287 rfl rfl rfl (by kernel_rfl) (by kernel_rfl) (by kernel_rfl) rfl rfl rfl hc288 hc290 (l':=[(152,nI (IntKind.i64.wrap ((L255.length:Int)+(L271.length:Int)))),(125,nI x234),(124,.map (some (w219.heap.size))),(14,nI x234),(13,.map (some (w219.heap.size))),(11,nP g205 0),(10,nI x200),(7,nP z26 0)]) (by kernel_rfl) (by kernel_rfl) ?_
      intro w292 a293 hS294 hF295; clear hF285 hS287
      refine ⟨⟨_,hS294.pick5.pick5⟩,?_⟩
      refine any_done (by kernel_rfl) ?_
      have hF296:=hF295.keep [7,10,11,13,14]
      clear hF295
      have hS297:=hS294.pick2.drop.pick2.drop
      clear hS294
      refine blockN ?_
      refine thenN (wp_region_lit ?_)
      refine ev_runK 3 hF296 [7,10,11,13,14] (l':=[(14,nI (IntKind.i64.wrap (x234+1))),(13,.map (some (w219.heap.size))),(11,nP g205 0),(10,nI x200),(7,nP z26 0)]) (w':=w292) (by kernel_rfl) ?_
      intro a299 hF298; clear hF296
      refine wpList_nil ?_
      have hS300:=hS297.pick3.pick6.pick6.pick5.pick5.pick6.pick6
      clear hS297
      exact thenN ⟨k235,Nat.lt_succ_self _,(updM f232 x234 (IntKind.i64.wrap ((L255.length:Int)+(L271.length:Int)))),s272,IntKind.i64.wrap (x234+1),hF298,hS300,hm291⟩
     rw [hc244] at hF242
     have hm301:=ifNot hc244 hm241; clear hm241
     refine ev_condF hF242 rfl rfl ?_
     refine wp_exit ?_
     refine thenE ?_
     refine thenE ?_
     refine blockE ?_
     refine thenN (wp_seq ?_)
     have hS302:=hS239.pick1.pick3
     clear hS239
     have hS303:=hS302.drew; clear hS302
     refine any_start (fun wS=>∃ qs,St w0 [] (BlkP z26 66 #[nP z27 0,nP z29 0,.slice p42 L18.length c43,.slice p46 L19.length c47]::BlkP g205 70 #[nI x207,nI x208,nI x209,nI x210,nI x211,nI x212,nI x213,nI x214,nI x215,nI x216]::qs) wS) 12 #[false,false,false,false,false,false,false,false,false,false,false,false] (by kernel_rfl) (by kernel_rfl) (by kernel_rfl) ?_
     refine any_many 6 [(0,some (nP z26 0)),(1,some (nP z26 0)),(2,some (nP z26 0)),(3,some (nP z27 0)),(4,some (nP g205 9)),(5,some (nI x216))] [7,10,13,15,16,153,157,159,160,161,162] #[true,true,true,true,true,true,false,false,false,false,false,false] (by rfl) hF242 (by kernel_rfl) (by kernel_rfl) (by exact ⟨fun wS hw=>by kernel_rfl,fun wS hw=>by kernel_rfl,fun wS hw=>by kernel_rfl,fun wS hw=>hw.elim fun qs hw=>run_loadV rfl rfl (run_loadS rfl rfl (hw.cell 0 rfl 0 rfl)),fun wS hw=>by kernel_rfl,fun wS hw=>hw.elim fun qs hw=>run_loadV rfl rfl (run_loadS rfl rfl (hw.cell 1 rfl 9 rfl)),trivial⟩) (fun _ _ _ _ _ h=>h) ⟨_,hS303⟩ (l':=[(159,nI x216),(157,nP z27 0),(13,.map (some (w219.heap.size))),(10,nI x200),(7,nP z26 0)]) (by kernel_rfl) ?_
     intro a305 hF304; clear hF242
     have hS306:=hS303.pick3
     clear hS303
     refine any_call 6 #[true,true,true,true,true,true,true,false,false,false,false,false] 39 #[nP z27 0,nI x216,nI 6] hF304 rfl (by kernel_rfl) rfl rfl (by kernel_rfl) rfl (by kernel_rfl) (fun w=>by kernel_rfl) (by kernel_rfl) ?_
     obtain ⟨x307,x308,s309,hx310,hm311⟩:=bind3E hm301; clear hm301
     refine (wake_Wake.ok hS306 hx310).mono ?_
     rintro _ w312 ⟨rfl,hS314⟩; clear hS306
     refine ⟨⟨_,hS314.pick2.pick2⟩,?_⟩
     intro a313 hF315; clear hF304
     refine any_many 5 [(7,some (.tuple #[nI x307,nI x308])),(8,some (nI x307)),(9,some (nI x308)),(10,some (nI x307)),(11,some (nI x308))] [7,10,13,15,16] #[true,true,true,true,true,true,true,true,true,true,true,true] (by rfl) hF315 (by kernel_rfl) (by kernel_rfl) (by exact ⟨fun wS hw=>by kernel_rfl,fun wS hw=>by kernel_rfl,fun wS hw=>by kernel_rfl,fun wS hw=>by kernel_rfl,fun wS hw=>by kernel_rfl,trivial⟩) (fun _ _ _ _ _ h=>h) ⟨_,hS314.pick2.pick2⟩ (l':=[(16,nI x308),(15,nI x307),(13,.map (some (w219.heap.size))),(10,nI x200),(7,nP z26 0)]) (by kernel_rfl) ?_
     intro a317 hF316; clear hF315
     refine any_done (by kernel_rfl) ?_
     have hS318:=hS314.pick2.drop
     clear hS314
     refine thenN (wp_seq ?_)
     refine joinQ (fun aI wI=>∃ (g319:Nat) (s320:HSt) (x321:Int) (x322:Int) (x323:Int) (x324:Int) (x325:Int) (x326:Int) (x327:Int) (x328:Int) (x329:Int) (x330:Int),Fr 290 aI [(17,nP g319 0),(16,nI x308),(15,nI x307),(13,.map (some (w219.heap.size))),(10,nI x200),(7,nP z26 0)]∧St w0 [] (BlkP g319 70 #[nI x321,nI x322,nI x323,nI x324,nI x325,nI x326,nI x327,nI x328,nI x329,nI x330]::HeapP z27 z28 s320::BlkP z26 66 #[nP z27 0,nP z29 0,.slice p42 L18.length c43,.slice p46 L19.length c47]::RowP (.slice p46 L19.length c47) L19::ColP (w219.heap.size) f232::RHeapP z29 z30 z31 z32 z33 s72::RowP (.slice p42 L18.length c43) L18::ps) wI∧WakeNowhere.j11 k L18 L19 x200 f232 x307 x308 s320 x321 x322 x323 x324 x325 x326 x327 x328 x329 x330=some r0) ?_ ?_
     rotate_left
     · rintro a332 w333 ⟨g319,s320,x321,x322,x323,x324,x325,x326,x327,x328,x329,x330,hF334,hS335,hm336⟩
       clear hF316 hS318 hm311
       unfold WakeNowhere.j11 at hm336
       refine thenN (wp_seq (wp_seq (wp_region_lit ?_)))
       refine ev_runs 1 hF334 (l':=[(19,nI 0),(17,nP g319 0),(16,nI x308),(15,nI x307),(13,.map (some (w219.heap.size))),(10,nI x200),(7,nP z26 0)]) (w':=w333) (by kernel_rfl) ?_
       intro a339 hF338; clear hF334
       refine wpList_nil (thenN ?_)
       refine wp_block ?_
       refine wp_loop_ghost (fun kI aI wI=>∃ (s340:HSt) (x341:Int),Fr 290 aI [(19,nI x341),(17,nP g319 0),(16,nI x308),(15,nI x307),(13,.map (some (w219.heap.size))),(10,nI x200),(7,nP z26 0)]∧St w0 [] (BlkP g319 70 #[nI x321,nI x322,nI x323,nI x324,nI x325,nI x326,nI x327,nI x328,nI x329,nI x330]::HeapP z27 z28 s340::BlkP z26 66 #[nP z27 0,nP z29 0,.slice p42 L18.length c43,.slice p46 L19.length c47]::RowP (.slice p46 L19.length c47) L19::ColP (w219.heap.size) f232::RHeapP z29 z30 z31 z32 z33 s72::RowP (.slice p42 L18.length c43) L18::ps) wI∧WakeNowhere.l30 k L18 L19 x200 f232 x307 x308 x322 x323 x330 kI s340 x341=some r0) k ⟨s320,0,hF338,hS335,hm336⟩ ?_
       rintro k342 a343 w344 ⟨s340,x341,hF345,hS346,hm347⟩
       clear hF338 hS335 hm336
       rcases k342 with _ | k342
       · cases hm347
       have hm348:WakeNowhere.l30b k L18 L19 x200 f232 x307 x308 x322 x323 x330 (WakeNowhere.l30 k L18 L19 x200 f232 x307 x308 x322 x323 x330 k342) s340 x341=some r0:=hm347
       clear hm347
       unfold WakeNowhere.l30b at hm348
       refine wp_seq (wp_seq (wp_region_lit ?_))
       refine ev_runK 2 hF345 [7,10,13,15,16,17,19,179] (l':=[(179,.bool (decide (x341<3))),(19,nI x341),(17,nP g319 0),(16,nI x308),(15,nI x307),(13,.map (some (w219.heap.size))),(10,nI x200),(7,nP z26 0)]) (w':=w344) (by kernel_rfl) ?_
       intro a350 hF349; clear hF345
       refine wpList_nil (thenN ?_)
       cases hc351:(decide (x341<3))
       case true =>
        rw [hc351] at hF349
        have hm352:=ifYes hc351 hm348; clear hm348
        refine ev_condT hF349 rfl rfl ?_
        refine wp_skip ?_
        have hF353:=hF349.keep [7,10,13,15,16,17,19]
        clear hF349
        refine thenN (wp_seq ?_)
        refine wp_block ?_
        refine wp_seq ?_
        obtain ⟨hc354,hm355⟩:=ifTE hm352; clear hm352
        obtain ⟨g356,rfl⟩:=hp44.resolve_left (by have:=inR_spec hc354; omega)
        have hS357:=hS346.pick6.pick3
        clear hS346
        have hS358:=hS357.drew; clear hS357
        refine any_start (fun wS=>∃ qs,St w0 [] (BlkP z26 66 #[nP z27 0,nP z29 0,nS g356 L18 c43,.slice p46 L19.length c47]::RowP (nS g356 L18 c43) L18::qs) wS) 26 #[false,false,false,false,false,false,false,false,false,false,false,false,false,false,false,false,false,false,false,false,false,false,false,false,false,false] (by kernel_rfl) (by kernel_rfl) (by kernel_rfl) ?_
        refine any_many 22 [(0,some (nP z26 0)),(1,some (nP z26 0)),(2,some (nP z26 0)),(3,some (nP z27 0)),(4,some (nP z26 0)),(5,some (nP z26 0)),(6,some (nP z26 2)),(7,some (nS g356 L18 c43)),(8,some (nI x341)),(9,some (nP g356 (x341.toNat))),(10,some (nI (atI L18 x341))),(12,some (nP z26 0)),(13,some (nP z26 0)),(14,some (nP z26 0)),(15,some (nP z27 0)),(16,some (nP z26 0)),(17,some (nP z26 0)),(18,some (nP z26 2)),(19,some (nS g356 L18 c43)),(20,some (nI x341)),(21,some (nP g356 (x341.toNat))),(22,some (nI (atI L18 x341)))] [7,10,13,15,16,17,19,20,185,192,193,197,204,205,206] #[true,true,true,true,true,true,true,true,true,true,true,false,true,true,true,true,true,true,true,true,true,true,true,false,false,false] (by rfl) hF353 (by kernel_rfl) (by kernel_rfl) (by exact ⟨fun wS hw=>by kernel_rfl,fun wS hw=>by kernel_rfl,fun wS hw=>by kernel_rfl,fun wS hw=>hw.elim fun qs hw=>run_loadV rfl rfl (run_loadS rfl rfl (hw.cell 0 rfl 0 rfl)),fun wS hw=>by kernel_rfl,fun wS hw=>by kernel_rfl,fun wS hw=>by kernel_rfl,fun wS hw=>hw.elim fun qs hw=>run_loadV rfl rfl (run_loadS rfl rfl (hw.cell 0 rfl 2 rfl)),fun wS hw=>by kernel_rfl,fun wS hw=>run_idx rfl rfl rfl rfl rfl (inR_spec hc354).1 (inR_spec hc354).2 _,fun wS hw=>run_load1 rfl rfl rfl (hw.elim fun qs hw=>hw.atI 1 rfl hc354),fun wS hw=>by kernel_rfl,fun wS hw=>by kernel_rfl,fun wS hw=>by kernel_rfl,fun wS hw=>hw.elim fun qs hw=>run_loadV rfl rfl (run_loadS rfl rfl (hw.cell 0 rfl 0 rfl)),fun wS hw=>by kernel_rfl,fun wS hw=>by kernel_rfl,fun wS hw=>by kernel_rfl,fun wS hw=>hw.elim fun qs hw=>run_loadV rfl rfl (run_loadS rfl rfl (hw.cell 0 rfl 2 rfl)),fun wS hw=>by kernel_rfl,fun wS hw=>run_idx rfl rfl rfl rfl rfl (inR_spec hc354).1 (inR_spec hc354).2 _,fun wS hw=>run_load1 rfl rfl rfl (hw.elim fun qs hw=>hw.atI 1 rfl hc354),trivial⟩) (fun _ _ _ _ _ h=>h) ⟨_,hS358⟩ (l':=[(204,nI (atI L18 x341)),(197,nP z27 0),(192,nI (atI L18 x341)),(185,nP z27 0),(19,nI x341),(17,nP g319 0),(16,nI x308),(15,nI x307),(13,.map (some (w219.heap.size))),(10,nI x200),(7,nP z26 0)]) (by kernel_rfl) ?_
        intro a360 hF359; clear hF353
        have hS361:=hS358.pick3
        clear hS358
        refine any_call 11 #[true,true,true,true,true,true,true,true,true,true,true,true,true,true,true,true,true,true,true,true,true,true,true,false,false,false] 34 #[nP z27 0,nI (atI L18 x341),.bool true] hF359 rfl (by kernel_rfl) rfl rfl (by kernel_rfl) rfl (by kernel_rfl) (fun w=>by kernel_rfl) (by kernel_rfl) ?_
        obtain ⟨L362,s363,hx364,hm365⟩:=bind2E hm355; clear hm355
        refine (list_All.ok hS361 hx364).mono ?_
        rintro _ w366 ⟨z370,rfl,hS368⟩; clear hS361
        obtain ⟨hl375,p372,c373,rfl,hp374⟩:=St.shape hS368 1 rfl
        refine ⟨⟨_,hS368.pick3.pick3⟩,?_⟩
        intro a367 hF369; clear hF359
        refine any_call 23 #[true,true,true,true,true,true,true,true,true,true,true,true,true,true,true,true,true,true,true,true,true,true,true,true,false,false] 34 #[nP z27 0,nI (atI L18 x341),.bool false] hF369 rfl (by kernel_rfl) rfl rfl (by kernel_rfl) rfl (by kernel_rfl) (fun w=>by kernel_rfl) (by kernel_rfl) ?_
        obtain ⟨L376,s377,hx378,hm379⟩:=bind2E hm365; clear hm365
        refine (list_All.ok hS368 hx378).mono ?_
        rintro _ w380 ⟨z384,rfl,hS382⟩; clear hS368
        obtain ⟨hl389,p386,c387,rfl,hp388⟩:=St.shape hS382 1 rfl
        refine ⟨⟨_,hS382.pick4.pick4⟩,?_⟩
        intro a381 hF383; clear hF369
        refine any_one 24 (by kernel_rfl) ?_
        have hS390:=hS382.pick1.pick2
        clear hS382
        obtain ⟨L391,hx392,hm393⟩:=bind1E hm379; clear hm379
        refine op_appM 22 rfl 24 #[true,true,true,true,true,true,true,true,true,true,true,true,true,true,true,true,true,true,true,true,true,true,true,true,true,false] 206 (.tmp 193) (.tmp 205) hF383 rfl rfl rfl (by kernel_rfl) rfl rfl rfl rfl rfl hS390 hx392 (by kernel_rfl) ?_
        intro v394 w395 a396 hS397 hF398; clear hF383 hS390
        obtain ⟨hl402,p399,c400,rfl,hp401⟩:=St.shape hS397 0 rfl
        refine ⟨⟨_,hS397.pick4.pick4⟩,?_⟩
        refine any_many 1 [(25,some (.slice p399 L391.length c400))] [7,10,13,15,16,17,19,20] #[true,true,true,true,true,true,true,true,true,true,true,true,true,true,true,true,true,true,true,true,true,true,true,true,true,true] (by rfl) hF398 (by kernel_rfl) (by kernel_rfl) (by exact ⟨fun wS hw=>by kernel_rfl,trivial⟩) (fun _ _ _ _ _ h=>h) ⟨_,hS397.pick4.pick4⟩ (l':=[(20,.slice p399 L391.length c400),(19,nI x341),(17,nP g319 0),(16,nI x308),(15,nI x307),(13,.map (some (w219.heap.size))),(10,nI x200),(7,nP z26 0)]) (by kernel_rfl) ?_
        intro a404 hF403; clear hF398
        refine any_done (by kernel_rfl) ?_
        have hS405:=hS397.pick1.drop
        clear hS397
        refine thenN (wp_seq (wp_seq (wp_region_lit ?_)))
        refine ev_runs 1 hF403 (l':=[(21,nI 0),(20,.slice p399 L391.length c400),(19,nI x341),(17,nP g319 0),(16,nI x308),(15,nI x307),(13,.map (some (w219.heap.size))),(10,nI x200),(7,nP z26 0)]) (w':=w395) (by kernel_rfl) ?_
        intro a407 hF406; clear hF403
        refine wpList_nil (thenN ?_)
        refine wp_block ?_
        refine wp_loop_ghost (fun kI aI wI=>∃ (x408:Int),Fr 290 aI [(21,nI x408),(20,.slice p399 L391.length c400),(19,nI x341),(17,nP g319 0),(16,nI x308),(15,nI x307),(13,.map (some (w219.heap.size))),(10,nI x200),(7,nP z26 0)]∧St w0 [] (RowP (.slice p399 L391.length c400) L391::HeapP z27 z28 s377::BlkP z26 66 #[nP z27 0,nP z29 0,nS g356 L18 c43,.slice p46 L19.length c47]::RowP (nS g356 L18 c43) L18::BlkP g319 70 #[nI x321,nI x322,nI x323,nI x324,nI x325,nI x326,nI x327,nI x328,nI x329,nI x330]::RowP (.slice p46 L19.length c47) L19::ColP (w219.heap.size) f232::RHeapP z29 z30 z31 z32 z33 s72::ps) wI∧WakeNowhere.l35 L19 x200 f232 x341 (WakeNowhere.l30 k L18 L19 x200 f232 x307 x308 x322 x323 x330 k342) s377 L391 kI x408=some r0) k ⟨0,hF406,hS405,hm393⟩ ?_
        rintro k409 a410 w411 ⟨x408,hF412,hS413,hm414⟩
        clear hF406 hS405 hm393
        rcases k409 with _ | k409
        · cases hm414
        have hm415:WakeNowhere.l35b L19 x200 f232 x341 (WakeNowhere.l30 k L18 L19 x200 f232 x307 x308 x322 x323 x330 k342) s377 L391 (WakeNowhere.l35 L19 x200 f232 x341 (WakeNowhere.l30 k L18 L19 x200 f232 x307 x308 x322 x323 x330 k342) s377 L391 k409) x408=some r0:=hm414
        clear hm414
        unfold WakeNowhere.l35b at hm415
        refine wp_seq (wp_seq (wp_region_lit ?_))
        refine ev_runK 4 hF412 [7,10,13,15,16,17,19,20,21,210] (l':=[(210,.bool (decide (x408<(L391.length:Int)))),(21,nI x408),(20,.slice p399 L391.length c400),(19,nI x341),(17,nP g319 0),(16,nI x308),(15,nI x307),(13,.map (some (w219.heap.size))),(10,nI x200),(7,nP z26 0)]) (w':=w411) (by kernel_rfl) ?_
        intro a417 hF416; clear hF412
        refine wpList_nil (thenN ?_)
        cases hc418:(decide (x408<(L391.length:Int)))
        case true =>
         rw [hc418] at hF416
         have hm419:=ifYes hc418 hm415; clear hm415
         refine ev_condT hF416 rfl rfl ?_
         refine wp_skip ?_
         have hF420:=hF416.keep [7,10,13,15,16,17,19,20,21]
         clear hF416
         refine thenN (wp_seq ?_)
         refine wp_block ?_
         refine wp_seq ?_
         refine joinQ (fun aI wI=>∃ (g421:Nat) (x422:Int) (x423:Int) (x424:Int) (x425:Int) (x426:Int) (x427:Int) (x428:Int) (x429:Int),Fr 290 aI [(23,nI x429),(22,nP g421 0),(21,nI x408),(20,.slice p399 L391.length c400),(19,nI x341),(17,nP g319 0),(16,nI x308),(15,nI x307),(13,.map (some (w219.heap.size))),(10,nI x200),(7,nP z26 0)]∧St w0 [] (BlkP g421 54 #[nI x422,nI x423,nI x424,nI x425,nI x426,nI x427,nI x428]::HeapP z27 z28 s377::BlkP z26 66 #[nP z27 0,nP z29 0,nS g356 L18 c43,.slice p46 L19.length c47]::RowP (.slice p399 L391.length c400) L391::RowP (nS g356 L18 c43) L18::BlkP g319 70 #[nI x321,nI x322,nI x323,nI x324,nI x325,nI x326,nI x327,nI x328,nI x329,nI x330]::RowP (.slice p46 L19.length c47) L19::ColP (w219.heap.size) f232::RHeapP z29 z30 z31 z32 z33 s72::ps) wI∧WakeNowhere.j36 L19 x200 x408 (WakeNowhere.l35 L19 x200 f232 x341 (WakeNowhere.l30 k L18 L19 x200 f232 x307 x308 x322 x323 x330 k342) s377 L391 k409) x422 x423 x424 x425 x426 x427 x428 x429=some r0) ?_ ?_
         rotate_left
         · rintro a431 w432 ⟨g421,x422,x423,x424,x425,x426,x427,x428,x429,hF433,hS434,hm435⟩
           clear hF420 hS413 hm419
           unfold WakeNowhere.j36 at hm435
           refine thenN (wp_seq ?_)
           refine joinQ (fun aI wI=>∃ (y437:Bool),Fr 290 aI [(238,.bool (y437)),(21,nI x408),(20,.slice p399 L391.length c400),(19,nI x341),(17,nP g319 0),(16,nI x308),(15,nI x307),(13,.map (some (w219.heap.size))),(10,nI x200),(7,nP z26 0)]∧St w0 [] (BlkP z26 66 #[nP z27 0,nP z29 0,nS g356 L18 c43,.slice p46 L19.length c47]::RowP (.slice p46 L19.length c47) L19::HeapP z27 z28 s377::RowP (.slice p399 L391.length c400) L391::RowP (nS g356 L18 c43) L18::BlkP g319 70 #[nI x321,nI x322,nI x323,nI x324,nI x325,nI x326,nI x327,nI x328,nI x329,nI x330]::ColP (w219.heap.size) f232::RHeapP z29 z30 z31 z32 z33 s72::ps) wI∧WakeNowhere.j37 x408 (WakeNowhere.l35 L19 x200 f232 x341 (WakeNowhere.l30 k L18 L19 x200 f232 x307 x308 x322 x323 x330 k342) s377 L391 k409) y437=some r0) ?_ ?_
           rotate_left
           · rintro a439 w440 ⟨y437,hF441,hS442,hm443⟩
             clear hF433 hS434 hm435
             unfold WakeNowhere.j37 at hm443
             refine thenN ?_
             cases hc445:(y437)
             case true =>
              rw [hc445] at hF441
              have hm446:=ifYes hc445 hm443; clear hm443
              refine ev_condT hF441 rfl rfl ?_
              refine wp_seq (wp_region_lit ?_)
              refine ev_runK 1 hF441 [6] (l':=[(6,.bool false)]) (w':=w440) (by kernel_rfl) ?_
              intro a448 hF447; clear hF441
              refine wpList_nil ?_
              have hS449:=hS442.drop.drop.drop.drop.drop.drop.drop.drop
              clear hS442
              refine thenN ?_
              refine wp_ret ?_
              refine blockR ?_
              refine thenR (thenR ?_)
              refine blockR ?_
              refine thenR ?_
              refine blockR ?_
              refine thenR (thenR ?_)
              refine blockR ?_
              refine thenR ?_
              obtain rfl:=Option.some.inj hm446
              refine ev_ret hF447 [6] (.bool false) rfl rfl rfl ?_
              exact ⟨rfl,hS449⟩
             rw [hc445] at hF441
             have hm451:=ifNot hc445 hm443; clear hm443
             refine ev_condF hF441 rfl rfl ?_
             refine wp_skip ?_
             have hF452:=hF441.keep [7,10,13,15,16,17,19,20,21]
             clear hF441
             refine blockN ?_
             refine thenN (wp_region_lit ?_)
             refine ev_runK 3 hF452 [7,10,13,15,16,17,19,20,21] (l':=[(21,nI (IntKind.i64.wrap (x408+1))),(20,.slice p399 L391.length c400),(19,nI x341),(17,nP g319 0),(16,nI x308),(15,nI x307),(13,.map (some (w219.heap.size))),(10,nI x200),(7,nP z26 0)]) (w':=w440) (by kernel_rfl) ?_
             intro a454 hF453; clear hF452
             refine wpList_nil ?_
             have hS455:=hS442.pick7.pick7.pick3.pick7.pick7.pick5.pick6.pick7
             clear hS442
             exact thenN ⟨k409,Nat.lt_succ_self _,IntKind.i64.wrap (x408+1),hF453,hS455,hm451⟩
           · skip
             have hS456:=hS434.pick6.pick3.pick2
             clear hS434
             have hS457:=hS456.drew; clear hS456
             refine any_start (fun wS=>∃ qs,St w0 [] (BlkP g421 54 #[nI x422,nI x423,nI x424,nI x425,nI x426,nI x427,nI x428]::BlkP z26 66 #[nP z27 0,nP z29 0,nS g356 L18 c43,.slice p46 L19.length c47]::RowP (.slice p46 L19.length c47) L19::qs) wS) 14 #[false,false,false,false,false,false,false,false,false,false,false,false,false,false] (by kernel_rfl) (by kernel_rfl) (by kernel_rfl) ?_
             refine any_many 3 [(0,some (nI x429)),(1,some (.bool (x429 != 0))),(2,some (.bool (x429 != 0)))] [7,10,13,15,16,17,19,20,21,22,227,228,229,230,231,232,233,234,235,236,237,238] #[true,true,true,false,false,false,false,false,false,false,false,false,false,false] (by rfl) hF433 (by kernel_rfl) (by kernel_rfl) (by exact ⟨fun wS hw=>by kernel_rfl,fun wS hw=>by kernel_rfl,fun wS hw=>by kernel_rfl,trivial⟩) (fun _ _ _ _ _ h=>h) ⟨_,hS457⟩ (l':=[(227,.bool (x429 != 0)),(22,nP g421 0),(21,nI x408),(20,.slice p399 L391.length c400),(19,nI x341),(17,nP g319 0),(16,nI x308),(15,nI x307),(13,.map (some (w219.heap.size))),(10,nI x200),(7,nP z26 0)]) (by kernel_rfl) ?_
             intro a459 hF458; clear hF433
             cases hc460:(x429 != 0)
             case true =>
              rw [hc460] at hF458
              have hm461:=ifYes hc460 hm435; clear hm435
              refine any_many 11 [(3,none),(4,none),(5,none),(6,none),(7,none),(8,none),(9,none),(10,none),(11,none),(12,none),(13,some (.bool true))] [7,10,13,15,16,17,19,20,21,238] #[true,true,true,true,true,true,true,true,true,true,true,true,true,true] (by rfl) hF458 (by kernel_rfl) (by kernel_rfl) (by exact (And.intro trivial (And.intro trivial (And.intro trivial (And.intro trivial (And.intro trivial (And.intro trivial (And.intro trivial (And.intro trivial (And.intro trivial (And.intro trivial (And.intro (fun wS hw=>by kernel_rfl) trivial)))))))))))) (fun _ _ _ _ _ h=>h) ⟨_,hS457⟩ (l':=[(238,.bool true),(21,nI x408),(20,.slice p399 L391.length c400),(19,nI x341),(17,nP g319 0),(16,nI x308),(15,nI x307),(13,.map (some (w219.heap.size))),(10,nI x200),(7,nP z26 0)]) (by kernel_rfl) ?_
              intro a463 hF462; clear hF458
              refine any_done (by kernel_rfl) ?_
              have hS464:=hS457.drop
              clear hS457
              exact thenN ⟨true,hF462,hS464,hm461⟩
             rw [hc460] at hF458
             have hm465:=ifNot hc460 hm435; clear hm435
             refine any_many 7 [(3,some (nP g421 0)),(4,some (nI x422)),(5,some (nP z26 0)),(6,some (nP z26 0)),(7,some (nP z26 3)),(8,some (.slice p46 L19.length c47)),(9,some (nI x200))] [7,10,13,15,16,17,19,20,21,227,229,233,234,235,236,237,238] #[true,true,true,true,true,true,true,true,true,true,false,false,false,false] (by rfl) hF458 (by kernel_rfl) (by kernel_rfl) (by exact ⟨fun wS hw=>by kernel_rfl,fun wS hw=>hw.elim fun qs hw=>run_loadV rfl rfl (run_loadS rfl rfl (hw.cell 0 rfl 0 rfl)),fun wS hw=>by kernel_rfl,fun wS hw=>by kernel_rfl,fun wS hw=>by kernel_rfl,fun wS hw=>hw.elim fun qs hw=>run_loadV rfl rfl (run_loadS rfl rfl (hw.cell 1 rfl 3 rfl)),fun wS hw=>by kernel_rfl,trivial⟩) (fun _ _ _ _ _ h=>h) ⟨_,hS457⟩ (l':=[(234,nI x200),(233,.slice p46 L19.length c47),(229,nI x422),(227,.bool false),(21,nI x408),(20,.slice p399 L391.length c400),(19,nI x341),(17,nP g319 0),(16,nI x308),(15,nI x307),(13,.map (some (w219.heap.size))),(10,nI x200),(7,nP z26 0)]) (by kernel_rfl) ?_
             intro a467 hF466; clear hF458
             obtain ⟨hc468,hm469⟩:=ifTE hm465; clear hm465
             obtain ⟨g470,rfl⟩:=hp48.resolve_left (by have:=inR_spec hc468; omega)
             refine any_many 4 [(10,some (nP g470 (x200.toNat))),(11,some (nI (atI L19 x200))),(12,some (.bool (x422 == (atI L19 x200)))),(13,some (.bool (x422 == (atI L19 x200))))] [7,10,13,15,16,17,19,20,21,238] #[true,true,true,true,true,true,true,true,true,true,true,true,true,true] (by rfl) hF466 (by kernel_rfl) (by kernel_rfl) (by exact ⟨fun wS hw=>run_idx rfl rfl rfl rfl rfl (inR_spec hc468).1 (inR_spec hc468).2 _,fun wS hw=>run_load1 rfl rfl rfl (hw.elim fun qs hw=>hw.atI 2 rfl hc468),fun wS hw=>by kernel_rfl,fun wS hw=>by kernel_rfl,trivial⟩) (fun _ _ _ _ _ h=>h) ⟨_,hS457⟩ (l':=[(238,.bool (x422 == (atI L19 x200))),(21,nI x408),(20,.slice p399 L391.length c400),(19,nI x341),(17,nP g319 0),(16,nI x308),(15,nI x307),(13,.map (some (w219.heap.size))),(10,nI x200),(7,nP z26 0)]) (by kernel_rfl) ?_
             intro a472 hF471; clear hF466
             refine any_done (by kernel_rfl) ?_
             have hS473:=hS457.drop
             clear hS457
             exact thenN ⟨x422 == (atI L19 x200),hF471,hS473,hm469⟩
         · skip
           obtain ⟨hc474,hm475⟩:=ifTE hm419; clear hm419
           obtain ⟨g476,rfl⟩:=hp401.resolve_left (by have:=inR_spec hc474; omega)
           have hS477:=hS413.pick2
           clear hS413
           have hS478:=hS477.drew; clear hS477
           refine any_start (fun wS=>∃ qs,St w0 [] (BlkP z26 66 #[nP z27 0,nP z29 0,nS g356 L18 c43,.slice p46 L19.length c47]::RowP (nS g476 L391 c400) L391::qs) wS) 15 #[false,false,false,false,false,false,false,false,false,false,false,false,false,false,false] (by kernel_rfl) (by kernel_rfl) (by kernel_rfl) ?_
           refine any_many 8 [(0,some (nP z26 0)),(1,some (nP z26 0)),(2,some (nP z26 0)),(3,some (nP z27 0)),(4,some (nS g476 L391 c400)),(5,some (nI x408)),(6,some (nP g476 (x408.toNat))),(7,some (nI (atI L391 x408)))] [7,10,13,15,16,17,19,20,21,22,23,213,217,221,222,223,224] #[true,true,true,true,true,true,true,true,false,false,false,false,false,false,false] (by rfl) hF420 (by kernel_rfl) (by kernel_rfl) (by exact ⟨fun wS hw=>by kernel_rfl,fun wS hw=>by kernel_rfl,fun wS hw=>by kernel_rfl,fun wS hw=>hw.elim fun qs hw=>run_loadV rfl rfl (run_loadS rfl rfl (hw.cell 0 rfl 0 rfl)),fun wS hw=>by kernel_rfl,fun wS hw=>by kernel_rfl,fun wS hw=>run_idx rfl rfl rfl rfl rfl (inR_spec hc474).1 (inR_spec hc474).2 _,fun wS hw=>run_load1 rfl rfl rfl (hw.elim fun qs hw=>hw.atI 1 rfl hc474),trivial⟩) (fun _ _ _ _ _ h=>h) ⟨_,hS478⟩ (l':=[(221,nI (atI L391 x408)),(217,nP z27 0),(21,nI x408),(20,nS g476 L391 c400),(19,nI x341),(17,nP g319 0),(16,nI x308),(15,nI x307),(13,.map (some (w219.heap.size))),(10,nI x200),(7,nP z26 0)]) (by kernel_rfl) ?_
           intro a480 hF479; clear hF420
           refine any_two 8 12 (by kernel_rfl) ?_ ?_
           · skip
             have hS481:=hS478.pick2
             clear hS478
             refine op_call 8 #[true,true,true,true,true,true,true,true,true,false,false,false,false,false,false] 30 #[nP z27 0,nI (atI L391 x408)] hF479 rfl rfl rfl (by kernel_rfl) rfl (by kernel_rfl) (fun w=>by kernel_rfl) (by kernel_rfl) ?_
             obtain ⟨q482,x483,hx484,hm485⟩:=bind2E hm475; clear hm475
             refine (p_Sudog hS481 hx484).mono ?_
             rintro _ w486 ⟨rfl,hS488⟩; clear hS481
             refine ⟨⟨_,hS488.pick2.pick2⟩,?_⟩
             intro a487 hF489; clear hF479
             refine any_many 3 [(9,some (.tuple #[.agg #[nI (q482.gor),nI (q482.chan),nI (q482.value),nI (q482.next),nI (q482.to),nI (q482.reg),nI (q482.more)],nI x483])),(10,some (.agg #[nI (q482.gor),nI (q482.chan),nI (q482.value),nI (q482.next),nI (q482.to),nI (q482.reg),nI (q482.more)])),(11,some (nI x483))] [7,10,13,15,16,17,19,20,21,22,23,223,224] #[true,true,true,true,true,true,true,true,true,true,true,true,false,false,false] (by rfl) hF489 (by kernel_rfl) (by kernel_rfl) (by exact ⟨fun wS hw=>by kernel_rfl,fun wS hw=>by kernel_rfl,fun wS hw=>by kernel_rfl,trivial⟩) (fun _ _ _ _ _ h=>h) ⟨_,hS488.pick2.pick2⟩ (l':=[(224,nI x483),(223,.agg #[nI (q482.gor),nI (q482.chan),nI (q482.value),nI (q482.next),nI (q482.to),nI (q482.reg),nI (q482.more)]),(21,nI x408),(20,nS g476 L391 c400),(19,nI x341),(17,nP g319 0),(16,nI x308),(15,nI x307),(13,.map (some (w219.heap.size))),(10,nI x200),(7,nP z26 0)]) (by kernel_rfl) ?_
             intro a491 hF490; clear hF489
             refine any_one 12 (by kernel_rfl) ?_
             have hS492:St w0 [] (BlkP (w486.heap.size) 54 #[nI 0,nI 0,nI 0,nI 0,nI 0,nI 0,nI 0]::HeapP z27 z28 s377::BlkP z26 66 #[nP z27 0,nP z29 0,nS g356 L18 c43,.slice p46 L19.length c47]::RowP (nS g476 L391 c400) L391::RowP (nS g356 L18 c43) L18::BlkP g319 70 #[nI x321,nI x322,nI x323,nI x324,nI x325,nI x326,nI x327,nI x328,nI x329,nI x330]::RowP (.slice p46 L19.length c47) L19::ColP (w219.heap.size) f232::RHeapP z29 z30 z31 z32 z33 s72::ps) (w486.alloc (.cells #[nI 0,nI 0,nI 0,nI 0,nI 0,nI 0,nI 0] 54)):=St.new hS488 #[nI 0,nI 0,nI 0,nI 0,nI 0,nI 0,nI 0] 54
             clear hS488
             refine op_step 12 #[true,true,true,true,true,true,true,true,true,true,true,true,true,false,false] (nB w486) (w486.alloc (.cells #[nI 0,nI 0,nI 0,nI 0,nI 0,nI 0,nI 0] 54)) hF490 rfl (by kernel_rfl) rfl (by kernel_rfl) (by kernel_rfl) (l':=[(22,nB w486),(224,nI x483),(223,.agg #[nI (q482.gor),nI (q482.chan),nI (q482.value),nI (q482.next),nI (q482.to),nI (q482.reg),nI (q482.more)]),(21,nI x408),(20,nS g476 L391 c400),(19,nI x341),(17,nP g319 0),(16,nI x308),(15,nI x307),(13,.map (some (w219.heap.size))),(10,nI x200),(7,nP z26 0)]) (by kernel_rfl) ⟨_,hS492.pick3.pick3⟩ (by kernel_rfl) ?_
             intro a494 hF493; clear hF490
             refine any_one 13 (by kernel_rfl) ?_
             refine op_store 13 #[true,true,true,true,true,true,true,true,true,true,true,true,true,true,false] (.agg #[nI (q482.gor),nI (q482.chan),nI (q482.value),nI (q482.next),nI (q482.to),nI (q482.reg),nI (q482.more)]) #[nI (q482.gor),nI (q482.chan),nI (q482.value),nI (q482.next),nI (q482.to),nI (q482.reg),nI (q482.more)] hF493 rfl (by kernel_rfl) rfl rfl rfl rfl (by kernel_rfl) hS492 (by kernel_rfl) (by kernel_rfl) (by kernel_rfl) (l':=[(22,nB w486),(224,nI x483),(223,.agg #[nI (q482.gor),nI (q482.chan),nI (q482.value),nI (q482.next),nI (q482.to),nI (q482.reg),nI (q482.more)]),(21,nI x408),(20,nS g476 L391 c400),(19,nI x341),(17,nP g319 0),(16,nI x308),(15,nI x307),(13,.map (some (w219.heap.size))),(10,nI x200),(7,nP z26 0)]) (by kernel_rfl) (by kernel_rfl) ?_
             intro w495 a496 hS497 hF498; clear hF493 hS492
             refine ⟨⟨_,hS497.pick3.pick3⟩,?_⟩
             refine any_many 1 [(14,some (nI x483))] [7,10,13,15,16,17,19,20,21,22,23] #[true,true,true,true,true,true,true,true,true,true,true,true,true,true,true] (by rfl) hF498 (by kernel_rfl) (by kernel_rfl) (by exact ⟨fun wS hw=>by kernel_rfl,trivial⟩) (fun _ _ _ _ _ h=>h) ⟨_,hS497.pick3.pick3⟩ (l':=[(23,nI x483),(22,nB w486),(21,nI x408),(20,nS g476 L391 c400),(19,nI x341),(17,nP g319 0),(16,nI x308),(15,nI x307),(13,.map (some (w219.heap.size))),(10,nI x200),(7,nP z26 0)]) (by kernel_rfl) ?_
             intro a500 hF499; clear hF498
             refine any_done (by kernel_rfl) ?_
             exact thenN ⟨(w486.heap.size),q482.gor,q482.chan,q482.value,q482.next,q482.to,q482.reg,q482.more,x483,hF499,hS497,hm485⟩
           · skip
             have hS501:St w0 [] (BlkP ((w411.drew).heap.size) 54 #[nI 0,nI 0,nI 0,nI 0,nI 0,nI 0,nI 0]::BlkP z26 66 #[nP z27 0,nP z29 0,nS g356 L18 c43,.slice p46 L19.length c47]::RowP (nS g476 L391 c400) L391::HeapP z27 z28 s377::RowP (nS g356 L18 c43) L18::BlkP g319 70 #[nI x321,nI x322,nI x323,nI x324,nI x325,nI x326,nI x327,nI x328,nI x329,nI x330]::RowP (.slice p46 L19.length c47) L19::ColP (w219.heap.size) f232::RHeapP z29 z30 z31 z32 z33 s72::ps) ((w411.drew).alloc (.cells #[nI 0,nI 0,nI 0,nI 0,nI 0,nI 0,nI 0] 54)):=St.new hS478 #[nI 0,nI 0,nI 0,nI 0,nI 0,nI 0,nI 0] 54
             clear hS478
             refine op_step 12 #[true,true,true,true,true,true,true,true,false,false,false,false,true,false,false] (nB (w411.drew)) ((w411.drew).alloc (.cells #[nI 0,nI 0,nI 0,nI 0,nI 0,nI 0,nI 0] 54)) hF479 rfl (by kernel_rfl) rfl (by kernel_rfl) (by kernel_rfl) (l':=[(22,nB (w411.drew)),(221,nI (atI L391 x408)),(217,nP z27 0),(21,nI x408),(20,nS g476 L391 c400),(19,nI x341),(17,nP g319 0),(16,nI x308),(15,nI x307),(13,.map (some (w219.heap.size))),(10,nI x200),(7,nP z26 0)]) (by kernel_rfl) ⟨_,hS501.pick2.pick2⟩ (by kernel_rfl) ?_
             intro a503 hF502; clear hF479
             have hS504:=hS501.pick3
             clear hS501
             refine any_call 8 #[true,true,true,true,true,true,true,true,true,false,false,false,true,false,false] 30 #[nP z27 0,nI (atI L391 x408)] hF502 rfl (by kernel_rfl) rfl rfl (by kernel_rfl) rfl (by kernel_rfl) (fun w=>by kernel_rfl) (by kernel_rfl) ?_
             obtain ⟨q505,x506,hx507,hm508⟩:=bind2E hm475; clear hm475
             refine (p_Sudog hS504 hx507).mono ?_
             rintro _ w509 ⟨rfl,hS511⟩; clear hS504
             refine ⟨⟨_,hS511.pick3.pick3⟩,?_⟩
             intro a510 hF512; clear hF502
             refine any_many 3 [(9,some (.tuple #[.agg #[nI (q505.gor),nI (q505.chan),nI (q505.value),nI (q505.next),nI (q505.to),nI (q505.reg),nI (q505.more)],nI x506])),(10,some (.agg #[nI (q505.gor),nI (q505.chan),nI (q505.value),nI (q505.next),nI (q505.to),nI (q505.reg),nI (q505.more)])),(11,some (nI x506))] [7,10,13,15,16,17,19,20,21,22,23,223,224] #[true,true,true,true,true,true,true,true,true,true,true,true,true,false,false] (by rfl) hF512 (by kernel_rfl) (by kernel_rfl) (by exact ⟨fun wS hw=>by kernel_rfl,fun wS hw=>by kernel_rfl,fun wS hw=>by kernel_rfl,trivial⟩) (fun _ _ _ _ _ h=>h) ⟨_,hS511.pick3.pick3⟩ (l':=[(224,nI x506),(223,.agg #[nI (q505.gor),nI (q505.chan),nI (q505.value),nI (q505.next),nI (q505.to),nI (q505.reg),nI (q505.more)]),(22,nB (w411.drew)),(21,nI x408),(20,nS g476 L391 c400),(19,nI x341),(17,nP g319 0),(16,nI x308),(15,nI x307),(13,.map (some (w219.heap.size))),(10,nI x200),(7,nP z26 0)]) (by kernel_rfl) ?_
             intro a514 hF513; clear hF512
             refine any_one 13 (by kernel_rfl) ?_
             have hS515:=hS511.pick1
             clear hS511
             refine op_store 13 #[true,true,true,true,true,true,true,true,true,true,true,true,true,true,false] (.agg #[nI (q505.gor),nI (q505.chan),nI (q505.value),nI (q505.next),nI (q505.to),nI (q505.reg),nI (q505.more)]) #[nI (q505.gor),nI (q505.chan),nI (q505.value),nI (q505.next),nI (q505.to),nI (q505.reg),nI (q505.more)] hF513 rfl (by kernel_rfl) rfl rfl rfl rfl (by kernel_rfl) hS515 (by kernel_rfl) (by kernel_rfl) (by kernel_rfl) (l':=[(224,nI x506),(223,.agg #[nI (q505.gor),nI (q505.chan),nI (q505.value),nI (q505.next),nI (q505.to),nI (q505.reg),nI (q505.more)]),(22,nB (w411.drew)),(21,nI x408),(20,nS g476 L391 c400),(19,nI x341),(17,nP g319 0),(16,nI x308),(15,nI x307),(13,.map (some (w219.heap.size))),(10,nI x200),(7,nP z26 0)]) (by kernel_rfl) (by kernel_rfl) ?_
             intro w516 a517 hS518 hF519; clear hF513 hS515
             refine ⟨⟨_,hS518.pick3.pick3⟩,?_⟩
             refine any_many 1 [(14,some (nI x506))] [7,10,13,15,16,17,19,20,21,22,23] #[true,true,true,true,true,true,true,true,true,true,true,true,true,true,true] (by rfl) hF519 (by kernel_rfl) (by kernel_rfl) (by exact ⟨fun wS hw=>by kernel_rfl,trivial⟩) (fun _ _ _ _ _ h=>h) ⟨_,hS518.pick3.pick3⟩ (l':=[(23,nI x506),(22,nB (w411.drew)),(21,nI x408),(20,nS g476 L391 c400),(19,nI x341),(17,nP g319 0),(16,nI x308),(15,nI x307),(13,.map (some (w219.heap.size))),(10,nI x200),(7,nP z26 0)]) (by kernel_rfl) ?_
             intro a521 hF520; clear hF519
             refine any_done (by kernel_rfl) ?_
             exact thenN ⟨((w411.drew).heap.size),q505.gor,q505.chan,q505.value,q505.next,q505.to,q505.reg,q505.more,x506,hF520,hS518,hm508⟩
        rw [hc418] at hF416
        have hm522:=ifNot hc418 hm415; clear hm415
        refine ev_condF hF416 rfl rfl ?_
        refine wp_exit ?_
        refine thenE ?_
        refine thenE ?_
        refine blockE ?_
        refine thenN (wp_seq (wp_region_lit ?_))
        refine ev_runK 1 hF416 [7,10,13,15,16,17,19,20,24] (l':=[(24,nI 0),(20,.slice p399 L391.length c400),(19,nI x341),(17,nP g319 0),(16,nI x308),(15,nI x307),(13,.map (some (w219.heap.size))),(10,nI x200),(7,nP z26 0)]) (w':=w411) (by kernel_rfl) ?_
        intro a524 hF523; clear hF416
        refine wpList_nil (thenN (wp_seq (wp_seq (wp_region_lit ?_))))
        refine ev_runK 4 hF523 [7,10,13,15,16,17,19,20,24,242] (l':=[(242,.bool (x341 == (Int.tmod x200 3))),(24,nI 0),(20,.slice p399 L391.length c400),(19,nI x341),(17,nP g319 0),(16,nI x308),(15,nI x307),(13,.map (some (w219.heap.size))),(10,nI x200),(7,nP z26 0)]) (w':=w411) (by kernel_rfl) ?_
        intro a526 hF525; clear hF523
        refine wpList_nil (thenN ?_)
        refine joinQ (fun aI wI=>∃ (x527:Int),Fr 290 aI [(24,nI x527),(20,.slice p399 L391.length c400),(19,nI x341),(17,nP g319 0),(16,nI x308),(15,nI x307),(13,.map (some (w219.heap.size))),(10,nI x200),(7,nP z26 0)]∧St w0 [] (RowP (.slice p399 L391.length c400) L391::HeapP z27 z28 s377::BlkP z26 66 #[nP z27 0,nP z29 0,nS g356 L18 c43,.slice p46 L19.length c47]::RowP (nS g356 L18 c43) L18::BlkP g319 70 #[nI x321,nI x322,nI x323,nI x324,nI x325,nI x326,nI x327,nI x328,nI x329,nI x330]::RowP (.slice p46 L19.length c47) L19::ColP (w219.heap.size) f232::RHeapP z29 z30 z31 z32 z33 s72::ps) wI∧WakeNowhere.j38 x200 f232 x341 (WakeNowhere.l30 k L18 L19 x200 f232 x307 x308 x322 x323 x330 k342) s377 L391 x527=some r0) ?_ ?_
        rotate_left
        · rintro a529 w530 ⟨x527,hF531,hS532,hm533⟩
          clear hF525 hS413 hm522
          unfold WakeNowhere.j38 at hm533
          refine thenN (wp_seq (wp_seq (wp_region_lit ?_)))
          refine ev_runK 5 hF531 [7,10,13,15,16,17,19,20,24,249] (l':=[(249,.bool (x341 == (Int.tmod (IntKind.i64.wrap (x200+1)) 3))),(24,nI x527),(20,.slice p399 L391.length c400),(19,nI x341),(17,nP g319 0),(16,nI x308),(15,nI x307),(13,.map (some (w219.heap.size))),(10,nI x200),(7,nP z26 0)]) (w':=w530) (by kernel_rfl) ?_
          intro a536 hF535; clear hF531
          refine wpList_nil (thenN ?_)
          refine joinQ (fun aI wI=>∃ (x537:Int),Fr 290 aI [(24,nI x537),(20,.slice p399 L391.length c400),(19,nI x341),(17,nP g319 0),(16,nI x308),(15,nI x307),(13,.map (some (w219.heap.size))),(10,nI x200),(7,nP z26 0)]∧St w0 [] (RowP (.slice p399 L391.length c400) L391::HeapP z27 z28 s377::BlkP z26 66 #[nP z27 0,nP z29 0,nS g356 L18 c43,.slice p46 L19.length c47]::RowP (nS g356 L18 c43) L18::BlkP g319 70 #[nI x321,nI x322,nI x323,nI x324,nI x325,nI x326,nI x327,nI x328,nI x329,nI x330]::RowP (.slice p46 L19.length c47) L19::ColP (w219.heap.size) f232::RHeapP z29 z30 z31 z32 z33 s72::ps) wI∧WakeNowhere.j39 f232 x341 (WakeNowhere.l30 k L18 L19 x200 f232 x307 x308 x322 x323 x330 k342) s377 L391 x537=some r0) ?_ ?_
          rotate_left
          · rintro a539 w540 ⟨x537,hF541,hS542,hm543⟩
            clear hF535 hS532 hm533
            unfold WakeNowhere.j39 at hm543
            refine thenN (wp_seq (wp_region_lit ?_))
            refine ev_runs 4 hF541 (l':=[(255,nI x341),(254,.map (some (w219.heap.size))),(253,nI ((L391.length:Int))),(252,.slice p399 L391.length c400),(24,nI x537),(20,.slice p399 L391.length c400),(19,nI x341),(17,nP g319 0),(16,nI x308),(15,nI x307),(13,.map (some (w219.heap.size))),(10,nI x200),(7,nP z26 0)]) (w':=w540) (by kernel_rfl) ?_
            intro a546 hF545; clear hF541
            obtain ⟨hc547,hm548⟩:=ifTE hm543; clear hm543
            refine ev_colGet 256 6 (.tmp 254) (.tmp 255) x341 hF545 hS542 rfl rfl rfl (by kernel_rfl) rfl (by kernel_rfl) (by kernel_rfl) rfl rfl hc547 ?_
            intro a550 hF549; clear hF545
            have hF551:Fr 290 a550 [(256,nI (f232 x341)),(255,nI x341),(254,.map (some (w219.heap.size))),(253,nI ((L391.length:Int))),(252,.slice p399 L391.length c400),(24,nI x537),(20,.slice p399 L391.length c400),(19,nI x341),(17,nP g319 0),(16,nI x308),(15,nI x307),(13,.map (some (w219.heap.size))),(10,nI x200),(7,nP z26 0)]:=hF549
            clear hF549
            refine ev_runK 3 hF551 [7,10,13,15,16,17,19,259] (l':=[(259,.bool ((L391.length:Int) != (IntKind.i64.wrap ((f232 x341) - x537)))),(19,nI x341),(17,nP g319 0),(16,nI x308),(15,nI x307),(13,.map (some (w219.heap.size))),(10,nI x200),(7,nP z26 0)]) (w':=w540) (by kernel_rfl) ?_
            intro a553 hF552; clear hF551
            refine wpList_nil ?_
            have hS554:=hS542.drop
            clear hS542
            refine thenN ?_
            cases hc555:((L391.length:Int) != (IntKind.i64.wrap ((f232 x341) - x537)))
            case true =>
             rw [hc555] at hF552
             have hm556:=ifYes hc555 hm548; clear hm548
             refine ev_condT hF552 rfl rfl ?_
             refine wp_seq (wp_region_lit ?_)
             refine ev_runK 1 hF552 [6] (l':=[(6,.bool false)]) (w':=w540) (by kernel_rfl) ?_
             intro a558 hF557; clear hF552
             refine wpList_nil ?_
             have hS559:=hS554.drop.drop.drop.drop.drop.drop.drop
             clear hS554
             refine thenN ?_
             refine wp_ret ?_
             refine blockR ?_
             refine thenR (thenR ?_)
             refine blockR ?_
             refine thenR ?_
             obtain rfl:=Option.some.inj hm556
             refine ev_ret hF557 [6] (.bool false) rfl rfl rfl ?_
             exact ⟨rfl,hS559⟩
            rw [hc555] at hF552
            have hm561:=ifNot hc555 hm548; clear hm548
            refine ev_condF hF552 rfl rfl ?_
            refine wp_skip ?_
            have hF562:=hF552.keep [7,10,13,15,16,17,19]
            clear hF552
            refine blockN ?_
            refine thenN (wp_region_lit ?_)
            refine ev_runK 3 hF562 [7,10,13,15,16,17,19] (l':=[(19,nI (IntKind.i64.wrap (x341+1))),(17,nP g319 0),(16,nI x308),(15,nI x307),(13,.map (some (w219.heap.size))),(10,nI x200),(7,nP z26 0)]) (w':=w540) (by kernel_rfl) ?_
            intro a564 hF563; clear hF562
            refine wpList_nil ?_
            have hS565:=hS554.pick2.pick6.pick6.pick6.pick5.pick5.pick6
            clear hS554
            exact thenN ⟨k342,Nat.lt_succ_self _,s377,IntKind.i64.wrap (x341+1),hF563,hS565,hm561⟩
          · skip
            cases hc566:(x341 == (Int.tmod (IntKind.i64.wrap (x200+1)) 3))
            case true =>
             rw [hc566] at hF535
             have hm567:=ifYes hc566 hm533; clear hm533
             refine ev_condT hF535 rfl rfl ?_
             refine wp_region_lit ?_
             refine ev_runK 3 hF535 [7,10,13,15,16,17,19,20,24] (l':=[(24,nI (IntKind.i64.wrap (x527+1))),(20,.slice p399 L391.length c400),(19,nI x341),(17,nP g319 0),(16,nI x308),(15,nI x307),(13,.map (some (w219.heap.size))),(10,nI x200),(7,nP z26 0)]) (w':=w530) (by kernel_rfl) ?_
             intro a569 hF568; clear hF535
             refine wpList_nil ?_
             exact thenN ⟨IntKind.i64.wrap (x527+1),hF568,hS532,hm567⟩
            rw [hc566] at hF535
            have hm570:=ifNot hc566 hm533; clear hm533
            refine ev_condF hF535 rfl rfl ?_
            refine wp_skip ?_
            have hF571:=hF535.keep [7,10,13,15,16,17,19,20,24]
            clear hF535
            exact thenN ⟨x527,hF571,hS532,hm570⟩
        · skip
          cases hc572:(x341 == (Int.tmod x200 3))
          case true =>
           rw [hc572] at hF525
           have hm573:=ifYes hc572 hm522; clear hm522
           refine ev_condT hF525 rfl rfl ?_
           refine wp_region_lit ?_
           refine ev_runK 3 hF525 [7,10,13,15,16,17,19,20,24] (l':=[(24,nI 1),(20,.slice p399 L391.length c400),(19,nI x341),(17,nP g319 0),(16,nI x308),(15,nI x307),(13,.map (some (w219.heap.size))),(10,nI x200),(7,nP z26 0)]) (w':=w411) (by kernel_rfl) ?_
           intro a575 hF574; clear hF525
           refine wpList_nil ?_
           exact thenN ⟨1,hF574,hS413,hm573⟩
          rw [hc572] at hF525
          have hm576:=ifNot hc572 hm522; clear hm522
          refine ev_condF hF525 rfl rfl ?_
          refine wp_skip ?_
          have hF577:=hF525.keep [7,10,13,15,16,17,19,20,24]
          clear hF525
          exact thenN ⟨0,hF577,hS413,hm576⟩
       rw [hc351] at hF349
       have hm578:=ifNot hc351 hm348; clear hm348
       refine ev_condF hF349 rfl rfl ?_
       refine wp_exit ?_
       refine thenE ?_
       refine thenE ?_
       refine blockE ?_
       refine thenN (wp_seq ?_)
       refine joinQ (fun aI wI=>∃ (y579:Bool),Fr 290 aI [(6,.bool (y579))]∧St w0 [] (ps) wI∧WakeNowhere.j40 y579=some r0) ?_ ?_
       rotate_left
       · rintro a581 w582 ⟨y579,hF583,hS584,hm585⟩
         clear hF349 hS346 hm578
         unfold WakeNowhere.j40 at hm585
         refine thenN ?_
         refine wp_ret ?_
         obtain rfl:=Option.some.inj hm585
         refine ev_ret hF583 [6] (.bool (y579)) rfl rfl rfl ?_
         exact ⟨rfl,hS584⟩
       · skip
         refine wp_region_lit ?_
         refine ev_runs 3 hF349 (l':=[(262,.bool (x308 == 0)),(261,.bool (x308 == 0)),(260,nI x308),(179,.bool false),(19,nI x341),(17,nP g319 0),(16,nI x308),(15,nI x307),(13,.map (some (w219.heap.size))),(10,nI x200),(7,nP z26 0)]) (w':=w344) (by kernel_rfl) ?_
         intro a589 hF588; clear hF349
         cases hc590:(x308 == 0)
         case true =>
          rw [hc590] at hF588
          have hm591:=ifYes hc590 hm578; clear hm578
          refine ev_runs 4 hF588 (l':=[(266,nP z26 3),(265,nP z26 0),(264,nP z26 0),(263,nI x307),(262,.bool true),(261,.bool true),(260,nI x308),(179,.bool false),(19,nI x341),(17,nP g319 0),(16,nI x308),(15,nI x307),(13,.map (some (w219.heap.size))),(10,nI x200),(7,nP z26 0)]) (w':=w344) (by kernel_rfl) ?_
          intro a593 hF592; clear hF588
          refine ev_one (.slice p46 L19.length c47) w344 hF592 (by kernel_rfl) rfl (by kernel_rfl) (run_loadV rfl rfl (run_loadS rfl rfl (hS346.cell 2 rfl 3 rfl))) (l':=[(267,.slice p46 L19.length c47),(266,nP z26 3),(265,nP z26 0),(264,nP z26 0),(263,nI x307),(262,.bool true),(261,.bool true),(260,nI x308),(179,.bool false),(19,nI x341),(17,nP g319 0),(16,nI x308),(15,nI x307),(13,.map (some (w219.heap.size))),(10,nI x200),(7,nP z26 0)]) (by kernel_rfl) ?_
          intro a595 hF594; clear hF592
          refine ev_runs 1 hF594 (l':=[(268,nI x200),(267,.slice p46 L19.length c47),(266,nP z26 3),(265,nP z26 0),(264,nP z26 0),(263,nI x307),(262,.bool true),(261,.bool true),(260,nI x308),(179,.bool false),(19,nI x341),(17,nP g319 0),(16,nI x308),(15,nI x307),(13,.map (some (w219.heap.size))),(10,nI x200),(7,nP z26 0)]) (w':=w344) (by kernel_rfl) ?_
          intro a597 hF596; clear hF594
          obtain ⟨hc598,hm599⟩:=ifTE hm591; clear hm591
          obtain ⟨g600,rfl⟩:=hp48.resolve_left (by have:=inR_spec hc598; omega)
          refine ev_one (nP g600 (x200.toNat)) w344 hF596 (by kernel_rfl) rfl (by kernel_rfl) (run_idx rfl rfl rfl rfl rfl (inR_spec hc598).1 (inR_spec hc598).2 _) (l':=[(269,nP g600 (x200.toNat)),(268,nI x200),(267,nS g600 L19 c47),(266,nP z26 3),(265,nP z26 0),(264,nP z26 0),(263,nI x307),(262,.bool true),(261,.bool true),(260,nI x308),(179,.bool false),(19,nI x341),(17,nP g319 0),(16,nI x308),(15,nI x307),(13,.map (some (w219.heap.size))),(10,nI x200),(7,nP z26 0)]) (by kernel_rfl) ?_
          intro a602 hF601; clear hF596
          refine ev_one (nI (atI L19 x200)) w344 hF601 (by kernel_rfl) rfl (by kernel_rfl) (run_load1 rfl rfl rfl (hS346.atI 3 rfl hc598)) (l':=[(270,nI (atI L19 x200)),(269,nP g600 (x200.toNat)),(268,nI x200),(267,nS g600 L19 c47),(266,nP z26 3),(265,nP z26 0),(264,nP z26 0),(263,nI x307),(262,.bool true),(261,.bool true),(260,nI x308),(179,.bool false),(19,nI x341),(17,nP g319 0),(16,nI x308),(15,nI x307),(13,.map (some (w219.heap.size))),(10,nI x200),(7,nP z26 0)]) (by kernel_rfl) ?_
          intro a604 hF603; clear hF601
          refine ev_runs 3 hF603 (l':=[(273,.bool (x307 == (atI L19 x200))),(272,.bool (x307 == (atI L19 x200))),(271,.bool (x307 == (atI L19 x200))),(270,nI (atI L19 x200)),(269,nP g600 (x200.toNat)),(268,nI x200),(267,nS g600 L19 c47),(266,nP z26 3),(265,nP z26 0),(264,nP z26 0),(263,nI x307),(262,.bool true),(261,.bool true),(260,nI x308),(179,.bool false),(19,nI x341),(17,nP g319 0),(16,nI x308),(15,nI x307),(13,.map (some (w219.heap.size))),(10,nI x200),(7,nP z26 0)]) (w':=w344) (by kernel_rfl) ?_
          intro a606 hF605; clear hF603
          cases hc607:(x307 == (atI L19 x200))
          case true =>
           rw [hc607] at hF605
           have hm608:=ifYes hc607 hm599; clear hm599
           refine ev_runs 1 hF605 (l':=[(274,nP g319 9),(273,.bool true),(272,.bool true),(271,.bool true),(270,nI (atI L19 x200)),(269,nP g600 (x200.toNat)),(268,nI x200),(267,nS g600 L19 c47),(266,nP z26 3),(265,nP z26 0),(264,nP z26 0),(263,nI x307),(262,.bool true),(261,.bool true),(260,nI x308),(179,.bool false),(19,nI x341),(17,nP g319 0),(16,nI x308),(15,nI x307),(13,.map (some (w219.heap.size))),(10,nI x200),(7,nP z26 0)]) (w':=w344) (by kernel_rfl) ?_
           intro a610 hF609; clear hF605
           refine ev_one (nI x330) w344 hF609 (by kernel_rfl) rfl (by kernel_rfl) (run_loadV rfl rfl (run_loadS rfl rfl (hS346.cell 0 rfl 9 rfl))) (l':=[(275,nI x330),(274,nP g319 9),(273,.bool true),(272,.bool true),(271,.bool true),(270,nI (atI L19 x200)),(269,nP g600 (x200.toNat)),(268,nI x200),(267,nS g600 L19 c47),(266,nP z26 3),(265,nP z26 0),(264,nP z26 0),(263,nI x307),(262,.bool true),(261,.bool true),(260,nI x308),(179,.bool false),(19,nI x341),(17,nP g319 0),(16,nI x308),(15,nI x307),(13,.map (some (w219.heap.size))),(10,nI x200),(7,nP z26 0)]) (by kernel_rfl) ?_
           intro a612 hF611; clear hF609
           refine ev_runs 3 hF611 (l':=[(278,.bool (x330 == (-1))),(277,.bool (x330 == (-1))),(276,.bool (x330 == (-1))),(275,nI x330),(274,nP g319 9),(273,.bool true),(272,.bool true),(271,.bool true),(270,nI (atI L19 x200)),(269,nP g600 (x200.toNat)),(268,nI x200),(267,nS g600 L19 c47),(266,nP z26 3),(265,nP z26 0),(264,nP z26 0),(263,nI x307),(262,.bool true),(261,.bool true),(260,nI x308),(179,.bool false),(19,nI x341),(17,nP g319 0),(16,nI x308),(15,nI x307),(13,.map (some (w219.heap.size))),(10,nI x200),(7,nP z26 0)]) (w':=w344) (by kernel_rfl) ?_
           intro a614 hF613; clear hF611
           cases hc615:(x330 == (-1))
           case true =>
            rw [hc615] at hF613
            have hm616:=ifYes hc615 hm608; clear hm608
            refine ev_runs 1 hF613 (l':=[(279,nP g319 1),(278,.bool true),(277,.bool true),(276,.bool true),(275,nI x330),(274,nP g319 9),(273,.bool true),(272,.bool true),(271,.bool true),(270,nI (atI L19 x200)),(269,nP g600 (x200.toNat)),(268,nI x200),(267,nS g600 L19 c47),(266,nP z26 3),(265,nP z26 0),(264,nP z26 0),(263,nI x307),(262,.bool true),(261,.bool true),(260,nI x308),(179,.bool false),(19,nI x341),(17,nP g319 0),(16,nI x308),(15,nI x307),(13,.map (some (w219.heap.size))),(10,nI x200),(7,nP z26 0)]) (w':=w344) (by kernel_rfl) ?_
            intro a618 hF617; clear hF613
            refine ev_one (nI x322) w344 hF617 (by kernel_rfl) rfl (by kernel_rfl) (run_loadV rfl rfl (run_loadS rfl rfl (hS346.cell 0 rfl 1 rfl))) (l':=[(280,nI x322),(279,nP g319 1),(278,.bool true),(277,.bool true),(276,.bool true),(275,nI x330),(274,nP g319 9),(273,.bool true),(272,.bool true),(271,.bool true),(270,nI (atI L19 x200)),(269,nP g600 (x200.toNat)),(268,nI x200),(267,nS g600 L19 c47),(266,nP z26 3),(265,nP z26 0),(264,nP z26 0),(263,nI x307),(262,.bool true),(261,.bool true),(260,nI x308),(179,.bool false),(19,nI x341),(17,nP g319 0),(16,nI x308),(15,nI x307),(13,.map (some (w219.heap.size))),(10,nI x200),(7,nP z26 0)]) (by kernel_rfl) ?_
            intro a620 hF619; clear hF617
            refine ev_runs 3 hF619 (l':=[(283,.bool (x322 == 0)),(282,.bool (x322 == 0)),(281,.bool (x322 == 0)),(280,nI x322),(279,nP g319 1),(278,.bool true),(277,.bool true),(276,.bool true),(275,nI x330),(274,nP g319 9),(273,.bool true),(272,.bool true),(271,.bool true),(270,nI (atI L19 x200)),(269,nP g600 (x200.toNat)),(268,nI x200),(267,nS g600 L19 c47),(266,nP z26 3),(265,nP z26 0),(264,nP z26 0),(263,nI x307),(262,.bool true),(261,.bool true),(260,nI x308),(179,.bool false),(19,nI x341),(17,nP g319 0),(16,nI x308),(15,nI x307),(13,.map (some (w219.heap.size))),(10,nI x200),(7,nP z26 0)]) (w':=w344) (by kernel_rfl) ?_
            intro a622 hF621; clear hF619
            cases hc623:(x322 == 0)
            case true =>
             rw [hc623] at hF621
             have hm624:=ifYes hc623 hm616; clear hm616
             refine ev_runs 1 hF621 (l':=[(284,nP g319 2),(283,.bool true),(282,.bool true),(281,.bool true),(280,nI x322),(279,nP g319 1),(278,.bool true),(277,.bool true),(276,.bool true),(275,nI x330),(274,nP g319 9),(273,.bool true),(272,.bool true),(271,.bool true),(270,nI (atI L19 x200)),(269,nP g600 (x200.toNat)),(268,nI x200),(267,nS g600 L19 c47),(266,nP z26 3),(265,nP z26 0),(264,nP z26 0),(263,nI x307),(262,.bool true),(261,.bool true),(260,nI x308),(179,.bool false),(19,nI x341),(17,nP g319 0),(16,nI x308),(15,nI x307),(13,.map (some (w219.heap.size))),(10,nI x200),(7,nP z26 0)]) (w':=w344) (by kernel_rfl) ?_
             intro a626 hF625; clear hF621
             refine ev_one (nI x323) w344 hF625 (by kernel_rfl) rfl (by kernel_rfl) (run_loadV rfl rfl (run_loadS rfl rfl (hS346.cell 0 rfl 2 rfl))) (l':=[(285,nI x323),(284,nP g319 2),(283,.bool true),(282,.bool true),(281,.bool true),(280,nI x322),(279,nP g319 1),(278,.bool true),(277,.bool true),(276,.bool true),(275,nI x330),(274,nP g319 9),(273,.bool true),(272,.bool true),(271,.bool true),(270,nI (atI L19 x200)),(269,nP g600 (x200.toNat)),(268,nI x200),(267,nS g600 L19 c47),(266,nP z26 3),(265,nP z26 0),(264,nP z26 0),(263,nI x307),(262,.bool true),(261,.bool true),(260,nI x308),(179,.bool false),(19,nI x341),(17,nP g319 0),(16,nI x308),(15,nI x307),(13,.map (some (w219.heap.size))),(10,nI x200),(7,nP z26 0)]) (by kernel_rfl) ?_
             intro a628 hF627; clear hF625
             refine ev_runK 5 hF627 [6] (l':=[(6,.bool (x323 == (IntKind.i64.wrap (10 * x200))))]) (w':=w344) (by kernel_rfl) ?_
             intro a630 hF629; clear hF627
             refine wpList_nil ?_
             have hS631:=hS346.drop.drop.drop.drop.drop.drop.drop
             clear hS346
             exact thenN ⟨x323 == (IntKind.i64.wrap (10 * x200)),hF629,hS631,hm624⟩
            rw [hc623] at hF621
            have hm632:=ifNot hc623 hm616; clear hm616
            refine ev_runK 7 hF621 [6] (l':=[(6,.bool false)]) (w':=w344) (by kernel_rfl) ?_
            intro a634 hF633; clear hF621
            refine wpList_nil ?_
            have hS635:=hS346.drop.drop.drop.drop.drop.drop.drop
            clear hS346
            exact thenN ⟨false,hF633,hS635,hm632⟩
           rw [hc615] at hF613
           have hm636:=ifNot hc615 hm608; clear hm608
           refine ev_runK 12 hF613 [6] (l':=[(6,.bool false)]) (w':=w344) (by kernel_rfl) ?_
           intro a638 hF637; clear hF613
           refine wpList_nil ?_
           have hS639:=hS346.drop.drop.drop.drop.drop.drop.drop
           clear hS346
           exact thenN ⟨false,hF637,hS639,hm636⟩
          rw [hc607] at hF605
          have hm640:=ifNot hc607 hm599; clear hm599
          refine ev_runK 17 hF605 [6] (l':=[(6,.bool false)]) (w':=w344) (by kernel_rfl) ?_
          intro a642 hF641; clear hF605
          refine wpList_nil ?_
          have hS643:=hS346.drop.drop.drop.drop.drop.drop.drop
          clear hS346
          exact thenN ⟨false,hF641,hS643,hm640⟩
         rw [hc590] at hF588
         have hm644:=ifNot hc590 hm578; clear hm578
         refine ev_runK 28 hF588 [6] (l':=[(6,.bool false)]) (w':=w344) (by kernel_rfl) ?_
         intro a646 hF645; clear hF588
         refine wpList_nil ?_
         have hS647:=hS346.drop.drop.drop.drop.drop.drop.drop
         clear hS346
         exact thenN ⟨false,hF645,hS647,hm644⟩
     · skip
       obtain ⟨hc648,hm649⟩:=ifTE hm311; clear hm311
       obtain ⟨g650,rfl⟩:=hp48.resolve_left (by have:=inR_spec hc648; omega)
       have hS651:=hS318.pick3.pick2
       clear hS318
       have hS652:=hS651.drew; clear hS651
       refine any_start (fun wS=>∃ qs,St w0 [] (BlkP z26 66 #[nP z27 0,nP z29 0,.slice p42 L18.length c43,nS g650 L19 c47]::RowP (nS g650 L19 c47) L19::qs) wS) 18 #[false,false,false,false,false,false,false,false,false,false,false,false,false,false,false,false,false,false] (by kernel_rfl) (by kernel_rfl) (by kernel_rfl) ?_
       refine any_many 11 [(0,some (nP z26 0)),(1,some (nP z26 0)),(2,some (nP z26 0)),(3,some (nP z27 0)),(4,some (nP z26 0)),(5,some (nP z26 0)),(6,some (nP z26 3)),(7,some (nS g650 L19 c47)),(8,some (nI x200)),(9,some (nP g650 (x200.toNat))),(10,some (nI (atI L19 x200)))] [7,10,13,15,16,17,163,167,174,175,176,177] #[true,true,true,true,true,true,true,true,true,true,true,false,false,false,false,false,false,false] (by rfl) hF316 (by kernel_rfl) (by kernel_rfl) (by exact ⟨fun wS hw=>by kernel_rfl,fun wS hw=>by kernel_rfl,fun wS hw=>by kernel_rfl,fun wS hw=>hw.elim fun qs hw=>run_loadV rfl rfl (run_loadS rfl rfl (hw.cell 0 rfl 0 rfl)),fun wS hw=>by kernel_rfl,fun wS hw=>by kernel_rfl,fun wS hw=>by kernel_rfl,fun wS hw=>hw.elim fun qs hw=>run_loadV rfl rfl (run_loadS rfl rfl (hw.cell 0 rfl 3 rfl)),fun wS hw=>by kernel_rfl,fun wS hw=>run_idx rfl rfl rfl rfl rfl (inR_spec hc648).1 (inR_spec hc648).2 _,fun wS hw=>run_load1 rfl rfl rfl (hw.elim fun qs hw=>hw.atI 1 rfl hc648),trivial⟩) (fun _ _ _ _ _ h=>h) ⟨_,hS652⟩ (l':=[(174,nI (atI L19 x200)),(167,nP z27 0),(16,nI x308),(15,nI x307),(13,.map (some (w219.heap.size))),(10,nI x200),(7,nP z26 0)]) (by kernel_rfl) ?_
       intro a654 hF653; clear hF316
       refine any_two 11 15 (by kernel_rfl) ?_ ?_
       · skip
         have hS655:=hS652.pick2
         clear hS652
         refine op_call 11 #[true,true,true,true,true,true,true,true,true,true,true,true,false,false,false,false,false,false] 38 #[nP z27 0,nI (atI L19 x200)] hF653 rfl rfl rfl (by kernel_rfl) rfl (by kernel_rfl) (fun w=>by kernel_rfl) (by kernel_rfl) ?_
         obtain ⟨q656,x657,s658,hx659,hm660⟩:=bind3E hm649; clear hm649
         refine (view_Gor.ok hS655 hx659).mono ?_
         rintro _ w661 ⟨rfl,hS663⟩; clear hS655
         refine ⟨⟨_,hS663.pick2.pick2⟩,?_⟩
         intro a662 hF664; clear hF653
         refine any_many 3 [(12,some (.tuple #[.agg #[nI (q656.id),nI (q656.status),nI (q656.pc),nI (q656.a),nI (q656.b),nI (q656.c),nI (q656.d),nI (q656.e),nI (q656.f),nI (q656.sudogs)],nI x657])),(13,some (.agg #[nI (q656.id),nI (q656.status),nI (q656.pc),nI (q656.a),nI (q656.b),nI (q656.c),nI (q656.d),nI (q656.e),nI (q656.f),nI (q656.sudogs)])),(14,some (nI x657))] [7,10,13,15,16,17,176,177] #[true,true,true,true,true,true,true,true,true,true,true,true,true,true,true,false,false,false] (by rfl) hF664 (by kernel_rfl) (by kernel_rfl) (by exact ⟨fun wS hw=>by kernel_rfl,fun wS hw=>by kernel_rfl,fun wS hw=>by kernel_rfl,trivial⟩) (fun _ _ _ _ _ h=>h) ⟨_,hS663.pick2.pick2⟩ (l':=[(177,nI x657),(176,.agg #[nI (q656.id),nI (q656.status),nI (q656.pc),nI (q656.a),nI (q656.b),nI (q656.c),nI (q656.d),nI (q656.e),nI (q656.f),nI (q656.sudogs)]),(16,nI x308),(15,nI x307),(13,.map (some (w219.heap.size))),(10,nI x200),(7,nP z26 0)]) (by kernel_rfl) ?_
         intro a666 hF665; clear hF664
         refine any_one 15 (by kernel_rfl) ?_
         have hS667:St w0 [] (BlkP (w661.heap.size) 70 #[nI 0,nI 0,nI 0,nI 0,nI 0,nI 0,nI 0,nI 0,nI 0,nI 0]::HeapP z27 z28 s658::BlkP z26 66 #[nP z27 0,nP z29 0,.slice p42 L18.length c43,nS g650 L19 c47]::RowP (nS g650 L19 c47) L19::ColP (w219.heap.size) f232::RHeapP z29 z30 z31 z32 z33 s72::RowP (.slice p42 L18.length c43) L18::ps) (w661.alloc (.cells #[nI 0,nI 0,nI 0,nI 0,nI 0,nI 0,nI 0,nI 0,nI 0,nI 0] 70)):=St.new hS663 #[nI 0,nI 0,nI 0,nI 0,nI 0,nI 0,nI 0,nI 0,nI 0,nI 0] 70
         clear hS663
         refine op_step 15 #[true,true,true,true,true,true,true,true,true,true,true,true,true,true,true,true,false,false] (nB w661) (w661.alloc (.cells #[nI 0,nI 0,nI 0,nI 0,nI 0,nI 0,nI 0,nI 0,nI 0,nI 0] 70)) hF665 rfl (by kernel_rfl) rfl (by kernel_rfl) (by kernel_rfl) (l':=[(17,nB w661),(177,nI x657),(176,.agg #[nI (q656.id),nI (q656.status),nI (q656.pc),nI (q656.a),nI (q656.b),nI (q656.c),nI (q656.d),nI (q656.e),nI (q656.f),nI (q656.sudogs)]),(16,nI x308),(15,nI x307),(13,.map (some (w219.heap.size))),(10,nI x200),(7,nP z26 0)]) (by kernel_rfl) ⟨_,hS667.pick3.pick3⟩ (by kernel_rfl) ?_
         intro a669 hF668; clear hF665
         refine any_one 16 (by kernel_rfl) ?_
         refine op_store 16 #[true,true,true,true,true,true,true,true,true,true,true,true,true,true,true,true,true,false] (.agg #[nI (q656.id),nI (q656.status),nI (q656.pc),nI (q656.a),nI (q656.b),nI (q656.c),nI (q656.d),nI (q656.e),nI (q656.f),nI (q656.sudogs)]) #[nI (q656.id),nI (q656.status),nI (q656.pc),nI (q656.a),nI (q656.b),nI (q656.c),nI (q656.d),nI (q656.e),nI (q656.f),nI (q656.sudogs)] hF668 rfl (by kernel_rfl) rfl rfl rfl rfl (by kernel_rfl) hS667 (by kernel_rfl) (by kernel_rfl) (by kernel_rfl) (l':=[(17,nB w661),(177,nI x657),(176,.agg #[nI (q656.id),nI (q656.status),nI (q656.pc),nI (q656.a),nI (q656.b),nI (q656.c),nI (q656.d),nI (q656.e),nI (q656.f),nI (q656.sudogs)]),(16,nI x308),(15,nI x307),(13,.map (some (w219.heap.size))),(10,nI x200),(7,nP z26 0)]) (by kernel_rfl) (by kernel_rfl) ?_
         intro w670 a671 hS672 hF673; clear hF668 hS667
         refine ⟨⟨_,hS672.pick3.pick3⟩,?_⟩
         refine any_many 1 [(17,some (nI x657))] [7,10,13,15,16,17] #[true,true,true,true,true,true,true,true,true,true,true,true,true,true,true,true,true,true] (by rfl) hF673 (by kernel_rfl) (by kernel_rfl) (by exact ⟨fun wS hw=>by kernel_rfl,trivial⟩) (fun _ _ _ _ _ h=>h) ⟨_,hS672.pick3.pick3⟩ (l':=[(17,nB w661),(16,nI x308),(15,nI x307),(13,.map (some (w219.heap.size))),(10,nI x200),(7,nP z26 0)]) (by kernel_rfl) ?_
         intro a675 hF674; clear hF673
         refine any_done (by kernel_rfl) ?_
         exact thenN ⟨(w661.heap.size),s658,q656.id,q656.status,q656.pc,q656.a,q656.b,q656.c,q656.d,q656.e,q656.f,q656.sudogs,hF674,hS672,hm660⟩
       · skip
         have hS676:St w0 [] (BlkP ((w312.drew).heap.size) 70 #[nI 0,nI 0,nI 0,nI 0,nI 0,nI 0,nI 0,nI 0,nI 0,nI 0]::BlkP z26 66 #[nP z27 0,nP z29 0,.slice p42 L18.length c43,nS g650 L19 c47]::RowP (nS g650 L19 c47) L19::HeapP z27 z28 s309::ColP (w219.heap.size) f232::RHeapP z29 z30 z31 z32 z33 s72::RowP (.slice p42 L18.length c43) L18::ps) ((w312.drew).alloc (.cells #[nI 0,nI 0,nI 0,nI 0,nI 0,nI 0,nI 0,nI 0,nI 0,nI 0] 70)):=St.new hS652 #[nI 0,nI 0,nI 0,nI 0,nI 0,nI 0,nI 0,nI 0,nI 0,nI 0] 70
         clear hS652
         refine op_step 15 #[true,true,true,true,true,true,true,true,true,true,true,false,false,false,false,true,false,false] (nB (w312.drew)) ((w312.drew).alloc (.cells #[nI 0,nI 0,nI 0,nI 0,nI 0,nI 0,nI 0,nI 0,nI 0,nI 0] 70)) hF653 rfl (by kernel_rfl) rfl (by kernel_rfl) (by kernel_rfl) (l':=[(17,nB (w312.drew)),(174,nI (atI L19 x200)),(167,nP z27 0),(16,nI x308),(15,nI x307),(13,.map (some (w219.heap.size))),(10,nI x200),(7,nP z26 0)]) (by kernel_rfl) ⟨_,hS676.pick2.pick2⟩ (by kernel_rfl) ?_
         intro a678 hF677; clear hF653
         have hS679:=hS676.pick3
         clear hS676
         refine any_call 11 #[true,true,true,true,true,true,true,true,true,true,true,true,false,false,false,true,false,false] 38 #[nP z27 0,nI (atI L19 x200)] hF677 rfl (by kernel_rfl) rfl rfl (by kernel_rfl) rfl (by kernel_rfl) (fun w=>by kernel_rfl) (by kernel_rfl) ?_
         obtain ⟨q680,x681,s682,hx683,hm684⟩:=bind3E hm649; clear hm649
         refine (view_Gor.ok hS679 hx683).mono ?_
         rintro _ w685 ⟨rfl,hS687⟩; clear hS679
         refine ⟨⟨_,hS687.pick3.pick3⟩,?_⟩
         intro a686 hF688; clear hF677
         refine any_many 3 [(12,some (.tuple #[.agg #[nI (q680.id),nI (q680.status),nI (q680.pc),nI (q680.a),nI (q680.b),nI (q680.c),nI (q680.d),nI (q680.e),nI (q680.f),nI (q680.sudogs)],nI x681])),(13,some (.agg #[nI (q680.id),nI (q680.status),nI (q680.pc),nI (q680.a),nI (q680.b),nI (q680.c),nI (q680.d),nI (q680.e),nI (q680.f),nI (q680.sudogs)])),(14,some (nI x681))] [7,10,13,15,16,17,176,177] #[true,true,true,true,true,true,true,true,true,true,true,true,true,true,true,true,false,false] (by rfl) hF688 (by kernel_rfl) (by kernel_rfl) (by exact ⟨fun wS hw=>by kernel_rfl,fun wS hw=>by kernel_rfl,fun wS hw=>by kernel_rfl,trivial⟩) (fun _ _ _ _ _ h=>h) ⟨_,hS687.pick3.pick3⟩ (l':=[(177,nI x681),(176,.agg #[nI (q680.id),nI (q680.status),nI (q680.pc),nI (q680.a),nI (q680.b),nI (q680.c),nI (q680.d),nI (q680.e),nI (q680.f),nI (q680.sudogs)]),(17,nB (w312.drew)),(16,nI x308),(15,nI x307),(13,.map (some (w219.heap.size))),(10,nI x200),(7,nP z26 0)]) (by kernel_rfl) ?_
         intro a690 hF689; clear hF688
         refine any_one 16 (by kernel_rfl) ?_
         have hS691:=hS687.pick1
         clear hS687
         refine op_store 16 #[true,true,true,true,true,true,true,true,true,true,true,true,true,true,true,true,true,false] (.agg #[nI (q680.id),nI (q680.status),nI (q680.pc),nI (q680.a),nI (q680.b),nI (q680.c),nI (q680.d),nI (q680.e),nI (q680.f),nI (q680.sudogs)]) #[nI (q680.id),nI (q680.status),nI (q680.pc),nI (q680.a),nI (q680.b),nI (q680.c),nI (q680.d),nI (q680.e),nI (q680.f),nI (q680.sudogs)] hF689 rfl (by kernel_rfl) rfl rfl rfl rfl (by kernel_rfl) hS691 (by kernel_rfl) (by kernel_rfl) (by kernel_rfl) (l':=[(177,nI x681),(176,.agg #[nI (q680.id),nI (q680.status),nI (q680.pc),nI (q680.a),nI (q680.b),nI (q680.c),nI (q680.d),nI (q680.e),nI (q680.f),nI (q680.sudogs)]),(17,nB (w312.drew)),(16,nI x308),(15,nI x307),(13,.map (some (w219.heap.size))),(10,nI x200),(7,nP z26 0)]) (by kernel_rfl) (by kernel_rfl) ?_
         intro w692 a693 hS694 hF695; clear hF689 hS691
         refine ⟨⟨_,hS694.pick3.pick3⟩,?_⟩
         refine any_many 1 [(17,some (nI x681))] [7,10,13,15,16,17] #[true,true,true,true,true,true,true,true,true,true,true,true,true,true,true,true,true,true] (by rfl) hF695 (by kernel_rfl) (by kernel_rfl) (by exact ⟨fun wS hw=>by kernel_rfl,trivial⟩) (fun _ _ _ _ _ h=>h) ⟨_,hS694.pick3.pick3⟩ (l':=[(17,nB (w312.drew)),(16,nI x308),(15,nI x307),(13,.map (some (w219.heap.size))),(10,nI x200),(7,nP z26 0)]) (by kernel_rfl) ?_
         intro a697 hF696; clear hF695
         refine any_done (by kernel_rfl) ?_
         exact thenN ⟨((w312.drew).heap.size),s682,q680.id,q680.status,q680.pc,q680.a,q680.b,q680.c,q680.d,q680.e,q680.f,q680.sudogs,hF696,hS694,hm684⟩
   · skip
     obtain ⟨hc698,hm699⟩:=ifTE hm202; clear hm202
     obtain ⟨g700,rfl⟩:=hp48.resolve_left (by have:=inR_spec hc698; omega)
     have hS701:=hS78.pick4.pick1
     clear hS78
     have hS702:=hS701.drew; clear hS701
     refine any_start (fun wS=>∃ qs,St w0 [] (BlkP z26 66 #[nP z27 0,nP z29 0,.slice p42 L18.length c43,nS g700 L19 c47]::RowP (nS g700 L19 c47) L19::qs) wS) 18 #[false,false,false,false,false,false,false,false,false,false,false,false,false,false,false,false,false,false] (by kernel_rfl) (by kernel_rfl) (by kernel_rfl) ?_
     refine any_many 11 [(0,some (nP z26 0)),(1,some (nP z26 0)),(2,some (nP z26 0)),(3,some (nP z27 0)),(4,some (nP z26 0)),(5,some (nP z26 0)),(6,some (nP z26 3)),(7,some (nS g700 L19 c47)),(8,some (nI x200)),(9,some (nP g700 (x200.toNat))),(10,some (nI (atI L19 x200)))] [7,10,11,104,108,115,116,117,118] #[true,true,true,true,true,true,true,true,true,true,true,false,false,false,false,false,false,false] (by rfl) hF204 (by kernel_rfl) (by kernel_rfl) (by exact ⟨fun wS hw=>by kernel_rfl,fun wS hw=>by kernel_rfl,fun wS hw=>by kernel_rfl,fun wS hw=>hw.elim fun qs hw=>run_loadV rfl rfl (run_loadS rfl rfl (hw.cell 0 rfl 0 rfl)),fun wS hw=>by kernel_rfl,fun wS hw=>by kernel_rfl,fun wS hw=>by kernel_rfl,fun wS hw=>hw.elim fun qs hw=>run_loadV rfl rfl (run_loadS rfl rfl (hw.cell 0 rfl 3 rfl)),fun wS hw=>by kernel_rfl,fun wS hw=>run_idx rfl rfl rfl rfl rfl (inR_spec hc698).1 (inR_spec hc698).2 _,fun wS hw=>run_load1 rfl rfl rfl (hw.elim fun qs hw=>hw.atI 1 rfl hc698),trivial⟩) (fun _ _ _ _ _ h=>h) ⟨_,hS702⟩ (l':=[(115,nI (atI L19 x200)),(108,nP z27 0),(10,nI x200),(7,nP z26 0)]) (by kernel_rfl) ?_
     intro a704 hF703; clear hF204
     refine any_two 11 15 (by kernel_rfl) ?_ ?_
     · skip
       have hS705:=hS702.pick2
       clear hS702
       refine op_call 11 #[true,true,true,true,true,true,true,true,true,true,true,true,false,false,false,false,false,false] 38 #[nP z27 0,nI (atI L19 x200)] hF703 rfl rfl rfl (by kernel_rfl) rfl (by kernel_rfl) (fun w=>by kernel_rfl) (by kernel_rfl) ?_
       obtain ⟨q706,x707,s708,hx709,hm710⟩:=bind3E hm699; clear hm699
       refine (view_Gor.ok hS705 hx709).mono ?_
       rintro _ w711 ⟨rfl,hS713⟩; clear hS705
       refine ⟨⟨_,hS713.pick2.pick2⟩,?_⟩
       intro a712 hF714; clear hF703
       refine any_many 3 [(12,some (.tuple #[.agg #[nI (q706.id),nI (q706.status),nI (q706.pc),nI (q706.a),nI (q706.b),nI (q706.c),nI (q706.d),nI (q706.e),nI (q706.f),nI (q706.sudogs)],nI x707])),(13,some (.agg #[nI (q706.id),nI (q706.status),nI (q706.pc),nI (q706.a),nI (q706.b),nI (q706.c),nI (q706.d),nI (q706.e),nI (q706.f),nI (q706.sudogs)])),(14,some (nI x707))] [7,10,11,117,118] #[true,true,true,true,true,true,true,true,true,true,true,true,true,true,true,false,false,false] (by rfl) hF714 (by kernel_rfl) (by kernel_rfl) (by exact ⟨fun wS hw=>by kernel_rfl,fun wS hw=>by kernel_rfl,fun wS hw=>by kernel_rfl,trivial⟩) (fun _ _ _ _ _ h=>h) ⟨_,hS713.pick2.pick2⟩ (l':=[(118,nI x707),(117,.agg #[nI (q706.id),nI (q706.status),nI (q706.pc),nI (q706.a),nI (q706.b),nI (q706.c),nI (q706.d),nI (q706.e),nI (q706.f),nI (q706.sudogs)]),(10,nI x200),(7,nP z26 0)]) (by kernel_rfl) ?_
       intro a716 hF715; clear hF714
       refine any_one 15 (by kernel_rfl) ?_
       have hS717:St w0 [] (BlkP (w711.heap.size) 70 #[nI 0,nI 0,nI 0,nI 0,nI 0,nI 0,nI 0,nI 0,nI 0,nI 0]::HeapP z27 z28 s708::BlkP z26 66 #[nP z27 0,nP z29 0,.slice p42 L18.length c43,nS g700 L19 c47]::RowP (nS g700 L19 c47) L19::RHeapP z29 z30 z31 z32 z33 s72::RowP (.slice p42 L18.length c43) L18::ps) (w711.alloc (.cells #[nI 0,nI 0,nI 0,nI 0,nI 0,nI 0,nI 0,nI 0,nI 0,nI 0] 70)):=St.new hS713 #[nI 0,nI 0,nI 0,nI 0,nI 0,nI 0,nI 0,nI 0,nI 0,nI 0] 70
       clear hS713
       refine op_step 15 #[true,true,true,true,true,true,true,true,true,true,true,true,true,true,true,true,false,false] (nB w711) (w711.alloc (.cells #[nI 0,nI 0,nI 0,nI 0,nI 0,nI 0,nI 0,nI 0,nI 0,nI 0] 70)) hF715 rfl (by kernel_rfl) rfl (by kernel_rfl) (by kernel_rfl) (l':=[(11,nB w711),(118,nI x707),(117,.agg #[nI (q706.id),nI (q706.status),nI (q706.pc),nI (q706.a),nI (q706.b),nI (q706.c),nI (q706.d),nI (q706.e),nI (q706.f),nI (q706.sudogs)]),(10,nI x200),(7,nP z26 0)]) (by kernel_rfl) ⟨_,hS717.pick3.pick3⟩ (by kernel_rfl) ?_
       intro a719 hF718; clear hF715
       refine any_one 16 (by kernel_rfl) ?_
       refine op_store 16 #[true,true,true,true,true,true,true,true,true,true,true,true,true,true,true,true,true,false] (.agg #[nI (q706.id),nI (q706.status),nI (q706.pc),nI (q706.a),nI (q706.b),nI (q706.c),nI (q706.d),nI (q706.e),nI (q706.f),nI (q706.sudogs)]) #[nI (q706.id),nI (q706.status),nI (q706.pc),nI (q706.a),nI (q706.b),nI (q706.c),nI (q706.d),nI (q706.e),nI (q706.f),nI (q706.sudogs)] hF718 rfl (by kernel_rfl) rfl rfl rfl rfl (by kernel_rfl) hS717 (by kernel_rfl) (by kernel_rfl) (by kernel_rfl) (l':=[(11,nB w711),(118,nI x707),(117,.agg #[nI (q706.id),nI (q706.status),nI (q706.pc),nI (q706.a),nI (q706.b),nI (q706.c),nI (q706.d),nI (q706.e),nI (q706.f),nI (q706.sudogs)]),(10,nI x200),(7,nP z26 0)]) (by kernel_rfl) (by kernel_rfl) ?_
       intro w720 a721 hS722 hF723; clear hF718 hS717
       refine ⟨⟨_,hS722.pick3.pick3⟩,?_⟩
       refine any_many 1 [(17,some (nI x707))] [7,10,11] #[true,true,true,true,true,true,true,true,true,true,true,true,true,true,true,true,true,true] (by rfl) hF723 (by kernel_rfl) (by kernel_rfl) (by exact ⟨fun wS hw=>by kernel_rfl,trivial⟩) (fun _ _ _ _ _ h=>h) ⟨_,hS722.pick3.pick3⟩ (l':=[(11,nB w711),(10,nI x200),(7,nP z26 0)]) (by kernel_rfl) ?_
       intro a725 hF724; clear hF723
       refine any_done (by kernel_rfl) ?_
       exact thenN ⟨(w711.heap.size),s708,q706.id,q706.status,q706.pc,q706.a,q706.b,q706.c,q706.d,q706.e,q706.f,q706.sudogs,hF724,hS722,hm710⟩
     · skip
       have hS726:St w0 [] (BlkP ((w76.drew).heap.size) 70 #[nI 0,nI 0,nI 0,nI 0,nI 0,nI 0,nI 0,nI 0,nI 0,nI 0]::BlkP z26 66 #[nP z27 0,nP z29 0,.slice p42 L18.length c43,nS g700 L19 c47]::RowP (nS g700 L19 c47) L19::HeapP z27 z28 s71::RHeapP z29 z30 z31 z32 z33 s72::RowP (.slice p42 L18.length c43) L18::ps) ((w76.drew).alloc (.cells #[nI 0,nI 0,nI 0,nI 0,nI 0,nI 0,nI 0,nI 0,nI 0,nI 0] 70)):=St.new hS702 #[nI 0,nI 0,nI 0,nI 0,nI 0,nI 0,nI 0,nI 0,nI 0,nI 0] 70
       clear hS702
       refine op_step 15 #[true,true,true,true,true,true,true,true,true,true,true,false,false,false,false,true,false,false] (nB (w76.drew)) ((w76.drew).alloc (.cells #[nI 0,nI 0,nI 0,nI 0,nI 0,nI 0,nI 0,nI 0,nI 0,nI 0] 70)) hF703 rfl (by kernel_rfl) rfl (by kernel_rfl) (by kernel_rfl) (l':=[(11,nB (w76.drew)),(115,nI (atI L19 x200)),(108,nP z27 0),(10,nI x200),(7,nP z26 0)]) (by kernel_rfl) ⟨_,hS726.pick2.pick2⟩ (by kernel_rfl) ?_
       intro a728 hF727; clear hF703
       have hS729:=hS726.pick3
       clear hS726
       refine any_call 11 #[true,true,true,true,true,true,true,true,true,true,true,true,false,false,false,true,false,false] 38 #[nP z27 0,nI (atI L19 x200)] hF727 rfl (by kernel_rfl) rfl rfl (by kernel_rfl) rfl (by kernel_rfl) (fun w=>by kernel_rfl) (by kernel_rfl) ?_
       obtain ⟨q730,x731,s732,hx733,hm734⟩:=bind3E hm699; clear hm699
       refine (view_Gor.ok hS729 hx733).mono ?_
       rintro _ w735 ⟨rfl,hS737⟩; clear hS729
       refine ⟨⟨_,hS737.pick3.pick3⟩,?_⟩
       intro a736 hF738; clear hF727
       refine any_many 3 [(12,some (.tuple #[.agg #[nI (q730.id),nI (q730.status),nI (q730.pc),nI (q730.a),nI (q730.b),nI (q730.c),nI (q730.d),nI (q730.e),nI (q730.f),nI (q730.sudogs)],nI x731])),(13,some (.agg #[nI (q730.id),nI (q730.status),nI (q730.pc),nI (q730.a),nI (q730.b),nI (q730.c),nI (q730.d),nI (q730.e),nI (q730.f),nI (q730.sudogs)])),(14,some (nI x731))] [7,10,11,117,118] #[true,true,true,true,true,true,true,true,true,true,true,true,true,true,true,true,false,false] (by rfl) hF738 (by kernel_rfl) (by kernel_rfl) (by exact ⟨fun wS hw=>by kernel_rfl,fun wS hw=>by kernel_rfl,fun wS hw=>by kernel_rfl,trivial⟩) (fun _ _ _ _ _ h=>h) ⟨_,hS737.pick3.pick3⟩ (l':=[(118,nI x731),(117,.agg #[nI (q730.id),nI (q730.status),nI (q730.pc),nI (q730.a),nI (q730.b),nI (q730.c),nI (q730.d),nI (q730.e),nI (q730.f),nI (q730.sudogs)]),(11,nB (w76.drew)),(10,nI x200),(7,nP z26 0)]) (by kernel_rfl) ?_
       intro a740 hF739; clear hF738
       refine any_one 16 (by kernel_rfl) ?_
       have hS741:=hS737.pick1
       clear hS737
       refine op_store 16 #[true,true,true,true,true,true,true,true,true,true,true,true,true,true,true,true,true,false] (.agg #[nI (q730.id),nI (q730.status),nI (q730.pc),nI (q730.a),nI (q730.b),nI (q730.c),nI (q730.d),nI (q730.e),nI (q730.f),nI (q730.sudogs)]) #[nI (q730.id),nI (q730.status),nI (q730.pc),nI (q730.a),nI (q730.b),nI (q730.c),nI (q730.d),nI (q730.e),nI (q730.f),nI (q730.sudogs)] hF739 rfl (by kernel_rfl) rfl rfl rfl rfl (by kernel_rfl) hS741 (by kernel_rfl) (by kernel_rfl) (by kernel_rfl) (l':=[(118,nI x731),(117,.agg #[nI (q730.id),nI (q730.status),nI (q730.pc),nI (q730.a),nI (q730.b),nI (q730.c),nI (q730.d),nI (q730.e),nI (q730.f),nI (q730.sudogs)]),(11,nB (w76.drew)),(10,nI x200),(7,nP z26 0)]) (by kernel_rfl) (by kernel_rfl) ?_
       intro w742 a743 hS744 hF745; clear hF739 hS741
       refine ⟨⟨_,hS744.pick3.pick3⟩,?_⟩
       refine any_many 1 [(17,some (nI x731))] [7,10,11] #[true,true,true,true,true,true,true,true,true,true,true,true,true,true,true,true,true,true] (by rfl) hF745 (by kernel_rfl) (by kernel_rfl) (by exact ⟨fun wS hw=>by kernel_rfl,trivial⟩) (fun _ _ _ _ _ h=>h) ⟨_,hS744.pick3.pick3⟩ (l':=[(11,nB (w76.drew)),(10,nI x200),(7,nP z26 0)]) (by kernel_rfl) ?_
       intro a747 hF746; clear hF745
       refine any_done (by kernel_rfl) ?_
       exact thenN ⟨((w76.drew).heap.size),s732,q730.id,q730.status,q730.pc,q730.a,q730.b,q730.c,q730.d,q730.e,q730.f,q730.sudogs,hF746,hS744,hm734⟩
 · skip
   refine wp_region_lit ?_
   refine ev_call 36 #[] hF50 rfl rfl (by kernel_rfl) rfl (by kernel_rfl) (fun w=>by kernel_rfl) ?_
   obtain ⟨y748,hx749,hm750⟩:=bind1E hm21; clear hm21
   refine (law14_awake.ok hS52 hx749).mono ?_
   rintro _ w751 ⟨rfl,hS753⟩ a752 hF754; clear hF50 hS52
   refine ev_runs 2 hF754 (l':=[(35,.bool (!(y748))),(34,.bool (!(y748))),(33,.bool (y748)),(7,nP z26 0),(1,.slice pa1 K1.length ca1),(2,nI i2)]) (w':=w751) (by kernel_rfl) ?_
   intro a756 hF755; clear hF754
   cases hc757:(!(y748))
   case true =>
    rw [hc757] at hF755
    have hm758:=ifYes hc757 hm750; clear hm750
    refine ev_runK 3 hF755 [1,2,7,38] (l':=[(38,.bool true),(7,nP z26 0),(1,.slice pa1 K1.length ca1),(2,nI i2)]) (w':=w751) (by kernel_rfl) ?_
    intro a760 hF759; clear hF755
    refine wpList_nil ?_
    exact thenN ⟨true,hF759,hS753,hm758⟩
   rw [hc757] at hF755
   have hm761:=ifNot hc757 hm750; clear hm750
   refine ev_runK 3 hF755 [1,2,7,38] (l':=[(38,.bool false),(7,nP z26 0),(1,.slice pa1 K1.length ca1),(2,nI i2)]) (w':=w751) (by kernel_rfl) ?_
   intro a763 hF762; clear hF755
   refine wpList_nil ?_
   exact thenN ⟨false,hF762,hS753,hm761⟩
end Go.Proofs.YtaojmbkmicjecaaGreat
