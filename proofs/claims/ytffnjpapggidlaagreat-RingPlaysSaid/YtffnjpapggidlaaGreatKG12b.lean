/- G12b -/
import Derived.Test.YtffnjpapggidlaaGreatKGView
import Derived.Test.YtffnjpapggidlaaGreatKGRef11
import Derived.Deep.LoopGhost
import Derived.KernelRfl
namespace Go.Proofs.YtffnjpapggidlaaGreat
open Go.RowKit
set_option linter.unusedVariables false
def law12_alloc.j1 (x18:Int) (s20:HSt) (s38:HSt) (y47:Bool):Option (Int×HSt×HSt):=(if (y47) then some (-1,s20,s38) else some (x18,s20,s38))
def law12_alloc.m (k:Nat) (s0:HSt) (u0:HSt) (Lc0:List Int) (Lg0:List Int) (i1:Int) (i2:Int):Option (Int×HSt×HSt):=bind3 (pAlloc i1 i2 s0) fun x18 x19 s20=>bind3 (pAlloc i1 i2 u0) fun x36 x37 s38=>(if (x18 != x36) then law12_alloc.j1 x18 s20 s38 true else (if (x19 != 0) then law12_alloc.j1 x18 s20 s38 true else law12_alloc.j1 x18 s20 s38 (x37 != 0)))
set_option maxRecDepth 100000 in
set_option maxHeartbeats 1500000 in
theorem law12_alloc.ok {w0 w:World} {F0:List Nat} {ps:List Piece} {k:Nat} {bb0 b0 ab0 bw0 abw0 sb0 g0 cb0:Nat} {vc0 vg0:Value} {s0 u0:HSt} {Lc0 Lg0:List Int} {i1:Int} {i2:Int} {r0:Int} {t0:HSt} {t1:HSt} (hS:St w0 F0 (BlkP bb0 95 #[nP b0 0,nP bw0 0,vc0,vg0]::HeapP b0 ab0 s0::RHeapP bw0 abw0 sb0 g0 cb0 u0::RowP (vc0) Lc0::RowP (vg0) Lg0::ps) w) (hm:law12_alloc.m k s0 u0 Lc0 Lg0 i1 i2=some (r0,t0,t1)) :
    Calls Tryz.prog 136 #[nP bb0 0,nI i1,nI i2] w fun e w'=>e=.returned (.int .i64 r0)∧St w0 F0 (BlkP bb0 95 #[nP b0 0,nP bw0 0,vc0,vg0]::HeapP b0 ab0 t0::RHeapP bw0 abw0 sb0 g0 cb0 t1::RowP (vc0) Lc0::RowP (vg0) Lg0::ps) w':=by
 refine ev_enterL 43 [nP bb0 0,nI i1,nI i2] Tryz.func136 rfl rfl (by simp) ?_
 intro a hF
 have hF0:Fr 43 a [(0,nP bb0 0),(1,nI i1),(2,nI i2)]:=hF; clear hF
 unfold law12_alloc.m at hm
 obtain ⟨hl4,p1,c2,rfl,hp3⟩:=St.shape hS 3 rfl
 obtain ⟨hl8,p5,c6,rfl,hp7⟩:=St.shape hS 4 rfl
 refine wp_seq (wp_region_lit ?_)
 refine ev_runK 1 hF0 [0,1,2] (l':=[(0,nP bb0 0),(1,nI i1),(2,nI i2)]) (w':=w) (by kernel_rfl) ?_
 intro a10 hF9; clear hF0
 refine wpList_nil (thenN (wp_seq (wp_region_lit ?_)))
 refine ev_runs 3 hF9 (l':=[(14,nP bb0 0),(13,nP bb0 0),(12,nP bb0 0),(0,nP bb0 0),(1,nI i1),(2,nI i2)]) (w':=w) (by kernel_rfl) ?_
 intro a12 hF11; clear hF9
 refine ev_one (nP b0 0) w hF11 (by kernel_rfl) rfl (by kernel_rfl) (run_loadV rfl rfl (run_loadS rfl rfl (hS.cell 0 rfl 0 rfl))) (l':=[(15,nP b0 0),(14,nP bb0 0),(13,nP bb0 0),(12,nP bb0 0),(0,nP bb0 0),(1,nI i1),(2,nI i2)]) (by kernel_rfl) ?_
 intro a14 hF13; clear hF11
 refine ev_runs 2 hF13 (l':=[(17,nI i2),(16,nI i1),(15,nP b0 0),(14,nP bb0 0),(13,nP bb0 0),(12,nP bb0 0),(0,nP bb0 0),(1,nI i1),(2,nI i2)]) (w':=w) (by kernel_rfl) ?_
 intro a16 hF15; clear hF13
 have hS17:=hS.pick1
 refine ev_call 101 #[nP b0 0,nI i1,nI i2] hF15 rfl rfl (by kernel_rfl) rfl (by kernel_rfl) (fun w=>by kernel_rfl) ?_
 obtain ⟨x18,x19,s20,hx21,hm22⟩:=bind3E hm; clear hm
 refine (p_Alloc hS17 hx21).mono ?_
 rintro _ w23 ⟨rfl,hS25⟩ a24 hF26; clear hF15 hS17
 refine ev_runK 5 hF26 [0,1,2,7,8] (l':=[(8,nI x19),(7,nI x18),(0,nP bb0 0),(1,nI i1),(2,nI i2)]) (w':=w23) (by kernel_rfl) ?_
 intro a28 hF27; clear hF26
 refine wpList_nil (thenN (wp_seq (wp_region_lit ?_)))
 refine ev_runs 3 hF27 (l':=[(24,nP bb0 1),(23,nP bb0 0),(22,nP bb0 0),(8,nI x19),(7,nI x18),(0,nP bb0 0),(1,nI i1),(2,nI i2)]) (w':=w23) (by kernel_rfl) ?_
 intro a30 hF29; clear hF27
 refine ev_one (nP bw0 0) w23 hF29 (by kernel_rfl) rfl (by kernel_rfl) (run_loadV rfl rfl (run_loadS rfl rfl (hS25.cell 1 rfl 1 rfl))) (l':=[(25,nP bw0 0),(24,nP bb0 1),(23,nP bb0 0),(22,nP bb0 0),(8,nI x19),(7,nI x18),(0,nP bb0 0),(1,nI i1),(2,nI i2)]) (by kernel_rfl) ?_
 intro a32 hF31; clear hF29
 refine ev_runs 2 hF31 (l':=[(27,nI i2),(26,nI i1),(25,nP bw0 0),(24,nP bb0 1),(23,nP bb0 0),(22,nP bb0 0),(8,nI x19),(7,nI x18),(0,nP bb0 0),(1,nI i1),(2,nI i2)]) (w':=w23) (by kernel_rfl) ?_
 intro a34 hF33; clear hF31
 have hS35:=hS25.pick2
 clear hS25
 refine ev_call 102 #[nP bw0 0,nI i1,nI i2] hF33 rfl rfl (by kernel_rfl) rfl (by kernel_rfl) (fun w=>by kernel_rfl) ?_
 obtain ⟨x36,x37,s38,hx39,hm40⟩:=bind3E hm22; clear hm22
 refine (q_Alloc hS35 hx39).mono ?_
 rintro _ w41 ⟨rfl,hS43⟩ a42 hF44; clear hF33 hS35
 refine ev_runK 5 hF44 [7,8,9,10] (l':=[(10,nI x37),(9,nI x36),(8,nI x19),(7,nI x18)]) (w':=w41) (by kernel_rfl) ?_
 intro a46 hF45; clear hF44
 refine wpList_nil (thenN (wp_seq (wp_seq ?_)))
 refine joinQ (fun aI wI=>∃ (y47:Bool),Fr 43 aI [(41,.bool (y47)),(7,nI x18)]∧St w0 F0 (RHeapP bw0 abw0 sb0 g0 cb0 s38::HeapP b0 ab0 s20::BlkP bb0 95 #[nP b0 0,nP bw0 0,.slice p1 Lc0.length c2,.slice p5 Lg0.length c6]::RowP (.slice p1 Lc0.length c2) Lc0::RowP (.slice p5 Lg0.length c6) Lg0::ps) wI∧law12_alloc.j1 x18 s20 s38 y47=some (r0,t0,t1)) ?_ ?_
 rotate_left
 · rintro a49 w50 ⟨y47,hF51,hS52,hm53⟩
   clear hF45 hS43 hm40
   unfold law12_alloc.j1 at hm53
   refine thenN ?_
   cases hc55:(y47)
   case true =>
    rw [hc55] at hF51
    have hm56:=ifYes hc55 hm53; clear hm53
    refine ev_condT hF51 rfl rfl ?_
    refine wp_seq (wp_region_lit ?_)
    refine ev_runK 1 hF51 [6] (l':=[(6,nI (-1))]) (w':=w50) (by kernel_rfl) ?_
    intro a58 hF57; clear hF51
    refine wpList_nil (thenN ?_)
    refine wp_ret ?_
    refine thenR ?_
    have hS59:=hS52.pick4.pick4.pick2.pick3.pick4
    clear hS52
    simp only [Option.some.injEq,Prod.mk.injEq] at hm56
    obtain ⟨rfl,rfl,rfl⟩:=hm56
    refine ev_ret hF57 [6] (nI (-1)) rfl rfl rfl ?_
    exact ⟨rfl,hS59⟩
   rw [hc55] at hF51
   have hm63:=ifNot hc55 hm53; clear hm53
   refine ev_condF hF51 rfl rfl ?_
   refine wp_skip ?_
   have hF64:=hF51.keep [7]
   clear hF51
   refine thenN (wp_seq (wp_region_lit ?_))
   refine ev_runK 2 hF64 [6] (l':=[(6,nI x18)]) (w':=w50) (by kernel_rfl) ?_
   intro a66 hF65; clear hF64
   refine wpList_nil (thenN ?_)
   refine wp_ret ?_
   have hS67:=hS52.pick4.pick4.pick2.pick3.pick4
   clear hS52
   simp only [Option.some.injEq,Prod.mk.injEq] at hm63
   obtain ⟨rfl,rfl,rfl⟩:=hm63
   refine ev_ret hF65 [6] (nI x18) rfl rfl rfl ?_
   exact ⟨rfl,hS67⟩
 · skip
   refine wp_region_lit ?_
   refine ev_runs 4 hF45 (l':=[(34,.bool (x18 != x36)),(33,.bool (x18 != x36)),(32,nI x36),(31,nI x18),(10,nI x37),(9,nI x36),(8,nI x19),(7,nI x18)]) (w':=w41) (by kernel_rfl) ?_
   intro a72 hF71; clear hF45
   cases hc73:(x18 != x36)
   case true =>
    rw [hc73] at hF71
    have hm74:=ifYes hc73 hm40; clear hm40
    refine ev_runK 7 hF71 [7,41] (l':=[(41,.bool true),(7,nI x18)]) (w':=w41) (by kernel_rfl) ?_
    intro a76 hF75; clear hF71
    refine wpList_nil ?_
    exact thenN ⟨true,hF75,hS43,hm74⟩
   rw [hc73] at hF71
   have hm77:=ifNot hc73 hm40; clear hm40
   refine ev_runs 4 hF71 (l':=[(38,.bool (x19 != 0)),(37,.bool (x19 != 0)),(36,.bool (x19 != 0)),(35,nI x19),(34,.bool false),(33,.bool false),(32,nI x36),(31,nI x18),(10,nI x37),(9,nI x36),(8,nI x19),(7,nI x18)]) (w':=w41) (by kernel_rfl) ?_
   intro a79 hF78; clear hF71
   cases hc80:(x19 != 0)
   case true =>
    rw [hc80] at hF78
    have hm81:=ifYes hc80 hm77; clear hm77
    refine ev_runK 3 hF78 [7,41] (l':=[(41,.bool true),(7,nI x18)]) (w':=w41) (by kernel_rfl) ?_
    intro a83 hF82; clear hF78
    refine wpList_nil ?_
    exact thenN ⟨true,hF82,hS43,hm81⟩
   rw [hc80] at hF78
   have hm84:=ifNot hc80 hm77; clear hm77
   refine ev_runK 3 hF78 [7,41] (l':=[(41,.bool (x37 != 0)),(7,nI x18)]) (w':=w41) (by kernel_rfl) ?_
   intro a86 hF85; clear hF78
   refine wpList_nil ?_
   exact thenN ⟨x37 != 0,hF85,hS43,hm84⟩
def law12_made.j7 (L0:List Int) (k:Nat) (L56:List Int) (x60:Int) (rec63:List Int→HSt→HSt→Int→Option (HSt×HSt×List Int×List Int)) (x104:Int) (s121:HSt) (s122:HSt) (x123:Int):Option (HSt×HSt×List Int×List Int):=bind2 (pPutChan x104 (⟨IntKind.i64.wrap (Int.tmod (IntKind.u64.wrap (atI L0 x60)) 4),0,0,0,x123,-1,-1,-1,-1⟩:Ch) s121) fun x136 s137=>bind2 (ref11_PutChan.m k s122 x104 (⟨IntKind.i64.wrap (Int.tmod (IntKind.u64.wrap (atI L0 x60)) 4),0,0,0,x123,-1,-1,-1,-1⟩:Ch)) fun x145 s146=>(if (x136 != x145) then none else bind1 (pushM L56 x104) fun L170=>rec63 L170 s137 s146 (IntKind.i64.wrap (x60+1)))
def law12_made.l8b (i1:Int) (k:Nat) (L56:List Int) (rec226:List Int→HSt→HSt→Int→Option (HSt×HSt×List Int×List Int)) (L219:List Int) (s221:HSt) (s222:HSt) (x223:Int):Option (HSt×HSt×List Int×List Int):=(if (decide (x223<(IntKind.i64.wrap (1+(IntKind.i64.wrap (Int.tmod (IntKind.u64.wrap i1) 6)))))) then bind3 (law12_alloc.m k s221 s222 L56 L219 4 10) fun x243 s244 s245=>bind2 (pPutGor x243 (⟨x223,0,0,0,0,0,0,0,0,-1⟩:Gr) s244) fun x267 s268=>bind2 (ref11_PutGor.m k s245 x243 (⟨x223,0,0,0,0,0,0,0,0,-1⟩:Gr)) fun x276 s277=>(if (x267 != x276) then none else bind1 (pushM L219 x243) fun L301=>rec226 L301 s268 s277 (IntKind.i64.wrap (x223+1))) else some ((s221,s222,L56,L219)))
def law12_made.l8 (i1:Int) (k:Nat) (L56:List Int):Nat→List Int→HSt→HSt→Int→Option (HSt×HSt×List Int×List Int)
  | 0=>fun _ _ _ _=>none
  | kI+1=>law12_made.l8b i1 k L56 (law12_made.l8 i1 k L56 kI)
def law12_made.j6 (L0:List Int) (i1:Int) (k:Nat) (L56:List Int) (s58:HSt) (s59:HSt) (x60:Int) (rec63:List Int→HSt→HSt→Int→Option (HSt×HSt×List Int×List Int)) (y72:Bool):Option (HSt×HSt×List Int×List Int):=(if (y72) then (if (inR x60 L0.length) then bind3 (law12_alloc.m k s58 s59 L56 [] 1 9) fun x104 s105 s106=>(if (decide ((IntKind.i64.wrap (Int.tmod (IntKind.u64.wrap (atI L0 x60)) 4)) > 0)) then bind3 (law12_alloc.m k s105 s106 L56 [] 2 (IntKind.i64.wrap (Int.tmod (IntKind.u64.wrap (atI L0 x60)) 4))) fun x196 s197 s198=>law12_made.j7 L0 k L56 x60 rec63 x104 s197 s198 x196 else law12_made.j7 L0 k L56 x60 rec63 x104 s105 s106 (-1)) else none) else law12_made.l8 i1 k L56 k [] s58 s59 0)
def law12_made.l5b (L0:List Int) (i1:Int) (k:Nat) (rec63:List Int→HSt→HSt→Int→Option (HSt×HSt×List Int×List Int)) (L56:List Int) (s58:HSt) (s59:HSt) (x60:Int):Option (HSt×HSt×List Int×List Int):=(if (decide (x60<(L0.length:Int))) then law12_made.j6 L0 i1 k L56 s58 s59 x60 rec63 (decide (x60<4)) else law12_made.j6 L0 i1 k L56 s58 s59 x60 rec63 false)
def law12_made.l5 (L0:List Int) (i1:Int) (k:Nat):Nat→List Int→HSt→HSt→Int→Option (HSt×HSt×List Int×List Int)
  | 0=>fun _ _ _ _=>none
  | kI+1=>law12_made.l5b L0 i1 k (law12_made.l5 L0 i1 k kI)
def law12_made.m (k:Nat) (L0:List Int) (i1:Int):Option (HSt×HSt×List Int×List Int):=bind1 (pNew 60) fun s7=>bind1 (prNew 60) fun s19=>law12_made.l5 L0 i1 k k [] s7 s19 0
set_option maxRecDepth 100000 in
set_option maxHeartbeats 40000000 in
theorem law12_made.ok {w0 w:World} {F0:List Nat} {ps:List Piece} {k:Nat} {v0:Value} {L0:List Int} {i1:Int} {r0:HSt×HSt×List Int×List Int} (hS:St w0 F0 (RowP (v0) L0::ps) w) (hm:law12_made.m k L0 i1=some r0) :
    Calls Tryz.prog 53 #[v0,nI i1] w fun e w'=>∃ bb b ab b2 ab2 sb g cb vc vg,e=.returned (.pointer (some ⟨bb,0,none⟩))∧St w0 F0 (RowP (v0) L0::BlkP bb 95 #[.pointer (some ⟨b,0,none⟩),.pointer (some ⟨b2,0,none⟩),vc,vg]::HeapP b ab r0.1::RHeapP b2 ab2 sb g cb r0.2.1::RowP vc r0.2.2.1::RowP vg r0.2.2.2::ps) w':=by
 refine ev_enterL 119 [v0,nI i1] Tryz.func53 rfl rfl (by simp) ?_
 intro a hF
 have hF0:Fr 119 a [(0,v0),(1,nI i1)]:=hF; clear hF
 unfold law12_made.m at hm
 obtain ⟨hl4,p1,c2,rfl,hp3⟩:=St.shape hS 0 rfl
 refine wp_seq (wp_region_lit ?_)
 refine ev_runK 1 hF0 [0,1] (l':=[(0,.slice p1 L0.length c2),(1,nI i1)]) (w':=w) (by kernel_rfl) ?_
 intro a6 hF5; clear hF0
 refine wpList_nil (thenN (wp_seq (wp_region_lit ?_)))
 refine ev_call 31 #[nI 60] hF5 rfl rfl (by kernel_rfl) rfl (by kernel_rfl) (fun w=>by kernel_rfl) ?_
 obtain ⟨s7,hx8,hm9⟩:=bind1E hm; clear hm
 refine (p_New hS hx8).mono ?_
 rintro _ w10 ⟨z14,z15,rfl,hS12⟩ a11 hF13; clear hF5 hS
 refine ev_runK 5 hF13 [0,1,5,6] (l':=[(6,nI 0),(5,nP z14 0),(0,.slice p1 L0.length c2),(1,nI i1)]) (w':=w10) (by kernel_rfl) ?_
 intro a18 hF17; clear hF13
 refine wpList_nil (thenN (wp_seq (wp_region_lit ?_)))
 refine ev_call 32 #[nI 60] hF17 rfl rfl (by kernel_rfl) rfl (by kernel_rfl) (fun w=>by kernel_rfl) ?_
 obtain ⟨s19,hx20,hm21⟩:=bind1E hm9; clear hm9
 refine (q_New hS12 hx20).mono ?_
 rintro _ w22 ⟨z26,z27,z28,z29,z30,rfl,hS24⟩ a23 hF25; clear hF17 hS12
 refine ev_runK 5 hF25 [0,1,5,6,7] (l':=[(7,nP z26 0),(6,nI 0),(5,nP z14 0),(0,.slice p1 L0.length c2),(1,nI i1)]) (w':=w22) (by kernel_rfl) ?_
 intro a33 hF32; clear hF25
 refine wpList_nil (thenN (wp_seq (wp_seq (wp_region_lit ?_))))
 refine ev_runs 8 hF32 (l':=[(31,nP z14 0),(30,.bool false),(29,.bool false),(28,.bool false),(27,nP z14 0),(26,.bool false),(25,.bool false),(24,nI 0),(7,nP z26 0),(6,nI 0),(5,nP z14 0),(0,.slice p1 L0.length c2),(1,nI i1)]) (w':=w22) (by kernel_rfl) ?_
 intro a35 hF34; clear hF32
 have hS36:=hS24.pick1
 clear hS24
 refine ev_call 34 #[nP z14 0] hF34 rfl rfl (by kernel_rfl) rfl (by kernel_rfl) (fun w=>by kernel_rfl) ?_
 refine (p_Arena hS36).mono ?_
 rintro _ w37 ⟨rfl,hS39⟩ a38 hF40; clear hF34 hS36
 refine ev_runK 2 hF40 [0,1,5,7,34] (l':=[(34,.bool false),(7,nP z26 0),(5,nP z14 0),(0,.slice p1 L0.length c2),(1,nI i1)]) (w':=w37) (by kernel_rfl) ?_
 intro a42 hF41; clear hF40
 refine wpList_nil (thenN ?_)
 refine ev_condF hF41 rfl rfl ?_
 refine wp_skip ?_
 have hF43:=hF41.keep [0,1,5,7]
 clear hF41
 refine thenN (wp_seq (wp_region_lit ?_))
 refine ev_runs 4 hF43 (l':=[(38,nB w37),(37,.agg #[nP z14 0,nP z26 0,.slice none 0 0,.slice none 0 0]),(36,nP z26 0),(35,nP z14 0),(7,nP z26 0),(5,nP z14 0),(0,.slice p1 L0.length c2),(1,nI i1)]) (w':=w37.alloc (.cells #[nP z14 0,nP z26 0,.slice none 0 0,.slice none 0 0] 95)) (by kernel_rfl) ?_
 intro a45 hF44; clear hF43
 have hS47:St w0 F0 (BlkP (w37.heap.size) 95 #[nP z14 0,nP z26 0,.slice none 0 0,.slice none 0 0]::HeapP z14 z15 s7::RHeapP z26 z27 z28 z29 z30 s19::RowP (.slice p1 L0.length c2) L0::ps) (w37.alloc (.cells #[nP z14 0,nP z26 0,.slice none 0 0,.slice none 0 0] 95)):=St.new hS39 #[nP z14 0,nP z26 0,.slice none 0 0,.slice none 0 0] 95
 clear hS39
 have hS49:St w0 F0 (RowP (.slice none 0 0) []::BlkP (w37.heap.size) 95 #[nP z14 0,nP z26 0,.slice none 0 0,.slice none 0 0]::HeapP z14 z15 s7::RHeapP z26 z27 z28 z29 z30 s19::RowP (.slice p1 L0.length c2) L0::ps) (w37.alloc (.cells #[nP z14 0,nP z26 0,.slice none 0 0,.slice none 0 0] 95)):=St.nil hS47
 clear hS47
 have hS51:St w0 F0 (RowP (.slice none 0 0) []::RowP (.slice none 0 0) []::BlkP (w37.heap.size) 95 #[nP z14 0,nP z26 0,.slice none 0 0,.slice none 0 0]::HeapP z14 z15 s7::RHeapP z26 z27 z28 z29 z30 s19::RowP (.slice p1 L0.length c2) L0::ps) (w37.alloc (.cells #[nP z14 0,nP z26 0,.slice none 0 0,.slice none 0 0] 95)):=St.nil hS49
 clear hS49
 refine ev_runK 1 hF44 [0,1,5,7,9] (l':=[(9,nB w37),(7,nP z26 0),(5,nP z14 0),(0,.slice p1 L0.length c2),(1,nI i1)]) (w':=w37.alloc (.cells #[nP z14 0,nP z26 0,.slice none 0 0,.slice none 0 0] 95)) (by kernel_rfl) ?_
 intro a53 hF52; clear hF44
 refine wpList_nil (thenN (wp_seq (wp_seq (wp_region_lit ?_))))
 refine ev_runs 1 hF52 (l':=[(10,nI 0),(9,nB w37),(7,nP z26 0),(5,nP z14 0),(0,.slice p1 L0.length c2),(1,nI i1)]) (w':=w37.alloc (.cells #[nP z14 0,nP z26 0,.slice none 0 0,.slice none 0 0] 95)) (by kernel_rfl) ?_
 intro a55 hF54; clear hF52
 refine wpList_nil (thenN ?_)
 refine wp_block ?_
 refine wp_loop_ghost (fun kI aI wI=>∃ (v57:Value) (L56:List Int) (s58:HSt) (s59:HSt) (x60:Int),Fr 119 aI [(10,nI x60),(9,nB w37),(7,nP z26 0),(5,nP z14 0),(0,.slice p1 L0.length c2),(1,nI i1)]∧St w0 F0 (RowP (.slice none 0 0) []::RowP (v57) L56::BlkP (w37.heap.size) 95 #[nP z14 0,nP z26 0,v57,.slice none 0 0]::HeapP z14 z15 s58::RHeapP z26 z27 z28 z29 z30 s59::RowP (.slice p1 L0.length c2) L0::ps) wI∧law12_made.l5 L0 i1 k kI L56 s58 s59 x60=some r0) k ⟨.slice none 0 0,[],s7,s19,0,hF54,hS51,hm21⟩ ?_
 rintro k61 a62 w63 ⟨v57,L56,s58,s59,x60,hF64,hS65,hm66⟩
 clear hF54 hS51 hm21
 rcases k61 with _ | k61
 · cases hm66
 have hm67:law12_made.l5b L0 i1 k (law12_made.l5 L0 i1 k k61) L56 s58 s59 x60=some r0:=hm66
 clear hm66
 unfold law12_made.l5b at hm67
 obtain ⟨hl71,p68,c69,rfl,hp70⟩:=St.shape hS65 1 rfl
 refine wp_seq (wp_seq ?_)
 refine joinQ (fun aI wI=>∃ (y72:Bool),Fr 119 aI [(46,.bool (y72)),(10,nI x60),(9,nB w37),(7,nP z26 0),(5,nP z14 0),(0,.slice p1 L0.length c2),(1,nI i1)]∧St w0 F0 (RowP (.slice none 0 0) []::RowP (.slice p68 L56.length c69) L56::BlkP (w37.heap.size) 95 #[nP z14 0,nP z26 0,.slice p68 L56.length c69,.slice none 0 0]::HeapP z14 z15 s58::RHeapP z26 z27 z28 z29 z30 s59::RowP (.slice p1 L0.length c2) L0::ps) wI∧law12_made.j6 L0 i1 k L56 s58 s59 x60 (law12_made.l5 L0 i1 k k61) y72=some r0) ?_ ?_
 rotate_left
 · rintro a74 w75 ⟨y72,hF76,hS77,hm78⟩
   clear hF64 hS65 hm67
   unfold law12_made.j6 at hm78
   refine thenN ?_
   cases hc80:(y72)
   case true =>
    rw [hc80] at hF76
    have hm81:=ifYes hc80 hm78; clear hm78
    refine ev_condT hF76 rfl rfl ?_
    refine wp_skip ?_
    have hF82:=hF76.keep [0,1,5,7,9,10]
    clear hF76
    refine thenN (wp_seq ?_)
    refine wp_block ?_
    refine wp_seq (wp_region_lit ?_)
    refine ev_runs 2 hF82 (l':=[(50,nI x60),(49,.slice p1 L0.length c2),(10,nI x60),(9,nB w37),(7,nP z26 0),(5,nP z14 0),(0,.slice p1 L0.length c2),(1,nI i1)]) (w':=w75) (by kernel_rfl) ?_
    intro a84 hF83; clear hF82
    obtain ⟨hc85,hm86⟩:=ifTE hm81; clear hm81
    obtain ⟨g87,rfl⟩:=hp3.resolve_left (by have:=inR_spec hc85; omega)
    refine ev_one (nP g87 (x60.toNat)) w75 hF83 (by kernel_rfl) rfl (by kernel_rfl) (run_idx rfl rfl rfl rfl rfl (inR_spec hc85).1 (inR_spec hc85).2 _) (l':=[(51,nP g87 (x60.toNat)),(50,nI x60),(49,nS g87 L0 c2),(10,nI x60),(9,nB w37),(7,nP z26 0),(5,nP z14 0),(0,nS g87 L0 c2),(1,nI i1)]) (by kernel_rfl) ?_
    intro a89 hF88; clear hF83
    refine ev_one (nI (atI L0 x60)) w75 hF88 (by kernel_rfl) rfl (by kernel_rfl) (run_load1 rfl rfl rfl (hS77.atI 5 rfl hc85)) (l':=[(52,nI (atI L0 x60)),(51,nP g87 (x60.toNat)),(50,nI x60),(49,nS g87 L0 c2),(10,nI x60),(9,nB w37),(7,nP z26 0),(5,nP z14 0),(0,nS g87 L0 c2),(1,nI i1)]) (by kernel_rfl) ?_
    intro a91 hF90; clear hF88
    refine ev_runs 5 hF90 (l':=[(11,nB w75),(56,.agg #[nI (IntKind.i64.wrap (Int.tmod (IntKind.u64.wrap (atI L0 x60)) 4)),nI 0,nI 0,nI 0,nI (-1),nI (-1),nI (-1),nI (-1),nI (-1)]),(55,nI (IntKind.i64.wrap (Int.tmod (IntKind.u64.wrap (atI L0 x60)) 4))),(54,.int .u64 (Int.tmod (IntKind.u64.wrap (atI L0 x60)) 4)),(53,.int .u64 (IntKind.u64.wrap (atI L0 x60))),(52,nI (atI L0 x60)),(51,nP g87 (x60.toNat)),(50,nI x60),(49,nS g87 L0 c2),(10,nI x60),(9,nB w37),(7,nP z26 0),(5,nP z14 0),(0,nS g87 L0 c2),(1,nI i1)]) (w':=w75.alloc (.cells #[nI 0,nI 0,nI 0,nI 0,nI 0,nI 0,nI 0,nI 0,nI 0] 23)) (by kernel_rfl) ?_
    intro a93 hF92; clear hF90
    have hS95:St w0 F0 (BlkP (w75.heap.size) 23 #[nI 0,nI 0,nI 0,nI 0,nI 0,nI 0,nI 0,nI 0,nI 0]::RowP (.slice none 0 0) []::RowP (.slice p68 L56.length c69) L56::BlkP (w37.heap.size) 95 #[nP z14 0,nP z26 0,.slice p68 L56.length c69,.slice none 0 0]::HeapP z14 z15 s58::RHeapP z26 z27 z28 z29 z30 s59::RowP (nS g87 L0 c2) L0::ps) (w75.alloc (.cells #[nI 0,nI 0,nI 0,nI 0,nI 0,nI 0,nI 0,nI 0,nI 0] 23)):=St.new hS77 #[nI 0,nI 0,nI 0,nI 0,nI 0,nI 0,nI 0,nI 0,nI 0] 23
    clear hS77
    refine ev_store (.agg #[nI (IntKind.i64.wrap (Int.tmod (IntKind.u64.wrap (atI L0 x60)) 4)),nI 0,nI 0,nI 0,nI (-1),nI (-1),nI (-1),nI (-1),nI (-1)]) #[nI (IntKind.i64.wrap (Int.tmod (IntKind.u64.wrap (atI L0 x60)) 4)),nI 0,nI 0,nI 0,nI (-1),nI (-1),nI (-1),nI (-1),nI (-1)] hF92 (by kernel_rfl) rfl rfl rfl rfl (by kernel_rfl) hS95 (by kernel_rfl) (by kernel_rfl) (by kernel_rfl) (l':=[(11,nB w75),(56,.agg #[nI (IntKind.i64.wrap (Int.tmod (IntKind.u64.wrap (atI L0 x60)) 4)),nI 0,nI 0,nI 0,nI (-1),nI (-1),nI (-1),nI (-1),nI (-1)]),(55,nI (IntKind.i64.wrap (Int.tmod (IntKind.u64.wrap (atI L0 x60)) 4))),(54,.int .u64 (Int.tmod (IntKind.u64.wrap (atI L0 x60)) 4)),(53,.int .u64 (IntKind.u64.wrap (atI L0 x60))),(52,nI (atI L0 x60)),(51,nP g87 (x60.toNat)),(50,nI x60),(49,nS g87 L0 c2),(10,nI x60),(9,nB w37),(7,nP z26 0),(5,nP z14 0),(0,nS g87 L0 c2),(1,nI i1)]) (by kernel_rfl) ?_
    intro w96 a97 hS98 hF99; clear hF92 hS95
    refine wpList_nil ?_
    have hF100:=hF99.keep [0,1,5,7,9,10,11]
    clear hF99
    refine thenN (wp_seq (wp_region_lit ?_))
    refine ev_runs 1 hF100 (l':=[(57,nB w37),(11,nB w75),(10,nI x60),(9,nB w37),(7,nP z26 0),(5,nP z14 0),(0,nS g87 L0 c2),(1,nI i1)]) (w':=w96) (by kernel_rfl) ?_
    intro a102 hF101; clear hF100
    have hS103:=hS98.pick1.pick2.pick5.pick5.pick5
    clear hS98
    refine ev_call 136 #[nB w37,nI 1,nI 9] hF101 rfl rfl (by kernel_rfl) rfl (by kernel_rfl) (fun w=>by kernel_rfl) ?_
    obtain ⟨x104,s105,s106,hx107,hm108⟩:=bind3E hm86; clear hm86
    refine (law12_alloc.ok hS103 hx107).mono ?_
    rintro _ w109 ⟨rfl,hS111⟩ a110 hF112; clear hF101 hS103
    refine ev_runK 1 hF112 [0,1,5,7,9,10,11,12] (l':=[(12,nI x104),(11,nB w75),(10,nI x60),(9,nB w37),(7,nP z26 0),(5,nP z14 0),(0,nS g87 L0 c2),(1,nI i1)]) (w':=w109) (by kernel_rfl) ?_
    intro a114 hF113; clear hF112
    refine wpList_nil (thenN (wp_seq (wp_seq (wp_region_lit ?_))))
    refine ev_runs 1 hF113 (l':=[(59,nB w75),(12,nI x104),(11,nB w75),(10,nI x60),(9,nB w37),(7,nP z26 0),(5,nP z14 0),(0,nS g87 L0 c2),(1,nI i1)]) (w':=w109) (by kernel_rfl) ?_
    intro a116 hF115; clear hF113
    refine ev_one (nI (IntKind.i64.wrap (Int.tmod (IntKind.u64.wrap (atI L0 x60)) 4))) w109 hF115 (by kernel_rfl) rfl (by kernel_rfl) (run_loadV rfl rfl (run_loadS rfl rfl (hS111.cell 5 rfl 0 rfl))) (l':=[(60,nI (IntKind.i64.wrap (Int.tmod (IntKind.u64.wrap (atI L0 x60)) 4))),(59,nB w75),(12,nI x104),(11,nB w75),(10,nI x60),(9,nB w37),(7,nP z26 0),(5,nP z14 0),(0,nS g87 L0 c2),(1,nI i1)]) (by kernel_rfl) ?_
    intro a118 hF117; clear hF115
    refine ev_runK 1 hF117 [0,1,5,7,9,10,11,12,61] (l':=[(61,.bool (decide ((IntKind.i64.wrap (Int.tmod (IntKind.u64.wrap (atI L0 x60)) 4)) > 0))),(12,nI x104),(11,nB w75),(10,nI x60),(9,nB w37),(7,nP z26 0),(5,nP z14 0),(0,nS g87 L0 c2),(1,nI i1)]) (w':=w109) (by kernel_rfl) ?_
    intro a120 hF119; clear hF117
    refine wpList_nil (thenN ?_)
    refine joinQ (fun aI wI=>∃ (s121:HSt) (s122:HSt) (x123:Int),Fr 119 aI [(12,nI x104),(11,nB w75),(10,nI x60),(9,nB w37),(7,nP z26 0),(5,nP z14 0),(0,nS g87 L0 c2),(1,nI i1)]∧St w0 F0 (BlkP (w37.heap.size) 95 #[nP z14 0,nP z26 0,.slice p68 L56.length c69,.slice none 0 0]::HeapP z14 z15 s121::RHeapP z26 z27 z28 z29 z30 s122::RowP (.slice p68 L56.length c69) L56::RowP (.slice none 0 0) []::BlkP (w75.heap.size) 23 #[nI (IntKind.i64.wrap (Int.tmod (IntKind.u64.wrap (atI L0 x60)) 4)),nI 0,nI 0,nI 0,nI x123,nI (-1),nI (-1),nI (-1),nI (-1)]::RowP (nS g87 L0 c2) L0::ps) wI∧law12_made.j7 L0 k L56 x60 (law12_made.l5 L0 i1 k k61) x104 s121 s122 x123=some r0) ?_ ?_
    rotate_left
    · rintro a125 w126 ⟨s121,s122,x123,hF127,hS128,hm129⟩
      clear hF119 hS111 hm108
      unfold law12_made.j7 at hm129
      refine thenN (wp_seq (wp_seq ?_))
      have hS131:=hS128.pick5
      clear hS128
      have hS132:=hS131.drew; clear hS131
      refine any_start (fun wS=>∃ qs,St w0 F0 (BlkP (w75.heap.size) 23 #[nI (IntKind.i64.wrap (Int.tmod (IntKind.u64.wrap (atI L0 x60)) 4)),nI 0,nI 0,nI 0,nI x123,nI (-1),nI (-1),nI (-1),nI (-1)]::qs) wS) 9 #[false,false,false,false,false,false,false,false,false] (by kernel_rfl) (by kernel_rfl) (by kernel_rfl) ?_
      refine any_many 6 [(0,some (nP z14 0)),(1,some (nI x104)),(2,some (.agg #[nI (IntKind.i64.wrap (Int.tmod (IntKind.u64.wrap (atI L0 x60)) 4)),nI 0,nI 0,nI 0,nI x123,nI (-1),nI (-1),nI (-1),nI (-1)])),(4,some (nP z26 0)),(5,some (nI x104)),(6,some (.agg #[nI (IntKind.i64.wrap (Int.tmod (IntKind.u64.wrap (atI L0 x60)) 4)),nI 0,nI 0,nI 0,nI x123,nI (-1),nI (-1),nI (-1),nI (-1)]))] [0,1,5,7,9,10,12,67,68,69,70,71,72,73,74,75] #[true,true,true,false,true,true,true,false,false] (by rfl) hF127 (by kernel_rfl) (by kernel_rfl) (by exact ⟨fun wS hw=>by kernel_rfl,fun wS hw=>by kernel_rfl,fun wS hw=>hw.elim fun qs hw=>run_loadV rfl rfl (run_loadA (cs:=[nI (IntKind.i64.wrap (Int.tmod (IntKind.u64.wrap (atI L0 x60)) 4)),nI 0,nI 0,nI 0,nI x123,nI (-1),nI (-1),nI (-1),nI (-1)]) rfl rfl (by kernel_rfl) (blk_cells hw 0 rfl rfl)),fun wS hw=>by kernel_rfl,fun wS hw=>by kernel_rfl,fun wS hw=>hw.elim fun qs hw=>run_loadV rfl rfl (run_loadA (cs:=[nI (IntKind.i64.wrap (Int.tmod (IntKind.u64.wrap (atI L0 x60)) 4)),nI 0,nI 0,nI 0,nI x123,nI (-1),nI (-1),nI (-1),nI (-1)]) rfl rfl (by kernel_rfl) (blk_cells hw 0 rfl rfl)),trivial⟩) (fun _ _ _ _ _ h=>h) ⟨_,hS132⟩ (l':=[(73,.agg #[nI (IntKind.i64.wrap (Int.tmod (IntKind.u64.wrap (atI L0 x60)) 4)),nI 0,nI 0,nI 0,nI x123,nI (-1),nI (-1),nI (-1),nI (-1)]),(72,nI x104),(71,nP z26 0),(69,.agg #[nI (IntKind.i64.wrap (Int.tmod (IntKind.u64.wrap (atI L0 x60)) 4)),nI 0,nI 0,nI 0,nI x123,nI (-1),nI (-1),nI (-1),nI (-1)]),(68,nI x104),(67,nP z14 0),(12,nI x104),(10,nI x60),(9,nB w37),(7,nP z26 0),(5,nP z14 0),(0,nS g87 L0 c2),(1,nI i1)]) (by kernel_rfl) ?_
      intro a134 hF133; clear hF127
      have hS135:=hS132.pick2
      clear hS132
      refine any_call 3 #[true,true,true,true,true,true,true,false,false] 16 #[nP z14 0,nI x104,.agg #[nI (IntKind.i64.wrap (Int.tmod (IntKind.u64.wrap (atI L0 x60)) 4)),nI 0,nI 0,nI 0,nI x123,nI (-1),nI (-1),nI (-1),nI (-1)]] hF133 rfl (by kernel_rfl) rfl rfl (by kernel_rfl) rfl (by kernel_rfl) (fun w=>by kernel_rfl) (by kernel_rfl) ?_
      obtain ⟨x136,s137,hx138,hm139⟩:=bind2E hm129; clear hm129
      refine (p_PutChan hS135 hx138).mono ?_
      rintro _ w140 ⟨rfl,hS142⟩; clear hS135
      refine ⟨⟨_,hS142.pick1⟩,?_⟩
      intro a141 hF143; clear hF133
      have hS144:=hS142.pick3
      clear hS142
      refine any_call 7 #[true,true,true,true,true,true,true,true,false] 17 #[nP z26 0,nI x104,.agg #[nI (IntKind.i64.wrap (Int.tmod (IntKind.u64.wrap (atI L0 x60)) 4)),nI 0,nI 0,nI 0,nI x123,nI (-1),nI (-1),nI (-1),nI (-1)]] hF143 rfl (by kernel_rfl) rfl rfl (by kernel_rfl) rfl (by kernel_rfl) (fun w=>by kernel_rfl) (by kernel_rfl) ?_
      obtain ⟨x145,s146,hx147,hm148⟩:=bind2E hm139; clear hm139
      refine (ref11_PutChan.ok hS144 hx147).mono ?_
      rintro _ w149 ⟨rfl,hS151⟩; clear hS144
      refine ⟨⟨_,hS151.pick2⟩,?_⟩
      intro a150 hF152; clear hF143
      refine any_many 1 [(8,some (.bool (x136 != x145)))] [0,1,5,7,9,10,12,75] #[true,true,true,true,true,true,true,true,true] (by rfl) hF152 (by kernel_rfl) (by kernel_rfl) (by exact ⟨fun wS hw=>by kernel_rfl,trivial⟩) (fun _ _ _ _ _ h=>h) ⟨_,hS151.pick2⟩ (l':=[(75,.bool (x136 != x145)),(12,nI x104),(10,nI x60),(9,nB w37),(7,nP z26 0),(5,nP z14 0),(0,nS g87 L0 c2),(1,nI i1)]) (by kernel_rfl) ?_
      intro a154 hF153; clear hF152
      refine any_done (by kernel_rfl) ?_
      have hS155:=hS151.pick2.drop
      clear hS151
      refine thenN ?_
      cases hc156:(x136 != x145)
      case true =>
       rw [hc156] at hF153
       have hm157:=ifYes hc156 hm148; clear hm148
       refine ev_condT hF153 rfl rfl ?_
       refine wp_seq (wp_region_lit ?_)
       refine ev_runK 1 hF153 [4] (l':=[(4,.pointer none)]) (w':=w149) (by kernel_rfl) ?_
       intro a159 hF158; clear hF153
       refine wpList_nil ?_
       have hS160:=hS155.drop.drop.drop.drop.drop
       clear hS155
       refine thenN ?_
       refine wp_ret ?_
       refine thenR ?_
       refine blockR ?_
       refine thenR (thenR ?_)
       refine blockR ?_
       refine thenR ?_
       cases hm157
      rw [hc156] at hF153
      have hm161:=ifNot hc156 hm148; clear hm148
      refine ev_condF hF153 rfl rfl ?_
      refine wp_skip ?_
      have hF162:=hF153.keep [0,1,5,7,9,10,12]
      clear hF153
      refine thenN (wp_region_lit ?_)
      refine ev_runs 4 hF162 (l':=[(79,nP (w37.heap.size) 2),(78,nB w37),(77,nB w37),(76,nB w37),(12,nI x104),(10,nI x60),(9,nB w37),(7,nP z26 0),(5,nP z14 0),(0,nS g87 L0 c2),(1,nI i1)]) (w':=w149) (by kernel_rfl) ?_
      intro a164 hF163; clear hF162
      refine ev_one (.slice p68 L56.length c69) w149 hF163 (by kernel_rfl) rfl (by kernel_rfl) (run_loadV rfl rfl (run_loadS rfl rfl (hS155.cell 2 rfl 2 rfl))) (l':=[(80,.slice p68 L56.length c69),(79,nP (w37.heap.size) 2),(78,nB w37),(77,nB w37),(76,nB w37),(12,nI x104),(10,nI x60),(9,nB w37),(7,nP z26 0),(5,nP z14 0),(0,nS g87 L0 c2),(1,nI i1)]) (by kernel_rfl) ?_
      intro a166 hF165; clear hF163
      refine ev_runs 2 hF165 (l':=[(82,.slice (some ⟨w149.heap.size,0,none⟩) 1 1),(81,nI x104),(80,.slice p68 L56.length c69),(79,nP (w37.heap.size) 2),(78,nB w37),(77,nB w37),(76,nB w37),(12,nI x104),(10,nI x60),(9,nB w37),(7,nP z26 0),(5,nP z14 0),(0,nS g87 L0 c2),(1,nI i1)]) (w':=w149.alloc (.cells #[nI x104] 3)) (by kernel_rfl) ?_
      intro a168 hF167; clear hF165
      have hS169:=hS155.pick3
      clear hS155
      obtain ⟨L170,hx171,hm172⟩:=bind1E hm161; clear hm161
      refine ev_push 83 (.tmp 80) (.tmp 82) hF167 rfl rfl rfl rfl rfl rfl rfl rfl hS169 hx171 ?_
      intro g173 c174 w175 a176 hS177 hF178; clear hF167 hS169
      refine ev_runs 2 hF178 (l':=[(85,nP (w37.heap.size) 2),(84,nB w37),(83,nS g173 L170 c174),(82,.slice (some ⟨w149.heap.size,0,none⟩) 1 1),(81,nI x104),(80,.slice p68 L56.length c69),(79,nP (w37.heap.size) 2),(78,nB w37),(77,nB w37),(76,nB w37),(12,nI x104),(10,nI x60),(9,nB w37),(7,nP z26 0),(5,nP z14 0),(0,nS g87 L0 c2),(1,nI i1)]) (w':=w175) (by kernel_rfl) ?_
      intro a180 hF179; clear hF178
      have hS181:=hS177.pick3
      clear hS177
      refine ev_store (nS g173 L170 c174) #[nP z14 0,nP z26 0,nS g173 L170 c174,.slice none 0 0] hF179 (by kernel_rfl) rfl rfl rfl rfl (by kernel_rfl) hS181 (by kernel_rfl) (by kernel_rfl) (by kernel_rfl) (l':=[(85,nP (w37.heap.size) 2),(84,nB w37),(83,nS g173 L170 c174),(82,.slice (some ⟨w149.heap.size,0,none⟩) 1 1),(81,nI x104),(80,.slice p68 L56.length c69),(79,nP (w37.heap.size) 2),(78,nB w37),(77,nB w37),(76,nB w37),(12,nI x104),(10,nI x60),(9,nB w37),(7,nP z26 0),(5,nP z14 0),(0,nS g87 L0 c2),(1,nI i1)]) (by kernel_rfl) ?_
      intro w182 a183 hS184 hF185; clear hF179 hS181
      refine wpList_nil ?_
      have hF186:=hF185.keep [0,1,5,7,9,10]
      clear hF185
      refine blockN ?_
      refine thenN (wp_region_lit ?_)
      refine ev_runK 3 hF186 [0,1,5,7,9,10] (l':=[(10,nI (IntKind.i64.wrap (x60+1))),(9,nB w37),(7,nP z26 0),(5,nP z14 0),(0,nS g87 L0 c2),(1,nI i1)]) (w':=w182) (by kernel_rfl) ?_
      intro a188 hF187; clear hF186
      refine wpList_nil ?_
      have hS189:=hS184.pick5.pick3.pick4.pick3.pick4.pick5
      clear hS184
      exact thenN ⟨k61,Nat.lt_succ_self _,nS g173 L170 c174,L170,s137,s146,IntKind.i64.wrap (x60+1),hF187,hS189,hm172⟩
    · skip
      cases hc190:(decide ((IntKind.i64.wrap (Int.tmod (IntKind.u64.wrap (atI L0 x60)) 4)) > 0))
      case true =>
       rw [hc190] at hF119
       have hm191:=ifYes hc190 hm108; clear hm108
       refine ev_condT hF119 rfl rfl ?_
       refine wp_region_lit ?_
       refine ev_runs 2 hF119 (l':=[(63,nB w75),(62,nB w37),(61,.bool true),(12,nI x104),(11,nB w75),(10,nI x60),(9,nB w37),(7,nP z26 0),(5,nP z14 0),(0,nS g87 L0 c2),(1,nI i1)]) (w':=w109) (by kernel_rfl) ?_
       intro a193 hF192; clear hF119
       refine ev_one (nI (IntKind.i64.wrap (Int.tmod (IntKind.u64.wrap (atI L0 x60)) 4))) w109 hF192 (by kernel_rfl) rfl (by kernel_rfl) (run_loadV rfl rfl (run_loadS rfl rfl (hS111.cell 5 rfl 0 rfl))) (l':=[(64,nI (IntKind.i64.wrap (Int.tmod (IntKind.u64.wrap (atI L0 x60)) 4))),(63,nB w75),(62,nB w37),(61,.bool true),(12,nI x104),(11,nB w75),(10,nI x60),(9,nB w37),(7,nP z26 0),(5,nP z14 0),(0,nS g87 L0 c2),(1,nI i1)]) (by kernel_rfl) ?_
       intro a195 hF194; clear hF192
       refine ev_call 136 #[nB w37,nI 2,nI (IntKind.i64.wrap (Int.tmod (IntKind.u64.wrap (atI L0 x60)) 4))] hF194 rfl rfl (by kernel_rfl) rfl (by kernel_rfl) (fun w=>by kernel_rfl) ?_
       obtain ⟨x196,s197,s198,hx199,hm200⟩:=bind3E hm191; clear hm191
       refine (law12_alloc.ok hS111 hx199).mono ?_
       rintro _ w201 ⟨rfl,hS203⟩ a202 hF204; clear hF194 hS111
       refine ev_runs 1 hF204 (l':=[(66,nP (w75.heap.size) 4),(65,nI x196),(64,nI (IntKind.i64.wrap (Int.tmod (IntKind.u64.wrap (atI L0 x60)) 4))),(63,nB w75),(62,nB w37),(61,.bool true),(12,nI x104),(11,nB w75),(10,nI x60),(9,nB w37),(7,nP z26 0),(5,nP z14 0),(0,nS g87 L0 c2),(1,nI i1)]) (w':=w201) (by kernel_rfl) ?_
       intro a206 hF205; clear hF204
       have hS207:=hS203.pick5
       clear hS203
       refine ev_store (nI x196) #[nI (IntKind.i64.wrap (Int.tmod (IntKind.u64.wrap (atI L0 x60)) 4)),nI 0,nI 0,nI 0,nI x196,nI (-1),nI (-1),nI (-1),nI (-1)] hF205 (by kernel_rfl) rfl rfl rfl rfl (by kernel_rfl) hS207 (by kernel_rfl) (by kernel_rfl) (by kernel_rfl) (l':=[(66,nP (w75.heap.size) 4),(65,nI x196),(64,nI (IntKind.i64.wrap (Int.tmod (IntKind.u64.wrap (atI L0 x60)) 4))),(63,nB w75),(62,nB w37),(61,.bool true),(12,nI x104),(11,nB w75),(10,nI x60),(9,nB w37),(7,nP z26 0),(5,nP z14 0),(0,nS g87 L0 c2),(1,nI i1)]) (by kernel_rfl) ?_
       intro w208 a209 hS210 hF211; clear hF205 hS207
       refine wpList_nil ?_
       have hF212:=hF211.keep [0,1,5,7,9,10,11,12]
       clear hF211
       have hS213:=hS210.pick6.pick1.pick6.pick6.pick6.pick6.pick6
       clear hS210
       exact thenN ⟨s197,s198,x196,hF212,hS213,hm200⟩
      rw [hc190] at hF119
      have hm214:=ifNot hc190 hm108; clear hm108
      refine ev_condF hF119 rfl rfl ?_
      refine wp_skip ?_
      have hF215:=hF119.keep [0,1,5,7,9,10,11,12]
      clear hF119
      exact thenN ⟨s105,s106,-1,hF215,hS111,hm214⟩
   rw [hc80] at hF76
   have hm216:=ifNot hc80 hm78; clear hm78
   refine ev_condF hF76 rfl rfl ?_
   refine wp_exit ?_
   refine thenE ?_
   refine thenE ?_
   refine blockE ?_
   refine thenN (wp_seq (wp_seq (wp_region_lit ?_)))
   refine ev_runK 1 hF76 [1,5,7,9,13] (l':=[(13,nI 0),(9,nB w37),(7,nP z26 0),(5,nP z14 0),(1,nI i1)]) (w':=w75) (by kernel_rfl) ?_
   intro a218 hF217; clear hF76
   refine wpList_nil (thenN ?_)
   refine wp_block ?_
   refine wp_loop_ghost (fun kI aI wI=>∃ (v220:Value) (L219:List Int) (s221:HSt) (s222:HSt) (x223:Int),Fr 119 aI [(13,nI x223),(9,nB w37),(7,nP z26 0),(5,nP z14 0),(1,nI i1)]∧St w0 F0 (RowP (v220) L219::RowP (.slice p68 L56.length c69) L56::BlkP (w37.heap.size) 95 #[nP z14 0,nP z26 0,.slice p68 L56.length c69,v220]::HeapP z14 z15 s221::RHeapP z26 z27 z28 z29 z30 s222::RowP (.slice p1 L0.length c2) L0::ps) wI∧law12_made.l8 i1 k L56 kI L219 s221 s222 x223=some r0) k ⟨.slice none 0 0,[],s58,s59,0,hF217,hS77,hm216⟩ ?_
   rintro k224 a225 w226 ⟨v220,L219,s221,s222,x223,hF227,hS228,hm229⟩
   clear hF217 hS77 hm216
   rcases k224 with _ | k224
   · cases hm229
   have hm230:law12_made.l8b i1 k L56 (law12_made.l8 i1 k L56 k224) L219 s221 s222 x223=some r0:=hm229
   clear hm229
   unfold law12_made.l8b at hm230
   obtain ⟨hl234,p231,c232,rfl,hp233⟩:=St.shape hS228 0 rfl
   refine wp_seq (wp_seq (wp_region_lit ?_))
   refine ev_runK 7 hF227 [1,5,7,9,13,92] (l':=[(92,.bool (decide (x223<(IntKind.i64.wrap (1+(IntKind.i64.wrap (Int.tmod (IntKind.u64.wrap i1) 6))))))),(13,nI x223),(9,nB w37),(7,nP z26 0),(5,nP z14 0),(1,nI i1)]) (w':=w226) (by kernel_rfl) ?_
   intro a236 hF235; clear hF227
   refine wpList_nil (thenN ?_)
   cases hc237:(decide (x223<(IntKind.i64.wrap (1+(IntKind.i64.wrap (Int.tmod (IntKind.u64.wrap i1) 6))))))
   case true =>
    rw [hc237] at hF235
    have hm238:=ifYes hc237 hm230; clear hm230
    refine ev_condT hF235 rfl rfl ?_
    refine wp_skip ?_
    have hF239:=hF235.keep [1,5,7,9,13]
    clear hF235
    refine thenN (wp_seq ?_)
    refine wp_block ?_
    refine wp_seq (wp_region_lit ?_)
    refine ev_runs 1 hF239 (l':=[(95,nB w37),(13,nI x223),(9,nB w37),(7,nP z26 0),(5,nP z14 0),(1,nI i1)]) (w':=w226) (by kernel_rfl) ?_
    intro a241 hF240; clear hF239
    have hS242:=hS228.pick1.pick4.pick4.pick4
    clear hS228
    refine ev_call 136 #[nB w37,nI 4,nI 10] hF240 rfl rfl (by kernel_rfl) rfl (by kernel_rfl) (fun w=>by kernel_rfl) ?_
    obtain ⟨x243,s244,s245,hx246,hm247⟩:=bind3E hm238; clear hm238
    refine (law12_alloc.ok hS242 hx246).mono ?_
    rintro _ w248 ⟨rfl,hS250⟩ a249 hF251; clear hF240 hS242
    refine ev_runK 1 hF251 [1,5,7,9,13,14] (l':=[(14,nI x243),(13,nI x223),(9,nB w37),(7,nP z26 0),(5,nP z14 0),(1,nI i1)]) (w':=w248) (by kernel_rfl) ?_
    intro a253 hF252; clear hF251
    refine wpList_nil (thenN (wp_seq (wp_region_lit ?_)))
    refine ev_runs 3 hF252 (l':=[(15,nB w248),(98,.agg #[nI x223,nI 0,nI 0,nI 0,nI 0,nI 0,nI 0,nI 0,nI 0,nI (-1)]),(97,nI x223),(14,nI x243),(13,nI x223),(9,nB w37),(7,nP z26 0),(5,nP z14 0),(1,nI i1)]) (w':=w248.alloc (.cells #[nI 0,nI 0,nI 0,nI 0,nI 0,nI 0,nI 0,nI 0,nI 0,nI 0] 28)) (by kernel_rfl) ?_
    intro a255 hF254; clear hF252
    have hS257:St w0 F0 (BlkP (w248.heap.size) 28 #[nI 0,nI 0,nI 0,nI 0,nI 0,nI 0,nI 0,nI 0,nI 0,nI 0]::BlkP (w37.heap.size) 95 #[nP z14 0,nP z26 0,.slice p68 L56.length c69,.slice p231 L219.length c232]::HeapP z14 z15 s244::RHeapP z26 z27 z28 z29 z30 s245::RowP (.slice p68 L56.length c69) L56::RowP (.slice p231 L219.length c232) L219::RowP (.slice p1 L0.length c2) L0::ps) (w248.alloc (.cells #[nI 0,nI 0,nI 0,nI 0,nI 0,nI 0,nI 0,nI 0,nI 0,nI 0] 28)):=St.new hS250 #[nI 0,nI 0,nI 0,nI 0,nI 0,nI 0,nI 0,nI 0,nI 0,nI 0] 28
    clear hS250
    refine ev_store (.agg #[nI x223,nI 0,nI 0,nI 0,nI 0,nI 0,nI 0,nI 0,nI 0,nI (-1)]) #[nI x223,nI 0,nI 0,nI 0,nI 0,nI 0,nI 0,nI 0,nI 0,nI (-1)] hF254 (by kernel_rfl) rfl rfl rfl rfl (by kernel_rfl) hS257 (by kernel_rfl) (by kernel_rfl) (by kernel_rfl) (l':=[(15,nB w248),(98,.agg #[nI x223,nI 0,nI 0,nI 0,nI 0,nI 0,nI 0,nI 0,nI 0,nI (-1)]),(97,nI x223),(14,nI x243),(13,nI x223),(9,nB w37),(7,nP z26 0),(5,nP z14 0),(1,nI i1)]) (by kernel_rfl) ?_
    intro w258 a259 hS260 hF261; clear hF254 hS257
    refine wpList_nil ?_
    have hF262:=hF261.keep [1,5,7,9,13,14,15]
    clear hF261
    refine thenN (wp_seq (wp_seq ?_))
    have hS263:=hS260.drew; clear hS260
    refine any_start (fun wS=>∃ qs,St w0 F0 (BlkP (w248.heap.size) 28 #[nI x223,nI 0,nI 0,nI 0,nI 0,nI 0,nI 0,nI 0,nI 0,nI (-1)]::qs) wS) 9 #[false,false,false,false,false,false,false,false,false] (by kernel_rfl) (by kernel_rfl) (by kernel_rfl) ?_
    refine any_many 6 [(0,some (nP z14 0)),(1,some (nI x243)),(2,some (.agg #[nI x223,nI 0,nI 0,nI 0,nI 0,nI 0,nI 0,nI 0,nI 0,nI (-1)])),(4,some (nP z26 0)),(5,some (nI x243)),(6,some (.agg #[nI x223,nI 0,nI 0,nI 0,nI 0,nI 0,nI 0,nI 0,nI 0,nI (-1)]))] [1,5,7,9,13,14,99,100,101,102,103,104,105,106,107] #[true,true,true,false,true,true,true,false,false] (by rfl) hF262 (by kernel_rfl) (by kernel_rfl) (by exact ⟨fun wS hw=>by kernel_rfl,fun wS hw=>by kernel_rfl,fun wS hw=>hw.elim fun qs hw=>run_loadV rfl rfl (run_loadA (cs:=[nI x223,nI 0,nI 0,nI 0,nI 0,nI 0,nI 0,nI 0,nI 0,nI (-1)]) rfl rfl (by kernel_rfl) (blk_cells hw 0 rfl rfl)),fun wS hw=>by kernel_rfl,fun wS hw=>by kernel_rfl,fun wS hw=>hw.elim fun qs hw=>run_loadV rfl rfl (run_loadA (cs:=[nI x223,nI 0,nI 0,nI 0,nI 0,nI 0,nI 0,nI 0,nI 0,nI (-1)]) rfl rfl (by kernel_rfl) (blk_cells hw 0 rfl rfl)),trivial⟩) (fun _ _ _ _ _ h=>h) ⟨_,hS263⟩ (l':=[(105,.agg #[nI x223,nI 0,nI 0,nI 0,nI 0,nI 0,nI 0,nI 0,nI 0,nI (-1)]),(104,nI x243),(103,nP z26 0),(101,.agg #[nI x223,nI 0,nI 0,nI 0,nI 0,nI 0,nI 0,nI 0,nI 0,nI (-1)]),(100,nI x243),(99,nP z14 0),(14,nI x243),(13,nI x223),(9,nB w37),(7,nP z26 0),(5,nP z14 0),(1,nI i1)]) (by kernel_rfl) ?_
    intro a265 hF264; clear hF262
    have hS266:=hS263.pick2
    clear hS263
    refine any_call 3 #[true,true,true,true,true,true,true,false,false] 20 #[nP z14 0,nI x243,.agg #[nI x223,nI 0,nI 0,nI 0,nI 0,nI 0,nI 0,nI 0,nI 0,nI (-1)]] hF264 rfl (by kernel_rfl) rfl rfl (by kernel_rfl) rfl (by kernel_rfl) (fun w=>by kernel_rfl) (by kernel_rfl) ?_
    obtain ⟨x267,s268,hx269,hm270⟩:=bind2E hm247; clear hm247
    refine (p_PutGor hS266 hx269).mono ?_
    rintro _ w271 ⟨rfl,hS273⟩; clear hS266
    refine ⟨⟨_,hS273.pick1⟩,?_⟩
    intro a272 hF274; clear hF264
    have hS275:=hS273.pick3
    clear hS273
    refine any_call 7 #[true,true,true,true,true,true,true,true,false] 21 #[nP z26 0,nI x243,.agg #[nI x223,nI 0,nI 0,nI 0,nI 0,nI 0,nI 0,nI 0,nI 0,nI (-1)]] hF274 rfl (by kernel_rfl) rfl rfl (by kernel_rfl) rfl (by kernel_rfl) (fun w=>by kernel_rfl) (by kernel_rfl) ?_
    obtain ⟨x276,s277,hx278,hm279⟩:=bind2E hm270; clear hm270
    refine (ref11_PutGor.ok hS275 hx278).mono ?_
    rintro _ w280 ⟨rfl,hS282⟩; clear hS275
    refine ⟨⟨_,hS282.pick2⟩,?_⟩
    intro a281 hF283; clear hF274
    refine any_many 1 [(8,some (.bool (x267 != x276)))] [1,5,7,9,13,14,107] #[true,true,true,true,true,true,true,true,true] (by rfl) hF283 (by kernel_rfl) (by kernel_rfl) (by exact ⟨fun wS hw=>by kernel_rfl,trivial⟩) (fun _ _ _ _ _ h=>h) ⟨_,hS282.pick2⟩ (l':=[(107,.bool (x267 != x276)),(14,nI x243),(13,nI x223),(9,nB w37),(7,nP z26 0),(5,nP z14 0),(1,nI i1)]) (by kernel_rfl) ?_
    intro a285 hF284; clear hF283
    refine any_done (by kernel_rfl) ?_
    have hS286:=hS282.pick2.drop
    clear hS282
    refine thenN ?_
    cases hc287:(x267 != x276)
    case true =>
     rw [hc287] at hF284
     have hm288:=ifYes hc287 hm279; clear hm279
     refine ev_condT hF284 rfl rfl ?_
     refine wp_seq (wp_region_lit ?_)
     refine ev_runK 1 hF284 [4] (l':=[(4,.pointer none)]) (w':=w280) (by kernel_rfl) ?_
     intro a290 hF289; clear hF284
     refine wpList_nil ?_
     have hS291:=hS286.drop.drop.drop.drop.drop
     clear hS286
     refine thenN ?_
     refine wp_ret ?_
     refine thenR ?_
     refine blockR ?_
     refine thenR (thenR ?_)
     refine blockR ?_
     refine thenR ?_
     cases hm288
    rw [hc287] at hF284
    have hm292:=ifNot hc287 hm279; clear hm279
    refine ev_condF hF284 rfl rfl ?_
    refine wp_skip ?_
    have hF293:=hF284.keep [1,5,7,9,13,14]
    clear hF284
    refine thenN (wp_region_lit ?_)
    refine ev_runs 4 hF293 (l':=[(111,nP (w37.heap.size) 3),(110,nB w37),(109,nB w37),(108,nB w37),(14,nI x243),(13,nI x223),(9,nB w37),(7,nP z26 0),(5,nP z14 0),(1,nI i1)]) (w':=w280) (by kernel_rfl) ?_
    intro a295 hF294; clear hF293
    refine ev_one (.slice p231 L219.length c232) w280 hF294 (by kernel_rfl) rfl (by kernel_rfl) (run_loadV rfl rfl (run_loadS rfl rfl (hS286.cell 2 rfl 3 rfl))) (l':=[(112,.slice p231 L219.length c232),(111,nP (w37.heap.size) 3),(110,nB w37),(109,nB w37),(108,nB w37),(14,nI x243),(13,nI x223),(9,nB w37),(7,nP z26 0),(5,nP z14 0),(1,nI i1)]) (by kernel_rfl) ?_
    intro a297 hF296; clear hF294
    refine ev_runs 2 hF296 (l':=[(114,.slice (some ⟨w280.heap.size,0,none⟩) 1 1),(113,nI x243),(112,.slice p231 L219.length c232),(111,nP (w37.heap.size) 3),(110,nB w37),(109,nB w37),(108,nB w37),(14,nI x243),(13,nI x223),(9,nB w37),(7,nP z26 0),(5,nP z14 0),(1,nI i1)]) (w':=w280.alloc (.cells #[nI x243] 3)) (by kernel_rfl) ?_
    intro a299 hF298; clear hF296
    have hS300:=hS286.pick4
    clear hS286
    obtain ⟨L301,hx302,hm303⟩:=bind1E hm292; clear hm292
    refine ev_push 115 (.tmp 112) (.tmp 114) hF298 rfl rfl rfl rfl rfl rfl rfl rfl hS300 hx302 ?_
    intro g304 c305 w306 a307 hS308 hF309; clear hF298 hS300
    refine ev_runs 2 hF309 (l':=[(117,nP (w37.heap.size) 3),(116,nB w37),(115,nS g304 L301 c305),(114,.slice (some ⟨w280.heap.size,0,none⟩) 1 1),(113,nI x243),(112,.slice p231 L219.length c232),(111,nP (w37.heap.size) 3),(110,nB w37),(109,nB w37),(108,nB w37),(14,nI x243),(13,nI x223),(9,nB w37),(7,nP z26 0),(5,nP z14 0),(1,nI i1)]) (w':=w306) (by kernel_rfl) ?_
    intro a311 hF310; clear hF309
    have hS312:=hS308.pick3
    clear hS308
    refine ev_store (nS g304 L301 c305) #[nP z14 0,nP z26 0,.slice p68 L56.length c69,nS g304 L301 c305] hF310 (by kernel_rfl) rfl rfl rfl rfl (by kernel_rfl) hS312 (by kernel_rfl) (by kernel_rfl) (by kernel_rfl) (l':=[(117,nP (w37.heap.size) 3),(116,nB w37),(115,nS g304 L301 c305),(114,.slice (some ⟨w280.heap.size,0,none⟩) 1 1),(113,nI x243),(112,.slice p231 L219.length c232),(111,nP (w37.heap.size) 3),(110,nB w37),(109,nB w37),(108,nB w37),(14,nI x243),(13,nI x223),(9,nB w37),(7,nP z26 0),(5,nP z14 0),(1,nI i1)]) (by kernel_rfl) ?_
    intro w313 a314 hS315 hF316; clear hF310 hS312
    refine wpList_nil ?_
    have hF317:=hF316.keep [1,5,7,9,13]
    clear hF316
    refine blockN ?_
    refine thenN (wp_region_lit ?_)
    refine ev_runK 3 hF317 [1,5,7,9,13] (l':=[(13,nI (IntKind.i64.wrap (x223+1))),(9,nB w37),(7,nP z26 0),(5,nP z14 0),(1,nI i1)]) (w':=w313) (by kernel_rfl) ?_
    intro a319 hF318; clear hF317
    refine wpList_nil ?_
    have hS320:=hS315.pick5.pick3.pick4.pick3.pick5.pick5
    clear hS315
    exact thenN ⟨k224,Nat.lt_succ_self _,nS g304 L301 c305,L301,s268,s277,IntKind.i64.wrap (x223+1),hF318,hS320,hm303⟩
   rw [hc237] at hF235
   have hm321:=ifNot hc237 hm230; clear hm230
   refine ev_condF hF235 rfl rfl ?_
   refine wp_exit ?_
   refine thenE ?_
   refine thenE ?_
   refine blockE ?_
   refine thenN (wp_seq (wp_region_lit ?_))
   refine ev_runK 2 hF235 [4] (l':=[(4,nB w37)]) (w':=w226) (by kernel_rfl) ?_
   intro a323 hF322; clear hF235
   refine wpList_nil (thenN ?_)
   refine wp_ret ?_
   have hS324:=hS228.pick1.pick4.pick4.pick4.pick5
   clear hS228
   obtain rfl:=Option.some.inj hm321
   refine ev_ret hF322 [4] (nB w37) rfl rfl rfl ?_
   exact ⟨_,_,_,_,_,_,_,_,_,_,rfl,hS324⟩
 · skip
   refine wp_region_lit ?_
   refine ev_runs 5 hF64 (l':=[(43,.bool (decide (x60<(L0.length:Int)))),(42,.bool (decide (x60<(L0.length:Int)))),(41,nI ((L0.length:Int))),(40,.slice p1 L0.length c2),(39,nI x60),(10,nI x60),(9,nB w37),(7,nP z26 0),(5,nP z14 0),(0,.slice p1 L0.length c2),(1,nI i1)]) (w':=w63) (by kernel_rfl) ?_
   intro a327 hF326; clear hF64
   cases hc328:(decide (x60<(L0.length:Int)))
   case true =>
    rw [hc328] at hF326
    have hm329:=ifYes hc328 hm67; clear hm67
    refine ev_runK 3 hF326 [0,1,5,7,9,10,46] (l':=[(46,.bool (decide (x60<4))),(10,nI x60),(9,nB w37),(7,nP z26 0),(5,nP z14 0),(0,.slice p1 L0.length c2),(1,nI i1)]) (w':=w63) (by kernel_rfl) ?_
    intro a331 hF330; clear hF326
    refine wpList_nil ?_
    exact thenN ⟨decide (x60<4),hF330,hS65,hm329⟩
   rw [hc328] at hF326
   have hm332:=ifNot hc328 hm67; clear hm67
   refine ev_runK 3 hF326 [0,1,5,7,9,10,46] (l':=[(46,.bool false),(10,nI x60),(9,nB w37),(7,nP z26 0),(5,nP z14 0),(0,.slice p1 L0.length c2),(1,nI i1)]) (w':=w63) (by kernel_rfl) ?_
   intro a334 hF333; clear hF326
   refine wpList_nil ?_
   exact thenN ⟨false,hF333,hS65,hm332⟩
def law12_ch.m (k:Nat) (s0:HSt) (u0:HSt) (Lc0:List Int) (Lg0:List Int) (i1:Int):Option (Int×HSt×HSt):=(if ((Lc0.length:Int) == 0) then some (-1,s0,u0) else (if ((IntKind.u64.wrap (Lc0.length:Int)) == 0) then none else (if (inR (IntKind.i64.wrap (Int.tmod (IntKind.u64.wrap i1) (IntKind.u64.wrap (Lc0.length:Int)))) Lc0.length) then some (atI Lc0 (IntKind.i64.wrap (Int.tmod (IntKind.u64.wrap i1) (IntKind.u64.wrap (Lc0.length:Int)))),s0,u0) else none)))
set_option maxRecDepth 100000 in
set_option maxHeartbeats 1500000 in
theorem law12_ch.ok {w0 w:World} {F0:List Nat} {ps:List Piece} {k:Nat} {bb0 b0 ab0 bw0 abw0 sb0 g0 cb0:Nat} {vc0 vg0:Value} {s0 u0:HSt} {Lc0 Lg0:List Int} {i1:Int} {r0:Int} {t0:HSt} {t1:HSt} (hS:St w0 F0 (BlkP bb0 95 #[nP b0 0,nP bw0 0,vc0,vg0]::HeapP b0 ab0 s0::RHeapP bw0 abw0 sb0 g0 cb0 u0::RowP (vc0) Lc0::RowP (vg0) Lg0::ps) w) (hm:law12_ch.m k s0 u0 Lc0 Lg0 i1=some (r0,t0,t1)) :
    Calls Tryz.prog 55 #[nP bb0 0,nI i1] w fun e w'=>e=.returned (.int .i64 r0)∧St w0 F0 (BlkP bb0 95 #[nP b0 0,nP bw0 0,vc0,vg0]::HeapP b0 ab0 t0::RHeapP bw0 abw0 sb0 g0 cb0 t1::RowP (vc0) Lc0::RowP (vg0) Lg0::ps) w':=by
 refine ev_enterL 27 [nP bb0 0,nI i1] Tryz.func55 rfl rfl (by simp) ?_
 intro a hF
 have hF0:Fr 27 a [(0,nP bb0 0),(1,nI i1)]:=hF; clear hF
 unfold law12_ch.m at hm
 obtain ⟨hl4,p1,c2,rfl,hp3⟩:=St.shape hS 3 rfl
 obtain ⟨hl8,p5,c6,rfl,hp7⟩:=St.shape hS 4 rfl
 refine wp_seq (wp_region_lit ?_)
 refine ev_runK 1 hF0 [0,1] (l':=[(0,nP bb0 0),(1,nI i1)]) (w':=w) (by kernel_rfl) ?_
 intro a10 hF9; clear hF0
 refine wpList_nil (thenN (wp_seq (wp_seq (wp_region_lit ?_))))
 refine ev_runs 3 hF9 (l':=[(7,nP bb0 2),(6,nP bb0 0),(5,nP bb0 0),(0,nP bb0 0),(1,nI i1)]) (w':=w) (by kernel_rfl) ?_
 intro a12 hF11; clear hF9
 refine ev_one (.slice p1 Lc0.length c2) w hF11 (by kernel_rfl) rfl (by kernel_rfl) (run_loadV rfl rfl (run_loadS rfl rfl (hS.cell 0 rfl 2 rfl))) (l':=[(8,.slice p1 Lc0.length c2),(7,nP bb0 2),(6,nP bb0 0),(5,nP bb0 0),(0,nP bb0 0),(1,nI i1)]) (by kernel_rfl) ?_
 intro a14 hF13; clear hF11
 refine ev_runK 2 hF13 [0,1,10] (l':=[(10,.bool ((Lc0.length:Int) == 0)),(0,nP bb0 0),(1,nI i1)]) (w':=w) (by kernel_rfl) ?_
 intro a16 hF15; clear hF13
 refine wpList_nil (thenN ?_)
 cases hc17:((Lc0.length:Int) == 0)
 case true =>
  rw [hc17] at hF15
  have hm18:=ifYes hc17 hm; clear hm
  refine ev_condT hF15 rfl rfl ?_
  refine wp_seq (wp_region_lit ?_)
  refine ev_runK 1 hF15 [4] (l':=[(4,nI (-1))]) (w':=w) (by kernel_rfl) ?_
  intro a20 hF19; clear hF15
  refine wpList_nil (thenN ?_)
  refine wp_ret ?_
  refine thenR ?_
  simp only [Option.some.injEq,Prod.mk.injEq] at hm18
  obtain ⟨rfl,rfl,rfl⟩:=hm18
  refine ev_ret hF19 [4] (nI (-1)) rfl rfl rfl ?_
  exact ⟨rfl,hS⟩
 rw [hc17] at hF15
 have hm24:=ifNot hc17 hm; clear hm
 refine ev_condF hF15 rfl rfl ?_
 refine wp_skip ?_
 have hF25:=hF15.keep [0,1]
 clear hF15
 refine thenN (wp_seq ?_)
 obtain ⟨hc26,hm27⟩:=ifFE hm24; clear hm24
 obtain ⟨hc28,hm29⟩:=ifTE hm27; clear hm27
 obtain ⟨g30,rfl⟩:=hp3.resolve_left (by have:=inR_spec hc28; omega)
 have hS31:=hS.pick3.pick1
 have hS32:=hS31.drew; clear hS31
 refine any_start (fun wS=>∃ qs,St w0 F0 (BlkP bb0 95 #[nP b0 0,nP bw0 0,nS g30 Lc0 c2,.slice p5 Lg0.length c6]::RowP (nS g30 Lc0 c2) Lc0::qs) wS) 17 #[false,false,false,false,false,false,false,false,false,false,false,false,false,false,false,false,false] (by kernel_rfl) (by kernel_rfl) (by kernel_rfl) ?_
 refine any_many 17 [(0,some (nP bb0 0)),(1,some (nP bb0 0)),(2,some (nP bb0 2)),(3,some (nS g30 Lc0 c2)),(4,some (nI i1)),(5,some (.int .u64 (IntKind.u64.wrap i1))),(6,some (nP bb0 0)),(7,some (nP bb0 0)),(8,some (nP bb0 2)),(9,some (nS g30 Lc0 c2)),(10,some (nI ((Lc0.length:Int)))),(11,some (.int .u64 (IntKind.u64.wrap (Lc0.length:Int)))),(12,some (.int .u64 (Int.tmod (IntKind.u64.wrap i1) (IntKind.u64.wrap (Lc0.length:Int))))),(13,some (nI (IntKind.i64.wrap (Int.tmod (IntKind.u64.wrap i1) (IntKind.u64.wrap (Lc0.length:Int)))))),(14,some (nP g30 ((IntKind.i64.wrap (Int.tmod (IntKind.u64.wrap i1) (IntKind.u64.wrap (Lc0.length:Int)))).toNat))),(15,some (nI (atI Lc0 (IntKind.i64.wrap (Int.tmod (IntKind.u64.wrap i1) (IntKind.u64.wrap (Lc0.length:Int))))))),(16,some (nI (atI Lc0 (IntKind.i64.wrap (Int.tmod (IntKind.u64.wrap i1) (IntKind.u64.wrap (Lc0.length:Int)))))))] [4] #[true,true,true,true,true,true,true,true,true,true,true,true,true,true,true,true,true] (by rfl) hF25 (by kernel_rfl) (by kernel_rfl) (by exact ⟨fun wS hw=>by kernel_rfl,fun wS hw=>by kernel_rfl,fun wS hw=>by kernel_rfl,fun wS hw=>hw.elim fun qs hw=>run_loadV rfl rfl (run_loadS rfl rfl (hw.cell 0 rfl 2 rfl)),fun wS hw=>by kernel_rfl,fun wS hw=>by kernel_rfl,fun wS hw=>by kernel_rfl,fun wS hw=>by kernel_rfl,fun wS hw=>by kernel_rfl,fun wS hw=>hw.elim fun qs hw=>run_loadV rfl rfl (run_loadS rfl rfl (hw.cell 0 rfl 2 rfl)),fun wS hw=>by kernel_rfl,fun wS hw=>by kernel_rfl,fun wS hw=>run_rem rfl rfl rfl hc26 _,fun wS hw=>by kernel_rfl,fun wS hw=>run_idx rfl rfl rfl rfl rfl (inR_spec hc28).1 (inR_spec hc28).2 _,fun wS hw=>run_load1 rfl rfl rfl (hw.elim fun qs hw=>hw.atI 1 rfl hc28),fun wS hw=>by kernel_rfl,trivial⟩) (fun _ _ _ _ _ h=>h) ⟨_,hS32⟩ (l':=[(4,nI (atI Lc0 (IntKind.i64.wrap (Int.tmod (IntKind.u64.wrap i1) (IntKind.u64.wrap (Lc0.length:Int))))))]) (by kernel_rfl) ?_
 intro a34 hF33; clear hF25
 refine any_done (by kernel_rfl) ?_
 refine thenN ?_
 refine wp_ret ?_
 have hS35:=hS32.pick4.pick2.pick4.pick4.pick4
 clear hS32
 simp only [Option.some.injEq,Prod.mk.injEq] at hm29
 obtain ⟨rfl,rfl,rfl⟩:=hm29
 refine ev_ret hF33 [4] (nI (atI Lc0 (IntKind.i64.wrap (Int.tmod (IntKind.u64.wrap i1) (IntKind.u64.wrap (Lc0.length:Int)))))) rfl rfl rfl ?_
 exact ⟨rfl,hS35⟩
def law12_gor.m (k:Nat) (s0:HSt) (u0:HSt) (Lc0:List Int) (Lg0:List Int) (i1:Int):Option (Int×HSt×HSt):=(if ((IntKind.u64.wrap (Lg0.length:Int)) == 0) then none else (if (inR (IntKind.i64.wrap (Int.tmod (IntKind.u64.wrap i1) (IntKind.u64.wrap (Lg0.length:Int)))) Lg0.length) then some (atI Lg0 (IntKind.i64.wrap (Int.tmod (IntKind.u64.wrap i1) (IntKind.u64.wrap (Lg0.length:Int)))),s0,u0) else none))
set_option maxRecDepth 100000 in
set_option maxHeartbeats 1500000 in
theorem law12_gor.ok {w0 w:World} {F0:List Nat} {ps:List Piece} {k:Nat} {bb0 b0 ab0 bw0 abw0 sb0 g0 cb0:Nat} {vc0 vg0:Value} {s0 u0:HSt} {Lc0 Lg0:List Int} {i1:Int} {r0:Int} {t0:HSt} {t1:HSt} (hS:St w0 F0 (BlkP bb0 95 #[nP b0 0,nP bw0 0,vc0,vg0]::HeapP b0 ab0 s0::RHeapP bw0 abw0 sb0 g0 cb0 u0::RowP (vc0) Lc0::RowP (vg0) Lg0::ps) w) (hm:law12_gor.m k s0 u0 Lc0 Lg0 i1=some (r0,t0,t1)) :
    Calls Tryz.prog 60 #[nP bb0 0,nI i1] w fun e w'=>e=.returned (.int .i64 r0)∧St w0 F0 (BlkP bb0 95 #[nP b0 0,nP bw0 0,vc0,vg0]::HeapP b0 ab0 t0::RHeapP bw0 abw0 sb0 g0 cb0 t1::RowP (vc0) Lc0::RowP (vg0) Lg0::ps) w':=by
 refine ev_enterL 21 [nP bb0 0,nI i1] Tryz.func60 rfl rfl (by simp) ?_
 intro a hF
 have hF0:Fr 21 a [(0,nP bb0 0),(1,nI i1)]:=hF; clear hF
 unfold law12_gor.m at hm
 obtain ⟨hl4,p1,c2,rfl,hp3⟩:=St.shape hS 3 rfl
 obtain ⟨hl8,p5,c6,rfl,hp7⟩:=St.shape hS 4 rfl
 refine wp_seq (wp_region_lit ?_)
 refine ev_runK 1 hF0 [0,1] (l':=[(0,nP bb0 0),(1,nI i1)]) (w':=w) (by kernel_rfl) ?_
 intro a10 hF9; clear hF0
 refine wpList_nil (thenN (wp_seq ?_))
 obtain ⟨hc11,hm12⟩:=ifFE hm; clear hm
 obtain ⟨hc13,hm14⟩:=ifTE hm12; clear hm12
 obtain ⟨g15,rfl⟩:=hp7.resolve_left (by have:=inR_spec hc13; omega)
 have hS16:=hS.pick4.pick1
 have hS17:=hS16.drew; clear hS16
 refine any_start (fun wS=>∃ qs,St w0 F0 (BlkP bb0 95 #[nP b0 0,nP bw0 0,.slice p1 Lc0.length c2,nS g15 Lg0 c6]::RowP (nS g15 Lg0 c6) Lg0::qs) wS) 17 #[false,false,false,false,false,false,false,false,false,false,false,false,false,false,false,false,false] (by kernel_rfl) (by kernel_rfl) (by kernel_rfl) ?_
 refine any_many 17 [(0,some (nP bb0 0)),(1,some (nP bb0 0)),(2,some (nP bb0 3)),(3,some (nS g15 Lg0 c6)),(4,some (nI i1)),(5,some (.int .u64 (IntKind.u64.wrap i1))),(6,some (nP bb0 0)),(7,some (nP bb0 0)),(8,some (nP bb0 3)),(9,some (nS g15 Lg0 c6)),(10,some (nI ((Lg0.length:Int)))),(11,some (.int .u64 (IntKind.u64.wrap (Lg0.length:Int)))),(12,some (.int .u64 (Int.tmod (IntKind.u64.wrap i1) (IntKind.u64.wrap (Lg0.length:Int))))),(13,some (nI (IntKind.i64.wrap (Int.tmod (IntKind.u64.wrap i1) (IntKind.u64.wrap (Lg0.length:Int)))))),(14,some (nP g15 ((IntKind.i64.wrap (Int.tmod (IntKind.u64.wrap i1) (IntKind.u64.wrap (Lg0.length:Int)))).toNat))),(15,some (nI (atI Lg0 (IntKind.i64.wrap (Int.tmod (IntKind.u64.wrap i1) (IntKind.u64.wrap (Lg0.length:Int))))))),(16,some (nI (atI Lg0 (IntKind.i64.wrap (Int.tmod (IntKind.u64.wrap i1) (IntKind.u64.wrap (Lg0.length:Int)))))))] [4] #[true,true,true,true,true,true,true,true,true,true,true,true,true,true,true,true,true] (by rfl) hF9 (by kernel_rfl) (by kernel_rfl) (by exact ⟨fun wS hw=>by kernel_rfl,fun wS hw=>by kernel_rfl,fun wS hw=>by kernel_rfl,fun wS hw=>hw.elim fun qs hw=>run_loadV rfl rfl (run_loadS rfl rfl (hw.cell 0 rfl 3 rfl)),fun wS hw=>by kernel_rfl,fun wS hw=>by kernel_rfl,fun wS hw=>by kernel_rfl,fun wS hw=>by kernel_rfl,fun wS hw=>by kernel_rfl,fun wS hw=>hw.elim fun qs hw=>run_loadV rfl rfl (run_loadS rfl rfl (hw.cell 0 rfl 3 rfl)),fun wS hw=>by kernel_rfl,fun wS hw=>by kernel_rfl,fun wS hw=>run_rem rfl rfl rfl hc11 _,fun wS hw=>by kernel_rfl,fun wS hw=>run_idx rfl rfl rfl rfl rfl (inR_spec hc13).1 (inR_spec hc13).2 _,fun wS hw=>run_load1 rfl rfl rfl (hw.elim fun qs hw=>hw.atI 1 rfl hc13),fun wS hw=>by kernel_rfl,trivial⟩) (fun _ _ _ _ _ h=>h) ⟨_,hS17⟩ (l':=[(4,nI (atI Lg0 (IntKind.i64.wrap (Int.tmod (IntKind.u64.wrap i1) (IntKind.u64.wrap (Lg0.length:Int))))))]) (by kernel_rfl) ?_
 intro a19 hF18; clear hF9
 refine any_done (by kernel_rfl) ?_
 refine thenN ?_
 refine wp_ret ?_
 have hS20:=hS17.pick1.pick4.pick4.pick4.pick4
 clear hS17
 simp only [Option.some.injEq,Prod.mk.injEq] at hm14
 obtain ⟨rfl,rfl,rfl⟩:=hm14
 refine ev_ret hF18 [4] (nI (atI Lg0 (IntKind.i64.wrap (Int.tmod (IntKind.u64.wrap i1) (IntKind.u64.wrap (Lg0.length:Int)))))) rfl rfl rfl ?_
 exact ⟨rfl,hS20⟩
end Go.Proofs.YtffnjpapggidlaaGreat
