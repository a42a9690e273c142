/- G13b -/
import Derived.Test.YtaihdiccmaincaaGreatKGView
import Derived.Test.YtaihdiccmaincaaGreatKGRef11
import Derived.Deep.LoopGhost
import Derived.KernelRfl
/- The walks of G13b, printed by gen/walk.py. -/
namespace Go.Proofs.YtaihdiccmaincaaGreat
open Go.RowKit
set_option linter.unusedVariables false

def law13_alloc.m (k : Nat) (s0 : HSt) (u0 : HSt) (Lc0 : List Int) (Lg0 : List Int) (i1 : Int) (i2 : Int) : Option (Int × HSt × HSt) := bind3 (pAlloc i1 i2 s0) fun x18 x19 s20 => bind3 (pAlloc i1 i2 u0) fun x36 x37 s38 => (if (x18 != x36) then some (-1, s20, s38) else (if (x19 != 0) then some (-1, s20, s38) else (if (x37 != 0) then some (-1, s20, s38) else some (x18, s20, s38))))
set_option maxRecDepth 100000 in
set_option maxHeartbeats 1500000 in
theorem law13_alloc.ok {w0 w : World} {F0 : List Nat} {ps : List Piece} {k : Nat} {bb0 b0 ab0 bw0 abw0 sb0 g0 cb0 : Nat} {vc0 vg0 : Value} {s0 u0 : HSt} {Lc0 Lg0 : List Int} {i1 : Int} {i2 : Int} {r0 : Int} {t0 : HSt} {t1 : HSt} (hS : St w0 F0 (BlkP bb0 52 #[nP b0 0, nP bw0 0, vc0, vg0] :: HeapP b0 ab0 s0 :: RHeapP bw0 abw0 sb0 g0 cb0 u0 :: RowP (vc0) Lc0 :: RowP (vg0) Lg0 :: ps) w) (hm : law13_alloc.m k s0 u0 Lc0 Lg0 i1 i2 = some (r0, t0, t1)) :
    Calls Tryz.prog 71 #[nP bb0 0, nI i1, nI i2] w fun e w' => e = .returned (.int .i64 r0) ∧ St w0 F0 (BlkP bb0 52 #[nP b0 0, nP bw0 0, vc0, vg0] :: HeapP b0 ab0 t0 :: RHeapP bw0 abw0 sb0 g0 cb0 t1 :: RowP (vc0) Lc0 :: RowP (vg0) Lg0 :: ps) w' := by
 refine ev_enterL 43 [nP bb0 0, nI i1, nI i2] Tryz.func71 rfl rfl (by simp) ?_
 intro a hF
 have hF0 : Fr 43 a [(0, nP bb0 0), (1, nI i1), (2, nI i2)] := hF; clear hF
 unfold law13_alloc.m at hm
 obtain ⟨hl4, p1, c2, rfl, hp3⟩ := St.shape hS 3 rfl
 obtain ⟨hl8, p5, c6, rfl, hp7⟩ := St.shape hS 4 rfl
 refine wp_seq (wp_region_lit ?_)
 refine ev_runK 1 hF0 [0, 1, 2] (l' := [(0, nP bb0 0), (1, nI i1), (2, nI i2)]) (w' := w) (by kernel_rfl) ?_
 intro a10 hF9; clear hF0
 refine wpList_nil (thenN (wp_seq (wp_region_lit ?_)))
 refine ev_runs 3 hF9 (l' := [(14, nP bb0 0), (13, nP bb0 0), (12, nP bb0 0), (0, nP bb0 0), (1, nI i1), (2, nI i2)]) (w' := w) (by kernel_rfl) ?_
 intro a12 hF11; clear hF9
 refine ev_one (nP b0 0) w hF11 (by kernel_rfl) rfl (by kernel_rfl) (run_loadV rfl rfl (run_loadS rfl rfl (hS.cell 0 rfl 0 rfl))) (l' := [(15, nP b0 0), (14, nP bb0 0), (13, nP bb0 0), (12, nP bb0 0), (0, nP bb0 0), (1, nI i1), (2, nI i2)]) (by kernel_rfl) ?_
 intro a14 hF13; clear hF11
 refine ev_runs 2 hF13 (l' := [(17, nI i2), (16, nI i1), (15, nP b0 0), (14, nP bb0 0), (13, nP bb0 0), (12, nP bb0 0), (0, nP bb0 0), (1, nI i1), (2, nI i2)]) (w' := w) (by kernel_rfl) ?_
 intro a16 hF15; clear hF13
 have hS17 := hS.pick1
 refine ev_call 84 #[nP b0 0, nI i1, nI i2] hF15 rfl rfl (by kernel_rfl) rfl (by kernel_rfl) (fun w => by kernel_rfl) ?_
 obtain ⟨x18, x19, s20, hx21, hm22⟩ := bind3E hm; clear hm
 refine (p_Alloc hS17 hx21).mono ?_
 rintro _ w23 ⟨rfl, hS25⟩ a24 hF26; clear hF15 hS17
 refine ev_runK 5 hF26 [0, 1, 2, 7, 8] (l' := [(8, nI x19), (7, nI x18), (0, nP bb0 0), (1, nI i1), (2, nI i2)]) (w' := w23) (by kernel_rfl) ?_
 intro a28 hF27; clear hF26
 refine wpList_nil (thenN (wp_seq (wp_region_lit ?_)))
 refine ev_runs 3 hF27 (l' := [(24, nP bb0 1), (23, nP bb0 0), (22, nP bb0 0), (8, nI x19), (7, nI x18), (0, nP bb0 0), (1, nI i1), (2, nI i2)]) (w' := w23) (by kernel_rfl) ?_
 intro a30 hF29; clear hF27
 refine ev_one (nP bw0 0) w23 hF29 (by kernel_rfl) rfl (by kernel_rfl) (run_loadV rfl rfl (run_loadS rfl rfl (hS25.cell 1 rfl 1 rfl))) (l' := [(25, nP bw0 0), (24, nP bb0 1), (23, nP bb0 0), (22, nP bb0 0), (8, nI x19), (7, nI x18), (0, nP bb0 0), (1, nI i1), (2, nI i2)]) (by kernel_rfl) ?_
 intro a32 hF31; clear hF29
 refine ev_runs 2 hF31 (l' := [(27, nI i2), (26, nI i1), (25, nP bw0 0), (24, nP bb0 1), (23, nP bb0 0), (22, nP bb0 0), (8, nI x19), (7, nI x18), (0, nP bb0 0), (1, nI i1), (2, nI i2)]) (w' := w23) (by kernel_rfl) ?_
 intro a34 hF33; clear hF31
 have hS35 := hS25.pick2
 clear hS25
 refine ev_call 85 #[nP bw0 0, nI i1, nI i2] hF33 rfl rfl (by kernel_rfl) rfl (by kernel_rfl) (fun w => by kernel_rfl) ?_
 obtain ⟨x36, x37, s38, hx39, hm40⟩ := bind3E hm22; clear hm22
 refine (q_Alloc hS35 hx39).mono ?_
 rintro _ w41 ⟨rfl, hS43⟩ a42 hF44; clear hF33 hS35
 refine ev_runK 5 hF44 [7, 8, 9, 10] (l' := [(10, nI x37), (9, nI x36), (8, nI x19), (7, nI x18)]) (w' := w41) (by kernel_rfl) ?_
 intro a46 hF45; clear hF44
 refine wpList_nil (thenN (wp_seq (wp_seq (wp_region_lit ?_))))
 refine ev_runs 4 hF45 (l' := [(34, .bool (x18 != x36)), (33, .bool (x18 != x36)), (32, nI x36), (31, nI x18), (10, nI x37), (9, nI x36), (8, nI x19), (7, nI x18)]) (w' := w41) (by kernel_rfl) ?_
 intro a48 hF47; clear hF45
 cases hc49 : (x18 != x36) with
 | true =>
  rw [hc49] at hF47
  rw [hc49] at hm40
  have hm50 := ifT hm40; clear hm40
  refine ev_runK 7 hF47 [7, 41] (l' := [(41, .bool true), (7, nI x18)]) (w' := w41) (by kernel_rfl) ?_
  intro a52 hF51; clear hF47
  refine wpList_nil (thenN ?_)
  refine ev_condT hF51 rfl rfl ?_
  refine wp_seq (wp_region_lit ?_)
  refine ev_runK 1 hF51 [6] (l' := [(6, nI (-1))]) (w' := w41) (by kernel_rfl) ?_
  intro a54 hF53; clear hF51
  refine wpList_nil (thenN ?_)
  refine wp_ret ?_
  refine thenR ?_
  have hS55 := hS43.pick4.pick4.pick2.pick3.pick4
  clear hS43
  simp only [Option.some.injEq, Prod.mk.injEq] at hm50
  obtain ⟨rfl, rfl, rfl⟩ := hm50
  refine ev_ret hF53 [6] (nI (-1)) rfl rfl rfl ?_
  exact ⟨rfl, hS55⟩
 | false =>
  rw [hc49] at hF47
  rw [hc49] at hm40
  have hm59 := ifF hm40; clear hm40
  refine ev_runs 4 hF47 (l' := [(38, .bool (x19 != 0)), (37, .bool (x19 != 0)), (36, .bool (x19 != 0)), (35, nI x19), (34, .bool false), (33, .bool false), (32, nI x36), (31, nI x18), (10, nI x37), (9, nI x36), (8, nI x19), (7, nI x18)]) (w' := w41) (by kernel_rfl) ?_
  intro a61 hF60; clear hF47
  cases hc62 : (x19 != 0) with
  | true =>
   rw [hc62] at hF60
   rw [hc62] at hm59
   have hm63 := ifT hm59; clear hm59
   refine ev_runK 3 hF60 [7, 41] (l' := [(41, .bool true), (7, nI x18)]) (w' := w41) (by kernel_rfl) ?_
   intro a65 hF64; clear hF60
   refine wpList_nil (thenN ?_)
   refine ev_condT hF64 rfl rfl ?_
   refine wp_seq (wp_region_lit ?_)
   refine ev_runK 1 hF64 [6] (l' := [(6, nI (-1))]) (w' := w41) (by kernel_rfl) ?_
   intro a67 hF66; clear hF64
   refine wpList_nil (thenN ?_)
   refine wp_ret ?_
   refine thenR ?_
   have hS68 := hS43.pick4.pick4.pick2.pick3.pick4
   clear hS43
   simp only [Option.some.injEq, Prod.mk.injEq] at hm63
   obtain ⟨rfl, rfl, rfl⟩ := hm63
   refine ev_ret hF66 [6] (nI (-1)) rfl rfl rfl ?_
   exact ⟨rfl, hS68⟩
  | false =>
   rw [hc62] at hF60
   rw [hc62] at hm59
   have hm72 := ifF hm59; clear hm59
   refine ev_runK 3 hF60 [7, 41] (l' := [(41, .bool (x37 != 0)), (7, nI x18)]) (w' := w41) (by kernel_rfl) ?_
   intro a74 hF73; clear hF60
   refine wpList_nil (thenN ?_)
   cases hc75 : (x37 != 0) with
   | true =>
    rw [hc75] at hF73
    rw [hc75] at hm72
    have hm76 := ifT hm72; clear hm72
    refine ev_condT hF73 rfl rfl ?_
    refine wp_seq (wp_region_lit ?_)
    refine ev_runK 1 hF73 [6] (l' := [(6, nI (-1))]) (w' := w41) (by kernel_rfl) ?_
    intro a78 hF77; clear hF73
    refine wpList_nil (thenN ?_)
    refine wp_ret ?_
    refine thenR ?_
    have hS79 := hS43.pick4.pick4.pick2.pick3.pick4
    clear hS43
    simp only [Option.some.injEq, Prod.mk.injEq] at hm76
    obtain ⟨rfl, rfl, rfl⟩ := hm76
    refine ev_ret hF77 [6] (nI (-1)) rfl rfl rfl ?_
    exact ⟨rfl, hS79⟩
   | false =>
    rw [hc75] at hF73
    rw [hc75] at hm72
    have hm83 := ifF hm72; clear hm72
    refine ev_condF hF73 rfl rfl ?_
    refine wp_skip ?_
    have hF84 := hF73.keep [7]
    clear hF73
    refine thenN (wp_seq (wp_region_lit ?_))
    refine ev_runK 2 hF84 [6] (l' := [(6, nI x18)]) (w' := w41) (by kernel_rfl) ?_
    intro a86 hF85; clear hF84
    refine wpList_nil (thenN ?_)
    refine wp_ret ?_
    have hS87 := hS43.pick4.pick4.pick2.pick3.pick4
    clear hS43
    simp only [Option.some.injEq, Prod.mk.injEq] at hm83
    obtain ⟨rfl, rfl, rfl⟩ := hm83
    refine ev_ret hF85 [6] (nI x18) rfl rfl rfl ?_
    exact ⟨rfl, hS87⟩

def law13_made.l2b (i1 : Int) (k : Nat) (L56 : List Int) (rec273 : List Int → HSt → HSt → Int → Option (HSt × HSt × List Int × List Int)) (L266 : List Int) (s268 : HSt) (s269 : HSt) (x270 : Int) : Option (HSt × HSt × List Int × List Int) := (if (decide (x270 < (IntKind.i64.wrap (1 + (IntKind.i64.wrap (Int.tmod (IntKind.u64.wrap i1) 6)))))) then bind3 (law13_alloc.m k s268 s269 L56 L266 4 10) fun x290 s291 s292 => bind2 (pPutGor x290 (⟨x270, 0, 0, 0, 0, 0, 0, 0, 0, -1⟩ : Gr) s291) fun x314 s315 => bind2 (ref11_PutGor.m k s292 x290 (⟨x270, 0, 0, 0, 0, 0, 0, 0, 0, -1⟩ : Gr)) fun x323 s324 => (if (x314 != x323) then none else bind1 (pushM L266 x290) fun L348 => rec273 L348 s315 s324 (IntKind.i64.wrap (x270 + 1))) else some ((s268, s269, L56, L266)))
def law13_made.l2 (i1 : Int) (k : Nat) (L56 : List Int) : Nat → List Int → HSt → HSt → Int → Option (HSt × HSt × List Int × List Int)
  | 0 => fun _ _ _ _ => none
  | kI + 1 => law13_made.l2b i1 k L56 (law13_made.l2 i1 k L56 kI)
def law13_made.l3b (i1 : Int) (k : Nat) (L56 : List Int) (rec385 : List Int → HSt → HSt → Int → Option (HSt × HSt × List Int × List Int)) (L378 : List Int) (s380 : HSt) (s381 : HSt) (x382 : Int) : Option (HSt × HSt × List Int × List Int) := (if (decide (x382 < (IntKind.i64.wrap (1 + (IntKind.i64.wrap (Int.tmod (IntKind.u64.wrap i1) 6)))))) then bind3 (law13_alloc.m k s380 s381 L56 L378 4 10) fun x402 s403 s404 => bind2 (pPutGor x402 (⟨x382, 0, 0, 0, 0, 0, 0, 0, 0, -1⟩ : Gr) s403) fun x426 s427 => bind2 (ref11_PutGor.m k s404 x402 (⟨x382, 0, 0, 0, 0, 0, 0, 0, 0, -1⟩ : Gr)) fun x435 s436 => (if (x426 != x435) then none else bind1 (pushM L378 x402) fun L460 => rec385 L460 s427 s436 (IntKind.i64.wrap (x382 + 1))) else some ((s380, s381, L56, L378)))
def law13_made.l3 (i1 : Int) (k : Nat) (L56 : List Int) : Nat → List Int → HSt → HSt → Int → Option (HSt × HSt × List Int × List Int)
  | 0 => fun _ _ _ _ => none
  | kI + 1 => law13_made.l3b i1 k L56 (law13_made.l3 i1 k L56 kI)
def law13_made.l1b (L0 : List Int) (i1 : Int) (k : Nat) (rec63 : List Int → HSt → HSt → Int → Option (HSt × HSt × List Int × List Int)) (L56 : List Int) (s58 : HSt) (s59 : HSt) (x60 : Int) : Option (HSt × HSt × List Int × List Int) := (if (decide (x60 < (L0.length : Int))) then (if (decide (x60 < 4)) then (if (inR x60 L0.length) then bind3 (law13_alloc.m k s58 s59 L56 [] 1 9) fun x102 s103 s104 => (if (decide ((IntKind.i64.wrap (Int.tmod (IntKind.u64.wrap (atI L0 x60)) 4)) > 0)) then bind3 (law13_alloc.m k s103 s104 L56 [] 2 (IntKind.i64.wrap (Int.tmod (IntKind.u64.wrap (atI L0 x60)) 4))) fun x125 s126 s127 => bind2 (pPutChan x102 (⟨IntKind.i64.wrap (Int.tmod (IntKind.u64.wrap (atI L0 x60)) 4), 0, 0, 0, x125, -1, -1, -1, -1⟩ : Ch) s126) fun x146 s147 => bind2 (ref11_PutChan.m k s127 x102 (⟨IntKind.i64.wrap (Int.tmod (IntKind.u64.wrap (atI L0 x60)) 4), 0, 0, 0, x125, -1, -1, -1, -1⟩ : Ch)) fun x155 s156 => (if (x146 != x155) then none else bind1 (pushM L56 x102) fun L180 => rec63 L180 s147 s156 (IntKind.i64.wrap (x60 + 1))) else bind2 (pPutChan x102 (⟨IntKind.i64.wrap (Int.tmod (IntKind.u64.wrap (atI L0 x60)) 4), 0, 0, 0, -1, -1, -1, -1, -1⟩ : Ch) s103) fun x208 s209 => bind2 (ref11_PutChan.m k s104 x102 (⟨IntKind.i64.wrap (Int.tmod (IntKind.u64.wrap (atI L0 x60)) 4), 0, 0, 0, -1, -1, -1, -1, -1⟩ : Ch)) fun x217 s218 => (if (x208 != x217) then none else bind1 (pushM L56 x102) fun L242 => rec63 L242 s209 s218 (IntKind.i64.wrap (x60 + 1)))) else none) else law13_made.l2 i1 k L56 k [] s58 s59 0) else law13_made.l3 i1 k L56 k [] s58 s59 0)
def law13_made.l1 (L0 : List Int) (i1 : Int) (k : Nat) : Nat → List Int → HSt → HSt → Int → Option (HSt × HSt × List Int × List Int)
  | 0 => fun _ _ _ _ => none
  | kI + 1 => law13_made.l1b L0 i1 k (law13_made.l1 L0 i1 k kI)
def law13_made.m (k : Nat) (L0 : List Int) (i1 : Int) : Option (HSt × HSt × List Int × List Int) := bind1 (pNew 60) fun s7 => bind1 (prNew 60) fun s19 => law13_made.l1 L0 i1 k k [] s7 s19 0
set_option maxRecDepth 100000 in
set_option maxHeartbeats 40000000 in
theorem law13_made.ok {w0 w : World} {F0 : List Nat} {ps : List Piece} {k : Nat} {v0 : Value} {L0 : List Int} {i1 : Int} {r0 : HSt × HSt × List Int × List Int} (hS : St w0 F0 (RowP (v0) L0 :: ps) w) (hm : law13_made.m k L0 i1 = some r0) :
    Calls Tryz.prog 24 #[v0, nI i1] w fun e w' => ∃ bb b ab b2 ab2 sb g cb vc vg, e = .returned (.pointer (some ⟨bb, 0, none⟩)) ∧ St w0 F0 (RowP (v0) L0 :: BlkP bb 52 #[.pointer (some ⟨b, 0, none⟩), .pointer (some ⟨b2, 0, none⟩), vc, vg] :: HeapP b ab r0.1 :: RHeapP b2 ab2 sb g cb r0.2.1 :: RowP vc r0.2.2.1 :: RowP vg r0.2.2.2 :: ps) w' := by
 refine ev_enterL 119 [v0, nI i1] Tryz.func24 rfl rfl (by simp) ?_
 intro a hF
 have hF0 : Fr 119 a [(0, v0), (1, nI i1)] := hF; clear hF
 unfold law13_made.m at hm
 obtain ⟨hl4, p1, c2, rfl, hp3⟩ := St.shape hS 0 rfl
 refine wp_seq (wp_region_lit ?_)
 refine ev_runK 1 hF0 [0, 1] (l' := [(0, .slice p1 L0.length c2), (1, nI i1)]) (w' := w) (by kernel_rfl) ?_
 intro a6 hF5; clear hF0
 refine wpList_nil (thenN (wp_seq (wp_region_lit ?_)))
 refine ev_call 53 #[nI 60] hF5 rfl rfl (by kernel_rfl) rfl (by kernel_rfl) (fun w => by kernel_rfl) ?_
 obtain ⟨s7, hx8, hm9⟩ := bind1E hm; clear hm
 refine (p_New hS hx8).mono ?_
 rintro _ w10 ⟨z14, z15, rfl, hS12⟩ a11 hF13; clear hF5 hS
 refine ev_runK 5 hF13 [0, 1, 5, 6] (l' := [(6, nI 0), (5, nP z14 0), (0, .slice p1 L0.length c2), (1, nI i1)]) (w' := w10) (by kernel_rfl) ?_
 intro a18 hF17; clear hF13
 refine wpList_nil (thenN (wp_seq (wp_region_lit ?_)))
 refine ev_call 54 #[nI 60] hF17 rfl rfl (by kernel_rfl) rfl (by kernel_rfl) (fun w => by kernel_rfl) ?_
 obtain ⟨s19, hx20, hm21⟩ := bind1E hm9; clear hm9
 refine (q_New hS12 hx20).mono ?_
 rintro _ w22 ⟨z26, z27, z28, z29, z30, rfl, hS24⟩ a23 hF25; clear hF17 hS12
 refine ev_runK 5 hF25 [0, 1, 5, 6, 7] (l' := [(7, nP z26 0), (6, nI 0), (5, nP z14 0), (0, .slice p1 L0.length c2), (1, nI i1)]) (w' := w22) (by kernel_rfl) ?_
 intro a33 hF32; clear hF25
 refine wpList_nil (thenN (wp_seq (wp_seq (wp_region_lit ?_))))
 refine ev_runs 8 hF32 (l' := [(31, nP z14 0), (30, .bool false), (29, .bool false), (28, .bool false), (27, nP z14 0), (26, .bool false), (25, .bool false), (24, nI 0), (7, nP z26 0), (6, nI 0), (5, nP z14 0), (0, .slice p1 L0.length c2), (1, nI i1)]) (w' := w22) (by kernel_rfl) ?_
 intro a35 hF34; clear hF32
 have hS36 := hS24.pick1
 clear hS24
 refine ev_call 55 #[nP z14 0] hF34 rfl rfl (by kernel_rfl) rfl (by kernel_rfl) (fun w => by kernel_rfl) ?_
 refine (p_Arena hS36).mono ?_
 rintro _ w37 ⟨rfl, hS39⟩ a38 hF40; clear hF34 hS36
 refine ev_runK 2 hF40 [0, 1, 5, 7, 34] (l' := [(34, .bool false), (7, nP z26 0), (5, nP z14 0), (0, .slice p1 L0.length c2), (1, nI i1)]) (w' := w37) (by kernel_rfl) ?_
 intro a42 hF41; clear hF40
 refine wpList_nil (thenN ?_)
 refine ev_condF hF41 rfl rfl ?_
 refine wp_skip ?_
 have hF43 := hF41.keep [0, 1, 5, 7]
 clear hF41
 refine thenN (wp_seq (wp_region_lit ?_))
 refine ev_runs 4 hF43 (l' := [(38, nP (w37.heap.size) 0), (37, .agg #[nP z14 0, nP z26 0, .slice none 0 0, .slice none 0 0]), (36, nP z26 0), (35, nP z14 0), (7, nP z26 0), (5, nP z14 0), (0, .slice p1 L0.length c2), (1, nI i1)]) (w' := w37.alloc (.cells #[nP z14 0, nP z26 0, .slice none 0 0, .slice none 0 0] 52)) (by kernel_rfl) ?_
 intro a45 hF44; clear hF43
 have hS47 : St w0 F0 (BlkP (w37.heap.size) 52 #[nP z14 0, nP z26 0, .slice none 0 0, .slice none 0 0] :: HeapP z14 z15 s7 :: RHeapP z26 z27 z28 z29 z30 s19 :: RowP (.slice p1 L0.length c2) L0 :: ps) (w37.alloc (.cells #[nP z14 0, nP z26 0, .slice none 0 0, .slice none 0 0] 52)) := St.new hS39 #[nP z14 0, nP z26 0, .slice none 0 0, .slice none 0 0] 52
 clear hS39
 have hS49 : St w0 F0 (RowP (.slice none 0 0) [] :: BlkP (w37.heap.size) 52 #[nP z14 0, nP z26 0, .slice none 0 0, .slice none 0 0] :: HeapP z14 z15 s7 :: RHeapP z26 z27 z28 z29 z30 s19 :: RowP (.slice p1 L0.length c2) L0 :: ps) (w37.alloc (.cells #[nP z14 0, nP z26 0, .slice none 0 0, .slice none 0 0] 52)) := St.nil hS47
 clear hS47
 have hS51 : St w0 F0 (RowP (.slice none 0 0) [] :: RowP (.slice none 0 0) [] :: BlkP (w37.heap.size) 52 #[nP z14 0, nP z26 0, .slice none 0 0, .slice none 0 0] :: HeapP z14 z15 s7 :: RHeapP z26 z27 z28 z29 z30 s19 :: RowP (.slice p1 L0.length c2) L0 :: ps) (w37.alloc (.cells #[nP z14 0, nP z26 0, .slice none 0 0, .slice none 0 0] 52)) := St.nil hS49
 clear hS49
 refine ev_runK 1 hF44 [0, 1, 5, 7, 9] (l' := [(9, nP (w37.heap.size) 0), (7, nP z26 0), (5, nP z14 0), (0, .slice p1 L0.length c2), (1, nI i1)]) (w' := w37.alloc (.cells #[nP z14 0, nP z26 0, .slice none 0 0, .slice none 0 0] 52)) (by kernel_rfl) ?_
 intro a53 hF52; clear hF44
 refine wpList_nil (thenN (wp_seq (wp_seq (wp_region_lit ?_))))
 refine ev_runs 1 hF52 (l' := [(10, nI 0), (9, nP (w37.heap.size) 0), (7, nP z26 0), (5, nP z14 0), (0, .slice p1 L0.length c2), (1, nI i1)]) (w' := w37.alloc (.cells #[nP z14 0, nP z26 0, .slice none 0 0, .slice none 0 0] 52)) (by kernel_rfl) ?_
 intro a55 hF54; clear hF52
 refine wpList_nil (thenN ?_)
 refine wp_block ?_
 refine wp_loop_ghost (fun kI aI wI => ∃ (v57 : Value) (L56 : List Int) (s58 : HSt) (s59 : HSt) (x60 : Int), Fr 119 aI [(10, nI x60), (9, nP (w37.heap.size) 0), (7, nP z26 0), (5, nP z14 0), (0, .slice p1 L0.length c2), (1, nI i1)] ∧ St w0 F0 (RowP (.slice none 0 0) [] :: RowP (v57) L56 :: BlkP (w37.heap.size) 52 #[nP z14 0, nP z26 0, v57, .slice none 0 0] :: HeapP z14 z15 s58 :: RHeapP z26 z27 z28 z29 z30 s59 :: RowP (.slice p1 L0.length c2) L0 :: ps) wI ∧ law13_made.l1 L0 i1 k kI L56 s58 s59 x60 = some r0) k ⟨.slice none 0 0, [], s7, s19, 0, hF54, hS51, hm21⟩ ?_
 rintro k61 a62 w63 ⟨v57, L56, s58, s59, x60, hF64, hS65, hm66⟩
 clear hF54 hS51 hm21
 cases k61 with
 | zero => cases hm66
 | succ k61 =>
  have hm67 : law13_made.l1b L0 i1 k (law13_made.l1 L0 i1 k k61) L56 s58 s59 x60 = some r0 := hm66
  clear hm66
  unfold law13_made.l1b at hm67
  obtain ⟨hl71, p68, c69, rfl, hp70⟩ := St.shape hS65 1 rfl
  refine wp_seq (wp_seq (wp_region_lit ?_))
  refine ev_runs 5 hF64 (l' := [(43, .bool (decide (x60 < (L0.length : Int)))), (42, .bool (decide (x60 < (L0.length : Int)))), (41, nI ((L0.length : Int))), (40, .slice p1 L0.length c2), (39, nI x60), (10, nI x60), (9, nP (w37.heap.size) 0), (7, nP z26 0), (5, nP z14 0), (0, .slice p1 L0.length c2), (1, nI i1)]) (w' := w63) (by kernel_rfl) ?_
  intro a73 hF72; clear hF64
  cases hc74 : (decide (x60 < (L0.length : Int))) with
  | true =>
   rw [hc74] at hF72
   rw [hc74] at hm67
   have hm75 := ifT hm67; clear hm67
   refine ev_runK 3 hF72 [0, 1, 5, 7, 9, 10, 44, 45, 46] (l' := [(46, .bool (decide (x60 < 4))), (45, .bool (decide (x60 < 4))), (44, nI x60), (10, nI x60), (9, nP (w37.heap.size) 0), (7, nP z26 0), (5, nP z14 0), (0, .slice p1 L0.length c2), (1, nI i1)]) (w' := w63) (by kernel_rfl) ?_
   intro a77 hF76; clear hF72
   refine wpList_nil (thenN ?_)
   cases hc78 : (decide (x60 < 4)) with
   | true =>
    rw [hc78] at hF76
    rw [hc78] at hm75
    have hm79 := ifT hm75; clear hm75
    refine ev_condT hF76 rfl rfl ?_
    refine wp_skip ?_
    have hF80 := hF76.keep [0, 1, 5, 7, 9, 10, 44, 45]
    clear hF76
    refine thenN (wp_seq ?_)
    refine wp_block ?_
    refine wp_seq (wp_region_lit ?_)
    refine ev_runs 2 hF80 (l' := [(50, nI x60), (49, .slice p1 L0.length c2), (45, .bool true), (44, nI x60), (10, nI x60), (9, nP (w37.heap.size) 0), (7, nP z26 0), (5, nP z14 0), (0, .slice p1 L0.length c2), (1, nI i1)]) (w' := w63) (by kernel_rfl) ?_
    intro a82 hF81; clear hF80
    obtain ⟨hc83, hm84⟩ := ifTE hm79; clear hm79
    obtain ⟨g85, rfl⟩ := hp3.resolve_left (by have := inR_spec hc83; omega)
    refine ev_one (nP g85 (x60.toNat)) w63 hF81 (by kernel_rfl) rfl (by kernel_rfl) (run_idx rfl rfl rfl rfl rfl (inR_spec hc83).1 (inR_spec hc83).2 _) (l' := [(51, nP g85 (x60.toNat)), (50, nI x60), (49, .slice (some ⟨g85, 0, none⟩) L0.length c2), (45, .bool true), (44, nI x60), (10, nI x60), (9, nP (w37.heap.size) 0), (7, nP z26 0), (5, nP z14 0), (0, .slice (some ⟨g85, 0, none⟩) L0.length c2), (1, nI i1)]) (by kernel_rfl) ?_
    intro a87 hF86; clear hF81
    refine ev_one (nI (atI L0 x60)) w63 hF86 (by kernel_rfl) rfl (by kernel_rfl) (run_load1 rfl rfl rfl (hS65.atI 5 rfl hc83)) (l' := [(52, nI (atI L0 x60)), (51, nP g85 (x60.toNat)), (50, nI x60), (49, .slice (some ⟨g85, 0, none⟩) L0.length c2), (45, .bool true), (44, nI x60), (10, nI x60), (9, nP (w37.heap.size) 0), (7, nP z26 0), (5, nP z14 0), (0, .slice (some ⟨g85, 0, none⟩) L0.length c2), (1, nI i1)]) (by kernel_rfl) ?_
    intro a89 hF88; clear hF86
    refine ev_runs 5 hF88 (l' := [(11, nP (w63.heap.size) 0), (56, .agg #[nI (IntKind.i64.wrap (Int.tmod (IntKind.u64.wrap (atI L0 x60)) 4)), nI 0, nI 0, nI 0, nI (-1), nI (-1), nI (-1), nI (-1), nI (-1)]), (55, nI (IntKind.i64.wrap (Int.tmod (IntKind.u64.wrap (atI L0 x60)) 4))), (54, .int .u64 (Int.tmod (IntKind.u64.wrap (atI L0 x60)) 4)), (53, .int .u64 (IntKind.u64.wrap (atI L0 x60))), (52, nI (atI L0 x60)), (51, nP g85 (x60.toNat)), (50, nI x60), (49, .slice (some ⟨g85, 0, none⟩) L0.length c2), (45, .bool true), (44, nI x60), (10, nI x60), (9, nP (w37.heap.size) 0), (7, nP z26 0), (5, nP z14 0), (0, .slice (some ⟨g85, 0, none⟩) L0.length c2), (1, nI i1)]) (w' := w63.alloc (.cells #[nI 0, nI 0, nI 0, nI 0, nI 0, nI 0, nI 0, nI 0, nI 0] 37)) (by kernel_rfl) ?_
    intro a91 hF90; clear hF88
    have hS93 : St w0 F0 (BlkP (w63.heap.size) 37 #[nI 0, nI 0, nI 0, nI 0, nI 0, nI 0, nI 0, nI 0, nI 0] :: RowP (.slice none 0 0) [] :: RowP (.slice p68 L56.length c69) L56 :: BlkP (w37.heap.size) 52 #[nP z14 0, nP z26 0, .slice p68 L56.length c69, .slice none 0 0] :: HeapP z14 z15 s58 :: RHeapP z26 z27 z28 z29 z30 s59 :: RowP (.slice (some ⟨g85, 0, none⟩) L0.length c2) L0 :: ps) (w63.alloc (.cells #[nI 0, nI 0, nI 0, nI 0, nI 0, nI 0, nI 0, nI 0, nI 0] 37)) := St.new hS65 #[nI 0, nI 0, nI 0, nI 0, nI 0, nI 0, nI 0, nI 0, nI 0] 37
    clear hS65
    refine ev_store (.agg #[nI (IntKind.i64.wrap (Int.tmod (IntKind.u64.wrap (atI L0 x60)) 4)), nI 0, nI 0, nI 0, nI (-1), nI (-1), nI (-1), nI (-1), nI (-1)]) #[nI (IntKind.i64.wrap (Int.tmod (IntKind.u64.wrap (atI L0 x60)) 4)), nI 0, nI 0, nI 0, nI (-1), nI (-1), nI (-1), nI (-1), nI (-1)] hF90 (by kernel_rfl) rfl rfl rfl rfl (by kernel_rfl) hS93 (by kernel_rfl) (by kernel_rfl) (by kernel_rfl) (l' := [(11, nP (w63.heap.size) 0), (56, .agg #[nI (IntKind.i64.wrap (Int.tmod (IntKind.u64.wrap (atI L0 x60)) 4)), nI 0, nI 0, nI 0, nI (-1), nI (-1), nI (-1), nI (-1), nI (-1)]), (55, nI (IntKind.i64.wrap (Int.tmod (IntKind.u64.wrap (atI L0 x60)) 4))), (54, .int .u64 (Int.tmod (IntKind.u64.wrap (atI L0 x60)) 4)), (53, .int .u64 (IntKind.u64.wrap (atI L0 x60))), (52, nI (atI L0 x60)), (51, nP g85 (x60.toNat)), (50, nI x60), (49, .slice (some ⟨g85, 0, none⟩) L0.length c2), (45, .bool true), (44, nI x60), (10, nI x60), (9, nP (w37.heap.size) 0), (7, nP z26 0), (5, nP z14 0), (0, .slice (some ⟨g85, 0, none⟩) L0.length c2), (1, nI i1)]) (by kernel_rfl) ?_
    intro w94 a95 hS96 hF97; clear hF90 hS93
    refine wpList_nil ?_
    have hF98 := hF97.keep [0, 1, 5, 7, 9, 10, 11, 44, 45]
    clear hF97
    refine thenN (wp_seq (wp_region_lit ?_))
    refine ev_runs 1 hF98 (l' := [(57, nP (w37.heap.size) 0), (11, nP (w63.heap.size) 0), (45, .bool true), (44, nI x60), (10, nI x60), (9, nP (w37.heap.size) 0), (7, nP z26 0), (5, nP z14 0), (0, .slice (some ⟨g85, 0, none⟩) L0.length c2), (1, nI i1)]) (w' := w94) (by kernel_rfl) ?_
    intro a100 hF99; clear hF98
    have hS101 := hS96.pick1.pick2.pick5.pick5.pick5
    clear hS96
    refine ev_call 71 #[nP (w37.heap.size) 0, nI 1, nI 9] hF99 rfl rfl (by kernel_rfl) rfl (by kernel_rfl) (fun w => by kernel_rfl) ?_
    obtain ⟨x102, s103, s104, hx105, hm106⟩ := bind3E hm84; clear hm84
    refine (law13_alloc.ok hS101 hx105).mono ?_
    rintro _ w107 ⟨rfl, hS109⟩ a108 hF110; clear hF99 hS101
    refine ev_runK 1 hF110 [0, 1, 5, 7, 9, 10, 11, 12, 44, 45] (l' := [(12, nI x102), (11, nP (w63.heap.size) 0), (45, .bool true), (44, nI x60), (10, nI x60), (9, nP (w37.heap.size) 0), (7, nP z26 0), (5, nP z14 0), (0, .slice (some ⟨g85, 0, none⟩) L0.length c2), (1, nI i1)]) (w' := w107) (by kernel_rfl) ?_
    intro a112 hF111; clear hF110
    refine wpList_nil (thenN (wp_seq (wp_seq (wp_region_lit ?_))))
    refine ev_runs 1 hF111 (l' := [(59, nP (w63.heap.size) 0), (12, nI x102), (11, nP (w63.heap.size) 0), (45, .bool true), (44, nI x60), (10, nI x60), (9, nP (w37.heap.size) 0), (7, nP z26 0), (5, nP z14 0), (0, .slice (some ⟨g85, 0, none⟩) L0.length c2), (1, nI i1)]) (w' := w107) (by kernel_rfl) ?_
    intro a114 hF113; clear hF111
    refine ev_one (nI (IntKind.i64.wrap (Int.tmod (IntKind.u64.wrap (atI L0 x60)) 4))) w107 hF113 (by kernel_rfl) rfl (by kernel_rfl) (run_loadV rfl rfl (run_loadS rfl rfl (hS109.cell 5 rfl 0 rfl))) (l' := [(60, nI (IntKind.i64.wrap (Int.tmod (IntKind.u64.wrap (atI L0 x60)) 4))), (59, nP (w63.heap.size) 0), (12, nI x102), (11, nP (w63.heap.size) 0), (45, .bool true), (44, nI x60), (10, nI x60), (9, nP (w37.heap.size) 0), (7, nP z26 0), (5, nP z14 0), (0, .slice (some ⟨g85, 0, none⟩) L0.length c2), (1, nI i1)]) (by kernel_rfl) ?_
    intro a116 hF115; clear hF113
    refine ev_runK 1 hF115 [0, 1, 5, 7, 9, 10, 11, 12, 44, 45, 61] (l' := [(61, .bool (decide ((IntKind.i64.wrap (Int.tmod (IntKind.u64.wrap (atI L0 x60)) 4)) > 0))), (12, nI x102), (11, nP (w63.heap.size) 0), (45, .bool true), (44, nI x60), (10, nI x60), (9, nP (w37.heap.size) 0), (7, nP z26 0), (5, nP z14 0), (0, .slice (some ⟨g85, 0, none⟩) L0.length c2), (1, nI i1)]) (w' := w107) (by kernel_rfl) ?_
    intro a118 hF117; clear hF115
    refine wpList_nil (thenN ?_)
    cases hc119 : (decide ((IntKind.i64.wrap (Int.tmod (IntKind.u64.wrap (atI L0 x60)) 4)) > 0)) with
    | true =>
     rw [hc119] at hF117
     rw [hc119] at hm106
     have hm120 := ifT hm106; clear hm106
     refine ev_condT hF117 rfl rfl ?_
     refine wp_region_lit ?_
     refine ev_runs 2 hF117 (l' := [(63, nP (w63.heap.size) 0), (62, nP (w37.heap.size) 0), (61, .bool true), (12, nI x102), (11, nP (w63.heap.size) 0), (45, .bool true), (44, nI x60), (10, nI x60), (9, nP (w37.heap.size) 0), (7, nP z26 0), (5, nP z14 0), (0, .slice (some ⟨g85, 0, none⟩) L0.length c2), (1, nI i1)]) (w' := w107) (by kernel_rfl) ?_
     intro a122 hF121; clear hF117
     refine ev_one (nI (IntKind.i64.wrap (Int.tmod (IntKind.u64.wrap (atI L0 x60)) 4))) w107 hF121 (by kernel_rfl) rfl (by kernel_rfl) (run_loadV rfl rfl (run_loadS rfl rfl (hS109.cell 5 rfl 0 rfl))) (l' := [(64, nI (IntKind.i64.wrap (Int.tmod (IntKind.u64.wrap (atI L0 x60)) 4))), (63, nP (w63.heap.size) 0), (62, nP (w37.heap.size) 0), (61, .bool true), (12, nI x102), (11, nP (w63.heap.size) 0), (45, .bool true), (44, nI x60), (10, nI x60), (9, nP (w37.heap.size) 0), (7, nP z26 0), (5, nP z14 0), (0, .slice (some ⟨g85, 0, none⟩) L0.length c2), (1, nI i1)]) (by kernel_rfl) ?_
     intro a124 hF123; clear hF121
     refine ev_call 71 #[nP (w37.heap.size) 0, nI 2, nI (IntKind.i64.wrap (Int.tmod (IntKind.u64.wrap (atI L0 x60)) 4))] hF123 rfl rfl (by kernel_rfl) rfl (by kernel_rfl) (fun w => by kernel_rfl) ?_
     obtain ⟨x125, s126, s127, hx128, hm129⟩ := bind3E hm120; clear hm120
     refine (law13_alloc.ok hS109 hx128).mono ?_
     rintro _ w130 ⟨rfl, hS132⟩ a131 hF133; clear hF123 hS109
     refine ev_runs 1 hF133 (l' := [(66, nP (w63.heap.size) 4), (65, nI x125), (64, nI (IntKind.i64.wrap (Int.tmod (IntKind.u64.wrap (atI L0 x60)) 4))), (63, nP (w63.heap.size) 0), (62, nP (w37.heap.size) 0), (61, .bool true), (12, nI x102), (11, nP (w63.heap.size) 0), (45, .bool true), (44, nI x60), (10, nI x60), (9, nP (w37.heap.size) 0), (7, nP z26 0), (5, nP z14 0), (0, .slice (some ⟨g85, 0, none⟩) L0.length c2), (1, nI i1)]) (w' := w130) (by kernel_rfl) ?_
     intro a135 hF134; clear hF133
     have hS136 := hS132.pick5
     clear hS132
     refine ev_store (nI x125) #[nI (IntKind.i64.wrap (Int.tmod (IntKind.u64.wrap (atI L0 x60)) 4)), nI 0, nI 0, nI 0, nI x125, nI (-1), nI (-1), nI (-1), nI (-1)] hF134 (by kernel_rfl) rfl rfl rfl rfl (by kernel_rfl) hS136 (by kernel_rfl) (by kernel_rfl) (by kernel_rfl) (l' := [(66, nP (w63.heap.size) 4), (65, nI x125), (64, nI (IntKind.i64.wrap (Int.tmod (IntKind.u64.wrap (atI L0 x60)) 4))), (63, nP (w63.heap.size) 0), (62, nP (w37.heap.size) 0), (61, .bool true), (12, nI x102), (11, nP (w63.heap.size) 0), (45, .bool true), (44, nI x60), (10, nI x60), (9, nP (w37.heap.size) 0), (7, nP z26 0), (5, nP z14 0), (0, .slice (some ⟨g85, 0, none⟩) L0.length c2), (1, nI i1)]) (by kernel_rfl) ?_
     intro w137 a138 hS139 hF140; clear hF134 hS136
     refine wpList_nil ?_
     have hF141 := hF140.keep [0, 1, 5, 7, 9, 10, 11, 12, 44, 45]
     clear hF140
     refine thenN (wp_seq (wp_seq ?_))
     -- draws
     have hS142 := hS139.drew; clear hS139
     refine any_start (fun wS => ∃ qs, St w0 F0 (BlkP (w63.heap.size) 37 #[nI (IntKind.i64.wrap (Int.tmod (IntKind.u64.wrap (atI L0 x60)) 4)), nI 0, nI 0, nI 0, nI x125, nI (-1), nI (-1), nI (-1), nI (-1)] :: qs) wS) 9 #[false, false, false, false, false, false, false, false, false] (by kernel_rfl) (by kernel_rfl) (by kernel_rfl) ?_
     refine any_many 6 [(0, some (nP z14 0)), (1, some (nI x102)), (2, some (.agg #[nI (IntKind.i64.wrap (Int.tmod (IntKind.u64.wrap (atI L0 x60)) 4)), nI 0, nI 0, nI 0, nI x125, nI (-1), nI (-1), nI (-1), nI (-1)])), (4, some (nP z26 0)), (5, some (nI x102)), (6, some (.agg #[nI (IntKind.i64.wrap (Int.tmod (IntKind.u64.wrap (atI L0 x60)) 4)), nI 0, nI 0, nI 0, nI x125, nI (-1), nI (-1), nI (-1), nI (-1)]))] [0, 1, 5, 7, 9, 10, 12, 44, 45, 67, 68, 69, 70, 71, 72, 73, 74, 75] #[true, true, true, false, true, true, true, false, false] (by rfl) hF141 (by kernel_rfl) (by kernel_rfl) (by exact (And.intro (fun wS hw => by kernel_rfl) (And.intro (fun wS hw => by kernel_rfl) (And.intro (fun wS hw => hw.elim fun qs hw => run_loadV rfl rfl (run_loadA (cs := [nI (IntKind.i64.wrap (Int.tmod (IntKind.u64.wrap (atI L0 x60)) 4)), nI 0, nI 0, nI 0, nI x125, nI (-1), nI (-1), nI (-1), nI (-1)]) rfl rfl (by kernel_rfl) (blk_cells hw 0 rfl rfl))) (And.intro (fun wS hw => by kernel_rfl) (And.intro (fun wS hw => by kernel_rfl) (And.intro (fun wS hw => hw.elim fun qs hw => run_loadV rfl rfl (run_loadA (cs := [nI (IntKind.i64.wrap (Int.tmod (IntKind.u64.wrap (atI L0 x60)) 4)), nI 0, nI 0, nI 0, nI x125, nI (-1), nI (-1), nI (-1), nI (-1)]) rfl rfl (by kernel_rfl) (blk_cells hw 0 rfl rfl))) trivial))))))) (fun _ _ _ _ _ h => h) ⟨_, hS142⟩ (l' := [(73, .agg #[nI (IntKind.i64.wrap (Int.tmod (IntKind.u64.wrap (atI L0 x60)) 4)), nI 0, nI 0, nI 0, nI x125, nI (-1), nI (-1), nI (-1), nI (-1)]), (72, nI x102), (71, nP z26 0), (69, .agg #[nI (IntKind.i64.wrap (Int.tmod (IntKind.u64.wrap (atI L0 x60)) 4)), nI 0, nI 0, nI 0, nI x125, nI (-1), nI (-1), nI (-1), nI (-1)]), (68, nI x102), (67, nP z14 0), (12, nI x102), (45, .bool true), (44, nI x60), (10, nI x60), (9, nP (w37.heap.size) 0), (7, nP z26 0), (5, nP z14 0), (0, .slice (some ⟨g85, 0, none⟩) L0.length c2), (1, nI i1)]) (by kernel_rfl) ?_
     intro a144 hF143; clear hF141
     have hS145 := hS142.pick2
     clear hS142
     refine any_call 3 #[true, true, true, true, true, true, true, false, false] 22 #[nP z14 0, nI x102, .agg #[nI (IntKind.i64.wrap (Int.tmod (IntKind.u64.wrap (atI L0 x60)) 4)), nI 0, nI 0, nI 0, nI x125, nI (-1), nI (-1), nI (-1), nI (-1)]] hF143 rfl (by kernel_rfl) rfl rfl (by kernel_rfl) rfl (by kernel_rfl) (fun w => by kernel_rfl) (by kernel_rfl) ?_
     obtain ⟨x146, s147, hx148, hm149⟩ := bind2E hm129; clear hm129
     refine (p_PutChan hS145 hx148).mono ?_
     rintro _ w150 ⟨rfl, hS152⟩; clear hS145
     refine ⟨⟨_, hS152.pick1⟩, ?_⟩
     intro a151 hF153; clear hF143
     have hS154 := hS152.pick3
     clear hS152
     refine any_call 7 #[true, true, true, true, true, true, true, true, false] 57 #[nP z26 0, nI x102, .agg #[nI (IntKind.i64.wrap (Int.tmod (IntKind.u64.wrap (atI L0 x60)) 4)), nI 0, nI 0, nI 0, nI x125, nI (-1), nI (-1), nI (-1), nI (-1)]] hF153 rfl (by kernel_rfl) rfl rfl (by kernel_rfl) rfl (by kernel_rfl) (fun w => by kernel_rfl) (by kernel_rfl) ?_
     obtain ⟨x155, s156, hx157, hm158⟩ := bind2E hm149; clear hm149
     refine (ref11_PutChan.ok hS154 hx157).mono ?_
     rintro _ w159 ⟨rfl, hS161⟩; clear hS154
     refine ⟨⟨_, hS161.pick2⟩, ?_⟩
     intro a160 hF162; clear hF153
     refine any_many 1 [(8, some (.bool (x146 != x155)))] [0, 1, 5, 7, 9, 10, 12, 44, 45, 75] #[true, true, true, true, true, true, true, true, true] (by rfl) hF162 (by kernel_rfl) (by kernel_rfl) (by exact (And.intro (fun wS hw => by kernel_rfl) trivial)) (fun _ _ _ _ _ h => h) ⟨_, hS161.pick2⟩ (l' := [(75, .bool (x146 != x155)), (12, nI x102), (45, .bool true), (44, nI x60), (10, nI x60), (9, nP (w37.heap.size) 0), (7, nP z26 0), (5, nP z14 0), (0, .slice (some ⟨g85, 0, none⟩) L0.length c2), (1, nI i1)]) (by kernel_rfl) ?_
     intro a164 hF163; clear hF162
     refine any_done (by kernel_rfl) ?_
     have hS165 := hS161.pick2.drop
     clear hS161
     refine thenN ?_
     cases hc166 : (x146 != x155) with
     | true =>
      rw [hc166] at hF163
      rw [hc166] at hm158
      have hm167 := ifT hm158; clear hm158
      refine ev_condT hF163 rfl rfl ?_
      refine wp_seq (wp_region_lit ?_)
      refine ev_runK 1 hF163 [4] (l' := [(4, .pointer none)]) (w' := w159) (by kernel_rfl) ?_
      intro a169 hF168; clear hF163
      refine wpList_nil ?_
      have hS170 := hS165.drop.drop.drop.drop.drop
      clear hS165
      refine thenN ?_
      refine wp_ret ?_
      refine thenR ?_
      refine blockR ?_
      refine thenR (thenR ?_)
      refine blockR ?_
      refine thenR ?_
      cases hm167
     | false =>
      rw [hc166] at hF163
      rw [hc166] at hm158
      have hm171 := ifF hm158; clear hm158
      refine ev_condF hF163 rfl rfl ?_
      refine wp_skip ?_
      have hF172 := hF163.keep [0, 1, 5, 7, 9, 10, 12, 44, 45]
      clear hF163
      refine thenN (wp_region_lit ?_)
      refine ev_runs 4 hF172 (l' := [(79, nP (w37.heap.size) 2), (78, nP (w37.heap.size) 0), (77, nP (w37.heap.size) 0), (76, nP (w37.heap.size) 0), (12, nI x102), (45, .bool true), (44, nI x60), (10, nI x60), (9, nP (w37.heap.size) 0), (7, nP z26 0), (5, nP z14 0), (0, .slice (some ⟨g85, 0, none⟩) L0.length c2), (1, nI i1)]) (w' := w159) (by kernel_rfl) ?_
      intro a174 hF173; clear hF172
      refine ev_one (.slice p68 L56.length c69) w159 hF173 (by kernel_rfl) rfl (by kernel_rfl) (run_loadV rfl rfl (run_loadS rfl rfl (hS165.cell 2 rfl 2 rfl))) (l' := [(80, .slice p68 L56.length c69), (79, nP (w37.heap.size) 2), (78, nP (w37.heap.size) 0), (77, nP (w37.heap.size) 0), (76, nP (w37.heap.size) 0), (12, nI x102), (45, .bool true), (44, nI x60), (10, nI x60), (9, nP (w37.heap.size) 0), (7, nP z26 0), (5, nP z14 0), (0, .slice (some ⟨g85, 0, none⟩) L0.length c2), (1, nI i1)]) (by kernel_rfl) ?_
      intro a176 hF175; clear hF173
      refine ev_runs 2 hF175 (l' := [(82, .slice (some ⟨w159.heap.size, 0, none⟩) 1 1), (81, nI x102), (80, .slice p68 L56.length c69), (79, nP (w37.heap.size) 2), (78, nP (w37.heap.size) 0), (77, nP (w37.heap.size) 0), (76, nP (w37.heap.size) 0), (12, nI x102), (45, .bool true), (44, nI x60), (10, nI x60), (9, nP (w37.heap.size) 0), (7, nP z26 0), (5, nP z14 0), (0, .slice (some ⟨g85, 0, none⟩) L0.length c2), (1, nI i1)]) (w' := w159.alloc (.cells #[nI x102] 3)) (by kernel_rfl) ?_
      intro a178 hF177; clear hF175
      have hS179 := hS165.pick3
      clear hS165
      obtain ⟨L180, hx181, hm182⟩ := bind1E hm171; clear hm171
      refine ev_push 83 (.tmp 80) (.tmp 82) hF177 rfl rfl rfl rfl rfl rfl rfl rfl hS179 hx181 ?_
      intro g183 c184 w185 a186 hS187 hF188; clear hF177 hS179
      refine ev_runs 2 hF188 (l' := [(85, nP (w37.heap.size) 2), (84, nP (w37.heap.size) 0), (83, .slice (some ⟨g183, 0, none⟩) L180.length c184), (82, .slice (some ⟨w159.heap.size, 0, none⟩) 1 1), (81, nI x102), (80, .slice p68 L56.length c69), (79, nP (w37.heap.size) 2), (78, nP (w37.heap.size) 0), (77, nP (w37.heap.size) 0), (76, nP (w37.heap.size) 0), (12, nI x102), (45, .bool true), (44, nI x60), (10, nI x60), (9, nP (w37.heap.size) 0), (7, nP z26 0), (5, nP z14 0), (0, .slice (some ⟨g85, 0, none⟩) L0.length c2), (1, nI i1)]) (w' := w185) (by kernel_rfl) ?_
      intro a190 hF189; clear hF188
      have hS191 := hS187.pick3
      clear hS187
      refine ev_store (.slice (some ⟨g183, 0, none⟩) L180.length c184) #[nP z14 0, nP z26 0, .slice (some ⟨g183, 0, none⟩) L180.length c184, .slice none 0 0] hF189 (by kernel_rfl) rfl rfl rfl rfl (by kernel_rfl) hS191 (by kernel_rfl) (by kernel_rfl) (by kernel_rfl) (l' := [(85, nP (w37.heap.size) 2), (84, nP (w37.heap.size) 0), (83, .slice (some ⟨g183, 0, none⟩) L180.length c184), (82, .slice (some ⟨w159.heap.size, 0, none⟩) 1 1), (81, nI x102), (80, .slice p68 L56.length c69), (79, nP (w37.heap.size) 2), (78, nP (w37.heap.size) 0), (77, nP (w37.heap.size) 0), (76, nP (w37.heap.size) 0), (12, nI x102), (45, .bool true), (44, nI x60), (10, nI x60), (9, nP (w37.heap.size) 0), (7, nP z26 0), (5, nP z14 0), (0, .slice (some ⟨g85, 0, none⟩) L0.length c2), (1, nI i1)]) (by kernel_rfl) ?_
      intro w192 a193 hS194 hF195; clear hF189 hS191
      refine wpList_nil ?_
      have hF196 := hF195.keep [0, 1, 5, 7, 9, 10, 44, 45]
      clear hF195
      refine blockN ?_
      refine thenN (wp_region_lit ?_)
      refine ev_runK 3 hF196 [0, 1, 5, 7, 9, 10, 44, 45] (l' := [(10, nI (IntKind.i64.wrap (x60 + 1))), (45, .bool true), (44, nI x60), (9, nP (w37.heap.size) 0), (7, nP z26 0), (5, nP z14 0), (0, .slice (some ⟨g85, 0, none⟩) L0.length c2), (1, nI i1)]) (w' := w192) (by kernel_rfl) ?_
      intro a198 hF197; clear hF196
      refine wpList_nil ?_
      have hF199 : Fr 119 a198 [(10, nI (IntKind.i64.wrap (x60 + 1))), (9, nP (w37.heap.size) 0), (7, nP z26 0), (5, nP z14 0), (0, .slice (some ⟨g85, 0, none⟩) L0.length c2), (1, nI i1)] := Fr.re hF197 (by kernel_rfl)
      clear hF197
      have hS200 := hS194.pick5.pick3.pick4.pick3.pick4.pick5
      clear hS194
      exact thenN ⟨k61, Nat.lt_succ_self _, .slice (some ⟨g183, 0, none⟩) L180.length c184, L180, s147, s156, IntKind.i64.wrap (x60 + 1), hF199, hS200, hm182⟩
    | false =>
     rw [hc119] at hF117
     rw [hc119] at hm106
     have hm201 := ifF hm106; clear hm106
     refine ev_condF hF117 rfl rfl ?_
     refine wp_skip ?_
     have hF202 := hF117.keep [0, 1, 5, 7, 9, 10, 11, 12, 44, 45]
     clear hF117
     refine thenN (wp_seq (wp_seq ?_))
     -- draws
     have hS203 := hS109.pick5
     clear hS109
     have hS204 := hS203.drew; clear hS203
     refine any_start (fun wS => ∃ qs, St w0 F0 (BlkP (w63.heap.size) 37 #[nI (IntKind.i64.wrap (Int.tmod (IntKind.u64.wrap (atI L0 x60)) 4)), nI 0, nI 0, nI 0, nI (-1), nI (-1), nI (-1), nI (-1), nI (-1)] :: qs) wS) 9 #[false, false, false, false, false, false, false, false, false] (by kernel_rfl) (by kernel_rfl) (by kernel_rfl) ?_
     refine any_many 6 [(0, some (nP z14 0)), (1, some (nI x102)), (2, some (.agg #[nI (IntKind.i64.wrap (Int.tmod (IntKind.u64.wrap (atI L0 x60)) 4)), nI 0, nI 0, nI 0, nI (-1), nI (-1), nI (-1), nI (-1), nI (-1)])), (4, some (nP z26 0)), (5, some (nI x102)), (6, some (.agg #[nI (IntKind.i64.wrap (Int.tmod (IntKind.u64.wrap (atI L0 x60)) 4)), nI 0, nI 0, nI 0, nI (-1), nI (-1), nI (-1), nI (-1), nI (-1)]))] [0, 1, 5, 7, 9, 10, 12, 44, 45, 67, 68, 69, 70, 71, 72, 73, 74, 75] #[true, true, true, false, true, true, true, false, false] (by rfl) hF202 (by kernel_rfl) (by kernel_rfl) (by exact (And.intro (fun wS hw => by kernel_rfl) (And.intro (fun wS hw => by kernel_rfl) (And.intro (fun wS hw => hw.elim fun qs hw => run_loadV rfl rfl (run_loadA (cs := [nI (IntKind.i64.wrap (Int.tmod (IntKind.u64.wrap (atI L0 x60)) 4)), nI 0, nI 0, nI 0, nI (-1), nI (-1), nI (-1), nI (-1), nI (-1)]) rfl rfl (by kernel_rfl) (blk_cells hw 0 rfl rfl))) (And.intro (fun wS hw => by kernel_rfl) (And.intro (fun wS hw => by kernel_rfl) (And.intro (fun wS hw => hw.elim fun qs hw => run_loadV rfl rfl (run_loadA (cs := [nI (IntKind.i64.wrap (Int.tmod (IntKind.u64.wrap (atI L0 x60)) 4)), nI 0, nI 0, nI 0, nI (-1), nI (-1), nI (-1), nI (-1), nI (-1)]) rfl rfl (by kernel_rfl) (blk_cells hw 0 rfl rfl))) trivial))))))) (fun _ _ _ _ _ h => h) ⟨_, hS204⟩ (l' := [(73, .agg #[nI (IntKind.i64.wrap (Int.tmod (IntKind.u64.wrap (atI L0 x60)) 4)), nI 0, nI 0, nI 0, nI (-1), nI (-1), nI (-1), nI (-1), nI (-1)]), (72, nI x102), (71, nP z26 0), (69, .agg #[nI (IntKind.i64.wrap (Int.tmod (IntKind.u64.wrap (atI L0 x60)) 4)), nI 0, nI 0, nI 0, nI (-1), nI (-1), nI (-1), nI (-1), nI (-1)]), (68, nI x102), (67, nP z14 0), (12, nI x102), (45, .bool true), (44, nI x60), (10, nI x60), (9, nP (w37.heap.size) 0), (7, nP z26 0), (5, nP z14 0), (0, .slice (some ⟨g85, 0, none⟩) L0.length c2), (1, nI i1)]) (by kernel_rfl) ?_
     intro a206 hF205; clear hF202
     have hS207 := hS204.pick2
     clear hS204
     refine any_call 3 #[true, true, true, true, true, true, true, false, false] 22 #[nP z14 0, nI x102, .agg #[nI (IntKind.i64.wrap (Int.tmod (IntKind.u64.wrap (atI L0 x60)) 4)), nI 0, nI 0, nI 0, nI (-1), nI (-1), nI (-1), nI (-1), nI (-1)]] hF205 rfl (by kernel_rfl) rfl rfl (by kernel_rfl) rfl (by kernel_rfl) (fun w => by kernel_rfl) (by kernel_rfl) ?_
     obtain ⟨x208, s209, hx210, hm211⟩ := bind2E hm201; clear hm201
     refine (p_PutChan hS207 hx210).mono ?_
     rintro _ w212 ⟨rfl, hS214⟩; clear hS207
     refine ⟨⟨_, hS214.pick1⟩, ?_⟩
     intro a213 hF215; clear hF205
     have hS216 := hS214.pick3
     clear hS214
     refine any_call 7 #[true, true, true, true, true, true, true, true, false] 57 #[nP z26 0, nI x102, .agg #[nI (IntKind.i64.wrap (Int.tmod (IntKind.u64.wrap (atI L0 x60)) 4)), nI 0, nI 0, nI 0, nI (-1), nI (-1), nI (-1), nI (-1), nI (-1)]] hF215 rfl (by kernel_rfl) rfl rfl (by kernel_rfl) rfl (by kernel_rfl) (fun w => by kernel_rfl) (by kernel_rfl) ?_
     obtain ⟨x217, s218, hx219, hm220⟩ := bind2E hm211; clear hm211
     refine (ref11_PutChan.ok hS216 hx219).mono ?_
     rintro _ w221 ⟨rfl, hS223⟩; clear hS216
     refine ⟨⟨_, hS223.pick2⟩, ?_⟩
     intro a222 hF224; clear hF215
     refine any_many 1 [(8, some (.bool (x208 != x217)))] [0, 1, 5, 7, 9, 10, 12, 44, 45, 75] #[true, true, true, true, true, true, true, true, true] (by rfl) hF224 (by kernel_rfl) (by kernel_rfl) (by exact (And.intro (fun wS hw => by kernel_rfl) trivial)) (fun _ _ _ _ _ h => h) ⟨_, hS223.pick2⟩ (l' := [(75, .bool (x208 != x217)), (12, nI x102), (45, .bool true), (44, nI x60), (10, nI x60), (9, nP (w37.heap.size) 0), (7, nP z26 0), (5, nP z14 0), (0, .slice (some ⟨g85, 0, none⟩) L0.length c2), (1, nI i1)]) (by kernel_rfl) ?_
     intro a226 hF225; clear hF224
     refine any_done (by kernel_rfl) ?_
     have hS227 := hS223.pick2.drop
     clear hS223
     refine thenN ?_
     cases hc228 : (x208 != x217) with
     | true =>
      rw [hc228] at hF225
      rw [hc228] at hm220
      have hm229 := ifT hm220; clear hm220
      refine ev_condT hF225 rfl rfl ?_
      refine wp_seq (wp_region_lit ?_)
      refine ev_runK 1 hF225 [4] (l' := [(4, .pointer none)]) (w' := w221) (by kernel_rfl) ?_
      intro a231 hF230; clear hF225
      refine wpList_nil ?_
      have hS232 := hS227.drop.drop.drop.drop.drop
      clear hS227
      refine thenN ?_
      refine wp_ret ?_
      refine thenR ?_
      refine blockR ?_
      refine thenR (thenR ?_)
      refine blockR ?_
      refine thenR ?_
      cases hm229
     | false =>
      rw [hc228] at hF225
      rw [hc228] at hm220
      have hm233 := ifF hm220; clear hm220
      refine ev_condF hF225 rfl rfl ?_
      refine wp_skip ?_
      have hF234 := hF225.keep [0, 1, 5, 7, 9, 10, 12, 44, 45]
      clear hF225
      refine thenN (wp_region_lit ?_)
      refine ev_runs 4 hF234 (l' := [(79, nP (w37.heap.size) 2), (78, nP (w37.heap.size) 0), (77, nP (w37.heap.size) 0), (76, nP (w37.heap.size) 0), (12, nI x102), (45, .bool true), (44, nI x60), (10, nI x60), (9, nP (w37.heap.size) 0), (7, nP z26 0), (5, nP z14 0), (0, .slice (some ⟨g85, 0, none⟩) L0.length c2), (1, nI i1)]) (w' := w221) (by kernel_rfl) ?_
      intro a236 hF235; clear hF234
      refine ev_one (.slice p68 L56.length c69) w221 hF235 (by kernel_rfl) rfl (by kernel_rfl) (run_loadV rfl rfl (run_loadS rfl rfl (hS227.cell 2 rfl 2 rfl))) (l' := [(80, .slice p68 L56.length c69), (79, nP (w37.heap.size) 2), (78, nP (w37.heap.size) 0), (77, nP (w37.heap.size) 0), (76, nP (w37.heap.size) 0), (12, nI x102), (45, .bool true), (44, nI x60), (10, nI x60), (9, nP (w37.heap.size) 0), (7, nP z26 0), (5, nP z14 0), (0, .slice (some ⟨g85, 0, none⟩) L0.length c2), (1, nI i1)]) (by kernel_rfl) ?_
      intro a238 hF237; clear hF235
      refine ev_runs 2 hF237 (l' := [(82, .slice (some ⟨w221.heap.size, 0, none⟩) 1 1), (81, nI x102), (80, .slice p68 L56.length c69), (79, nP (w37.heap.size) 2), (78, nP (w37.heap.size) 0), (77, nP (w37.heap.size) 0), (76, nP (w37.heap.size) 0), (12, nI x102), (45, .bool true), (44, nI x60), (10, nI x60), (9, nP (w37.heap.size) 0), (7, nP z26 0), (5, nP z14 0), (0, .slice (some ⟨g85, 0, none⟩) L0.length c2), (1, nI i1)]) (w' := w221.alloc (.cells #[nI x102] 3)) (by kernel_rfl) ?_
      intro a240 hF239; clear hF237
      have hS241 := hS227.pick3
      clear hS227
      obtain ⟨L242, hx243, hm244⟩ := bind1E hm233; clear hm233
      refine ev_push 83 (.tmp 80) (.tmp 82) hF239 rfl rfl rfl rfl rfl rfl rfl rfl hS241 hx243 ?_
      intro g245 c246 w247 a248 hS249 hF250; clear hF239 hS241
      refine ev_runs 2 hF250 (l' := [(85, nP (w37.heap.size) 2), (84, nP (w37.heap.size) 0), (83, .slice (some ⟨g245, 0, none⟩) L242.length c246), (82, .slice (some ⟨w221.heap.size, 0, none⟩) 1 1), (81, nI x102), (80, .slice p68 L56.length c69), (79, nP (w37.heap.size) 2), (78, nP (w37.heap.size) 0), (77, nP (w37.heap.size) 0), (76, nP (w37.heap.size) 0), (12, nI x102), (45, .bool true), (44, nI x60), (10, nI x60), (9, nP (w37.heap.size) 0), (7, nP z26 0), (5, nP z14 0), (0, .slice (some ⟨g85, 0, none⟩) L0.length c2), (1, nI i1)]) (w' := w247) (by kernel_rfl) ?_
      intro a252 hF251; clear hF250
      have hS253 := hS249.pick3
      clear hS249
      refine ev_store (.slice (some ⟨g245, 0, none⟩) L242.length c246) #[nP z14 0, nP z26 0, .slice (some ⟨g245, 0, none⟩) L242.length c246, .slice none 0 0] hF251 (by kernel_rfl) rfl rfl rfl rfl (by kernel_rfl) hS253 (by kernel_rfl) (by kernel_rfl) (by kernel_rfl) (l' := [(85, nP (w37.heap.size) 2), (84, nP (w37.heap.size) 0), (83, .slice (some ⟨g245, 0, none⟩) L242.length c246), (82, .slice (some ⟨w221.heap.size, 0, none⟩) 1 1), (81, nI x102), (80, .slice p68 L56.length c69), (79, nP (w37.heap.size) 2), (78, nP (w37.heap.size) 0), (77, nP (w37.heap.size) 0), (76, nP (w37.heap.size) 0), (12, nI x102), (45, .bool true), (44, nI x60), (10, nI x60), (9, nP (w37.heap.size) 0), (7, nP z26 0), (5, nP z14 0), (0, .slice (some ⟨g85, 0, none⟩) L0.length c2), (1, nI i1)]) (by kernel_rfl) ?_
      intro w254 a255 hS256 hF257; clear hF251 hS253
      refine wpList_nil ?_
      have hF258 := hF257.keep [0, 1, 5, 7, 9, 10, 44, 45]
      clear hF257
      refine blockN ?_
      refine thenN (wp_region_lit ?_)
      refine ev_runK 3 hF258 [0, 1, 5, 7, 9, 10, 44, 45] (l' := [(10, nI (IntKind.i64.wrap (x60 + 1))), (45, .bool true), (44, nI x60), (9, nP (w37.heap.size) 0), (7, nP z26 0), (5, nP z14 0), (0, .slice (some ⟨g85, 0, none⟩) L0.length c2), (1, nI i1)]) (w' := w254) (by kernel_rfl) ?_
      intro a260 hF259; clear hF258
      refine wpList_nil ?_
      have hF261 : Fr 119 a260 [(10, nI (IntKind.i64.wrap (x60 + 1))), (9, nP (w37.heap.size) 0), (7, nP z26 0), (5, nP z14 0), (0, .slice (some ⟨g85, 0, none⟩) L0.length c2), (1, nI i1)] := Fr.re hF259 (by kernel_rfl)
      clear hF259
      have hS262 := hS256.pick5.pick3.pick4.pick3.pick4.pick5
      clear hS256
      exact thenN ⟨k61, Nat.lt_succ_self _, .slice (some ⟨g245, 0, none⟩) L242.length c246, L242, s209, s218, IntKind.i64.wrap (x60 + 1), hF261, hS262, hm244⟩
   | false =>
    rw [hc78] at hF76
    rw [hc78] at hm75
    have hm263 := ifF hm75; clear hm75
    refine ev_condF hF76 rfl rfl ?_
    refine wp_exit ?_
    refine thenE ?_
    refine thenE ?_
    refine blockE ?_
    refine thenN (wp_seq (wp_seq (wp_region_lit ?_)))
    refine ev_runK 1 hF76 [1, 5, 7, 9, 13] (l' := [(13, nI 0), (9, nP (w37.heap.size) 0), (7, nP z26 0), (5, nP z14 0), (1, nI i1)]) (w' := w63) (by kernel_rfl) ?_
    intro a265 hF264; clear hF76
    refine wpList_nil (thenN ?_)
    refine wp_block ?_
    refine wp_loop_ghost (fun kI aI wI => ∃ (v267 : Value) (L266 : List Int) (s268 : HSt) (s269 : HSt) (x270 : Int), Fr 119 aI [(13, nI x270), (9, nP (w37.heap.size) 0), (7, nP z26 0), (5, nP z14 0), (1, nI i1)] ∧ St w0 F0 (RowP (v267) L266 :: RowP (.slice p68 L56.length c69) L56 :: BlkP (w37.heap.size) 52 #[nP z14 0, nP z26 0, .slice p68 L56.length c69, v267] :: HeapP z14 z15 s268 :: RHeapP z26 z27 z28 z29 z30 s269 :: RowP (.slice p1 L0.length c2) L0 :: ps) wI ∧ law13_made.l2 i1 k L56 kI L266 s268 s269 x270 = some r0) k ⟨.slice none 0 0, [], s58, s59, 0, hF264, hS65, hm263⟩ ?_
    rintro k271 a272 w273 ⟨v267, L266, s268, s269, x270, hF274, hS275, hm276⟩
    clear hF264 hS65 hm263
    cases k271 with
    | zero => cases hm276
    | succ k271 =>
     have hm277 : law13_made.l2b i1 k L56 (law13_made.l2 i1 k L56 k271) L266 s268 s269 x270 = some r0 := hm276
     clear hm276
     unfold law13_made.l2b at hm277
     obtain ⟨hl281, p278, c279, rfl, hp280⟩ := St.shape hS275 0 rfl
     refine wp_seq (wp_seq (wp_region_lit ?_))
     refine ev_runK 7 hF274 [1, 5, 7, 9, 13, 92] (l' := [(92, .bool (decide (x270 < (IntKind.i64.wrap (1 + (IntKind.i64.wrap (Int.tmod (IntKind.u64.wrap i1) 6))))))), (13, nI x270), (9, nP (w37.heap.size) 0), (7, nP z26 0), (5, nP z14 0), (1, nI i1)]) (w' := w273) (by kernel_rfl) ?_
     intro a283 hF282; clear hF274
     refine wpList_nil (thenN ?_)
     cases hc284 : (decide (x270 < (IntKind.i64.wrap (1 + (IntKind.i64.wrap (Int.tmod (IntKind.u64.wrap i1) 6)))))) with
     | true =>
      rw [hc284] at hF282
      rw [hc284] at hm277
      have hm285 := ifT hm277; clear hm277
      refine ev_condT hF282 rfl rfl ?_
      refine wp_skip ?_
      have hF286 := hF282.keep [1, 5, 7, 9, 13]
      clear hF282
      refine thenN (wp_seq ?_)
      refine wp_block ?_
      refine wp_seq (wp_region_lit ?_)
      refine ev_runs 1 hF286 (l' := [(95, nP (w37.heap.size) 0), (13, nI x270), (9, nP (w37.heap.size) 0), (7, nP z26 0), (5, nP z14 0), (1, nI i1)]) (w' := w273) (by kernel_rfl) ?_
      intro a288 hF287; clear hF286
      have hS289 := hS275.pick1.pick4.pick4.pick4
      clear hS275
      refine ev_call 71 #[nP (w37.heap.size) 0, nI 4, nI 10] hF287 rfl rfl (by kernel_rfl) rfl (by kernel_rfl) (fun w => by kernel_rfl) ?_
      obtain ⟨x290, s291, s292, hx293, hm294⟩ := bind3E hm285; clear hm285
      refine (law13_alloc.ok hS289 hx293).mono ?_
      rintro _ w295 ⟨rfl, hS297⟩ a296 hF298; clear hF287 hS289
      refine ev_runK 1 hF298 [1, 5, 7, 9, 13, 14] (l' := [(14, nI x290), (13, nI x270), (9, nP (w37.heap.size) 0), (7, nP z26 0), (5, nP z14 0), (1, nI i1)]) (w' := w295) (by kernel_rfl) ?_
      intro a300 hF299; clear hF298
      refine wpList_nil (thenN (wp_seq (wp_region_lit ?_)))
      refine ev_runs 3 hF299 (l' := [(15, nP (w295.heap.size) 0), (98, .agg #[nI x270, nI 0, nI 0, nI 0, nI 0, nI 0, nI 0, nI 0, nI 0, nI (-1)]), (97, nI x270), (14, nI x290), (13, nI x270), (9, nP (w37.heap.size) 0), (7, nP z26 0), (5, nP z14 0), (1, nI i1)]) (w' := w295.alloc (.cells #[nI 0, nI 0, nI 0, nI 0, nI 0, nI 0, nI 0, nI 0, nI 0, nI 0] 70)) (by kernel_rfl) ?_
      intro a302 hF301; clear hF299
      have hS304 : St w0 F0 (BlkP (w295.heap.size) 70 #[nI 0, nI 0, nI 0, nI 0, nI 0, nI 0, nI 0, nI 0, nI 0, nI 0] :: BlkP (w37.heap.size) 52 #[nP z14 0, nP z26 0, .slice p68 L56.length c69, .slice p278 L266.length c279] :: HeapP z14 z15 s291 :: RHeapP z26 z27 z28 z29 z30 s292 :: RowP (.slice p68 L56.length c69) L56 :: RowP (.slice p278 L266.length c279) L266 :: RowP (.slice p1 L0.length c2) L0 :: ps) (w295.alloc (.cells #[nI 0, nI 0, nI 0, nI 0, nI 0, nI 0, nI 0, nI 0, nI 0, nI 0] 70)) := St.new hS297 #[nI 0, nI 0, nI 0, nI 0, nI 0, nI 0, nI 0, nI 0, nI 0, nI 0] 70
      clear hS297
      refine ev_store (.agg #[nI x270, nI 0, nI 0, nI 0, nI 0, nI 0, nI 0, nI 0, nI 0, nI (-1)]) #[nI x270, nI 0, nI 0, nI 0, nI 0, nI 0, nI 0, nI 0, nI 0, nI (-1)] hF301 (by kernel_rfl) rfl rfl rfl rfl (by kernel_rfl) hS304 (by kernel_rfl) (by kernel_rfl) (by kernel_rfl) (l' := [(15, nP (w295.heap.size) 0), (98, .agg #[nI x270, nI 0, nI 0, nI 0, nI 0, nI 0, nI 0, nI 0, nI 0, nI (-1)]), (97, nI x270), (14, nI x290), (13, nI x270), (9, nP (w37.heap.size) 0), (7, nP z26 0), (5, nP z14 0), (1, nI i1)]) (by kernel_rfl) ?_
      intro w305 a306 hS307 hF308; clear hF301 hS304
      refine wpList_nil ?_
      have hF309 := hF308.keep [1, 5, 7, 9, 13, 14, 15]
      clear hF308
      refine thenN (wp_seq (wp_seq ?_))
      -- draws
      have hS310 := hS307.drew; clear hS307
      refine any_start (fun wS => ∃ qs, St w0 F0 (BlkP (w295.heap.size) 70 #[nI x270, nI 0, nI 0, nI 0, nI 0, nI 0, nI 0, nI 0, nI 0, nI (-1)] :: qs) wS) 9 #[false, false, false, false, false, false, false, false, false] (by kernel_rfl) (by kernel_rfl) (by kernel_rfl) ?_
      refine any_many 6 [(0, some (nP z14 0)), (1, some (nI x290)), (2, some (.agg #[nI x270, nI 0, nI 0, nI 0, nI 0, nI 0, nI 0, nI 0, nI 0, nI (-1)])), (4, some (nP z26 0)), (5, some (nI x290)), (6, some (.agg #[nI x270, nI 0, nI 0, nI 0, nI 0, nI 0, nI 0, nI 0, nI 0, nI (-1)]))] [1, 5, 7, 9, 13, 14, 99, 100, 101, 102, 103, 104, 105, 106, 107] #[true, true, true, false, true, true, true, false, false] (by rfl) hF309 (by kernel_rfl) (by kernel_rfl) (by exact (And.intro (fun wS hw => by kernel_rfl) (And.intro (fun wS hw => by kernel_rfl) (And.intro (fun wS hw => hw.elim fun qs hw => run_loadV rfl rfl (run_loadA (cs := [nI x270, nI 0, nI 0, nI 0, nI 0, nI 0, nI 0, nI 0, nI 0, nI (-1)]) rfl rfl (by kernel_rfl) (blk_cells hw 0 rfl rfl))) (And.intro (fun wS hw => by kernel_rfl) (And.intro (fun wS hw => by kernel_rfl) (And.intro (fun wS hw => hw.elim fun qs hw => run_loadV rfl rfl (run_loadA (cs := [nI x270, nI 0, nI 0, nI 0, nI 0, nI 0, nI 0, nI 0, nI 0, nI (-1)]) rfl rfl (by kernel_rfl) (blk_cells hw 0 rfl rfl))) trivial))))))) (fun _ _ _ _ _ h => h) ⟨_, hS310⟩ (l' := [(105, .agg #[nI x270, nI 0, nI 0, nI 0, nI 0, nI 0, nI 0, nI 0, nI 0, nI (-1)]), (104, nI x290), (103, nP z26 0), (101, .agg #[nI x270, nI 0, nI 0, nI 0, nI 0, nI 0, nI 0, nI 0, nI 0, nI (-1)]), (100, nI x290), (99, nP z14 0), (14, nI x290), (13, nI x270), (9, nP (w37.heap.size) 0), (7, nP z26 0), (5, nP z14 0), (1, nI i1)]) (by kernel_rfl) ?_
      intro a312 hF311; clear hF309
      have hS313 := hS310.pick2
      clear hS310
      refine any_call 3 #[true, true, true, true, true, true, true, false, false] 58 #[nP z14 0, nI x290, .agg #[nI x270, nI 0, nI 0, nI 0, nI 0, nI 0, nI 0, nI 0, nI 0, nI (-1)]] hF311 rfl (by kernel_rfl) rfl rfl (by kernel_rfl) rfl (by kernel_rfl) (fun w => by kernel_rfl) (by kernel_rfl) ?_
      obtain ⟨x314, s315, hx316, hm317⟩ := bind2E hm294; clear hm294
      refine (p_PutGor hS313 hx316).mono ?_
      rintro _ w318 ⟨rfl, hS320⟩; clear hS313
      refine ⟨⟨_, hS320.pick1⟩, ?_⟩
      intro a319 hF321; clear hF311
      have hS322 := hS320.pick3
      clear hS320
      refine any_call 7 #[true, true, true, true, true, true, true, true, false] 59 #[nP z26 0, nI x290, .agg #[nI x270, nI 0, nI 0, nI 0, nI 0, nI 0, nI 0, nI 0, nI 0, nI (-1)]] hF321 rfl (by kernel_rfl) rfl rfl (by kernel_rfl) rfl (by kernel_rfl) (fun w => by kernel_rfl) (by kernel_rfl) ?_
      obtain ⟨x323, s324, hx325, hm326⟩ := bind2E hm317; clear hm317
      refine (ref11_PutGor.ok hS322 hx325).mono ?_
      rintro _ w327 ⟨rfl, hS329⟩; clear hS322
      refine ⟨⟨_, hS329.pick2⟩, ?_⟩
      intro a328 hF330; clear hF321
      refine any_many 1 [(8, some (.bool (x314 != x323)))] [1, 5, 7, 9, 13, 14, 107] #[true, true, true, true, true, true, true, true, true] (by rfl) hF330 (by kernel_rfl) (by kernel_rfl) (by exact (And.intro (fun wS hw => by kernel_rfl) trivial)) (fun _ _ _ _ _ h => h) ⟨_, hS329.pick2⟩ (l' := [(107, .bool (x314 != x323)), (14, nI x290), (13, nI x270), (9, nP (w37.heap.size) 0), (7, nP z26 0), (5, nP z14 0), (1, nI i1)]) (by kernel_rfl) ?_
      intro a332 hF331; clear hF330
      refine any_done (by kernel_rfl) ?_
      have hS333 := hS329.pick2.drop
      clear hS329
      refine thenN ?_
      cases hc334 : (x314 != x323) with
      | true =>
       rw [hc334] at hF331
       rw [hc334] at hm326
       have hm335 := ifT hm326; clear hm326
       refine ev_condT hF331 rfl rfl ?_
       refine wp_seq (wp_region_lit ?_)
       refine ev_runK 1 hF331 [4] (l' := [(4, .pointer none)]) (w' := w327) (by kernel_rfl) ?_
       intro a337 hF336; clear hF331
       refine wpList_nil ?_
       have hS338 := hS333.drop.drop.drop.drop.drop
       clear hS333
       refine thenN ?_
       refine wp_ret ?_
       refine thenR ?_
       refine blockR ?_
       refine thenR (thenR ?_)
       refine blockR ?_
       refine thenR ?_
       cases hm335
      | false =>
       rw [hc334] at hF331
       rw [hc334] at hm326
       have hm339 := ifF hm326; clear hm326
       refine ev_condF hF331 rfl rfl ?_
       refine wp_skip ?_
       have hF340 := hF331.keep [1, 5, 7, 9, 13, 14]
       clear hF331
       refine thenN (wp_region_lit ?_)
       refine ev_runs 4 hF340 (l' := [(111, nP (w37.heap.size) 3), (110, nP (w37.heap.size) 0), (109, nP (w37.heap.size) 0), (108, nP (w37.heap.size) 0), (14, nI x290), (13, nI x270), (9, nP (w37.heap.size) 0), (7, nP z26 0), (5, nP z14 0), (1, nI i1)]) (w' := w327) (by kernel_rfl) ?_
       intro a342 hF341; clear hF340
       refine ev_one (.slice p278 L266.length c279) w327 hF341 (by kernel_rfl) rfl (by kernel_rfl) (run_loadV rfl rfl (run_loadS rfl rfl (hS333.cell 2 rfl 3 rfl))) (l' := [(112, .slice p278 L266.length c279), (111, nP (w37.heap.size) 3), (110, nP (w37.heap.size) 0), (109, nP (w37.heap.size) 0), (108, nP (w37.heap.size) 0), (14, nI x290), (13, nI x270), (9, nP (w37.heap.size) 0), (7, nP z26 0), (5, nP z14 0), (1, nI i1)]) (by kernel_rfl) ?_
       intro a344 hF343; clear hF341
       refine ev_runs 2 hF343 (l' := [(114, .slice (some ⟨w327.heap.size, 0, none⟩) 1 1), (113, nI x290), (112, .slice p278 L266.length c279), (111, nP (w37.heap.size) 3), (110, nP (w37.heap.size) 0), (109, nP (w37.heap.size) 0), (108, nP (w37.heap.size) 0), (14, nI x290), (13, nI x270), (9, nP (w37.heap.size) 0), (7, nP z26 0), (5, nP z14 0), (1, nI i1)]) (w' := w327.alloc (.cells #[nI x290] 3)) (by kernel_rfl) ?_
       intro a346 hF345; clear hF343
       have hS347 := hS333.pick4
       clear hS333
       obtain ⟨L348, hx349, hm350⟩ := bind1E hm339; clear hm339
       refine ev_push 115 (.tmp 112) (.tmp 114) hF345 rfl rfl rfl rfl rfl rfl rfl rfl hS347 hx349 ?_
       intro g351 c352 w353 a354 hS355 hF356; clear hF345 hS347
       refine ev_runs 2 hF356 (l' := [(117, nP (w37.heap.size) 3), (116, nP (w37.heap.size) 0), (115, .slice (some ⟨g351, 0, none⟩) L348.length c352), (114, .slice (some ⟨w327.heap.size, 0, none⟩) 1 1), (113, nI x290), (112, .slice p278 L266.length c279), (111, nP (w37.heap.size) 3), (110, nP (w37.heap.size) 0), (109, nP (w37.heap.size) 0), (108, nP (w37.heap.size) 0), (14, nI x290), (13, nI x270), (9, nP (w37.heap.size) 0), (7, nP z26 0), (5, nP z14 0), (1, nI i1)]) (w' := w353) (by kernel_rfl) ?_
       intro a358 hF357; clear hF356
       have hS359 := hS355.pick3
       clear hS355
       refine ev_store (.slice (some ⟨g351, 0, none⟩) L348.length c352) #[nP z14 0, nP z26 0, .slice p68 L56.length c69, .slice (some ⟨g351, 0, none⟩) L348.length c352] hF357 (by kernel_rfl) rfl rfl rfl rfl (by kernel_rfl) hS359 (by kernel_rfl) (by kernel_rfl) (by kernel_rfl) (l' := [(117, nP (w37.heap.size) 3), (116, nP (w37.heap.size) 0), (115, .slice (some ⟨g351, 0, none⟩) L348.length c352), (114, .slice (some ⟨w327.heap.size, 0, none⟩) 1 1), (113, nI x290), (112, .slice p278 L266.length c279), (111, nP (w37.heap.size) 3), (110, nP (w37.heap.size) 0), (109, nP (w37.heap.size) 0), (108, nP (w37.heap.size) 0), (14, nI x290), (13, nI x270), (9, nP (w37.heap.size) 0), (7, nP z26 0), (5, nP z14 0), (1, nI i1)]) (by kernel_rfl) ?_
       intro w360 a361 hS362 hF363; clear hF357 hS359
       refine wpList_nil ?_
       have hF364 := hF363.keep [1, 5, 7, 9, 13]
       clear hF363
       refine blockN ?_
       refine thenN (wp_region_lit ?_)
       refine ev_runK 3 hF364 [1, 5, 7, 9, 13] (l' := [(13, nI (IntKind.i64.wrap (x270 + 1))), (9, nP (w37.heap.size) 0), (7, nP z26 0), (5, nP z14 0), (1, nI i1)]) (w' := w360) (by kernel_rfl) ?_
       intro a366 hF365; clear hF364
       refine wpList_nil ?_
       have hS367 := hS362.pick5.pick3.pick4.pick3.pick5.pick5
       clear hS362
       exact thenN ⟨k271, Nat.lt_succ_self _, .slice (some ⟨g351, 0, none⟩) L348.length c352, L348, s315, s324, IntKind.i64.wrap (x270 + 1), hF365, hS367, hm350⟩
     | false =>
      rw [hc284] at hF282
      rw [hc284] at hm277
      have hm368 := ifF hm277; clear hm277
      refine ev_condF hF282 rfl rfl ?_
      refine wp_exit ?_
      refine thenE ?_
      refine thenE ?_
      refine blockE ?_
      refine thenN (wp_seq (wp_region_lit ?_))
      refine ev_runK 2 hF282 [4] (l' := [(4, nP (w37.heap.size) 0)]) (w' := w273) (by kernel_rfl) ?_
      intro a370 hF369; clear hF282
      refine wpList_nil (thenN ?_)
      refine wp_ret ?_
      have hS371 := hS275.pick1.pick4.pick4.pick4.pick5
      clear hS275
      obtain rfl := Option.some.inj hm368
      refine ev_ret hF369 [4] (nP (w37.heap.size) 0) rfl rfl rfl ?_
      exact ⟨_, _, _, _, _, _, _, _, _, _, rfl, hS371⟩
  | false =>
   rw [hc74] at hF72
   rw [hc74] at hm67
   have hm373 := ifF hm67; clear hm67
   refine ev_runK 3 hF72 [0, 1, 5, 7, 9, 10, 44, 45, 46] (l' := [(46, .bool false), (45, .tuple #[]), (44, .tuple #[]), (10, nI x60), (9, nP (w37.heap.size) 0), (7, nP z26 0), (5, nP z14 0), (0, .slice p1 L0.length c2), (1, nI i1)]) (w' := w63) (by kernel_rfl) ?_
   intro a375 hF374; clear hF72
   refine wpList_nil (thenN ?_)
   refine ev_condF hF374 rfl rfl ?_
   refine wp_exit ?_
   refine thenE ?_
   refine thenE ?_
   refine blockE ?_
   refine thenN (wp_seq (wp_seq (wp_region_lit ?_)))
   refine ev_runK 1 hF374 [1, 5, 7, 9, 13] (l' := [(13, nI 0), (9, nP (w37.heap.size) 0), (7, nP z26 0), (5, nP z14 0), (1, nI i1)]) (w' := w63) (by kernel_rfl) ?_
   intro a377 hF376; clear hF374
   refine wpList_nil (thenN ?_)
   refine wp_block ?_
   refine wp_loop_ghost (fun kI aI wI => ∃ (v379 : Value) (L378 : List Int) (s380 : HSt) (s381 : HSt) (x382 : Int), Fr 119 aI [(13, nI x382), (9, nP (w37.heap.size) 0), (7, nP z26 0), (5, nP z14 0), (1, nI i1)] ∧ St w0 F0 (RowP (v379) L378 :: RowP (.slice p68 L56.length c69) L56 :: BlkP (w37.heap.size) 52 #[nP z14 0, nP z26 0, .slice p68 L56.length c69, v379] :: HeapP z14 z15 s380 :: RHeapP z26 z27 z28 z29 z30 s381 :: RowP (.slice p1 L0.length c2) L0 :: ps) wI ∧ law13_made.l3 i1 k L56 kI L378 s380 s381 x382 = some r0) k ⟨.slice none 0 0, [], s58, s59, 0, hF376, hS65, hm373⟩ ?_
   rintro k383 a384 w385 ⟨v379, L378, s380, s381, x382, hF386, hS387, hm388⟩
   clear hF376 hS65 hm373
   cases k383 with
   | zero => cases hm388
   | succ k383 =>
    have hm389 : law13_made.l3b i1 k L56 (law13_made.l3 i1 k L56 k383) L378 s380 s381 x382 = some r0 := hm388
    clear hm388
    unfold law13_made.l3b at hm389
    obtain ⟨hl393, p390, c391, rfl, hp392⟩ := St.shape hS387 0 rfl
    refine wp_seq (wp_seq (wp_region_lit ?_))
    refine ev_runK 7 hF386 [1, 5, 7, 9, 13, 92] (l' := [(92, .bool (decide (x382 < (IntKind.i64.wrap (1 + (IntKind.i64.wrap (Int.tmod (IntKind.u64.wrap i1) 6))))))), (13, nI x382), (9, nP (w37.heap.size) 0), (7, nP z26 0), (5, nP z14 0), (1, nI i1)]) (w' := w385) (by kernel_rfl) ?_
    intro a395 hF394; clear hF386
    refine wpList_nil (thenN ?_)
    cases hc396 : (decide (x382 < (IntKind.i64.wrap (1 + (IntKind.i64.wrap (Int.tmod (IntKind.u64.wrap i1) 6)))))) with
    | true =>
     rw [hc396] at hF394
     rw [hc396] at hm389
     have hm397 := ifT hm389; clear hm389
     refine ev_condT hF394 rfl rfl ?_
     refine wp_skip ?_
     have hF398 := hF394.keep [1, 5, 7, 9, 13]
     clear hF394
     refine thenN (wp_seq ?_)
     refine wp_block ?_
     refine wp_seq (wp_region_lit ?_)
     refine ev_runs 1 hF398 (l' := [(95, nP (w37.heap.size) 0), (13, nI x382), (9, nP (w37.heap.size) 0), (7, nP z26 0), (5, nP z14 0), (1, nI i1)]) (w' := w385) (by kernel_rfl) ?_
     intro a400 hF399; clear hF398
     have hS401 := hS387.pick1.pick4.pick4.pick4
     clear hS387
     refine ev_call 71 #[nP (w37.heap.size) 0, nI 4, nI 10] hF399 rfl rfl (by kernel_rfl) rfl (by kernel_rfl) (fun w => by kernel_rfl) ?_
     obtain ⟨x402, s403, s404, hx405, hm406⟩ := bind3E hm397; clear hm397
     refine (law13_alloc.ok hS401 hx405).mono ?_
     rintro _ w407 ⟨rfl, hS409⟩ a408 hF410; clear hF399 hS401
     refine ev_runK 1 hF410 [1, 5, 7, 9, 13, 14] (l' := [(14, nI x402), (13, nI x382), (9, nP (w37.heap.size) 0), (7, nP z26 0), (5, nP z14 0), (1, nI i1)]) (w' := w407) (by kernel_rfl) ?_
     intro a412 hF411; clear hF410
     refine wpList_nil (thenN (wp_seq (wp_region_lit ?_)))
     refine ev_runs 3 hF411 (l' := [(15, nP (w407.heap.size) 0), (98, .agg #[nI x382, nI 0, nI 0, nI 0, nI 0, nI 0, nI 0, nI 0, nI 0, nI (-1)]), (97, nI x382), (14, nI x402), (13, nI x382), (9, nP (w37.heap.size) 0), (7, nP z26 0), (5, nP z14 0), (1, nI i1)]) (w' := w407.alloc (.cells #[nI 0, nI 0, nI 0, nI 0, nI 0, nI 0, nI 0, nI 0, nI 0, nI 0] 70)) (by kernel_rfl) ?_
     intro a414 hF413; clear hF411
     have hS416 : St w0 F0 (BlkP (w407.heap.size) 70 #[nI 0, nI 0, nI 0, nI 0, nI 0, nI 0, nI 0, nI 0, nI 0, nI 0] :: BlkP (w37.heap.size) 52 #[nP z14 0, nP z26 0, .slice p68 L56.length c69, .slice p390 L378.length c391] :: HeapP z14 z15 s403 :: RHeapP z26 z27 z28 z29 z30 s404 :: RowP (.slice p68 L56.length c69) L56 :: RowP (.slice p390 L378.length c391) L378 :: RowP (.slice p1 L0.length c2) L0 :: ps) (w407.alloc (.cells #[nI 0, nI 0, nI 0, nI 0, nI 0, nI 0, nI 0, nI 0, nI 0, nI 0] 70)) := St.new hS409 #[nI 0, nI 0, nI 0, nI 0, nI 0, nI 0, nI 0, nI 0, nI 0, nI 0] 70
     clear hS409
     refine ev_store (.agg #[nI x382, nI 0, nI 0, nI 0, nI 0, nI 0, nI 0, nI 0, nI 0, nI (-1)]) #[nI x382, nI 0, nI 0, nI 0, nI 0, nI 0, nI 0, nI 0, nI 0, nI (-1)] hF413 (by kernel_rfl) rfl rfl rfl rfl (by kernel_rfl) hS416 (by kernel_rfl) (by kernel_rfl) (by kernel_rfl) (l' := [(15, nP (w407.heap.size) 0), (98, .agg #[nI x382, nI 0, nI 0, nI 0, nI 0, nI 0, nI 0, nI 0, nI 0, nI (-1)]), (97, nI x382), (14, nI x402), (13, nI x382), (9, nP (w37.heap.size) 0), (7, nP z26 0), (5, nP z14 0), (1, nI i1)]) (by kernel_rfl) ?_
     intro w417 a418 hS419 hF420; clear hF413 hS416
     refine wpList_nil ?_
     have hF421 := hF420.keep [1, 5, 7, 9, 13, 14, 15]
     clear hF420
     refine thenN (wp_seq (wp_seq ?_))
     -- draws
     have hS422 := hS419.drew; clear hS419
     refine any_start (fun wS => ∃ qs, St w0 F0 (BlkP (w407.heap.size) 70 #[nI x382, nI 0, nI 0, nI 0, nI 0, nI 0, nI 0, nI 0, nI 0, nI (-1)] :: qs) wS) 9 #[false, false, false, false, false, false, false, false, false] (by kernel_rfl) (by kernel_rfl) (by kernel_rfl) ?_
     refine any_many 6 [(0, some (nP z14 0)), (1, some (nI x402)), (2, some (.agg #[nI x382, nI 0, nI 0, nI 0, nI 0, nI 0, nI 0, nI 0, nI 0, nI (-1)])), (4, some (nP z26 0)), (5, some (nI x402)), (6, some (.agg #[nI x382, nI 0, nI 0, nI 0, nI 0, nI 0, nI 0, nI 0, nI 0, nI (-1)]))] [1, 5, 7, 9, 13, 14, 99, 100, 101, 102, 103, 104, 105, 106, 107] #[true, true, true, false, true, true, true, false, false] (by rfl) hF421 (by kernel_rfl) (by kernel_rfl) (by exact (And.intro (fun wS hw => by kernel_rfl) (And.intro (fun wS hw => by kernel_rfl) (And.intro (fun wS hw => hw.elim fun qs hw => run_loadV rfl rfl (run_loadA (cs := [nI x382, nI 0, nI 0, nI 0, nI 0, nI 0, nI 0, nI 0, nI 0, nI (-1)]) rfl rfl (by kernel_rfl) (blk_cells hw 0 rfl rfl))) (And.intro (fun wS hw => by kernel_rfl) (And.intro (fun wS hw => by kernel_rfl) (And.intro (fun wS hw => hw.elim fun qs hw => run_loadV rfl rfl (run_loadA (cs := [nI x382, nI 0, nI 0, nI 0, nI 0, nI 0, nI 0, nI 0, nI 0, nI (-1)]) rfl rfl (by kernel_rfl) (blk_cells hw 0 rfl rfl))) trivial))))))) (fun _ _ _ _ _ h => h) ⟨_, hS422⟩ (l' := [(105, .agg #[nI x382, nI 0, nI 0, nI 0, nI 0, nI 0, nI 0, nI 0, nI 0, nI (-1)]), (104, nI x402), (103, nP z26 0), (101, .agg #[nI x382, nI 0, nI 0, nI 0, nI 0, nI 0, nI 0, nI 0, nI 0, nI (-1)]), (100, nI x402), (99, nP z14 0), (14, nI x402), (13, nI x382), (9, nP (w37.heap.size) 0), (7, nP z26 0), (5, nP z14 0), (1, nI i1)]) (by kernel_rfl) ?_
     intro a424 hF423; clear hF421
     have hS425 := hS422.pick2
     clear hS422
     refine any_call 3 #[true, true, true, true, true, true, true, false, false] 58 #[nP z14 0, nI x402, .agg #[nI x382, nI 0, nI 0, nI 0, nI 0, nI 0, nI 0, nI 0, nI 0, nI (-1)]] hF423 rfl (by kernel_rfl) rfl rfl (by kernel_rfl) rfl (by kernel_rfl) (fun w => by kernel_rfl) (by kernel_rfl) ?_
     obtain ⟨x426, s427, hx428, hm429⟩ := bind2E hm406; clear hm406
     refine (p_PutGor hS425 hx428).mono ?_
     rintro _ w430 ⟨rfl, hS432⟩; clear hS425
     refine ⟨⟨_, hS432.pick1⟩, ?_⟩
     intro a431 hF433; clear hF423
     have hS434 := hS432.pick3
     clear hS432
     refine any_call 7 #[true, true, true, true, true, true, true, true, false] 59 #[nP z26 0, nI x402, .agg #[nI x382, nI 0, nI 0, nI 0, nI 0, nI 0, nI 0, nI 0, nI 0, nI (-1)]] hF433 rfl (by kernel_rfl) rfl rfl (by kernel_rfl) rfl (by kernel_rfl) (fun w => by kernel_rfl) (by kernel_rfl) ?_
     obtain ⟨x435, s436, hx437, hm438⟩ := bind2E hm429; clear hm429
     refine (ref11_PutGor.ok hS434 hx437).mono ?_
     rintro _ w439 ⟨rfl, hS441⟩; clear hS434
     refine ⟨⟨_, hS441.pick2⟩, ?_⟩
     intro a440 hF442; clear hF433
     refine any_many 1 [(8, some (.bool (x426 != x435)))] [1, 5, 7, 9, 13, 14, 107] #[true, true, true, true, true, true, true, true, true] (by rfl) hF442 (by kernel_rfl) (by kernel_rfl) (by exact (And.intro (fun wS hw => by kernel_rfl) trivial)) (fun _ _ _ _ _ h => h) ⟨_, hS441.pick2⟩ (l' := [(107, .bool (x426 != x435)), (14, nI x402), (13, nI x382), (9, nP (w37.heap.size) 0), (7, nP z26 0), (5, nP z14 0), (1, nI i1)]) (by kernel_rfl) ?_
     intro a444 hF443; clear hF442
     refine any_done (by kernel_rfl) ?_
     have hS445 := hS441.pick2.drop
     clear hS441
     refine thenN ?_
     cases hc446 : (x426 != x435) with
     | true =>
      rw [hc446] at hF443
      rw [hc446] at hm438
      have hm447 := ifT hm438; clear hm438
      refine ev_condT hF443 rfl rfl ?_
      refine wp_seq (wp_region_lit ?_)
      refine ev_runK 1 hF443 [4] (l' := [(4, .pointer none)]) (w' := w439) (by kernel_rfl) ?_
      intro a449 hF448; clear hF443
      refine wpList_nil ?_
      have hS450 := hS445.drop.drop.drop.drop.drop
      clear hS445
      refine thenN ?_
      refine wp_ret ?_
      refine thenR ?_
      refine blockR ?_
      refine thenR (thenR ?_)
      refine blockR ?_
      refine thenR ?_
      cases hm447
     | false =>
      rw [hc446] at hF443
      rw [hc446] at hm438
      have hm451 := ifF hm438; clear hm438
      refine ev_condF hF443 rfl rfl ?_
      refine wp_skip ?_
      have hF452 := hF443.keep [1, 5, 7, 9, 13, 14]
      clear hF443
      refine thenN (wp_region_lit ?_)
      refine ev_runs 4 hF452 (l' := [(111, nP (w37.heap.size) 3), (110, nP (w37.heap.size) 0), (109, nP (w37.heap.size) 0), (108, nP (w37.heap.size) 0), (14, nI x402), (13, nI x382), (9, nP (w37.heap.size) 0), (7, nP z26 0), (5, nP z14 0), (1, nI i1)]) (w' := w439) (by kernel_rfl) ?_
      intro a454 hF453; clear hF452
      refine ev_one (.slice p390 L378.length c391) w439 hF453 (by kernel_rfl) rfl (by kernel_rfl) (run_loadV rfl rfl (run_loadS rfl rfl (hS445.cell 2 rfl 3 rfl))) (l' := [(112, .slice p390 L378.length c391), (111, nP (w37.heap.size) 3), (110, nP (w37.heap.size) 0), (109, nP (w37.heap.size) 0), (108, nP (w37.heap.size) 0), (14, nI x402), (13, nI x382), (9, nP (w37.heap.size) 0), (7, nP z26 0), (5, nP z14 0), (1, nI i1)]) (by kernel_rfl) ?_
      intro a456 hF455; clear hF453
      refine ev_runs 2 hF455 (l' := [(114, .slice (some ⟨w439.heap.size, 0, none⟩) 1 1), (113, nI x402), (112, .slice p390 L378.length c391), (111, nP (w37.heap.size) 3), (110, nP (w37.heap.size) 0), (109, nP (w37.heap.size) 0), (108, nP (w37.heap.size) 0), (14, nI x402), (13, nI x382), (9, nP (w37.heap.size) 0), (7, nP z26 0), (5, nP z14 0), (1, nI i1)]) (w' := w439.alloc (.cells #[nI x402] 3)) (by kernel_rfl) ?_
      intro a458 hF457; clear hF455
      have hS459 := hS445.pick4
      clear hS445
      obtain ⟨L460, hx461, hm462⟩ := bind1E hm451; clear hm451
      refine ev_push 115 (.tmp 112) (.tmp 114) hF457 rfl rfl rfl rfl rfl rfl rfl rfl hS459 hx461 ?_
      intro g463 c464 w465 a466 hS467 hF468; clear hF457 hS459
      refine ev_runs 2 hF468 (l' := [(117, nP (w37.heap.size) 3), (116, nP (w37.heap.size) 0), (115, .slice (some ⟨g463, 0, none⟩) L460.length c464), (114, .slice (some ⟨w439.heap.size, 0, none⟩) 1 1), (113, nI x402), (112, .slice p390 L378.length c391), (111, nP (w37.heap.size) 3), (110, nP (w37.heap.size) 0), (109, nP (w37.heap.size) 0), (108, nP (w37.heap.size) 0), (14, nI x402), (13, nI x382), (9, nP (w37.heap.size) 0), (7, nP z26 0), (5, nP z14 0), (1, nI i1)]) (w' := w465) (by kernel_rfl) ?_
      intro a470 hF469; clear hF468
      have hS471 := hS467.pick3
      clear hS467
      refine ev_store (.slice (some ⟨g463, 0, none⟩) L460.length c464) #[nP z14 0, nP z26 0, .slice p68 L56.length c69, .slice (some ⟨g463, 0, none⟩) L460.length c464] hF469 (by kernel_rfl) rfl rfl rfl rfl (by kernel_rfl) hS471 (by kernel_rfl) (by kernel_rfl) (by kernel_rfl) (l' := [(117, nP (w37.heap.size) 3), (116, nP (w37.heap.size) 0), (115, .slice (some ⟨g463, 0, none⟩) L460.length c464), (114, .slice (some ⟨w439.heap.size, 0, none⟩) 1 1), (113, nI x402), (112, .slice p390 L378.length c391), (111, nP (w37.heap.size) 3), (110, nP (w37.heap.size) 0), (109, nP (w37.heap.size) 0), (108, nP (w37.heap.size) 0), (14, nI x402), (13, nI x382), (9, nP (w37.heap.size) 0), (7, nP z26 0), (5, nP z14 0), (1, nI i1)]) (by kernel_rfl) ?_
      intro w472 a473 hS474 hF475; clear hF469 hS471
      refine wpList_nil ?_
      have hF476 := hF475.keep [1, 5, 7, 9, 13]
      clear hF475
      refine blockN ?_
      refine thenN (wp_region_lit ?_)
      refine ev_runK 3 hF476 [1, 5, 7, 9, 13] (l' := [(13, nI (IntKind.i64.wrap (x382 + 1))), (9, nP (w37.heap.size) 0), (7, nP z26 0), (5, nP z14 0), (1, nI i1)]) (w' := w472) (by kernel_rfl) ?_
      intro a478 hF477; clear hF476
      refine wpList_nil ?_
      have hS479 := hS474.pick5.pick3.pick4.pick3.pick5.pick5
      clear hS474
      exact thenN ⟨k383, Nat.lt_succ_self _, .slice (some ⟨g463, 0, none⟩) L460.length c464, L460, s427, s436, IntKind.i64.wrap (x382 + 1), hF477, hS479, hm462⟩
    | false =>
     rw [hc396] at hF394
     rw [hc396] at hm389
     have hm480 := ifF hm389; clear hm389
     refine ev_condF hF394 rfl rfl ?_
     refine wp_exit ?_
     refine thenE ?_
     refine thenE ?_
     refine blockE ?_
     refine thenN (wp_seq (wp_region_lit ?_))
     refine ev_runK 2 hF394 [4] (l' := [(4, nP (w37.heap.size) 0)]) (w' := w385) (by kernel_rfl) ?_
     intro a482 hF481; clear hF394
     refine wpList_nil (thenN ?_)
     refine wp_ret ?_
     have hS483 := hS387.pick1.pick4.pick4.pick4.pick5
     clear hS387
     obtain rfl := Option.some.inj hm480
     refine ev_ret hF481 [4] (nP (w37.heap.size) 0) rfl rfl rfl ?_
     exact ⟨_, _, _, _, _, _, _, _, _, _, rfl, hS483⟩

def law13_ch.m (k : Nat) (s0 : HSt) (u0 : HSt) (Lc0 : List Int) (Lg0 : List Int) (i1 : Int) : Option (Int × HSt × HSt) := (if ((Lc0.length : Int) == 0) then some (-1, s0, u0) else (if ((IntKind.u64.wrap (Lc0.length : Int)) == 0) then none else (if (inR (IntKind.i64.wrap (Int.tmod (IntKind.u64.wrap i1) (IntKind.u64.wrap (Lc0.length : Int)))) Lc0.length) then some (atI Lc0 (IntKind.i64.wrap (Int.tmod (IntKind.u64.wrap i1) (IntKind.u64.wrap (Lc0.length : Int)))), s0, u0) else none)))
set_option maxRecDepth 100000 in
set_option maxHeartbeats 1500000 in
theorem law13_ch.ok {w0 w : World} {F0 : List Nat} {ps : List Piece} {k : Nat} {bb0 b0 ab0 bw0 abw0 sb0 g0 cb0 : Nat} {vc0 vg0 : Value} {s0 u0 : HSt} {Lc0 Lg0 : List Int} {i1 : Int} {r0 : Int} {t0 : HSt} {t1 : HSt} (hS : St w0 F0 (BlkP bb0 52 #[nP b0 0, nP bw0 0, vc0, vg0] :: HeapP b0 ab0 s0 :: RHeapP bw0 abw0 sb0 g0 cb0 u0 :: RowP (vc0) Lc0 :: RowP (vg0) Lg0 :: ps) w) (hm : law13_ch.m k s0 u0 Lc0 Lg0 i1 = some (r0, t0, t1)) :
    Calls Tryz.prog 27 #[nP bb0 0, nI i1] w fun e w' => e = .returned (.int .i64 r0) ∧ St w0 F0 (BlkP bb0 52 #[nP b0 0, nP bw0 0, vc0, vg0] :: HeapP b0 ab0 t0 :: RHeapP bw0 abw0 sb0 g0 cb0 t1 :: RowP (vc0) Lc0 :: RowP (vg0) Lg0 :: ps) w' := by
 refine ev_enterL 27 [nP bb0 0, nI i1] Tryz.func27 rfl rfl (by simp) ?_
 intro a hF
 have hF0 : Fr 27 a [(0, nP bb0 0), (1, nI i1)] := hF; clear hF
 unfold law13_ch.m at hm
 obtain ⟨hl4, p1, c2, rfl, hp3⟩ := St.shape hS 3 rfl
 obtain ⟨hl8, p5, c6, rfl, hp7⟩ := St.shape hS 4 rfl
 refine wp_seq (wp_region_lit ?_)
 refine ev_runK 1 hF0 [0, 1] (l' := [(0, nP bb0 0), (1, nI i1)]) (w' := w) (by kernel_rfl) ?_
 intro a10 hF9; clear hF0
 refine wpList_nil (thenN (wp_seq (wp_seq (wp_region_lit ?_))))
 refine ev_runs 3 hF9 (l' := [(7, nP bb0 2), (6, nP bb0 0), (5, nP bb0 0), (0, nP bb0 0), (1, nI i1)]) (w' := w) (by kernel_rfl) ?_
 intro a12 hF11; clear hF9
 refine ev_one (.slice p1 Lc0.length c2) w hF11 (by kernel_rfl) rfl (by kernel_rfl) (run_loadV rfl rfl (run_loadS rfl rfl (hS.cell 0 rfl 2 rfl))) (l' := [(8, .slice p1 Lc0.length c2), (7, nP bb0 2), (6, nP bb0 0), (5, nP bb0 0), (0, nP bb0 0), (1, nI i1)]) (by kernel_rfl) ?_
 intro a14 hF13; clear hF11
 refine ev_runK 2 hF13 [0, 1, 10] (l' := [(10, .bool ((Lc0.length : Int) == 0)), (0, nP bb0 0), (1, nI i1)]) (w' := w) (by kernel_rfl) ?_
 intro a16 hF15; clear hF13
 refine wpList_nil (thenN ?_)
 cases hc17 : ((Lc0.length : Int) == 0) with
 | true =>
  rw [hc17] at hF15
  rw [hc17] at hm
  have hm18 := ifT hm; clear hm
  refine ev_condT hF15 rfl rfl ?_
  refine wp_seq (wp_region_lit ?_)
  refine ev_runK 1 hF15 [4] (l' := [(4, nI (-1))]) (w' := w) (by kernel_rfl) ?_
  intro a20 hF19; clear hF15
  refine wpList_nil (thenN ?_)
  refine wp_ret ?_
  refine thenR ?_
  simp only [Option.some.injEq, Prod.mk.injEq] at hm18
  obtain ⟨rfl, rfl, rfl⟩ := hm18
  refine ev_ret hF19 [4] (nI (-1)) rfl rfl rfl ?_
  exact ⟨rfl, hS⟩
 | false =>
  rw [hc17] at hF15
  rw [hc17] at hm
  have hm24 := ifF hm; clear hm
  refine ev_condF hF15 rfl rfl ?_
  refine wp_skip ?_
  have hF25 := hF15.keep [0, 1]
  clear hF15
  refine thenN (wp_seq ?_)
  -- draws
  obtain ⟨hc26, hm27⟩ := ifFE hm24; clear hm24
  obtain ⟨hc28, hm29⟩ := ifTE hm27; clear hm27
  obtain ⟨g30, rfl⟩ := hp3.resolve_left (by have := inR_spec hc28; omega)
  have hS31 := hS.pick3.pick1
  have hS32 := hS31.drew; clear hS31
  refine any_start (fun wS => ∃ qs, St w0 F0 (BlkP bb0 52 #[nP b0 0, nP bw0 0, .slice (some ⟨g30, 0, none⟩) Lc0.length c2, .slice p5 Lg0.length c6] :: RowP (.slice (some ⟨g30, 0, none⟩) Lc0.length c2) Lc0 :: qs) wS) 17 #[false, false, false, false, false, false, false, false, false, false, false, false, false, false, false, false, false] (by kernel_rfl) (by kernel_rfl) (by kernel_rfl) ?_
  refine any_many 17 [(0, some (nP bb0 0)), (1, some (nP bb0 0)), (2, some (nP bb0 2)), (3, some (.slice (some ⟨g30, 0, none⟩) Lc0.length c2)), (4, some (nI i1)), (5, some (.int .u64 (IntKind.u64.wrap i1))), (6, some (nP bb0 0)), (7, some (nP bb0 0)), (8, some (nP bb0 2)), (9, some (.slice (some ⟨g30, 0, none⟩) Lc0.length c2)), (10, some (nI ((Lc0.length : Int)))), (11, some (.int .u64 (IntKind.u64.wrap (Lc0.length : Int)))), (12, some (.int .u64 (Int.tmod (IntKind.u64.wrap i1) (IntKind.u64.wrap (Lc0.length : Int))))), (13, some (nI (IntKind.i64.wrap (Int.tmod (IntKind.u64.wrap i1) (IntKind.u64.wrap (Lc0.length : Int)))))), (14, some (nP g30 ((IntKind.i64.wrap (Int.tmod (IntKind.u64.wrap i1) (IntKind.u64.wrap (Lc0.length : Int)))).toNat))), (15, some (nI (atI Lc0 (IntKind.i64.wrap (Int.tmod (IntKind.u64.wrap i1) (IntKind.u64.wrap (Lc0.length : Int))))))), (16, some (nI (atI Lc0 (IntKind.i64.wrap (Int.tmod (IntKind.u64.wrap i1) (IntKind.u64.wrap (Lc0.length : Int)))))))] [4] #[true, true, true, true, true, true, true, true, true, true, true, true, true, true, true, true, true] (by rfl) hF25 (by kernel_rfl) (by kernel_rfl) (by exact (And.intro (fun wS hw => by kernel_rfl) (And.intro (fun wS hw => by kernel_rfl) (And.intro (fun wS hw => by kernel_rfl) (And.intro (fun wS hw => hw.elim fun qs hw => run_loadV rfl rfl (run_loadS rfl rfl (hw.cell 0 rfl 2 rfl))) (And.intro (fun wS hw => by kernel_rfl) (And.intro (fun wS hw => by kernel_rfl) (And.intro (fun wS hw => by kernel_rfl) (And.intro (fun wS hw => by kernel_rfl) (And.intro (fun wS hw => by kernel_rfl) (And.intro (fun wS hw => hw.elim fun qs hw => run_loadV rfl rfl (run_loadS rfl rfl (hw.cell 0 rfl 2 rfl))) (And.intro (fun wS hw => by kernel_rfl) (And.intro (fun wS hw => by kernel_rfl) (And.intro (fun wS hw => run_rem rfl rfl rfl hc26 _) (And.intro (fun wS hw => by kernel_rfl) (And.intro (fun wS hw => run_idx rfl rfl rfl rfl rfl (inR_spec hc28).1 (inR_spec hc28).2 _) (And.intro (fun wS hw => run_load1 rfl rfl rfl (hw.elim fun qs hw => hw.atI 1 rfl hc28)) (And.intro (fun wS hw => by kernel_rfl) trivial)))))))))))))))))) (fun _ _ _ _ _ h => h) ⟨_, hS32⟩ (l' := [(4, nI (atI Lc0 (IntKind.i64.wrap (Int.tmod (IntKind.u64.wrap i1) (IntKind.u64.wrap (Lc0.length : Int))))))]) (by kernel_rfl) ?_
  intro a34 hF33; clear hF25
  refine any_done (by kernel_rfl) ?_
  refine thenN ?_
  refine wp_ret ?_
  have hS35 := hS32.pick4.pick2.pick4.pick4.pick4
  clear hS32
  simp only [Option.some.injEq, Prod.mk.injEq] at hm29
  obtain ⟨rfl, rfl, rfl⟩ := hm29
  refine ev_ret hF33 [4] (nI (atI Lc0 (IntKind.i64.wrap (Int.tmod (IntKind.u64.wrap i1) (IntKind.u64.wrap (Lc0.length : Int)))))) rfl rfl rfl ?_
  exact ⟨rfl, hS35⟩

def law13_gor.m (k : Nat) (s0 : HSt) (u0 : HSt) (Lc0 : List Int) (Lg0 : List Int) (i1 : Int) : Option (Int × HSt × HSt) := (if ((IntKind.u64.wrap (Lg0.length : Int)) == 0) then none else (if (inR (IntKind.i64.wrap (Int.tmod (IntKind.u64.wrap i1) (IntKind.u64.wrap (Lg0.length : Int)))) Lg0.length) then some (atI Lg0 (IntKind.i64.wrap (Int.tmod (IntKind.u64.wrap i1) (IntKind.u64.wrap (Lg0.length : Int)))), s0, u0) else none))
set_option maxRecDepth 100000 in
set_option maxHeartbeats 1500000 in
theorem law13_gor.ok {w0 w : World} {F0 : List Nat} {ps : List Piece} {k : Nat} {bb0 b0 ab0 bw0 abw0 sb0 g0 cb0 : Nat} {vc0 vg0 : Value} {s0 u0 : HSt} {Lc0 Lg0 : List Int} {i1 : Int} {r0 : Int} {t0 : HSt} {t1 : HSt} (hS : St w0 F0 (BlkP bb0 52 #[nP b0 0, nP bw0 0, vc0, vg0] :: HeapP b0 ab0 s0 :: RHeapP bw0 abw0 sb0 g0 cb0 u0 :: RowP (vc0) Lc0 :: RowP (vg0) Lg0 :: ps) w) (hm : law13_gor.m k s0 u0 Lc0 Lg0 i1 = some (r0, t0, t1)) :
    Calls Tryz.prog 30 #[nP bb0 0, nI i1] w fun e w' => e = .returned (.int .i64 r0) ∧ St w0 F0 (BlkP bb0 52 #[nP b0 0, nP bw0 0, vc0, vg0] :: HeapP b0 ab0 t0 :: RHeapP bw0 abw0 sb0 g0 cb0 t1 :: RowP (vc0) Lc0 :: RowP (vg0) Lg0 :: ps) w' := by
 refine ev_enterL 21 [nP bb0 0, nI i1] Tryz.func30 rfl rfl (by simp) ?_
 intro a hF
 have hF0 : Fr 21 a [(0, nP bb0 0), (1, nI i1)] := hF; clear hF
 unfold law13_gor.m at hm
 obtain ⟨hl4, p1, c2, rfl, hp3⟩ := St.shape hS 3 rfl
 obtain ⟨hl8, p5, c6, rfl, hp7⟩ := St.shape hS 4 rfl
 refine wp_seq (wp_region_lit ?_)
 refine ev_runK 1 hF0 [0, 1] (l' := [(0, nP bb0 0), (1, nI i1)]) (w' := w) (by kernel_rfl) ?_
 intro a10 hF9; clear hF0
 refine wpList_nil (thenN (wp_seq ?_))
 -- draws
 obtain ⟨hc11, hm12⟩ := ifFE hm; clear hm
 obtain ⟨hc13, hm14⟩ := ifTE hm12; clear hm12
 obtain ⟨g15, rfl⟩ := hp7.resolve_left (by have := inR_spec hc13; omega)
 have hS16 := hS.pick4.pick1
 have hS17 := hS16.drew; clear hS16
 refine any_start (fun wS => ∃ qs, St w0 F0 (BlkP bb0 52 #[nP b0 0, nP bw0 0, .slice p1 Lc0.length c2, .slice (some ⟨g15, 0, none⟩) Lg0.length c6] :: RowP (.slice (some ⟨g15, 0, none⟩) Lg0.length c6) Lg0 :: qs) wS) 17 #[false, false, false, false, false, false, false, false, false, false, false, false, false, false, false, false, false] (by kernel_rfl) (by kernel_rfl) (by kernel_rfl) ?_
 refine any_many 17 [(0, some (nP bb0 0)), (1, some (nP bb0 0)), (2, some (nP bb0 3)), (3, some (.slice (some ⟨g15, 0, none⟩) Lg0.length c6)), (4, some (nI i1)), (5, some (.int .u64 (IntKind.u64.wrap i1))), (6, some (nP bb0 0)), (7, some (nP bb0 0)), (8, some (nP bb0 3)), (9, some (.slice (some ⟨g15, 0, none⟩) Lg0.length c6)), (10, some (nI ((Lg0.length : Int)))), (11, some (.int .u64 (IntKind.u64.wrap (Lg0.length : Int)))), (12, some (.int .u64 (Int.tmod (IntKind.u64.wrap i1) (IntKind.u64.wrap (Lg0.length : Int))))), (13, some (nI (IntKind.i64.wrap (Int.tmod (IntKind.u64.wrap i1) (IntKind.u64.wrap (Lg0.length : Int)))))), (14, some (nP g15 ((IntKind.i64.wrap (Int.tmod (IntKind.u64.wrap i1) (IntKind.u64.wrap (Lg0.length : Int)))).toNat))), (15, some (nI (atI Lg0 (IntKind.i64.wrap (Int.tmod (IntKind.u64.wrap i1) (IntKind.u64.wrap (Lg0.length : Int))))))), (16, some (nI (atI Lg0 (IntKind.i64.wrap (Int.tmod (IntKind.u64.wrap i1) (IntKind.u64.wrap (Lg0.length : Int)))))))] [4] #[true, true, true, true, true, true, true, true, true, true, true, true, true, true, true, true, true] (by rfl) hF9 (by kernel_rfl) (by kernel_rfl) (by exact (And.intro (fun wS hw => by kernel_rfl) (And.intro (fun wS hw => by kernel_rfl) (And.intro (fun wS hw => by kernel_rfl) (And.intro (fun wS hw => hw.elim fun qs hw => run_loadV rfl rfl (run_loadS rfl rfl (hw.cell 0 rfl 3 rfl))) (And.intro (fun wS hw => by kernel_rfl) (And.intro (fun wS hw => by kernel_rfl) (And.intro (fun wS hw => by kernel_rfl) (And.intro (fun wS hw => by kernel_rfl) (And.intro (fun wS hw => by kernel_rfl) (And.intro (fun wS hw => hw.elim fun qs hw => run_loadV rfl rfl (run_loadS rfl rfl (hw.cell 0 rfl 3 rfl))) (And.intro (fun wS hw => by kernel_rfl) (And.intro (fun wS hw => by kernel_rfl) (And.intro (fun wS hw => run_rem rfl rfl rfl hc11 _) (And.intro (fun wS hw => by kernel_rfl) (And.intro (fun wS hw => run_idx rfl rfl rfl rfl rfl (inR_spec hc13).1 (inR_spec hc13).2 _) (And.intro (fun wS hw => run_load1 rfl rfl rfl (hw.elim fun qs hw => hw.atI 1 rfl hc13)) (And.intro (fun wS hw => by kernel_rfl) trivial)))))))))))))))))) (fun _ _ _ _ _ h => h) ⟨_, hS17⟩ (l' := [(4, nI (atI Lg0 (IntKind.i64.wrap (Int.tmod (IntKind.u64.wrap i1) (IntKind.u64.wrap (Lg0.length : Int))))))]) (by kernel_rfl) ?_
 intro a19 hF18; clear hF9
 refine any_done (by kernel_rfl) ?_
 refine thenN ?_
 refine wp_ret ?_
 have hS20 := hS17.pick1.pick4.pick4.pick4.pick4
 clear hS17
 simp only [Option.some.injEq, Prod.mk.injEq] at hm14
 obtain ⟨rfl, rfl, rfl⟩ := hm14
 refine ev_ret hF18 [4] (nI (atI Lg0 (IntKind.i64.wrap (Int.tmod (IntKind.u64.wrap i1) (IntKind.u64.wrap (Lg0.length : Int)))))) rfl rfl rfl ?_
 exact ⟨rfl, hS20⟩

end Go.Proofs.YtaihdiccmaincaaGreat
