/- G12b -/
import Derived.Test.YtaihdiccmaincaaGreatKGView
import Derived.Test.YtaihdiccmaincaaGreatKGRef11
import Derived.Deep.LoopGhost
import Derived.KernelRfl
/- The walks of G12b, printed by gen/walk.py. -/
namespace Go.Proofs.YtaihdiccmaincaaGreat
open Go.RowKit
set_option linter.unusedVariables false

def law12_alloc.m (k : Nat) (s0 : HSt) (u0 : HSt) (Lc0 : List Int) (Lg0 : List Int) (i1 : Int) (i2 : Int) : Option (Int × HSt × HSt) := bind3 (pAlloc i1 i2 s0) fun x18 x19 s20 => bind3 (pAlloc i1 i2 u0) fun x36 x37 s38 => (if (x18 != x36) then some (-1, s20, s38) else (if (x19 != 0) then some (-1, s20, s38) else (if (x37 != 0) then some (-1, s20, s38) else some (x18, s20, s38))))
set_option maxRecDepth 100000 in
set_option maxHeartbeats 1500000 in
theorem law12_alloc.ok {w0 w : World} {F0 : List Nat} {ps : List Piece} {k : Nat} {bb0 b0 ab0 bw0 abw0 sb0 g0 cb0 : Nat} {vc0 vg0 : Value} {s0 u0 : HSt} {Lc0 Lg0 : List Int} {i1 : Int} {i2 : Int} {r0 : Int} {t0 : HSt} {t1 : HSt} (hS : St w0 F0 (BlkP bb0 32 #[nP b0 0, nP bw0 0, vc0, vg0] :: HeapP b0 ab0 s0 :: RHeapP bw0 abw0 sb0 g0 cb0 u0 :: RowP (vc0) Lc0 :: RowP (vg0) Lg0 :: ps) w) (hm : law12_alloc.m k s0 u0 Lc0 Lg0 i1 i2 = some (r0, t0, t1)) :
    Calls Tryz.prog 56 #[nP bb0 0, nI i1, nI i2] w fun e w' => e = .returned (.int .i64 r0) ∧ St w0 F0 (BlkP bb0 32 #[nP b0 0, nP bw0 0, vc0, vg0] :: HeapP b0 ab0 t0 :: RHeapP bw0 abw0 sb0 g0 cb0 t1 :: RowP (vc0) Lc0 :: RowP (vg0) Lg0 :: ps) w' := by
 refine ev_enterL 43 [nP bb0 0, nI i1, nI i2] Tryz.func56 rfl rfl (by simp) ?_
 intro a hF
 have hF0 : Fr 43 a [(0, nP bb0 0), (1, nI i1), (2, nI i2)] := hF; clear hF
 unfold law12_alloc.m at hm
 obtain ⟨hl4, p1, c2, rfl, hp3⟩ := St.shape hS 3 rfl
 obtain ⟨hl8, p5, c6, rfl, hp7⟩ := St.shape hS 4 rfl
 refine wp_seq (wp_region_lit ?_)
 refine ev_runK 1 hF0 [0, 1, 2] (l' := [(0, nP bb0 0), (1, nI i1), (2, nI i2)]) (w' := w) (by kernel_rfl) ?_
 intro a10 hF9; clear hF0
 refine wpList_nil (thenN (wp_seq (wp_region_lit ?_)))
 refine ev_runs 3 hF9 (l' := [(14, nP bb0 0), (13, nP bb0 0), (12, nP bb0 0), (0, nP bb0 0), (1, nI i1), (2, nI i2)]) (w' := w) (by kernel_rfl) ?_
 intro a12 hF11; clear hF9
 refine ev_one (nP b0 0) w hF11 (by kernel_rfl) rfl (by kernel_rfl) (run_loadV rfl rfl (run_loadS rfl rfl (hS.cell 0 rfl 0 rfl))) (l' := [(15, nP b0 0), (14, nP bb0 0), (13, nP bb0 0), (12, nP bb0 0), (0, nP bb0 0), (1, nI i1), (2, nI i2)]) (by kernel_rfl) ?_
 intro a14 hF13; clear hF11
 refine ev_runs 2 hF13 (l' := [(17, nI i2), (16, nI i1), (15, nP b0 0), (14, nP bb0 0), (13, nP bb0 0), (12, nP bb0 0), (0, nP bb0 0), (1, nI i1), (2, nI i2)]) (w' := w) (by kernel_rfl) ?_
 intro a16 hF15; clear hF13
 have hS17 := hS.pick1
 refine ev_call 84 #[nP b0 0, nI i1, nI i2] hF15 rfl rfl (by kernel_rfl) rfl (by kernel_rfl) (fun w => by kernel_rfl) ?_
 obtain ⟨x18, x19, s20, hx21, hm22⟩ := bind3E hm; clear hm
 refine (p_Alloc hS17 hx21).mono ?_
 rintro _ w23 ⟨rfl, hS25⟩ a24 hF26; clear hF15 hS17
 refine ev_runK 5 hF26 [0, 1, 2, 7, 8] (l' := [(8, nI x19), (7, nI x18), (0, nP bb0 0), (1, nI i1), (2, nI i2)]) (w' := w23) (by kernel_rfl) ?_
 intro a28 hF27; clear hF26
 refine wpList_nil (thenN (wp_seq (wp_region_lit ?_)))
 refine ev_runs 3 hF27 (l' := [(24, nP bb0 1), (23, nP bb0 0), (22, nP bb0 0), (8, nI x19), (7, nI x18), (0, nP bb0 0), (1, nI i1), (2, nI i2)]) (w' := w23) (by kernel_rfl) ?_
 intro a30 hF29; clear hF27
 refine ev_one (nP bw0 0) w23 hF29 (by kernel_rfl) rfl (by kernel_rfl) (run_loadV rfl rfl (run_loadS rfl rfl (hS25.cell 1 rfl 1 rfl))) (l' := [(25, nP bw0 0), (24, nP bb0 1), (23, nP bb0 0), (22, nP bb0 0), (8, nI x19), (7, nI x18), (0, nP bb0 0), (1, nI i1), (2, nI i2)]) (by kernel_rfl) ?_
 intro a32 hF31; clear hF29
 refine ev_runs 2 hF31 (l' := [(27, nI i2), (26, nI i1), (25, nP bw0 0), (24, nP bb0 1), (23, nP bb0 0), (22, nP bb0 0), (8, nI x19), (7, nI x18), (0, nP bb0 0), (1, nI i1), (2, nI i2)]) (w' := w23) (by kernel_rfl) ?_
 intro a34 hF33; clear hF31
 have hS35 := hS25.pick2
 clear hS25
 refine ev_call 85 #[nP bw0 0, nI i1, nI i2] hF33 rfl rfl (by kernel_rfl) rfl (by kernel_rfl) (fun w => by kernel_rfl) ?_
 obtain ⟨x36, x37, s38, hx39, hm40⟩ := bind3E hm22; clear hm22
 refine (q_Alloc hS35 hx39).mono ?_
 rintro _ w41 ⟨rfl, hS43⟩ a42 hF44; clear hF33 hS35
 refine ev_runK 5 hF44 [7, 8, 9, 10] (l' := [(10, nI x37), (9, nI x36), (8, nI x19), (7, nI x18)]) (w' := w41) (by kernel_rfl) ?_
 intro a46 hF45; clear hF44
 refine wpList_nil (thenN (wp_seq (wp_seq (wp_region_lit ?_))))
 refine ev_runs 4 hF45 (l' := [(34, .bool (x18 != x36)), (33, .bool (x18 != x36)), (32, nI x36), (31, nI x18), (10, nI x37), (9, nI x36), (8, nI x19), (7, nI x18)]) (w' := w41) (by kernel_rfl) ?_
 intro a48 hF47; clear hF45
 cases hc49 : (x18 != x36) with
 | true =>
  rw [hc49] at hF47
  rw [hc49] at hm40
  have hm50 := ifT hm40; clear hm40
  refine ev_runK 7 hF47 [7, 41] (l' := [(41, .bool true), (7, nI x18)]) (w' := w41) (by kernel_rfl) ?_
  intro a52 hF51; clear hF47
  refine wpList_nil (thenN ?_)
  refine ev_condT hF51 rfl rfl ?_
  refine wp_seq (wp_region_lit ?_)
  refine ev_runK 1 hF51 [6] (l' := [(6, nI (-1))]) (w' := w41) (by kernel_rfl) ?_
  intro a54 hF53; clear hF51
  refine wpList_nil (thenN ?_)
  refine wp_ret ?_
  refine thenR ?_
  have hS55 := hS43.pick4.pick4.pick2.pick3.pick4
  clear hS43
  simp only [Option.some.injEq, Prod.mk.injEq] at hm50
  obtain ⟨rfl, rfl, rfl⟩ := hm50
  refine ev_ret hF53 [6] (nI (-1)) rfl rfl rfl ?_
  exact ⟨rfl, hS55⟩
 | false =>
  rw [hc49] at hF47
  rw [hc49] at hm40
  have hm59 := ifF hm40; clear hm40
  refine ev_runs 4 hF47 (l' := [(38, .bool (x19 != 0)), (37, .bool (x19 != 0)), (36, .bool (x19 != 0)), (35, nI x19), (34, .bool false), (33, .bool false), (32, nI x36), (31, nI x18), (10, nI x37), (9, nI x36), (8, nI x19), (7, nI x18)]) (w' := w41) (by kernel_rfl) ?_
  intro a61 hF60; clear hF47
  cases hc62 : (x19 != 0) with
  | true =>
   rw [hc62] at hF60
   rw [hc62] at hm59
   have hm63 := ifT hm59; clear hm59
   refine ev_runK 3 hF60 [7, 41] (l' := [(41, .bool true), (7, nI x18)]) (w' := w41) (by kernel_rfl) ?_
   intro a65 hF64; clear hF60
   refine wpList_nil (thenN ?_)
   refine ev_condT hF64 rfl rfl ?_
   refine wp_seq (wp_region_lit ?_)
   refine ev_runK 1 hF64 [6] (l' := [(6, nI (-1))]) (w' := w41) (by kernel_rfl) ?_
   intro a67 hF66; clear hF64
   refine wpList_nil (thenN ?_)
   refine wp_ret ?_
   refine thenR ?_
   have hS68 := hS43.pick4.pick4.pick2.pick3.pick4
   clear hS43
   simp only [Option.some.injEq, Prod.mk.injEq] at hm63
   obtain ⟨rfl, rfl, rfl⟩ := hm63
   refine ev_ret hF66 [6] (nI (-1)) rfl rfl rfl ?_
   exact ⟨rfl, hS68⟩
  | false =>
   rw [hc62] at hF60
   rw [hc62] at hm59
   have hm72 := ifF hm59; clear hm59
   refine ev_runK 3 hF60 [7, 41] (l' := [(41, .bool (x37 != 0)), (7, nI x18)]) (w' := w41) (by kernel_rfl) ?_
   intro a74 hF73; clear hF60
   refine wpList_nil (thenN ?_)
   cases hc75 : (x37 != 0) with
   | true =>
    rw [hc75] at hF73
    rw [hc75] at hm72
    have hm76 := ifT hm72; clear hm72
    refine ev_condT hF73 rfl rfl ?_
    refine wp_seq (wp_region_lit ?_)
    refine ev_runK 1 hF73 [6] (l' := [(6, nI (-1))]) (w' := w41) (by kernel_rfl) ?_
    intro a78 hF77; clear hF73
    refine wpList_nil (thenN ?_)
    refine wp_ret ?_
    refine thenR ?_
    have hS79 := hS43.pick4.pick4.pick2.pick3.pick4
    clear hS43
    simp only [Option.some.injEq, Prod.mk.injEq] at hm76
    obtain ⟨rfl, rfl, rfl⟩ := hm76
    refine ev_ret hF77 [6] (nI (-1)) rfl rfl rfl ?_
    exact ⟨rfl, hS79⟩
   | false =>
    rw [hc75] at hF73
    rw [hc75] at hm72
    have hm83 := ifF hm72; clear hm72
    refine ev_condF hF73 rfl rfl ?_
    refine wp_skip ?_
    have hF84 := hF73.keep [7]
    clear hF73
    refine thenN (wp_seq (wp_region_lit ?_))
    refine ev_runK 2 hF84 [6] (l' := [(6, nI x18)]) (w' := w41) (by kernel_rfl) ?_
    intro a86 hF85; clear hF84
    refine wpList_nil (thenN ?_)
    refine wp_ret ?_
    have hS87 := hS43.pick4.pick4.pick2.pick3.pick4
    clear hS43
    simp only [Option.some.injEq, Prod.mk.injEq] at hm83
    obtain ⟨rfl, rfl, rfl⟩ := hm83
    refine ev_ret hF85 [6] (nI x18) rfl rfl rfl ?_
    exact ⟨rfl, hS87⟩

def law12_made.l2b (i1 : Int) (k : Nat) (L56 : List Int) (rec271 : List Int → HSt → HSt → Int → Option (HSt × HSt × List Int × List Int)) (L264 : List Int) (s266 : HSt) (s267 : HSt) (x268 : Int) : Option (HSt × HSt × List Int × List Int) := (if (decide (x268 < (IntKind.i64.wrap (1 + (IntKind.i64.wrap (Int.tmod (IntKind.u64.wrap i1) 6)))))) then bind3 (law12_alloc.m k s266 s267 L56 L264 4 10) fun x288 s289 s290 => bind2 (pPutGor x288 (⟨x268, 0, 0, 0, 0, 0, 0, 0, 0, -1⟩ : Gr) s289) fun x312 s313 => bind2 (ref11_PutGor.m k s290 x288 (⟨x268, 0, 0, 0, 0, 0, 0, 0, 0, -1⟩ : Gr)) fun x321 s322 => (if (x312 != x321) then none else bind1 (pushM L264 x288) fun L346 => rec271 L346 s313 s322 (IntKind.i64.wrap (x268 + 1))) else some ((s266, s267, L56, L264)))
def law12_made.l2 (i1 : Int) (k : Nat) (L56 : List Int) : Nat → List Int → HSt → HSt → Int → Option (HSt × HSt × List Int × List Int)
  | 0 => fun _ _ _ _ => none
  | kI + 1 => law12_made.l2b i1 k L56 (law12_made.l2 i1 k L56 kI)
def law12_made.l3b (i1 : Int) (k : Nat) (L56 : List Int) (rec383 : List Int → HSt → HSt → Int → Option (HSt × HSt × List Int × List Int)) (L376 : List Int) (s378 : HSt) (s379 : HSt) (x380 : Int) : Option (HSt × HSt × List Int × List Int) := (if (decide (x380 < (IntKind.i64.wrap (1 + (IntKind.i64.wrap (Int.tmod (IntKind.u64.wrap i1) 6)))))) then bind3 (law12_alloc.m k s378 s379 L56 L376 4 10) fun x400 s401 s402 => bind2 (pPutGor x400 (⟨x380, 0, 0, 0, 0, 0, 0, 0, 0, -1⟩ : Gr) s401) fun x424 s425 => bind2 (ref11_PutGor.m k s402 x400 (⟨x380, 0, 0, 0, 0, 0, 0, 0, 0, -1⟩ : Gr)) fun x433 s434 => (if (x424 != x433) then none else bind1 (pushM L376 x400) fun L458 => rec383 L458 s425 s434 (IntKind.i64.wrap (x380 + 1))) else some ((s378, s379, L56, L376)))
def law12_made.l3 (i1 : Int) (k : Nat) (L56 : List Int) : Nat → List Int → HSt → HSt → Int → Option (HSt × HSt × List Int × List Int)
  | 0 => fun _ _ _ _ => none
  | kI + 1 => law12_made.l3b i1 k L56 (law12_made.l3 i1 k L56 kI)
def law12_made.l1b (L0 : List Int) (i1 : Int) (k : Nat) (rec63 : List Int → HSt → HSt → Int → Option (HSt × HSt × List Int × List Int)) (L56 : List Int) (s58 : HSt) (s59 : HSt) (x60 : Int) : Option (HSt × HSt × List Int × List Int) := (if (decide (x60 < (L0.length : Int))) then (if (decide (x60 < 4)) then (if (inR x60 L0.length) then bind3 (law12_alloc.m k s58 s59 L56 [] 1 9) fun x102 s103 s104 => (if (decide ((IntKind.i64.wrap (Int.tmod (IntKind.u64.wrap (atI L0 x60)) 4)) > 0)) then bind3 (law12_alloc.m k s103 s104 L56 [] 2 (IntKind.i64.wrap (Int.tmod (IntKind.u64.wrap (atI L0 x60)) 4))) fun x125 s126 s127 => bind2 (pPutChan x102 (⟨IntKind.i64.wrap (Int.tmod (IntKind.u64.wrap (atI L0 x60)) 4), 0, 0, 0, x125, -1, -1, -1, -1⟩ : Ch) s126) fun x146 s147 => bind2 (ref11_PutChan.m k s127 x102 (⟨IntKind.i64.wrap (Int.tmod (IntKind.u64.wrap (atI L0 x60)) 4), 0, 0, 0, x125, -1, -1, -1, -1⟩ : Ch)) fun x155 s156 => (if (x146 != x155) then none else bind1 (pushM L56 x102) fun L180 => rec63 L180 s147 s156 (IntKind.i64.wrap (x60 + 1))) else bind2 (pPutChan x102 (⟨IntKind.i64.wrap (Int.tmod (IntKind.u64.wrap (atI L0 x60)) 4), 0, 0, 0, -1, -1, -1, -1, -1⟩ : Ch) s103) fun x207 s208 => bind2 (ref11_PutChan.m k s104 x102 (⟨IntKind.i64.wrap (Int.tmod (IntKind.u64.wrap (atI L0 x60)) 4), 0, 0, 0, -1, -1, -1, -1, -1⟩ : Ch)) fun x216 s217 => (if (x207 != x216) then none else bind1 (pushM L56 x102) fun L241 => rec63 L241 s208 s217 (IntKind.i64.wrap (x60 + 1)))) else none) else law12_made.l2 i1 k L56 k [] s58 s59 0) else law12_made.l3 i1 k L56 k [] s58 s59 0)
def law12_made.l1 (L0 : List Int) (i1 : Int) (k : Nat) : Nat → List Int → HSt → HSt → Int → Option (HSt × HSt × List Int × List Int)
  | 0 => fun _ _ _ _ => none
  | kI + 1 => law12_made.l1b L0 i1 k (law12_made.l1 L0 i1 k kI)
def law12_made.m (k : Nat) (L0 : List Int) (i1 : Int) : Option (HSt × HSt × List Int × List Int) := bind1 (pNew 60) fun s7 => bind1 (prNew 60) fun s19 => law12_made.l1 L0 i1 k k [] s7 s19 0
set_option maxRecDepth 100000 in
set_option maxHeartbeats 40000000 in
theorem law12_made.ok {w0 w : World} {F0 : List Nat} {ps : List Piece} {k : Nat} {v0 : Value} {L0 : List Int} {i1 : Int} {r0 : HSt × HSt × List Int × List Int} (hS : St w0 F0 (RowP (v0) L0 :: ps) w) (hm : law12_made.m k L0 i1 = some r0) :
    Calls Tryz.prog 13 #[v0, nI i1] w fun e w' => ∃ bb b ab b2 ab2 sb g cb vc vg, e = .returned (.pointer (some ⟨bb, 0, none⟩)) ∧ St w0 F0 (RowP (v0) L0 :: BlkP bb 32 #[.pointer (some ⟨b, 0, none⟩), .pointer (some ⟨b2, 0, none⟩), vc, vg] :: HeapP b ab r0.1 :: RHeapP b2 ab2 sb g cb r0.2.1 :: RowP vc r0.2.2.1 :: RowP vg r0.2.2.2 :: ps) w' := by
 refine ev_enterL 119 [v0, nI i1] Tryz.func13 rfl rfl (by simp) ?_
 intro a hF
 have hF0 : Fr 119 a [(0, v0), (1, nI i1)] := hF; clear hF
 unfold law12_made.m at hm
 obtain ⟨hl4, p1, c2, rfl, hp3⟩ := St.shape hS 0 rfl
 refine wp_seq (wp_region_lit ?_)
 refine ev_runK 1 hF0 [0, 1] (l' := [(0, .slice p1 L0.length c2), (1, nI i1)]) (w' := w) (by kernel_rfl) ?_
 intro a6 hF5; clear hF0
 refine wpList_nil (thenN (wp_seq (wp_region_lit ?_)))
 refine ev_call 53 #[nI 60] hF5 rfl rfl (by kernel_rfl) rfl (by kernel_rfl) (fun w => by kernel_rfl) ?_
 obtain ⟨s7, hx8, hm9⟩ := bind1E hm; clear hm
 refine (p_New hS hx8).mono ?_
 rintro _ w10 ⟨z14, z15, rfl, hS12⟩ a11 hF13; clear hF5 hS
 refine ev_runK 5 hF13 [0, 1, 5, 6] (l' := [(6, nI 0), (5, nP z14 0), (0, .slice p1 L0.length c2), (1, nI i1)]) (w' := w10) (by kernel_rfl) ?_
 intro a18 hF17; clear hF13
 refine wpList_nil (thenN (wp_seq (wp_region_lit ?_)))
 refine ev_call 54 #[nI 60] hF17 rfl rfl (by kernel_rfl) rfl (by kernel_rfl) (fun w => by kernel_rfl) ?_
 obtain ⟨s19, hx20, hm21⟩ := bind1E hm9; clear hm9
 refine (q_New hS12 hx20).mono ?_
 rintro _ w22 ⟨z26, z27, z28, z29, z30, rfl, hS24⟩ a23 hF25; clear hF17 hS12
 refine ev_runK 5 hF25 [0, 1, 5, 6, 7] (l' := [(7, nP z26 0), (6, nI 0), (5, nP z14 0), (0, .slice p1 L0.length c2), (1, nI i1)]) (w' := w22) (by kernel_rfl) ?_
 intro a33 hF32; clear hF25
 refine wpList_nil (thenN (wp_seq (wp_seq (wp_region_lit ?_))))
 refine ev_runs 8 hF32 (l' := [(31, nP z14 0), (30, .bool false), (29, .bool false), (28, .bool false), (27, nP z14 0), (26, .bool false), (25, .bool false), (24, nI 0), (7, nP z26 0), (6, nI 0), (5, nP z14 0), (0, .slice p1 L0.length c2), (1, nI i1)]) (w' := w22) (by kernel_rfl) ?_
 intro a35 hF34; clear hF32
 have hS36 := hS24.pick1
 clear hS24
 refine ev_call 55 #[nP z14 0] hF34 rfl rfl (by kernel_rfl) rfl (by kernel_rfl) (fun w => by kernel_rfl) ?_
 refine (p_Arena hS36).mono ?_
 rintro _ w37 ⟨rfl, hS39⟩ a38 hF40; clear hF34 hS36
 refine ev_runK 2 hF40 [0, 1, 5, 7, 34] (l' := [(34, .bool false), (7, nP z26 0), (5, nP z14 0), (0, .slice p1 L0.length c2), (1, nI i1)]) (w' := w37) (by kernel_rfl) ?_
 intro a42 hF41; clear hF40
 refine wpList_nil (thenN ?_)
 refine ev_condF hF41 rfl rfl ?_
 refine wp_skip ?_
 have hF43 := hF41.keep [0, 1, 5, 7]
 clear hF41
 refine thenN (wp_seq (wp_region_lit ?_))
 refine ev_runs 4 hF43 (l' := [(38, nP (w37.heap.size) 0), (37, .agg #[nP z14 0, nP z26 0, .slice none 0 0, .slice none 0 0]), (36, nP z26 0), (35, nP z14 0), (7, nP z26 0), (5, nP z14 0), (0, .slice p1 L0.length c2), (1, nI i1)]) (w' := w37.alloc (.cells #[nP z14 0, nP z26 0, .slice none 0 0, .slice none 0 0] 32)) (by kernel_rfl) ?_
 intro a45 hF44; clear hF43
 have hS47 : St w0 F0 (BlkP (w37.heap.size) 32 #[nP z14 0, nP z26 0, .slice none 0 0, .slice none 0 0] :: HeapP z14 z15 s7 :: RHeapP z26 z27 z28 z29 z30 s19 :: RowP (.slice p1 L0.length c2) L0 :: ps) (w37.alloc (.cells #[nP z14 0, nP z26 0, .slice none 0 0, .slice none 0 0] 32)) := St.new hS39 #[nP z14 0, nP z26 0, .slice none 0 0, .slice none 0 0] 32
 clear hS39
 have hS49 : St w0 F0 (RowP (.slice none 0 0) [] :: BlkP (w37.heap.size) 32 #[nP z14 0, nP z26 0, .slice none 0 0, .slice none 0 0] :: HeapP z14 z15 s7 :: RHeapP z26 z27 z28 z29 z30 s19 :: RowP (.slice p1 L0.length c2) L0 :: ps) (w37.alloc (.cells #[nP z14 0, nP z26 0, .slice none 0 0, .slice none 0 0] 32)) := St.nil hS47
 clear hS47
 have hS51 : St w0 F0 (RowP (.slice none 0 0) [] :: RowP (.slice none 0 0) [] :: BlkP (w37.heap.size) 32 #[nP z14 0, nP z26 0, .slice none 0 0, .slice none 0 0] :: HeapP z14 z15 s7 :: RHeapP z26 z27 z28 z29 z30 s19 :: RowP (.slice p1 L0.length c2) L0 :: ps) (w37.alloc (.cells #[nP z14 0, nP z26 0, .slice none 0 0, .slice none 0 0] 32)) := St.nil hS49
 clear hS49
 refine ev_runK 1 hF44 [0, 1, 5, 7, 9] (l' := [(9, nP (w37.heap.size) 0), (7, nP z26 0), (5, nP z14 0), (0, .slice p1 L0.length c2), (1, nI i1)]) (w' := w37.alloc (.cells #[nP z14 0, nP z26 0, .slice none 0 0, .slice none 0 0] 32)) (by kernel_rfl) ?_
 intro a53 hF52; clear hF44
 refine wpList_nil (thenN (wp_seq (wp_seq (wp_region_lit ?_))))
 refine ev_runs 1 hF52 (l' := [(10, nI 0), (9, nP (w37.heap.size) 0), (7, nP z26 0), (5, nP z14 0), (0, .slice p1 L0.length c2), (1, nI i1)]) (w' := w37.alloc (.cells #[nP z14 0, nP z26 0, .slice none 0 0, .slice none 0 0] 32)) (by kernel_rfl) ?_
 intro a55 hF54; clear hF52
 refine wpList_nil (thenN ?_)
 refine wp_block ?_
 refine wp_loop_ghost (fun kI aI wI => ∃ (v57 : Value) (L56 : List Int) (s58 : HSt) (s59 : HSt) (x60 : Int), Fr 119 aI [(10, nI x60), (9, nP (w37.heap.size) 0), (7, nP z26 0), (5, nP z14 0), (0, .slice p1 L0.length c2), (1, nI i1)] ∧ St w0 F0 (RowP (.slice none 0 0) [] :: RowP (v57) L56 :: BlkP (w37.heap.size) 32 #[nP z14 0, nP z26 0, v57, .slice none 0 0] :: HeapP z14 z15 s58 :: RHeapP z26 z27 z28 z29 z30 s59 :: RowP (.slice p1 L0.length c2) L0 :: ps) wI ∧ law12_made.l1 L0 i1 k kI L56 s58 s59 x60 = some r0) k ⟨.slice none 0 0, [], s7, s19, 0, hF54, hS51, hm21⟩ ?_
 rintro k61 a62 w63 ⟨v57, L56, s58, s59, x60, hF64, hS65, hm66⟩
 clear hF54 hS51 hm21
 cases k61 with
 | zero => cases hm66
 | succ k61 =>
  have hm67 : law12_made.l1b L0 i1 k (law12_made.l1 L0 i1 k k61) L56 s58 s59 x60 = some r0 := hm66
  clear hm66
  unfold law12_made.l1b at hm67
  obtain ⟨hl71, p68, c69, rfl, hp70⟩ := St.shape hS65 1 rfl
  refine wp_seq (wp_seq (wp_region_lit ?_))
  refine ev_runs 5 hF64 (l' := [(43, .bool (decide (x60 < (L0.length : Int)))), (42, .bool (decide (x60 < (L0.length : Int)))), (41, nI ((L0.length : Int))), (40, .slice p1 L0.length c2), (39, nI x60), (10, nI x60), (9, nP (w37.heap.size) 0), (7, nP z26 0), (5, nP z14 0), (0, .slice p1 L0.length c2), (1, nI i1)]) (w' := w63) (by kernel_rfl) ?_
  intro a73 hF72; clear hF64
  cases hc74 : (decide (x60 < (L0.length : Int))) with
  | true =>
   rw [hc74] at hF72
   rw [hc74] at hm67
   have hm75 := ifT hm67; clear hm67
   refine ev_runK 3 hF72 [0, 1, 5, 7, 9, 10, 46] (l' := [(46, .bool (decide (x60 < 4))), (10, nI x60), (9, nP (w37.heap.size) 0), (7, nP z26 0), (5, nP z14 0), (0, .slice p1 L0.length c2), (1, nI i1)]) (w' := w63) (by kernel_rfl) ?_
   intro a77 hF76; clear hF72
   refine wpList_nil (thenN ?_)
   cases hc78 : (decide (x60 < 4)) with
   | true =>
    rw [hc78] at hF76
    rw [hc78] at hm75
    have hm79 := ifT hm75; clear hm75
    refine ev_condT hF76 rfl rfl ?_
    refine wp_skip ?_
    have hF80 := hF76.keep [0, 1, 5, 7, 9, 10]
    clear hF76
    refine thenN (wp_seq ?_)
    refine wp_block ?_
    refine wp_seq (wp_region_lit ?_)
    refine ev_runs 2 hF80 (l' := [(50, nI x60), (49, .slice p1 L0.length c2), (10, nI x60), (9, nP (w37.heap.size) 0), (7, nP z26 0), (5, nP z14 0), (0, .slice p1 L0.length c2), (1, nI i1)]) (w' := w63) (by kernel_rfl) ?_
    intro a82 hF81; clear hF80
    obtain ⟨hc83, hm84⟩ := ifTE hm79; clear hm79
    obtain ⟨g85, rfl⟩ := hp3.resolve_left (by have := inR_spec hc83; omega)
    refine ev_one (nP g85 (x60.toNat)) w63 hF81 (by kernel_rfl) rfl (by kernel_rfl) (run_idx rfl rfl rfl rfl rfl (inR_spec hc83).1 (inR_spec hc83).2 _) (l' := [(51, nP g85 (x60.toNat)), (50, nI x60), (49, .slice (some ⟨g85, 0, none⟩) L0.length c2), (10, nI x60), (9, nP (w37.heap.size) 0), (7, nP z26 0), (5, nP z14 0), (0, .slice (some ⟨g85, 0, none⟩) L0.length c2), (1, nI i1)]) (by kernel_rfl) ?_
    intro a87 hF86; clear hF81
    refine ev_one (nI (atI L0 x60)) w63 hF86 (by kernel_rfl) rfl (by kernel_rfl) (run_load1 rfl rfl rfl (hS65.atI 5 rfl hc83)) (l' := [(52, nI (atI L0 x60)), (51, nP g85 (x60.toNat)), (50, nI x60), (49, .slice (some ⟨g85, 0, none⟩) L0.length c2), (10, nI x60), (9, nP (w37.heap.size) 0), (7, nP z26 0), (5, nP z14 0), (0, .slice (some ⟨g85, 0, none⟩) L0.length c2), (1, nI i1)]) (by kernel_rfl) ?_
    intro a89 hF88; clear hF86
    refine ev_runs 5 hF88 (l' := [(11, nP (w63.heap.size) 0), (56, .agg #[nI (IntKind.i64.wrap (Int.tmod (IntKind.u64.wrap (atI L0 x60)) 4)), nI 0, nI 0, nI 0, nI (-1), nI (-1), nI (-1), nI (-1), nI (-1)]), (55, nI (IntKind.i64.wrap (Int.tmod (IntKind.u64.wrap (atI L0 x60)) 4))), (54, .int .u64 (Int.tmod (IntKind.u64.wrap (atI L0 x60)) 4)), (53, .int .u64 (IntKind.u64.wrap (atI L0 x60))), (52, nI (atI L0 x60)), (51, nP g85 (x60.toNat)), (50, nI x60), (49, .slice (some ⟨g85, 0, none⟩) L0.length c2), (10, nI x60), (9, nP (w37.heap.size) 0), (7, nP z26 0), (5, nP z14 0), (0, .slice (some ⟨g85, 0, none⟩) L0.length c2), (1, nI i1)]) (w' := w63.alloc (.cells #[nI 0, nI 0, nI 0, nI 0, nI 0, nI 0, nI 0, nI 0, nI 0] 37)) (by kernel_rfl) ?_
    intro a91 hF90; clear hF88
    have hS93 : St w0 F0 (BlkP (w63.heap.size) 37 #[nI 0, nI 0, nI 0, nI 0, nI 0, nI 0, nI 0, nI 0, nI 0] :: RowP (.slice none 0 0) [] :: RowP (.slice p68 L56.length c69) L56 :: BlkP (w37.heap.size) 32 #[nP z14 0, nP z26 0, .slice p68 L56.length c69, .slice none 0 0] :: HeapP z14 z15 s58 :: RHeapP z26 z27 z28 z29 z30 s59 :: RowP (.slice (some ⟨g85, 0, none⟩) L0.length c2) L0 :: ps) (w63.alloc (.cells #[nI 0, nI 0, nI 0, nI 0, nI 0, nI 0, nI 0, nI 0, nI 0] 37)) := St.new hS65 #[nI 0, nI 0, nI 0, nI 0, nI 0, nI 0, nI 0, nI 0, nI 0] 37
    clear hS65
    refine ev_store (.agg #[nI (IntKind.i64.wrap (Int.tmod (IntKind.u64.wrap (atI L0 x60)) 4)), nI 0, nI 0, nI 0, nI (-1), nI (-1), nI (-1), nI (-1), nI (-1)]) #[nI (IntKind.i64.wrap (Int.tmod (IntKind.u64.wrap (atI L0 x60)) 4)), nI 0, nI 0, nI 0, nI (-1), nI (-1), nI (-1), nI (-1), nI (-1)] hF90 (by kernel_rfl) rfl rfl rfl rfl (by kernel_rfl) hS93 (by kernel_rfl) (by kernel_rfl) (by kernel_rfl) (l' := [(11, nP (w63.heap.size) 0), (56, .agg #[nI (IntKind.i64.wrap (Int.tmod (IntKind.u64.wrap (atI L0 x60)) 4)), nI 0, nI 0, nI 0, nI (-1), nI (-1), nI (-1), nI (-1), nI (-1)]), (55, nI (IntKind.i64.wrap (Int.tmod (IntKind.u64.wrap (atI L0 x60)) 4))), (54, .int .u64 (Int.tmod (IntKind.u64.wrap (atI L0 x60)) 4)), (53, .int .u64 (IntKind.u64.wrap (atI L0 x60))), (52, nI (atI L0 x60)), (51, nP g85 (x60.toNat)), (50, nI x60), (49, .slice (some ⟨g85, 0, none⟩) L0.length c2), (10, nI x60), (9, nP (w37.heap.size) 0), (7, nP z26 0), (5, nP z14 0), (0, .slice (some ⟨g85, 0, none⟩) L0.length c2), (1, nI i1)]) (by kernel_rfl) ?_
    intro w94 a95 hS96 hF97; clear hF90 hS93
    refine wpList_nil ?_
    have hF98 := hF97.keep [0, 1, 5, 7, 9, 10, 11]
    clear hF97
    refine thenN (wp_seq (wp_region_lit ?_))
    refine ev_runs 1 hF98 (l' := [(57, nP (w37.heap.size) 0), (11, nP (w63.heap.size) 0), (10, nI x60), (9, nP (w37.heap.size) 0), (7, nP z26 0), (5, nP z14 0), (0, .slice (some ⟨g85, 0, none⟩) L0.length c2), (1, nI i1)]) (w' := w94) (by kernel_rfl) ?_
    intro a100 hF99; clear hF98
    have hS101 := hS96.pick1.pick2.pick5.pick5.pick5
    clear hS96
    refine ev_call 56 #[nP (w37.heap.size) 0, nI 1, nI 9] hF99 rfl rfl (by kernel_rfl) rfl (by kernel_rfl) (fun w => by kernel_rfl) ?_
    obtain ⟨x102, s103, s104, hx105, hm106⟩ := bind3E hm84; clear hm84
    refine (law12_alloc.ok hS101 hx105).mono ?_
    rintro _ w107 ⟨rfl, hS109⟩ a108 hF110; clear hF99 hS101
    refine ev_runK 1 hF110 [0, 1, 5, 7, 9, 10, 11, 12] (l' := [(12, nI x102), (11, nP (w63.heap.size) 0), (10, nI x60), (9, nP (w37.heap.size) 0), (7, nP z26 0), (5, nP z14 0), (0, .slice (some ⟨g85, 0, none⟩) L0.length c2), (1, nI i1)]) (w' := w107) (by kernel_rfl) ?_
    intro a112 hF111; clear hF110
    refine wpList_nil (thenN (wp_seq (wp_seq (wp_region_lit ?_))))
    refine ev_runs 1 hF111 (l' := [(59, nP (w63.heap.size) 0), (12, nI x102), (11, nP (w63.heap.size) 0), (10, nI x60), (9, nP (w37.heap.size) 0), (7, nP z26 0), (5, nP z14 0), (0, .slice (some ⟨g85, 0, none⟩) L0.length c2), (1, nI i1)]) (w' := w107) (by kernel_rfl) ?_
    intro a114 hF113; clear hF111
    refine ev_one (nI (IntKind.i64.wrap (Int.tmod (IntKind.u64.wrap (atI L0 x60)) 4))) w107 hF113 (by kernel_rfl) rfl (by kernel_rfl) (run_loadV rfl rfl (run_loadS rfl rfl (hS109.cell 5 rfl 0 rfl))) (l' := [(60, nI (IntKind.i64.wrap (Int.tmod (IntKind.u64.wrap (atI L0 x60)) 4))), (59, nP (w63.heap.size) 0), (12, nI x102), (11, nP (w63.heap.size) 0), (10, nI x60), (9, nP (w37.heap.size) 0), (7, nP z26 0), (5, nP z14 0), (0, .slice (some ⟨g85, 0, none⟩) L0.length c2), (1, nI i1)]) (by kernel_rfl) ?_
    intro a116 hF115; clear hF113
    refine ev_runK 1 hF115 [0, 1, 5, 7, 9, 10, 11, 12, 61] (l' := [(61, .bool (decide ((IntKind.i64.wrap (Int.tmod (IntKind.u64.wrap (atI L0 x60)) 4)) > 0))), (12, nI x102), (11, nP (w63.heap.size) 0), (10, nI x60), (9, nP (w37.heap.size) 0), (7, nP z26 0), (5, nP z14 0), (0, .slice (some ⟨g85, 0, none⟩) L0.length c2), (1, nI i1)]) (w' := w107) (by kernel_rfl) ?_
    intro a118 hF117; clear hF115
    refine wpList_nil (thenN ?_)
    cases hc119 : (decide ((IntKind.i64.wrap (Int.tmod (IntKind.u64.wrap (atI L0 x60)) 4)) > 0)) with
    | true =>
     rw [hc119] at hF117
     rw [hc119] at hm106
     have hm120 := ifT hm106; clear hm106
     refine ev_condT hF117 rfl rfl ?_
     refine wp_region_lit ?_
     refine ev_runs 2 hF117 (l' := [(63, nP (w63.heap.size) 0), (62, nP (w37.heap.size) 0), (61, .bool true), (12, nI x102), (11, nP (w63.heap.size) 0), (10, nI x60), (9, nP (w37.heap.size) 0), (7, nP z26 0), (5, nP z14 0), (0, .slice (some ⟨g85, 0, none⟩) L0.length c2), (1, nI i1)]) (w' := w107) (by kernel_rfl) ?_
     intro a122 hF121; clear hF117
     refine ev_one (nI (IntKind.i64.wrap (Int.tmod (IntKind.u64.wrap (atI L0 x60)) 4))) w107 hF121 (by kernel_rfl) rfl (by kernel_rfl) (run_loadV rfl rfl (run_loadS rfl rfl (hS109.cell 5 rfl 0 rfl))) (l' := [(64, nI (IntKind.i64.wrap (Int.tmod (IntKind.u64.wrap (atI L0 x60)) 4))), (63, nP (w63.heap.size) 0), (62, nP (w37.heap.size) 0), (61, .bool true), (12, nI x102), (11, nP (w63.heap.size) 0), (10, nI x60), (9, nP (w37.heap.size) 0), (7, nP z26 0), (5, nP z14 0), (0, .slice (some ⟨g85, 0, none⟩) L0.length c2), (1, nI i1)]) (by kernel_rfl) ?_
     intro a124 hF123; clear hF121
     refine ev_call 56 #[nP (w37.heap.size) 0, nI 2, nI (IntKind.i64.wrap (Int.tmod (IntKind.u64.wrap (atI L0 x60)) 4))] hF123 rfl rfl (by kernel_rfl) rfl (by kernel_rfl) (fun w => by kernel_rfl) ?_
     obtain ⟨x125, s126, s127, hx128, hm129⟩ := bind3E hm120; clear hm120
     refine (law12_alloc.ok hS109 hx128).mono ?_
     rintro _ w130 ⟨rfl, hS132⟩ a131 hF133; clear hF123 hS109
     refine ev_runs 1 hF133 (l' := [(66, nP (w63.heap.size) 4), (65, nI x125), (64, nI (IntKind.i64.wrap (Int.tmod (IntKind.u64.wrap (atI L0 x60)) 4))), (63, nP (w63.heap.size) 0), (62, nP (w37.heap.size) 0), (61, .bool true), (12, nI x102), (11, nP (w63.heap.size) 0), (10, nI x60), (9, nP (w37.heap.size) 0), (7, nP z26 0), (5, nP z14 0), (0, .slice (some ⟨g85, 0, none⟩) L0.length c2), (1, nI i1)]) (w' := w130) (by kernel_rfl) ?_
     intro a135 hF134; clear hF133
     have hS136 := hS132.pick5
     clear hS132
     refine ev_store (nI x125) #[nI (IntKind.i64.wrap (Int.tmod (IntKind.u64.wrap (atI L0 x60)) 4)), nI 0, nI 0, nI 0, nI x125, nI (-1), nI (-1), nI (-1), nI (-1)] hF134 (by kernel_rfl) rfl rfl rfl rfl (by kernel_rfl) hS136 (by kernel_rfl) (by kernel_rfl) (by kernel_rfl) (l' := [(66, nP (w63.heap.size) 4), (65, nI x125), (64, nI (IntKind.i64.wrap (Int.tmod (IntKind.u64.wrap (atI L0 x60)) 4))), (63, nP (w63.heap.size) 0), (62, nP (w37.heap.size) 0), (61, .bool true), (12, nI x102), (11, nP (w63.heap.size) 0), (10, nI x60), (9, nP (w37.heap.size) 0), (7, nP z26 0), (5, nP z14 0), (0, .slice (some ⟨g85, 0, none⟩) L0.length c2), (1, nI i1)]) (by kernel_rfl) ?_
     intro w137 a138 hS139 hF140; clear hF134 hS136
     refine wpList_nil ?_
     have hF141 := hF140.keep [0, 1, 5, 7, 9, 10, 11, 12]
     clear hF140
     refine thenN (wp_seq (wp_seq ?_))
     -- draws
     have hS142 := hS139.drew; clear hS139
     refine any_start (fun wS => ∃ qs, St w0 F0 (BlkP (w63.heap.size) 37 #[nI (IntKind.i64.wrap (Int.tmod (IntKind.u64.wrap (atI L0 x60)) 4)), nI 0, nI 0, nI 0, nI x125, nI (-1), nI (-1), nI (-1), nI (-1)] :: qs) wS) 9 #[false, false, false, false, false, false, false, false, false] (by kernel_rfl) (by kernel_rfl) (by kernel_rfl) ?_
     refine any_many 6 [(0, some (nP z14 0)), (1, some (nI x102)), (2, some (.agg #[nI (IntKind.i64.wrap (Int.tmod (IntKind.u64.wrap (atI L0 x60)) 4)), nI 0, nI 0, nI 0, nI x125, nI (-1), nI (-1), nI (-1), nI (-1)])), (4, some (nP z26 0)), (5, some (nI x102)), (6, some (.agg #[nI (IntKind.i64.wrap (Int.tmod (IntKind.u64.wrap (atI L0 x60)) 4)), nI 0, nI 0, nI 0, nI x125, nI (-1), nI (-1), nI (-1), nI (-1)]))] [0, 1, 5, 7, 9, 10, 12, 67, 68, 69, 70, 71, 72, 73, 74, 75] #[true, true, true, false, true, true, true, false, false] (by rfl) hF141 (by kernel_rfl) (by kernel_rfl) (by exact (And.intro (fun wS hw => by kernel_rfl) (And.intro (fun wS hw => by kernel_rfl) (And.intro (fun wS hw => hw.elim fun qs hw => run_loadV rfl rfl (run_loadA (cs := [nI (IntKind.i64.wrap (Int.tmod (IntKind.u64.wrap (atI L0 x60)) 4)), nI 0, nI 0, nI 0, nI x125, nI (-1), nI (-1), nI (-1), nI (-1)]) rfl rfl (by kernel_rfl) (blk_cells hw 0 rfl rfl))) (And.intro (fun wS hw => by kernel_rfl) (And.intro (fun wS hw => by kernel_rfl) (And.intro (fun wS hw => hw.elim fun qs hw => run_loadV rfl rfl (run_loadA (cs := [nI (IntKind.i64.wrap (Int.tmod (IntKind.u64.wrap (atI L0 x60)) 4)), nI 0, nI 0, nI 0, nI x125, nI (-1), nI (-1), nI (-1), nI (-1)]) rfl rfl (by kernel_rfl) (blk_cells hw 0 rfl rfl))) trivial))))))) (fun _ _ _ _ _ h => h) ⟨_, hS142⟩ (l' := [(73, .agg #[nI (IntKind.i64.wrap (Int.tmod (IntKind.u64.wrap (atI L0 x60)) 4)), nI 0, nI 0, nI 0, nI x125, nI (-1), nI (-1), nI (-1), nI (-1)]), (72, nI x102), (71, nP z26 0), (69, .agg #[nI (IntKind.i64.wrap (Int.tmod (IntKind.u64.wrap (atI L0 x60)) 4)), nI 0, nI 0, nI 0, nI x125, nI (-1), nI (-1), nI (-1), nI (-1)]), (68, nI x102), (67, nP z14 0), (12, nI x102), (10, nI x60), (9, nP (w37.heap.size) 0), (7, nP z26 0), (5, nP z14 0), (0, .slice (some ⟨g85, 0, none⟩) L0.length c2), (1, nI i1)]) (by kernel_rfl) ?_
     intro a144 hF143; clear hF141
     have hS145 := hS142.pick2
     clear hS142
     refine any_call 3 #[true, true, true, true, true, true, true, false, false] 22 #[nP z14 0, nI x102, .agg #[nI (IntKind.i64.wrap (Int.tmod (IntKind.u64.wrap (atI L0 x60)) 4)), nI 0, nI 0, nI 0, nI x125, nI (-1), nI (-1), nI (-1), nI (-1)]] hF143 rfl (by kernel_rfl) rfl rfl (by kernel_rfl) rfl (by kernel_rfl) (fun w => by kernel_rfl) (by kernel_rfl) ?_
     obtain ⟨x146, s147, hx148, hm149⟩ := bind2E hm129; clear hm129
     refine (p_PutChan hS145 hx148).mono ?_
     rintro _ w150 ⟨rfl, hS152⟩; clear hS145
     refine ⟨⟨_, hS152.pick1⟩, ?_⟩
     intro a151 hF153; clear hF143
     have hS154 := hS152.pick3
     clear hS152
     refine any_call 7 #[true, true, true, true, true, true, true, true, false] 57 #[nP z26 0, nI x102, .agg #[nI (IntKind.i64.wrap (Int.tmod (IntKind.u64.wrap (atI L0 x60)) 4)), nI 0, nI 0, nI 0, nI x125, nI (-1), nI (-1), nI (-1), nI (-1)]] hF153 rfl (by kernel_rfl) rfl rfl (by kernel_rfl) rfl (by kernel_rfl) (fun w => by kernel_rfl) (by kernel_rfl) ?_
     obtain ⟨x155, s156, hx157, hm158⟩ := bind2E hm149; clear hm149
     refine (ref11_PutChan.ok hS154 hx157).mono ?_
     rintro _ w159 ⟨rfl, hS161⟩; clear hS154
     refine ⟨⟨_, hS161.pick2⟩, ?_⟩
     intro a160 hF162; clear hF153
     refine any_many 1 [(8, some (.bool (x146 != x155)))] [0, 1, 5, 7, 9, 10, 12, 75] #[true, true, true, true, true, true, true, true, true] (by rfl) hF162 (by kernel_rfl) (by kernel_rfl) (by exact (And.intro (fun wS hw => by kernel_rfl) trivial)) (fun _ _ _ _ _ h => h) ⟨_, hS161.pick2⟩ (l' := [(75, .bool (x146 != x155)), (12, nI x102), (10, nI x60), (9, nP (w37.heap.size) 0), (7, nP z26 0), (5, nP z14 0), (0, .slice (some ⟨g85, 0, none⟩) L0.length c2), (1, nI i1)]) (by kernel_rfl) ?_
     intro a164 hF163; clear hF162
     refine any_done (by kernel_rfl) ?_
     have hS165 := hS161.pick2.drop
     clear hS161
     refine thenN ?_
     cases hc166 : (x146 != x155) with
     | true =>
      rw [hc166] at hF163
      rw [hc166] at hm158
      have hm167 := ifT hm158; clear hm158
      refine ev_condT hF163 rfl rfl ?_
      refine wp_seq (wp_region_lit ?_)
      refine ev_runK 1 hF163 [4] (l' := [(4, .pointer none)]) (w' := w159) (by kernel_rfl) ?_
      intro a169 hF168; clear hF163
      refine wpList_nil ?_
      have hS170 := hS165.drop.drop.drop.drop.drop
      clear hS165
      refine thenN ?_
      refine wp_ret ?_
      refine thenR ?_
      refine blockR ?_
      refine thenR (thenR ?_)
      refine blockR ?_
      refine thenR ?_
      cases hm167
     | false =>
      rw [hc166] at hF163
      rw [hc166] at hm158
      have hm171 := ifF hm158; clear hm158
      refine ev_condF hF163 rfl rfl ?_
      refine wp_skip ?_
      have hF172 := hF163.keep [0, 1, 5, 7, 9, 10, 12]
      clear hF163
      refine thenN (wp_region_lit ?_)
      refine ev_runs 4 hF172 (l' := [(79, nP (w37.heap.size) 2), (78, nP (w37.heap.size) 0), (77, nP (w37.heap.size) 0), (76, nP (w37.heap.size) 0), (12, nI x102), (10, nI x60), (9, nP (w37.heap.size) 0), (7, nP z26 0), (5, nP z14 0), (0, .slice (some ⟨g85, 0, none⟩) L0.length c2), (1, nI i1)]) (w' := w159) (by kernel_rfl) ?_
      intro a174 hF173; clear hF172
      refine ev_one (.slice p68 L56.length c69) w159 hF173 (by kernel_rfl) rfl (by kernel_rfl) (run_loadV rfl rfl (run_loadS rfl rfl (hS165.cell 2 rfl 2 rfl))) (l' := [(80, .slice p68 L56.length c69), (79, nP (w37.heap.size) 2), (78, nP (w37.heap.size) 0), (77, nP (w37.heap.size) 0), (76, nP (w37.heap.size) 0), (12, nI x102), (10, nI x60), (9, nP (w37.heap.size) 0), (7, nP z26 0), (5, nP z14 0), (0, .slice (some ⟨g85, 0, none⟩) L0.length c2), (1, nI i1)]) (by kernel_rfl) ?_
      intro a176 hF175; clear hF173
      refine ev_runs 2 hF175 (l' := [(82, .slice (some ⟨w159.heap.size, 0, none⟩) 1 1), (81, nI x102), (80, .slice p68 L56.length c69), (79, nP (w37.heap.size) 2), (78, nP (w37.heap.size) 0), (77, nP (w37.heap.size) 0), (76, nP (w37.heap.size) 0), (12, nI x102), (10, nI x60), (9, nP (w37.heap.size) 0), (7, nP z26 0), (5, nP z14 0), (0, .slice (some ⟨g85, 0, none⟩) L0.length c2), (1, nI i1)]) (w' := w159.alloc (.cells #[nI x102] 3)) (by kernel_rfl) ?_
      intro a178 hF177; clear hF175
      have hS179 := hS165.pick3
      clear hS165
      obtain ⟨L180, hx181, hm182⟩ := bind1E hm171; clear hm171
      refine ev_push 83 (.tmp 80) (.tmp 82) hF177 rfl rfl rfl rfl rfl rfl rfl rfl hS179 hx181 ?_
      intro g183 c184 w185 a186 hS187 hF188; clear hF177 hS179
      refine ev_runs 2 hF188 (l' := [(85, nP (w37.heap.size) 2), (84, nP (w37.heap.size) 0), (83, .slice (some ⟨g183, 0, none⟩) L180.length c184), (82, .slice (some ⟨w159.heap.size, 0, none⟩) 1 1), (81, nI x102), (80, .slice p68 L56.length c69), (79, nP (w37.heap.size) 2), (78, nP (w37.heap.size) 0), (77, nP (w37.heap.size) 0), (76, nP (w37.heap.size) 0), (12, nI x102), (10, nI x60), (9, nP (w37.heap.size) 0), (7, nP z26 0), (5, nP z14 0), (0, .slice (some ⟨g85, 0, none⟩) L0.length c2), (1, nI i1)]) (w' := w185) (by kernel_rfl) ?_
      intro a190 hF189; clear hF188
      have hS191 := hS187.pick3
      clear hS187
      refine ev_store (.slice (some ⟨g183, 0, none⟩) L180.length c184) #[nP z14 0, nP z26 0, .slice (some ⟨g183, 0, none⟩) L180.length c184, .slice none 0 0] hF189 (by kernel_rfl) rfl rfl rfl rfl (by kernel_rfl) hS191 (by kernel_rfl) (by kernel_rfl) (by kernel_rfl) (l' := [(85, nP (w37.heap.size) 2), (84, nP (w37.heap.size) 0), (83, .slice (some ⟨g183, 0, none⟩) L180.length c184), (82, .slice (some ⟨w159.heap.size, 0, none⟩) 1 1), (81, nI x102), (80, .slice p68 L56.length c69), (79, nP (w37.heap.size) 2), (78, nP (w37.heap.size) 0), (77, nP (w37.heap.size) 0), (76, nP (w37.heap.size) 0), (12, nI x102), (10, nI x60), (9, nP (w37.heap.size) 0), (7, nP z26 0), (5, nP z14 0), (0, .slice (some ⟨g85, 0, none⟩) L0.length c2), (1, nI i1)]) (by kernel_rfl) ?_
      intro w192 a193 hS194 hF195; clear hF189 hS191
      refine wpList_nil ?_
      have hF196 := hF195.keep [0, 1, 5, 7, 9, 10]
      clear hF195
      refine blockN ?_
      refine thenN (wp_region_lit ?_)
      refine ev_runK 3 hF196 [0, 1, 5, 7, 9, 10] (l' := [(10, nI (IntKind.i64.wrap (x60 + 1))), (9, nP (w37.heap.size) 0), (7, nP z26 0), (5, nP z14 0), (0, .slice (some ⟨g85, 0, none⟩) L0.length c2), (1, nI i1)]) (w' := w192) (by kernel_rfl) ?_
      intro a198 hF197; clear hF196
      refine wpList_nil ?_
      have hS199 := hS194.pick5.pick3.pick4.pick3.pick4.pick5
      clear hS194
      exact thenN ⟨k61, Nat.lt_succ_self _, .slice (some ⟨g183, 0, none⟩) L180.length c184, L180, s147, s156, IntKind.i64.wrap (x60 + 1), hF197, hS199, hm182⟩
    | false =>
     rw [hc119] at hF117
     rw [hc119] at hm106
     have hm200 := ifF hm106; clear hm106
     refine ev_condF hF117 rfl rfl ?_
     refine wp_skip ?_
     have hF201 := hF117.keep [0, 1, 5, 7, 9, 10, 11, 12]
     clear hF117
     refine thenN (wp_seq (wp_seq ?_))
     -- draws
     have hS202 := hS109.pick5
     clear hS109
     have hS203 := hS202.drew; clear hS202
     refine any_start (fun wS => ∃ qs, St w0 F0 (BlkP (w63.heap.size) 37 #[nI (IntKind.i64.wrap (Int.tmod (IntKind.u64.wrap (atI L0 x60)) 4)), nI 0, nI 0, nI 0, nI (-1), nI (-1), nI (-1), nI (-1), nI (-1)] :: qs) wS) 9 #[false, false, false, false, false, false, false, false, false] (by kernel_rfl) (by kernel_rfl) (by kernel_rfl) ?_
     refine any_many 6 [(0, some (nP z14 0)), (1, some (nI x102)), (2, some (.agg #[nI (IntKind.i64.wrap (Int.tmod (IntKind.u64.wrap (atI L0 x60)) 4)), nI 0, nI 0, nI 0, nI (-1), nI (-1), nI (-1), nI (-1), nI (-1)])), (4, some (nP z26 0)), (5, some (nI x102)), (6, some (.agg #[nI (IntKind.i64.wrap (Int.tmod (IntKind.u64.wrap (atI L0 x60)) 4)), nI 0, nI 0, nI 0, nI (-1), nI (-1), nI (-1), nI (-1), nI (-1)]))] [0, 1, 5, 7, 9, 10, 12, 67, 68, 69, 70, 71, 72, 73, 74, 75] #[true, true, true, false, true, true, true, false, false] (by rfl) hF201 (by kernel_rfl) (by kernel_rfl) (by exact (And.intro (fun wS hw => by kernel_rfl) (And.intro (fun wS hw => by kernel_rfl) (And.intro (fun wS hw => hw.elim fun qs hw => run_loadV rfl rfl (run_loadA (cs := [nI (IntKind.i64.wrap (Int.tmod (IntKind.u64.wrap (atI L0 x60)) 4)), nI 0, nI 0, nI 0, nI (-1), nI (-1), nI (-1), nI (-1), nI (-1)]) rfl rfl (by kernel_rfl) (blk_cells hw 0 rfl rfl))) (And.intro (fun wS hw => by kernel_rfl) (And.intro (fun wS hw => by kernel_rfl) (And.intro (fun wS hw => hw.elim fun qs hw => run_loadV rfl rfl (run_loadA (cs := [nI (IntKind.i64.wrap (Int.tmod (IntKind.u64.wrap (atI L0 x60)) 4)), nI 0, nI 0, nI 0, nI (-1), nI (-1), nI (-1), nI (-1), nI (-1)]) rfl rfl (by kernel_rfl) (blk_cells hw 0 rfl rfl))) trivial))))))) (fun _ _ _ _ _ h => h) ⟨_, hS203⟩ (l' := [(73, .agg #[nI (IntKind.i64.wrap (Int.tmod (IntKind.u64.wrap (atI L0 x60)) 4)), nI 0, nI 0, nI 0, nI (-1), nI (-1), nI (-1), nI (-1), nI (-1)]), (72, nI x102), (71, nP z26 0), (69, .agg #[nI (IntKind.i64.wrap (Int.tmod (IntKind.u64.wrap (atI L0 x60)) 4)), nI 0, nI 0, nI 0, nI (-1), nI (-1), nI (-1), nI (-1), nI (-1)]), (68, nI x102), (67, nP z14 0), (12, nI x102), (10, nI x60), (9, nP (w37.heap.size) 0), (7, nP z26 0), (5, nP z14 0), (0, .slice (some ⟨g85, 0, none⟩) L0.length c2), (1, nI i1)]) (by kernel_rfl) ?_
     intro a205 hF204; clear hF201
     have hS206 := hS203.pick2
     clear hS203
     refine any_call 3 #[true, true, true, true, true, true, true, false, false] 22 #[nP z14 0, nI x102, .agg #[nI (IntKind.i64.wrap (Int.tmod (IntKind.u64.wrap (atI L0 x60)) 4)), nI 0, nI 0, nI 0, nI (-1), nI (-1), nI (-1), nI (-1), nI (-1)]] hF204 rfl (by kernel_rfl) rfl rfl (by kernel_rfl) rfl (by kernel_rfl) (fun w => by kernel_rfl) (by kernel_rfl) ?_
     obtain ⟨x207, s208, hx209, hm210⟩ := bind2E hm200; clear hm200
     refine (p_PutChan hS206 hx209).mono ?_
     rintro _ w211 ⟨rfl, hS213⟩; clear hS206
     refine ⟨⟨_, hS213.pick1⟩, ?_⟩
     intro a212 hF214; clear hF204
     have hS215 := hS213.pick3
     clear hS213
     refine any_call 7 #[true, true, true, true, true, true, true, true, false] 57 #[nP z26 0, nI x102, .agg #[nI (IntKind.i64.wrap (Int.tmod (IntKind.u64.wrap (atI L0 x60)) 4)), nI 0, nI 0, nI 0, nI (-1), nI (-1), nI (-1), nI (-1), nI (-1)]] hF214 rfl (by kernel_rfl) rfl rfl (by kernel_rfl) rfl (by kernel_rfl) (fun w => by kernel_rfl) (by kernel_rfl) ?_
     obtain ⟨x216, s217, hx218, hm219⟩ := bind2E hm210; clear hm210
     refine (ref11_PutChan.ok hS215 hx218).mono ?_
     rintro _ w220 ⟨rfl, hS222⟩; clear hS215
     refine ⟨⟨_, hS222.pick2⟩, ?_⟩
     intro a221 hF223; clear hF214
     refine any_many 1 [(8, some (.bool (x207 != x216)))] [0, 1, 5, 7, 9, 10, 12, 75] #[true, true, true, true, true, true, true, true, true] (by rfl) hF223 (by kernel_rfl) (by kernel_rfl) (by exact (And.intro (fun wS hw => by kernel_rfl) trivial)) (fun _ _ _ _ _ h => h) ⟨_, hS222.pick2⟩ (l' := [(75, .bool (x207 != x216)), (12, nI x102), (10, nI x60), (9, nP (w37.heap.size) 0), (7, nP z26 0), (5, nP z14 0), (0, .slice (some ⟨g85, 0, none⟩) L0.length c2), (1, nI i1)]) (by kernel_rfl) ?_
     intro a225 hF224; clear hF223
     refine any_done (by kernel_rfl) ?_
     have hS226 := hS222.pick2.drop
     clear hS222
     refine thenN ?_
     cases hc227 : (x207 != x216) with
     | true =>
      rw [hc227] at hF224
      rw [hc227] at hm219
      have hm228 := ifT hm219; clear hm219
      refine ev_condT hF224 rfl rfl ?_
      refine wp_seq (wp_region_lit ?_)
      refine ev_runK 1 hF224 [4] (l' := [(4, .pointer none)]) (w' := w220) (by kernel_rfl) ?_
      intro a230 hF229; clear hF224
      refine wpList_nil ?_
      have hS231 := hS226.drop.drop.drop.drop.drop
      clear hS226
      refine thenN ?_
      refine wp_ret ?_
      refine thenR ?_
      refine blockR ?_
      refine thenR (thenR ?_)
      refine blockR ?_
      refine thenR ?_
      cases hm228
     | false =>
      rw [hc227] at hF224
      rw [hc227] at hm219
      have hm232 := ifF hm219; clear hm219
      refine ev_condF hF224 rfl rfl ?_
      refine wp_skip ?_
      have hF233 := hF224.keep [0, 1, 5, 7, 9, 10, 12]
      clear hF224
      refine thenN (wp_region_lit ?_)
      refine ev_runs 4 hF233 (l' := [(79, nP (w37.heap.size) 2), (78, nP (w37.heap.size) 0), (77, nP (w37.heap.size) 0), (76, nP (w37.heap.size) 0), (12, nI x102), (10, nI x60), (9, nP (w37.heap.size) 0), (7, nP z26 0), (5, nP z14 0), (0, .slice (some ⟨g85, 0, none⟩) L0.length c2), (1, nI i1)]) (w' := w220) (by kernel_rfl) ?_
      intro a235 hF234; clear hF233
      refine ev_one (.slice p68 L56.length c69) w220 hF234 (by kernel_rfl) rfl (by kernel_rfl) (run_loadV rfl rfl (run_loadS rfl rfl (hS226.cell 2 rfl 2 rfl))) (l' := [(80, .slice p68 L56.length c69), (79, nP (w37.heap.size) 2), (78, nP (w37.heap.size) 0), (77, nP (w37.heap.size) 0), (76, nP (w37.heap.size) 0), (12, nI x102), (10, nI x60), (9, nP (w37.heap.size) 0), (7, nP z26 0), (5, nP z14 0), (0, .slice (some ⟨g85, 0, none⟩) L0.length c2), (1, nI i1)]) (by kernel_rfl) ?_
      intro a237 hF236; clear hF234
      refine ev_runs 2 hF236 (l' := [(82, .slice (some ⟨w220.heap.size, 0, none⟩) 1 1), (81, nI x102), (80, .slice p68 L56.length c69), (79, nP (w37.heap.size) 2), (78, nP (w37.heap.size) 0), (77, nP (w37.heap.size) 0), (76, nP (w37.heap.size) 0), (12, nI x102), (10, nI x60), (9, nP (w37.heap.size) 0), (7, nP z26 0), (5, nP z14 0), (0, .slice (some ⟨g85, 0, none⟩) L0.length c2), (1, nI i1)]) (w' := w220.alloc (.cells #[nI x102] 3)) (by kernel_rfl) ?_
      intro a239 hF238; clear hF236
      have hS240 := hS226.pick3
      clear hS226
      obtain ⟨L241, hx242, hm243⟩ := bind1E hm232; clear hm232
      refine ev_push 83 (.tmp 80) (.tmp 82) hF238 rfl rfl rfl rfl rfl rfl rfl rfl hS240 hx242 ?_
      intro g244 c245 w246 a247 hS248 hF249; clear hF238 hS240
      refine ev_runs 2 hF249 (l' := [(85, nP (w37.heap.size) 2), (84, nP (w37.heap.size) 0), (83, .slice (some ⟨g244, 0, none⟩) L241.length c245), (82, .slice (some ⟨w220.heap.size, 0, none⟩) 1 1), (81, nI x102), (80, .slice p68 L56.length c69), (79, nP (w37.heap.size) 2), (78, nP (w37.heap.size) 0), (77, nP (w37.heap.size) 0), (76, nP (w37.heap.size) 0), (12, nI x102), (10, nI x60), (9, nP (w37.heap.size) 0), (7, nP z26 0), (5, nP z14 0), (0, .slice (some ⟨g85, 0, none⟩) L0.length c2), (1, nI i1)]) (w' := w246) (by kernel_rfl) ?_
      intro a251 hF250; clear hF249
      have hS252 := hS248.pick3
      clear hS248
      refine ev_store (.slice (some ⟨g244, 0, none⟩) L241.length c245) #[nP z14 0, nP z26 0, .slice (some ⟨g244, 0, none⟩) L241.length c245, .slice none 0 0] hF250 (by kernel_rfl) rfl rfl rfl rfl (by kernel_rfl) hS252 (by kernel_rfl) (by kernel_rfl) (by kernel_rfl) (l' := [(85, nP (w37.heap.size) 2), (84, nP (w37.heap.size) 0), (83, .slice (some ⟨g244, 0, none⟩) L241.length c245), (82, .slice (some ⟨w220.heap.size, 0, none⟩) 1 1), (81, nI x102), (80, .slice p68 L56.length c69), (79, nP (w37.heap.size) 2), (78, nP (w37.heap.size) 0), (77, nP (w37.heap.size) 0), (76, nP (w37.heap.size) 0), (12, nI x102), (10, nI x60), (9, nP (w37.heap.size) 0), (7, nP z26 0), (5, nP z14 0), (0, .slice (some ⟨g85, 0, none⟩) L0.length c2), (1, nI i1)]) (by kernel_rfl) ?_
      intro w253 a254 hS255 hF256; clear hF250 hS252
      refine wpList_nil ?_
      have hF257 := hF256.keep [0, 1, 5, 7, 9, 10]
      clear hF256
      refine blockN ?_
      refine thenN (wp_region_lit ?_)
      refine ev_runK 3 hF257 [0, 1, 5, 7, 9, 10] (l' := [(10, nI (IntKind.i64.wrap (x60 + 1))), (9, nP (w37.heap.size) 0), (7, nP z26 0), (5, nP z14 0), (0, .slice (some ⟨g85, 0, none⟩) L0.length c2), (1, nI i1)]) (w' := w253) (by kernel_rfl) ?_
      intro a259 hF258; clear hF257
      refine wpList_nil ?_
      have hS260 := hS255.pick5.pick3.pick4.pick3.pick4.pick5
      clear hS255
      exact thenN ⟨k61, Nat.lt_succ_self _, .slice (some ⟨g244, 0, none⟩) L241.length c245, L241, s208, s217, IntKind.i64.wrap (x60 + 1), hF258, hS260, hm243⟩
   | false =>
    rw [hc78] at hF76
    rw [hc78] at hm75
    have hm261 := ifF hm75; clear hm75
    refine ev_condF hF76 rfl rfl ?_
    refine wp_exit ?_
    refine thenE ?_
    refine thenE ?_
    refine blockE ?_
    refine thenN (wp_seq (wp_seq (wp_region_lit ?_)))
    refine ev_runK 1 hF76 [1, 5, 7, 9, 13] (l' := [(13, nI 0), (9, nP (w37.heap.size) 0), (7, nP z26 0), (5, nP z14 0), (1, nI i1)]) (w' := w63) (by kernel_rfl) ?_
    intro a263 hF262; clear hF76
    refine wpList_nil (thenN ?_)
    refine wp_block ?_
    refine wp_loop_ghost (fun kI aI wI => ∃ (v265 : Value) (L264 : List Int) (s266 : HSt) (s267 : HSt) (x268 : Int), Fr 119 aI [(13, nI x268), (9, nP (w37.heap.size) 0), (7, nP z26 0), (5, nP z14 0), (1, nI i1)] ∧ St w0 F0 (RowP (v265) L264 :: RowP (.slice p68 L56.length c69) L56 :: BlkP (w37.heap.size) 32 #[nP z14 0, nP z26 0, .slice p68 L56.length c69, v265] :: HeapP z14 z15 s266 :: RHeapP z26 z27 z28 z29 z30 s267 :: RowP (.slice p1 L0.length c2) L0 :: ps) wI ∧ law12_made.l2 i1 k L56 kI L264 s266 s267 x268 = some r0) k ⟨.slice none 0 0, [], s58, s59, 0, hF262, hS65, hm261⟩ ?_
    rintro k269 a270 w271 ⟨v265, L264, s266, s267, x268, hF272, hS273, hm274⟩
    clear hF262 hS65 hm261
    cases k269 with
    | zero => cases hm274
    | succ k269 =>
     have hm275 : law12_made.l2b i1 k L56 (law12_made.l2 i1 k L56 k269) L264 s266 s267 x268 = some r0 := hm274
     clear hm274
     unfold law12_made.l2b at hm275
     obtain ⟨hl279, p276, c277, rfl, hp278⟩ := St.shape hS273 0 rfl
     refine wp_seq (wp_seq (wp_region_lit ?_))
     refine ev_runK 7 hF272 [1, 5, 7, 9, 13, 92] (l' := [(92, .bool (decide (x268 < (IntKind.i64.wrap (1 + (IntKind.i64.wrap (Int.tmod (IntKind.u64.wrap i1) 6))))))), (13, nI x268), (9, nP (w37.heap.size) 0), (7, nP z26 0), (5, nP z14 0), (1, nI i1)]) (w' := w271) (by kernel_rfl) ?_
     intro a281 hF280; clear hF272
     refine wpList_nil (thenN ?_)
     cases hc282 : (decide (x268 < (IntKind.i64.wrap (1 + (IntKind.i64.wrap (Int.tmod (IntKind.u64.wrap i1) 6)))))) with
     | true =>
      rw [hc282] at hF280
      rw [hc282] at hm275
      have hm283 := ifT hm275; clear hm275
      refine ev_condT hF280 rfl rfl ?_
      refine wp_skip ?_
      have hF284 := hF280.keep [1, 5, 7, 9, 13]
      clear hF280
      refine thenN (wp_seq ?_)
      refine wp_block ?_
      refine wp_seq (wp_region_lit ?_)
      refine ev_runs 1 hF284 (l' := [(95, nP (w37.heap.size) 0), (13, nI x268), (9, nP (w37.heap.size) 0), (7, nP z26 0), (5, nP z14 0), (1, nI i1)]) (w' := w271) (by kernel_rfl) ?_
      intro a286 hF285; clear hF284
      have hS287 := hS273.pick1.pick4.pick4.pick4
      clear hS273
      refine ev_call 56 #[nP (w37.heap.size) 0, nI 4, nI 10] hF285 rfl rfl (by kernel_rfl) rfl (by kernel_rfl) (fun w => by kernel_rfl) ?_
      obtain ⟨x288, s289, s290, hx291, hm292⟩ := bind3E hm283; clear hm283
      refine (law12_alloc.ok hS287 hx291).mono ?_
      rintro _ w293 ⟨rfl, hS295⟩ a294 hF296; clear hF285 hS287
      refine ev_runK 1 hF296 [1, 5, 7, 9, 13, 14] (l' := [(14, nI x288), (13, nI x268), (9, nP (w37.heap.size) 0), (7, nP z26 0), (5, nP z14 0), (1, nI i1)]) (w' := w293) (by kernel_rfl) ?_
      intro a298 hF297; clear hF296
      refine wpList_nil (thenN (wp_seq (wp_region_lit ?_)))
      refine ev_runs 3 hF297 (l' := [(15, nP (w293.heap.size) 0), (98, .agg #[nI x268, nI 0, nI 0, nI 0, nI 0, nI 0, nI 0, nI 0, nI 0, nI (-1)]), (97, nI x268), (14, nI x288), (13, nI x268), (9, nP (w37.heap.size) 0), (7, nP z26 0), (5, nP z14 0), (1, nI i1)]) (w' := w293.alloc (.cells #[nI 0, nI 0, nI 0, nI 0, nI 0, nI 0, nI 0, nI 0, nI 0, nI 0] 70)) (by kernel_rfl) ?_
      intro a300 hF299; clear hF297
      have hS302 : St w0 F0 (BlkP (w293.heap.size) 70 #[nI 0, nI 0, nI 0, nI 0, nI 0, nI 0, nI 0, nI 0, nI 0, nI 0] :: BlkP (w37.heap.size) 32 #[nP z14 0, nP z26 0, .slice p68 L56.length c69, .slice p276 L264.length c277] :: HeapP z14 z15 s289 :: RHeapP z26 z27 z28 z29 z30 s290 :: RowP (.slice p68 L56.length c69) L56 :: RowP (.slice p276 L264.length c277) L264 :: RowP (.slice p1 L0.length c2) L0 :: ps) (w293.alloc (.cells #[nI 0, nI 0, nI 0, nI 0, nI 0, nI 0, nI 0, nI 0, nI 0, nI 0] 70)) := St.new hS295 #[nI 0, nI 0, nI 0, nI 0, nI 0, nI 0, nI 0, nI 0, nI 0, nI 0] 70
      clear hS295
      refine ev_store (.agg #[nI x268, nI 0, nI 0, nI 0, nI 0, nI 0, nI 0, nI 0, nI 0, nI (-1)]) #[nI x268, nI 0, nI 0, nI 0, nI 0, nI 0, nI 0, nI 0, nI 0, nI (-1)] hF299 (by kernel_rfl) rfl rfl rfl rfl (by kernel_rfl) hS302 (by kernel_rfl) (by kernel_rfl) (by kernel_rfl) (l' := [(15, nP (w293.heap.size) 0), (98, .agg #[nI x268, nI 0, nI 0, nI 0, nI 0, nI 0, nI 0, nI 0, nI 0, nI (-1)]), (97, nI x268), (14, nI x288), (13, nI x268), (9, nP (w37.heap.size) 0), (7, nP z26 0), (5, nP z14 0), (1, nI i1)]) (by kernel_rfl) ?_
      intro w303 a304 hS305 hF306; clear hF299 hS302
      refine wpList_nil ?_
      have hF307 := hF306.keep [1, 5, 7, 9, 13, 14, 15]
      clear hF306
      refine thenN (wp_seq (wp_seq ?_))
      -- draws
      have hS308 := hS305.drew; clear hS305
      refine any_start (fun wS => ∃ qs, St w0 F0 (BlkP (w293.heap.size) 70 #[nI x268, nI 0, nI 0, nI 0, nI 0, nI 0, nI 0, nI 0, nI 0, nI (-1)] :: qs) wS) 9 #[false, false, false, false, false, false, false, false, false] (by kernel_rfl) (by kernel_rfl) (by kernel_rfl) ?_
      refine any_many 6 [(0, some (nP z14 0)), (1, some (nI x288)), (2, some (.agg #[nI x268, nI 0, nI 0, nI 0, nI 0, nI 0, nI 0, nI 0, nI 0, nI (-1)])), (4, some (nP z26 0)), (5, some (nI x288)), (6, some (.agg #[nI x268, nI 0, nI 0, nI 0, nI 0, nI 0, nI 0, nI 0, nI 0, nI (-1)]))] [1, 5, 7, 9, 13, 14, 99, 100, 101, 102, 103, 104, 105, 106, 107] #[true, true, true, false, true, true, true, false, false] (by rfl) hF307 (by kernel_rfl) (by kernel_rfl) (by exact (And.intro (fun wS hw => by kernel_rfl) (And.intro (fun wS hw => by kernel_rfl) (And.intro (fun wS hw => hw.elim fun qs hw => run_loadV rfl rfl (run_loadA (cs := [nI x268, nI 0, nI 0, nI 0, nI 0, nI 0, nI 0, nI 0, nI 0, nI (-1)]) rfl rfl (by kernel_rfl) (blk_cells hw 0 rfl rfl))) (And.intro (fun wS hw => by kernel_rfl) (And.intro (fun wS hw => by kernel_rfl) (And.intro (fun wS hw => hw.elim fun qs hw => run_loadV rfl rfl (run_loadA (cs := [nI x268, nI 0, nI 0, nI 0, nI 0, nI 0, nI 0, nI 0, nI 0, nI (-1)]) rfl rfl (by kernel_rfl) (blk_cells hw 0 rfl rfl))) trivial))))))) (fun _ _ _ _ _ h => h) ⟨_, hS308⟩ (l' := [(105, .agg #[nI x268, nI 0, nI 0, nI 0, nI 0, nI 0, nI 0, nI 0, nI 0, nI (-1)]), (104, nI x288), (103, nP z26 0), (101, .agg #[nI x268, nI 0, nI 0, nI 0, nI 0, nI 0, nI 0, nI 0, nI 0, nI (-1)]), (100, nI x288), (99, nP z14 0), (14, nI x288), (13, nI x268), (9, nP (w37.heap.size) 0), (7, nP z26 0), (5, nP z14 0), (1, nI i1)]) (by kernel_rfl) ?_
      intro a310 hF309; clear hF307
      have hS311 := hS308.pick2
      clear hS308
      refine any_call 3 #[true, true, true, true, true, true, true, false, false] 58 #[nP z14 0, nI x288, .agg #[nI x268, nI 0, nI 0, nI 0, nI 0, nI 0, nI 0, nI 0, nI 0, nI (-1)]] hF309 rfl (by kernel_rfl) rfl rfl (by kernel_rfl) rfl (by kernel_rfl) (fun w => by kernel_rfl) (by kernel_rfl) ?_
      obtain ⟨x312, s313, hx314, hm315⟩ := bind2E hm292; clear hm292
      refine (p_PutGor hS311 hx314).mono ?_
      rintro _ w316 ⟨rfl, hS318⟩; clear hS311
      refine ⟨⟨_, hS318.pick1⟩, ?_⟩
      intro a317 hF319; clear hF309
      have hS320 := hS318.pick3
      clear hS318
      refine any_call 7 #[true, true, true, true, true, true, true, true, false] 59 #[nP z26 0, nI x288, .agg #[nI x268, nI 0, nI 0, nI 0, nI 0, nI 0, nI 0, nI 0, nI 0, nI (-1)]] hF319 rfl (by kernel_rfl) rfl rfl (by kernel_rfl) rfl (by kernel_rfl) (fun w => by kernel_rfl) (by kernel_rfl) ?_
      obtain ⟨x321, s322, hx323, hm324⟩ := bind2E hm315; clear hm315
      refine (ref11_PutGor.ok hS320 hx323).mono ?_
      rintro _ w325 ⟨rfl, hS327⟩; clear hS320
      refine ⟨⟨_, hS327.pick2⟩, ?_⟩
      intro a326 hF328; clear hF319
      refine any_many 1 [(8, some (.bool (x312 != x321)))] [1, 5, 7, 9, 13, 14, 107] #[true, true, true, true, true, true, true, true, true] (by rfl) hF328 (by kernel_rfl) (by kernel_rfl) (by exact (And.intro (fun wS hw => by kernel_rfl) trivial)) (fun _ _ _ _ _ h => h) ⟨_, hS327.pick2⟩ (l' := [(107, .bool (x312 != x321)), (14, nI x288), (13, nI x268), (9, nP (w37.heap.size) 0), (7, nP z26 0), (5, nP z14 0), (1, nI i1)]) (by kernel_rfl) ?_
      intro a330 hF329; clear hF328
      refine any_done (by kernel_rfl) ?_
      have hS331 := hS327.pick2.drop
      clear hS327
      refine thenN ?_
      cases hc332 : (x312 != x321) with
      | true =>
       rw [hc332] at hF329
       rw [hc332] at hm324
       have hm333 := ifT hm324; clear hm324
       refine ev_condT hF329 rfl rfl ?_
       refine wp_seq (wp_region_lit ?_)
       refine ev_runK 1 hF329 [4] (l' := [(4, .pointer none)]) (w' := w325) (by kernel_rfl) ?_
       intro a335 hF334; clear hF329
       refine wpList_nil ?_
       have hS336 := hS331.drop.drop.drop.drop.drop
       clear hS331
       refine thenN ?_
       refine wp_ret ?_
       refine thenR ?_
       refine blockR ?_
       refine thenR (thenR ?_)
       refine blockR ?_
       refine thenR ?_
       cases hm333
      | false =>
       rw [hc332] at hF329
       rw [hc332] at hm324
       have hm337 := ifF hm324; clear hm324
       refine ev_condF hF329 rfl rfl ?_
       refine wp_skip ?_
       have hF338 := hF329.keep [1, 5, 7, 9, 13, 14]
       clear hF329
       refine thenN (wp_region_lit ?_)
       refine ev_runs 4 hF338 (l' := [(111, nP (w37.heap.size) 3), (110, nP (w37.heap.size) 0), (109, nP (w37.heap.size) 0), (108, nP (w37.heap.size) 0), (14, nI x288), (13, nI x268), (9, nP (w37.heap.size) 0), (7, nP z26 0), (5, nP z14 0), (1, nI i1)]) (w' := w325) (by kernel_rfl) ?_
       intro a340 hF339; clear hF338
       refine ev_one (.slice p276 L264.length c277) w325 hF339 (by kernel_rfl) rfl (by kernel_rfl) (run_loadV rfl rfl (run_loadS rfl rfl (hS331.cell 2 rfl 3 rfl))) (l' := [(112, .slice p276 L264.length c277), (111, nP (w37.heap.size) 3), (110, nP (w37.heap.size) 0), (109, nP (w37.heap.size) 0), (108, nP (w37.heap.size) 0), (14, nI x288), (13, nI x268), (9, nP (w37.heap.size) 0), (7, nP z26 0), (5, nP z14 0), (1, nI i1)]) (by kernel_rfl) ?_
       intro a342 hF341; clear hF339
       refine ev_runs 2 hF341 (l' := [(114, .slice (some ⟨w325.heap.size, 0, none⟩) 1 1), (113, nI x288), (112, .slice p276 L264.length c277), (111, nP (w37.heap.size) 3), (110, nP (w37.heap.size) 0), (109, nP (w37.heap.size) 0), (108, nP (w37.heap.size) 0), (14, nI x288), (13, nI x268), (9, nP (w37.heap.size) 0), (7, nP z26 0), (5, nP z14 0), (1, nI i1)]) (w' := w325.alloc (.cells #[nI x288] 3)) (by kernel_rfl) ?_
       intro a344 hF343; clear hF341
       have hS345 := hS331.pick4
       clear hS331
       obtain ⟨L346, hx347, hm348⟩ := bind1E hm337; clear hm337
       refine ev_push 115 (.tmp 112) (.tmp 114) hF343 rfl rfl rfl rfl rfl rfl rfl rfl hS345 hx347 ?_
       intro g349 c350 w351 a352 hS353 hF354; clear hF343 hS345
       refine ev_runs 2 hF354 (l' := [(117, nP (w37.heap.size) 3), (116, nP (w37.heap.size) 0), (115, .slice (some ⟨g349, 0, none⟩) L346.length c350), (114, .slice (some ⟨w325.heap.size, 0, none⟩) 1 1), (113, nI x288), (112, .slice p276 L264.length c277), (111, nP (w37.heap.size) 3), (110, nP (w37.heap.size) 0), (109, nP (w37.heap.size) 0), (108, nP (w37.heap.size) 0), (14, nI x288), (13, nI x268), (9, nP (w37.heap.size) 0), (7, nP z26 0), (5, nP z14 0), (1, nI i1)]) (w' := w351) (by kernel_rfl) ?_
       intro a356 hF355; clear hF354
       have hS357 := hS353.pick3
       clear hS353
       refine ev_store (.slice (some ⟨g349, 0, none⟩) L346.length c350) #[nP z14 0, nP z26 0, .slice p68 L56.length c69, .slice (some ⟨g349, 0, none⟩) L346.length c350] hF355 (by kernel_rfl) rfl rfl rfl rfl (by kernel_rfl) hS357 (by kernel_rfl) (by kernel_rfl) (by kernel_rfl) (l' := [(117, nP (w37.heap.size) 3), (116, nP (w37.heap.size) 0), (115, .slice (some ⟨g349, 0, none⟩) L346.length c350), (114, .slice (some ⟨w325.heap.size, 0, none⟩) 1 1), (113, nI x288), (112, .slice p276 L264.length c277), (111, nP (w37.heap.size) 3), (110, nP (w37.heap.size) 0), (109, nP (w37.heap.size) 0), (108, nP (w37.heap.size) 0), (14, nI x288), (13, nI x268), (9, nP (w37.heap.size) 0), (7, nP z26 0), (5, nP z14 0), (1, nI i1)]) (by kernel_rfl) ?_
       intro w358 a359 hS360 hF361; clear hF355 hS357
       refine wpList_nil ?_
       have hF362 := hF361.keep [1, 5, 7, 9, 13]
       clear hF361
       refine blockN ?_
       refine thenN (wp_region_lit ?_)
       refine ev_runK 3 hF362 [1, 5, 7, 9, 13] (l' := [(13, nI (IntKind.i64.wrap (x268 + 1))), (9, nP (w37.heap.size) 0), (7, nP z26 0), (5, nP z14 0), (1, nI i1)]) (w' := w358) (by kernel_rfl) ?_
       intro a364 hF363; clear hF362
       refine wpList_nil ?_
       have hS365 := hS360.pick5.pick3.pick4.pick3.pick5.pick5
       clear hS360
       exact thenN ⟨k269, Nat.lt_succ_self _, .slice (some ⟨g349, 0, none⟩) L346.length c350, L346, s313, s322, IntKind.i64.wrap (x268 + 1), hF363, hS365, hm348⟩
     | false =>
      rw [hc282] at hF280
      rw [hc282] at hm275
      have hm366 := ifF hm275; clear hm275
      refine ev_condF hF280 rfl rfl ?_
      refine wp_exit ?_
      refine thenE ?_
      refine thenE ?_
      refine blockE ?_
      refine thenN (wp_seq (wp_region_lit ?_))
      refine ev_runK 2 hF280 [4] (l' := [(4, nP (w37.heap.size) 0)]) (w' := w271) (by kernel_rfl) ?_
      intro a368 hF367; clear hF280
      refine wpList_nil (thenN ?_)
      refine wp_ret ?_
      have hS369 := hS273.pick1.pick4.pick4.pick4.pick5
      clear hS273
      obtain rfl := Option.some.inj hm366
      refine ev_ret hF367 [4] (nP (w37.heap.size) 0) rfl rfl rfl ?_
      exact ⟨_, _, _, _, _, _, _, _, _, _, rfl, hS369⟩
  | false =>
   rw [hc74] at hF72
   rw [hc74] at hm67
   have hm371 := ifF hm67; clear hm67
   refine ev_runK 3 hF72 [0, 1, 5, 7, 9, 10, 46] (l' := [(46, .bool false), (10, nI x60), (9, nP (w37.heap.size) 0), (7, nP z26 0), (5, nP z14 0), (0, .slice p1 L0.length c2), (1, nI i1)]) (w' := w63) (by kernel_rfl) ?_
   intro a373 hF372; clear hF72
   refine wpList_nil (thenN ?_)
   refine ev_condF hF372 rfl rfl ?_
   refine wp_exit ?_
   refine thenE ?_
   refine thenE ?_
   refine blockE ?_
   refine thenN (wp_seq (wp_seq (wp_region_lit ?_)))
   refine ev_runK 1 hF372 [1, 5, 7, 9, 13] (l' := [(13, nI 0), (9, nP (w37.heap.size) 0), (7, nP z26 0), (5, nP z14 0), (1, nI i1)]) (w' := w63) (by kernel_rfl) ?_
   intro a375 hF374; clear hF372
   refine wpList_nil (thenN ?_)
   refine wp_block ?_
   refine wp_loop_ghost (fun kI aI wI => ∃ (v377 : Value) (L376 : List Int) (s378 : HSt) (s379 : HSt) (x380 : Int), Fr 119 aI [(13, nI x380), (9, nP (w37.heap.size) 0), (7, nP z26 0), (5, nP z14 0), (1, nI i1)] ∧ St w0 F0 (RowP (v377) L376 :: RowP (.slice p68 L56.length c69) L56 :: BlkP (w37.heap.size) 32 #[nP z14 0, nP z26 0, .slice p68 L56.length c69, v377] :: HeapP z14 z15 s378 :: RHeapP z26 z27 z28 z29 z30 s379 :: RowP (.slice p1 L0.length c2) L0 :: ps) wI ∧ law12_made.l3 i1 k L56 kI L376 s378 s379 x380 = some r0) k ⟨.slice none 0 0, [], s58, s59, 0, hF374, hS65, hm371⟩ ?_
   rintro k381 a382 w383 ⟨v377, L376, s378, s379, x380, hF384, hS385, hm386⟩
   clear hF374 hS65 hm371
   cases k381 with
   | zero => cases hm386
   | succ k381 =>
    have hm387 : law12_made.l3b i1 k L56 (law12_made.l3 i1 k L56 k381) L376 s378 s379 x380 = some r0 := hm386
    clear hm386
    unfold law12_made.l3b at hm387
    obtain ⟨hl391, p388, c389, rfl, hp390⟩ := St.shape hS385 0 rfl
    refine wp_seq (wp_seq (wp_region_lit ?_))
    refine ev_runK 7 hF384 [1, 5, 7, 9, 13, 92] (l' := [(92, .bool (decide (x380 < (IntKind.i64.wrap (1 + (IntKind.i64.wrap (Int.tmod (IntKind.u64.wrap i1) 6))))))), (13, nI x380), (9, nP (w37.heap.size) 0), (7, nP z26 0), (5, nP z14 0), (1, nI i1)]) (w' := w383) (by kernel_rfl) ?_
    intro a393 hF392; clear hF384
    refine wpList_nil (thenN ?_)
    cases hc394 : (decide (x380 < (IntKind.i64.wrap (1 + (IntKind.i64.wrap (Int.tmod (IntKind.u64.wrap i1) 6)))))) with
    | true =>
     rw [hc394] at hF392
     rw [hc394] at hm387
     have hm395 := ifT hm387; clear hm387
     refine ev_condT hF392 rfl rfl ?_
     refine wp_skip ?_
     have hF396 := hF392.keep [1, 5, 7, 9, 13]
     clear hF392
     refine thenN (wp_seq ?_)
     refine wp_block ?_
     refine wp_seq (wp_region_lit ?_)
     refine ev_runs 1 hF396 (l' := [(95, nP (w37.heap.size) 0), (13, nI x380), (9, nP (w37.heap.size) 0), (7, nP z26 0), (5, nP z14 0), (1, nI i1)]) (w' := w383) (by kernel_rfl) ?_
     intro a398 hF397; clear hF396
     have hS399 := hS385.pick1.pick4.pick4.pick4
     clear hS385
     refine ev_call 56 #[nP (w37.heap.size) 0, nI 4, nI 10] hF397 rfl rfl (by kernel_rfl) rfl (by kernel_rfl) (fun w => by kernel_rfl) ?_
     obtain ⟨x400, s401, s402, hx403, hm404⟩ := bind3E hm395; clear hm395
     refine (law12_alloc.ok hS399 hx403).mono ?_
     rintro _ w405 ⟨rfl, hS407⟩ a406 hF408; clear hF397 hS399
     refine ev_runK 1 hF408 [1, 5, 7, 9, 13, 14] (l' := [(14, nI x400), (13, nI x380), (9, nP (w37.heap.size) 0), (7, nP z26 0), (5, nP z14 0), (1, nI i1)]) (w' := w405) (by kernel_rfl) ?_
     intro a410 hF409; clear hF408
     refine wpList_nil (thenN (wp_seq (wp_region_lit ?_)))
     refine ev_runs 3 hF409 (l' := [(15, nP (w405.heap.size) 0), (98, .agg #[nI x380, nI 0, nI 0, nI 0, nI 0, nI 0, nI 0, nI 0, nI 0, nI (-1)]), (97, nI x380), (14, nI x400), (13, nI x380), (9, nP (w37.heap.size) 0), (7, nP z26 0), (5, nP z14 0), (1, nI i1)]) (w' := w405.alloc (.cells #[nI 0, nI 0, nI 0, nI 0, nI 0, nI 0, nI 0, nI 0, nI 0, nI 0] 70)) (by kernel_rfl) ?_
     intro a412 hF411; clear hF409
     have hS414 : St w0 F0 (BlkP (w405.heap.size) 70 #[nI 0, nI 0, nI 0, nI 0, nI 0, nI 0, nI 0, nI 0, nI 0, nI 0] :: BlkP (w37.heap.size) 32 #[nP z14 0, nP z26 0, .slice p68 L56.length c69, .slice p388 L376.length c389] :: HeapP z14 z15 s401 :: RHeapP z26 z27 z28 z29 z30 s402 :: RowP (.slice p68 L56.length c69) L56 :: RowP (.slice p388 L376.length c389) L376 :: RowP (.slice p1 L0.length c2) L0 :: ps) (w405.alloc (.cells #[nI 0, nI 0, nI 0, nI 0, nI 0, nI 0, nI 0, nI 0, nI 0, nI 0] 70)) := St.new hS407 #[nI 0, nI 0, nI 0, nI 0, nI 0, nI 0, nI 0, nI 0, nI 0, nI 0] 70
     clear hS407
     refine ev_store (.agg #[nI x380, nI 0, nI 0, nI 0, nI 0, nI 0, nI 0, nI 0, nI 0, nI (-1)]) #[nI x380, nI 0, nI 0, nI 0, nI 0, nI 0, nI 0, nI 0, nI 0, nI (-1)] hF411 (by kernel_rfl) rfl rfl rfl rfl (by kernel_rfl) hS414 (by kernel_rfl) (by kernel_rfl) (by kernel_rfl) (l' := [(15, nP (w405.heap.size) 0), (98, .agg #[nI x380, nI 0, nI 0, nI 0, nI 0, nI 0, nI 0, nI 0, nI 0, nI (-1)]), (97, nI x380), (14, nI x400), (13, nI x380), (9, nP (w37.heap.size) 0), (7, nP z26 0), (5, nP z14 0), (1, nI i1)]) (by kernel_rfl) ?_
     intro w415 a416 hS417 hF418; clear hF411 hS414
     refine wpList_nil ?_
     have hF419 := hF418.keep [1, 5, 7, 9, 13, 14, 15]
     clear hF418
     refine thenN (wp_seq (wp_seq ?_))
     -- draws
     have hS420 := hS417.drew; clear hS417
     refine any_start (fun wS => ∃ qs, St w0 F0 (BlkP (w405.heap.size) 70 #[nI x380, nI 0, nI 0, nI 0, nI 0, nI 0, nI 0, nI 0, nI 0, nI (-1)] :: qs) wS) 9 #[false, false, false, false, false, false, false, false, false] (by kernel_rfl) (by kernel_rfl) (by kernel_rfl) ?_
     refine any_many 6 [(0, some (nP z14 0)), (1, some (nI x400)), (2, some (.agg #[nI x380, nI 0, nI 0, nI 0, nI 0, nI 0, nI 0, nI 0, nI 0, nI (-1)])), (4, some (nP z26 0)), (5, some (nI x400)), (6, some (.agg #[nI x380, nI 0, nI 0, nI 0, nI 0, nI 0, nI 0, nI 0, nI 0, nI (-1)]))] [1, 5, 7, 9, 13, 14, 99, 100, 101, 102, 103, 104, 105, 106, 107] #[true, true, true, false, true, true, true, false, false] (by rfl) hF419 (by kernel_rfl) (by kernel_rfl) (by exact (And.intro (fun wS hw => by kernel_rfl) (And.intro (fun wS hw => by kernel_rfl) (And.intro (fun wS hw => hw.elim fun qs hw => run_loadV rfl rfl (run_loadA (cs := [nI x380, nI 0, nI 0, nI 0, nI 0, nI 0, nI 0, nI 0, nI 0, nI (-1)]) rfl rfl (by kernel_rfl) (blk_cells hw 0 rfl rfl))) (And.intro (fun wS hw => by kernel_rfl) (And.intro (fun wS hw => by kernel_rfl) (And.intro (fun wS hw => hw.elim fun qs hw => run_loadV rfl rfl (run_loadA (cs := [nI x380, nI 0, nI 0, nI 0, nI 0, nI 0, nI 0, nI 0, nI 0, nI (-1)]) rfl rfl (by kernel_rfl) (blk_cells hw 0 rfl rfl))) trivial))))))) (fun _ _ _ _ _ h => h) ⟨_, hS420⟩ (l' := [(105, .agg #[nI x380, nI 0, nI 0, nI 0, nI 0, nI 0, nI 0, nI 0, nI 0, nI (-1)]), (104, nI x400), (103, nP z26 0), (101, .agg #[nI x380, nI 0, nI 0, nI 0, nI 0, nI 0, nI 0, nI 0, nI 0, nI (-1)]), (100, nI x400), (99, nP z14 0), (14, nI x400), (13, nI x380), (9, nP (w37.heap.size) 0), (7, nP z26 0), (5, nP z14 0), (1, nI i1)]) (by kernel_rfl) ?_
     intro a422 hF421; clear hF419
     have hS423 := hS420.pick2
     clear hS420
     refine any_call 3 #[true, true, true, true, true, true, true, false, false] 58 #[nP z14 0, nI x400, .agg #[nI x380, nI 0, nI 0, nI 0, nI 0, nI 0, nI 0, nI 0, nI 0, nI (-1)]] hF421 rfl (by kernel_rfl) rfl rfl (by kernel_rfl) rfl (by kernel_rfl) (fun w => by kernel_rfl) (by kernel_rfl) ?_
     obtain ⟨x424, s425, hx426, hm427⟩ := bind2E hm404; clear hm404
     refine (p_PutGor hS423 hx426).mono ?_
     rintro _ w428 ⟨rfl, hS430⟩; clear hS423
     refine ⟨⟨_, hS430.pick1⟩, ?_⟩
     intro a429 hF431; clear hF421
     have hS432 := hS430.pick3
     clear hS430
     refine any_call 7 #[true, true, true, true, true, true, true, true, false] 59 #[nP z26 0, nI x400, .agg #[nI x380, nI 0, nI 0, nI 0, nI 0, nI 0, nI 0, nI 0, nI 0, nI (-1)]] hF431 rfl (by kernel_rfl) rfl rfl (by kernel_rfl) rfl (by kernel_rfl) (fun w => by kernel_rfl) (by kernel_rfl) ?_
     obtain ⟨x433, s434, hx435, hm436⟩ := bind2E hm427; clear hm427
     refine (ref11_PutGor.ok hS432 hx435).mono ?_
     rintro _ w437 ⟨rfl, hS439⟩; clear hS432
     refine ⟨⟨_, hS439.pick2⟩, ?_⟩
     intro a438 hF440; clear hF431
     refine any_many 1 [(8, some (.bool (x424 != x433)))] [1, 5, 7, 9, 13, 14, 107] #[true, true, true, true, true, true, true, true, true] (by rfl) hF440 (by kernel_rfl) (by kernel_rfl) (by exact (And.intro (fun wS hw => by kernel_rfl) trivial)) (fun _ _ _ _ _ h => h) ⟨_, hS439.pick2⟩ (l' := [(107, .bool (x424 != x433)), (14, nI x400), (13, nI x380), (9, nP (w37.heap.size) 0), (7, nP z26 0), (5, nP z14 0), (1, nI i1)]) (by kernel_rfl) ?_
     intro a442 hF441; clear hF440
     refine any_done (by kernel_rfl) ?_
     have hS443 := hS439.pick2.drop
     clear hS439
     refine thenN ?_
     cases hc444 : (x424 != x433) with
     | true =>
      rw [hc444] at hF441
      rw [hc444] at hm436
      have hm445 := ifT hm436; clear hm436
      refine ev_condT hF441 rfl rfl ?_
      refine wp_seq (wp_region_lit ?_)
      refine ev_runK 1 hF441 [4] (l' := [(4, .pointer none)]) (w' := w437) (by kernel_rfl) ?_
      intro a447 hF446; clear hF441
      refine wpList_nil ?_
      have hS448 := hS443.drop.drop.drop.drop.drop
      clear hS443
      refine thenN ?_
      refine wp_ret ?_
      refine thenR ?_
      refine blockR ?_
      refine thenR (thenR ?_)
      refine blockR ?_
      refine thenR ?_
      cases hm445
     | false =>
      rw [hc444] at hF441
      rw [hc444] at hm436
      have hm449 := ifF hm436; clear hm436
      refine ev_condF hF441 rfl rfl ?_
      refine wp_skip ?_
      have hF450 := hF441.keep [1, 5, 7, 9, 13, 14]
      clear hF441
      refine thenN (wp_region_lit ?_)
      refine ev_runs 4 hF450 (l' := [(111, nP (w37.heap.size) 3), (110, nP (w37.heap.size) 0), (109, nP (w37.heap.size) 0), (108, nP (w37.heap.size) 0), (14, nI x400), (13, nI x380), (9, nP (w37.heap.size) 0), (7, nP z26 0), (5, nP z14 0), (1, nI i1)]) (w' := w437) (by kernel_rfl) ?_
      intro a452 hF451; clear hF450
      refine ev_one (.slice p388 L376.length c389) w437 hF451 (by kernel_rfl) rfl (by kernel_rfl) (run_loadV rfl rfl (run_loadS rfl rfl (hS443.cell 2 rfl 3 rfl))) (l' := [(112, .slice p388 L376.length c389), (111, nP (w37.heap.size) 3), (110, nP (w37.heap.size) 0), (109, nP (w37.heap.size) 0), (108, nP (w37.heap.size) 0), (14, nI x400), (13, nI x380), (9, nP (w37.heap.size) 0), (7, nP z26 0), (5, nP z14 0), (1, nI i1)]) (by kernel_rfl) ?_
      intro a454 hF453; clear hF451
      refine ev_runs 2 hF453 (l' := [(114, .slice (some ⟨w437.heap.size, 0, none⟩) 1 1), (113, nI x400), (112, .slice p388 L376.length c389), (111, nP (w37.heap.size) 3), (110, nP (w37.heap.size) 0), (109, nP (w37.heap.size) 0), (108, nP (w37.heap.size) 0), (14, nI x400), (13, nI x380), (9, nP (w37.heap.size) 0), (7, nP z26 0), (5, nP z14 0), (1, nI i1)]) (w' := w437.alloc (.cells #[nI x400] 3)) (by kernel_rfl) ?_
      intro a456 hF455; clear hF453
      have hS457 := hS443.pick4
      clear hS443
      obtain ⟨L458, hx459, hm460⟩ := bind1E hm449; clear hm449
      refine ev_push 115 (.tmp 112) (.tmp 114) hF455 rfl rfl rfl rfl rfl rfl rfl rfl hS457 hx459 ?_
      intro g461 c462 w463 a464 hS465 hF466; clear hF455 hS457
      refine ev_runs 2 hF466 (l' := [(117, nP (w37.heap.size) 3), (116, nP (w37.heap.size) 0), (115, .slice (some ⟨g461, 0, none⟩) L458.length c462), (114, .slice (some ⟨w437.heap.size, 0, none⟩) 1 1), (113, nI x400), (112, .slice p388 L376.length c389), (111, nP (w37.heap.size) 3), (110, nP (w37.heap.size) 0), (109, nP (w37.heap.size) 0), (108, nP (w37.heap.size) 0), (14, nI x400), (13, nI x380), (9, nP (w37.heap.size) 0), (7, nP z26 0), (5, nP z14 0), (1, nI i1)]) (w' := w463) (by kernel_rfl) ?_
      intro a468 hF467; clear hF466
      have hS469 := hS465.pick3
      clear hS465
      refine ev_store (.slice (some ⟨g461, 0, none⟩) L458.length c462) #[nP z14 0, nP z26 0, .slice p68 L56.length c69, .slice (some ⟨g461, 0, none⟩) L458.length c462] hF467 (by kernel_rfl) rfl rfl rfl rfl (by kernel_rfl) hS469 (by kernel_rfl) (by kernel_rfl) (by kernel_rfl) (l' := [(117, nP (w37.heap.size) 3), (116, nP (w37.heap.size) 0), (115, .slice (some ⟨g461, 0, none⟩) L458.length c462), (114, .slice (some ⟨w437.heap.size, 0, none⟩) 1 1), (113, nI x400), (112, .slice p388 L376.length c389), (111, nP (w37.heap.size) 3), (110, nP (w37.heap.size) 0), (109, nP (w37.heap.size) 0), (108, nP (w37.heap.size) 0), (14, nI x400), (13, nI x380), (9, nP (w37.heap.size) 0), (7, nP z26 0), (5, nP z14 0), (1, nI i1)]) (by kernel_rfl) ?_
      intro w470 a471 hS472 hF473; clear hF467 hS469
      refine wpList_nil ?_
      have hF474 := hF473.keep [1, 5, 7, 9, 13]
      clear hF473
      refine blockN ?_
      refine thenN (wp_region_lit ?_)
      refine ev_runK 3 hF474 [1, 5, 7, 9, 13] (l' := [(13, nI (IntKind.i64.wrap (x380 + 1))), (9, nP (w37.heap.size) 0), (7, nP z26 0), (5, nP z14 0), (1, nI i1)]) (w' := w470) (by kernel_rfl) ?_
      intro a476 hF475; clear hF474
      refine wpList_nil ?_
      have hS477 := hS472.pick5.pick3.pick4.pick3.pick5.pick5
      clear hS472
      exact thenN ⟨k381, Nat.lt_succ_self _, .slice (some ⟨g461, 0, none⟩) L458.length c462, L458, s425, s434, IntKind.i64.wrap (x380 + 1), hF475, hS477, hm460⟩
    | false =>
     rw [hc394] at hF392
     rw [hc394] at hm387
     have hm478 := ifF hm387; clear hm387
     refine ev_condF hF392 rfl rfl ?_
     refine wp_exit ?_
     refine thenE ?_
     refine thenE ?_
     refine blockE ?_
     refine thenN (wp_seq (wp_region_lit ?_))
     refine ev_runK 2 hF392 [4] (l' := [(4, nP (w37.heap.size) 0)]) (w' := w383) (by kernel_rfl) ?_
     intro a480 hF479; clear hF392
     refine wpList_nil (thenN ?_)
     refine wp_ret ?_
     have hS481 := hS385.pick1.pick4.pick4.pick4.pick5
     clear hS385
     obtain rfl := Option.some.inj hm478
     refine ev_ret hF479 [4] (nP (w37.heap.size) 0) rfl rfl rfl ?_
     exact ⟨_, _, _, _, _, _, _, _, _, _, rfl, hS481⟩

def law12_ch.m (k : Nat) (s0 : HSt) (u0 : HSt) (Lc0 : List Int) (Lg0 : List Int) (i1 : Int) : Option (Int × HSt × HSt) := (if ((Lc0.length : Int) == 0) then some (-1, s0, u0) else (if ((IntKind.u64.wrap (Lc0.length : Int)) == 0) then none else (if (inR (IntKind.i64.wrap (Int.tmod (IntKind.u64.wrap i1) (IntKind.u64.wrap (Lc0.length : Int)))) Lc0.length) then some (atI Lc0 (IntKind.i64.wrap (Int.tmod (IntKind.u64.wrap i1) (IntKind.u64.wrap (Lc0.length : Int)))), s0, u0) else none)))
set_option maxRecDepth 100000 in
set_option maxHeartbeats 1500000 in
theorem law12_ch.ok {w0 w : World} {F0 : List Nat} {ps : List Piece} {k : Nat} {bb0 b0 ab0 bw0 abw0 sb0 g0 cb0 : Nat} {vc0 vg0 : Value} {s0 u0 : HSt} {Lc0 Lg0 : List Int} {i1 : Int} {r0 : Int} {t0 : HSt} {t1 : HSt} (hS : St w0 F0 (BlkP bb0 32 #[nP b0 0, nP bw0 0, vc0, vg0] :: HeapP b0 ab0 s0 :: RHeapP bw0 abw0 sb0 g0 cb0 u0 :: RowP (vc0) Lc0 :: RowP (vg0) Lg0 :: ps) w) (hm : law12_ch.m k s0 u0 Lc0 Lg0 i1 = some (r0, t0, t1)) :
    Calls Tryz.prog 16 #[nP bb0 0, nI i1] w fun e w' => e = .returned (.int .i64 r0) ∧ St w0 F0 (BlkP bb0 32 #[nP b0 0, nP bw0 0, vc0, vg0] :: HeapP b0 ab0 t0 :: RHeapP bw0 abw0 sb0 g0 cb0 t1 :: RowP (vc0) Lc0 :: RowP (vg0) Lg0 :: ps) w' := by
 refine ev_enterL 27 [nP bb0 0, nI i1] Tryz.func16 rfl rfl (by simp) ?_
 intro a hF
 have hF0 : Fr 27 a [(0, nP bb0 0), (1, nI i1)] := hF; clear hF
 unfold law12_ch.m at hm
 obtain ⟨hl4, p1, c2, rfl, hp3⟩ := St.shape hS 3 rfl
 obtain ⟨hl8, p5, c6, rfl, hp7⟩ := St.shape hS 4 rfl
 refine wp_seq (wp_region_lit ?_)
 refine ev_runK 1 hF0 [0, 1] (l' := [(0, nP bb0 0), (1, nI i1)]) (w' := w) (by kernel_rfl) ?_
 intro a10 hF9; clear hF0
 refine wpList_nil (thenN (wp_seq (wp_seq (wp_region_lit ?_))))
 refine ev_runs 3 hF9 (l' := [(7, nP bb0 2), (6, nP bb0 0), (5, nP bb0 0), (0, nP bb0 0), (1, nI i1)]) (w' := w) (by kernel_rfl) ?_
 intro a12 hF11; clear hF9
 refine ev_one (.slice p1 Lc0.length c2) w hF11 (by kernel_rfl) rfl (by kernel_rfl) (run_loadV rfl rfl (run_loadS rfl rfl (hS.cell 0 rfl 2 rfl))) (l' := [(8, .slice p1 Lc0.length c2), (7, nP bb0 2), (6, nP bb0 0), (5, nP bb0 0), (0, nP bb0 0), (1, nI i1)]) (by kernel_rfl) ?_
 intro a14 hF13; clear hF11
 refine ev_runK 2 hF13 [0, 1, 10] (l' := [(10, .bool ((Lc0.length : Int) == 0)), (0, nP bb0 0), (1, nI i1)]) (w' := w) (by kernel_rfl) ?_
 intro a16 hF15; clear hF13
 refine wpList_nil (thenN ?_)
 cases hc17 : ((Lc0.length : Int) == 0) with
 | true =>
  rw [hc17] at hF15
  rw [hc17] at hm
  have hm18 := ifT hm; clear hm
  refine ev_condT hF15 rfl rfl ?_
  refine wp_seq (wp_region_lit ?_)
  refine ev_runK 1 hF15 [4] (l' := [(4, nI (-1))]) (w' := w) (by kernel_rfl) ?_
  intro a20 hF19; clear hF15
  refine wpList_nil (thenN ?_)
  refine wp_ret ?_
  refine thenR ?_
  simp only [Option.some.injEq, Prod.mk.injEq] at hm18
  obtain ⟨rfl, rfl, rfl⟩ := hm18
  refine ev_ret hF19 [4] (nI (-1)) rfl rfl rfl ?_
  exact ⟨rfl, hS⟩
 | false =>
  rw [hc17] at hF15
  rw [hc17] at hm
  have hm24 := ifF hm; clear hm
  refine ev_condF hF15 rfl rfl ?_
  refine wp_skip ?_
  have hF25 := hF15.keep [0, 1]
  clear hF15
  refine thenN (wp_seq ?_)
  -- draws
  obtain ⟨hc26, hm27⟩ := ifFE hm24; clear hm24
  obtain ⟨hc28, hm29⟩ := ifTE hm27; clear hm27
  obtain ⟨g30, rfl⟩ := hp3.resolve_left (by have := inR_spec hc28; omega)
  have hS31 := hS.pick3.pick1
  have hS32 := hS31.drew; clear hS31
  refine any_start (fun wS => ∃ qs, St w0 F0 (BlkP bb0 32 #[nP b0 0, nP bw0 0, .slice (some ⟨g30, 0, none⟩) Lc0.length c2, .slice p5 Lg0.length c6] :: RowP (.slice (some ⟨g30, 0, none⟩) Lc0.length c2) Lc0 :: qs) wS) 17 #[false, false, false, false, false, false, false, false, false, false, false, false, false, false, false, false, false] (by kernel_rfl) (by kernel_rfl) (by kernel_rfl) ?_
  refine any_many 17 [(0, some (nP bb0 0)), (1, some (nP bb0 0)), (2, some (nP bb0 2)), (3, some (.slice (some ⟨g30, 0, none⟩) Lc0.length c2)), (4, some (nI i1)), (5, some (.int .u64 (IntKind.u64.wrap i1))), (6, some (nP bb0 0)), (7, some (nP bb0 0)), (8, some (nP bb0 2)), (9, some (.slice (some ⟨g30, 0, none⟩) Lc0.length c2)), (10, some (nI ((Lc0.length : Int)))), (11, some (.int .u64 (IntKind.u64.wrap (Lc0.length : Int)))), (12, some (.int .u64 (Int.tmod (IntKind.u64.wrap i1) (IntKind.u64.wrap (Lc0.length : Int))))), (13, some (nI (IntKind.i64.wrap (Int.tmod (IntKind.u64.wrap i1) (IntKind.u64.wrap (Lc0.length : Int)))))), (14, some (nP g30 ((IntKind.i64.wrap (Int.tmod (IntKind.u64.wrap i1) (IntKind.u64.wrap (Lc0.length : Int)))).toNat))), (15, some (nI (atI Lc0 (IntKind.i64.wrap (Int.tmod (IntKind.u64.wrap i1) (IntKind.u64.wrap (Lc0.length : Int))))))), (16, some (nI (atI Lc0 (IntKind.i64.wrap (Int.tmod (IntKind.u64.wrap i1) (IntKind.u64.wrap (Lc0.length : Int)))))))] [4] #[true, true, true, true, true, true, true, true, true, true, true, true, true, true, true, true, true] (by rfl) hF25 (by kernel_rfl) (by kernel_rfl) (by exact (And.intro (fun wS hw => by kernel_rfl) (And.intro (fun wS hw => by kernel_rfl) (And.intro (fun wS hw => by kernel_rfl) (And.intro (fun wS hw => hw.elim fun qs hw => run_loadV rfl rfl (run_loadS rfl rfl (hw.cell 0 rfl 2 rfl))) (And.intro (fun wS hw => by kernel_rfl) (And.intro (fun wS hw => by kernel_rfl) (And.intro (fun wS hw => by kernel_rfl) (And.intro (fun wS hw => by kernel_rfl) (And.intro (fun wS hw => by kernel_rfl) (And.intro (fun wS hw => hw.elim fun qs hw => run_loadV rfl rfl (run_loadS rfl rfl (hw.cell 0 rfl 2 rfl))) (And.intro (fun wS hw => by kernel_rfl) (And.intro (fun wS hw => by kernel_rfl) (And.intro (fun wS hw => run_rem rfl rfl rfl hc26 _) (And.intro (fun wS hw => by kernel_rfl) (And.intro (fun wS hw => run_idx rfl rfl rfl rfl rfl (inR_spec hc28).1 (inR_spec hc28).2 _) (And.intro (fun wS hw => run_load1 rfl rfl rfl (hw.elim fun qs hw => hw.atI 1 rfl hc28)) (And.intro (fun wS hw => by kernel_rfl) trivial)))))))))))))))))) (fun _ _ _ _ _ h => h) ⟨_, hS32⟩ (l' := [(4, nI (atI Lc0 (IntKind.i64.wrap (Int.tmod (IntKind.u64.wrap i1) (IntKind.u64.wrap (Lc0.length : Int))))))]) (by kernel_rfl) ?_
  intro a34 hF33; clear hF25
  refine any_done (by kernel_rfl) ?_
  refine thenN ?_
  refine wp_ret ?_
  have hS35 := hS32.pick4.pick2.pick4.pick4.pick4
  clear hS32
  simp only [Option.some.injEq, Prod.mk.injEq] at hm29
  obtain ⟨rfl, rfl, rfl⟩ := hm29
  refine ev_ret hF33 [4] (nI (atI Lc0 (IntKind.i64.wrap (Int.tmod (IntKind.u64.wrap i1) (IntKind.u64.wrap (Lc0.length : Int)))))) rfl rfl rfl ?_
  exact ⟨rfl, hS35⟩

def law12_gor.m (k : Nat) (s0 : HSt) (u0 : HSt) (Lc0 : List Int) (Lg0 : List Int) (i1 : Int) : Option (Int × HSt × HSt) := (if ((IntKind.u64.wrap (Lg0.length : Int)) == 0) then none else (if (inR (IntKind.i64.wrap (Int.tmod (IntKind.u64.wrap i1) (IntKind.u64.wrap (Lg0.length : Int)))) Lg0.length) then some (atI Lg0 (IntKind.i64.wrap (Int.tmod (IntKind.u64.wrap i1) (IntKind.u64.wrap (Lg0.length : Int)))), s0, u0) else none))
set_option maxRecDepth 100000 in
set_option maxHeartbeats 1500000 in
theorem law12_gor.ok {w0 w : World} {F0 : List Nat} {ps : List Piece} {k : Nat} {bb0 b0 ab0 bw0 abw0 sb0 g0 cb0 : Nat} {vc0 vg0 : Value} {s0 u0 : HSt} {Lc0 Lg0 : List Int} {i1 : Int} {r0 : Int} {t0 : HSt} {t1 : HSt} (hS : St w0 F0 (BlkP bb0 32 #[nP b0 0, nP bw0 0, vc0, vg0] :: HeapP b0 ab0 s0 :: RHeapP bw0 abw0 sb0 g0 cb0 u0 :: RowP (vc0) Lc0 :: RowP (vg0) Lg0 :: ps) w) (hm : law12_gor.m k s0 u0 Lc0 Lg0 i1 = some (r0, t0, t1)) :
    Calls Tryz.prog 21 #[nP bb0 0, nI i1] w fun e w' => e = .returned (.int .i64 r0) ∧ St w0 F0 (BlkP bb0 32 #[nP b0 0, nP bw0 0, vc0, vg0] :: HeapP b0 ab0 t0 :: RHeapP bw0 abw0 sb0 g0 cb0 t1 :: RowP (vc0) Lc0 :: RowP (vg0) Lg0 :: ps) w' := by
 refine ev_enterL 21 [nP bb0 0, nI i1] Tryz.func21 rfl rfl (by simp) ?_
 intro a hF
 have hF0 : Fr 21 a [(0, nP bb0 0), (1, nI i1)] := hF; clear hF
 unfold law12_gor.m at hm
 obtain ⟨hl4, p1, c2, rfl, hp3⟩ := St.shape hS 3 rfl
 obtain ⟨hl8, p5, c6, rfl, hp7⟩ := St.shape hS 4 rfl
 refine wp_seq (wp_region_lit ?_)
 refine ev_runK 1 hF0 [0, 1] (l' := [(0, nP bb0 0), (1, nI i1)]) (w' := w) (by kernel_rfl) ?_
 intro a10 hF9; clear hF0
 refine wpList_nil (thenN (wp_seq ?_))
 -- draws
 obtain ⟨hc11, hm12⟩ := ifFE hm; clear hm
 obtain ⟨hc13, hm14⟩ := ifTE hm12; clear hm12
 obtain ⟨g15, rfl⟩ := hp7.resolve_left (by have := inR_spec hc13; omega)
 have hS16 := hS.pick4.pick1
 have hS17 := hS16.drew; clear hS16
 refine any_start (fun wS => ∃ qs, St w0 F0 (BlkP bb0 32 #[nP b0 0, nP bw0 0, .slice p1 Lc0.length c2, .slice (some ⟨g15, 0, none⟩) Lg0.length c6] :: RowP (.slice (some ⟨g15, 0, none⟩) Lg0.length c6) Lg0 :: qs) wS) 17 #[false, false, false, false, false, false, false, false, false, false, false, false, false, false, false, false, false] (by kernel_rfl) (by kernel_rfl) (by kernel_rfl) ?_
 refine any_many 17 [(0, some (nP bb0 0)), (1, some (nP bb0 0)), (2, some (nP bb0 3)), (3, some (.slice (some ⟨g15, 0, none⟩) Lg0.length c6)), (4, some (nI i1)), (5, some (.int .u64 (IntKind.u64.wrap i1))), (6, some (nP bb0 0)), (7, some (nP bb0 0)), (8, some (nP bb0 3)), (9, some (.slice (some ⟨g15, 0, none⟩) Lg0.length c6)), (10, some (nI ((Lg0.length : Int)))), (11, some (.int .u64 (IntKind.u64.wrap (Lg0.length : Int)))), (12, some (.int .u64 (Int.tmod (IntKind.u64.wrap i1) (IntKind.u64.wrap (Lg0.length : Int))))), (13, some (nI (IntKind.i64.wrap (Int.tmod (IntKind.u64.wrap i1) (IntKind.u64.wrap (Lg0.length : Int)))))), (14, some (nP g15 ((IntKind.i64.wrap (Int.tmod (IntKind.u64.wrap i1) (IntKind.u64.wrap (Lg0.length : Int)))).toNat))), (15, some (nI (atI Lg0 (IntKind.i64.wrap (Int.tmod (IntKind.u64.wrap i1) (IntKind.u64.wrap (Lg0.length : Int))))))), (16, some (nI (atI Lg0 (IntKind.i64.wrap (Int.tmod (IntKind.u64.wrap i1) (IntKind.u64.wrap (Lg0.length : Int)))))))] [4] #[true, true, true, true, true, true, true, true, true, true, true, true, true, true, true, true, true] (by rfl) hF9 (by kernel_rfl) (by kernel_rfl) (by exact (And.intro (fun wS hw => by kernel_rfl) (And.intro (fun wS hw => by kernel_rfl) (And.intro (fun wS hw => by kernel_rfl) (And.intro (fun wS hw => hw.elim fun qs hw => run_loadV rfl rfl (run_loadS rfl rfl (hw.cell 0 rfl 3 rfl))) (And.intro (fun wS hw => by kernel_rfl) (And.intro (fun wS hw => by kernel_rfl) (And.intro (fun wS hw => by kernel_rfl) (And.intro (fun wS hw => by kernel_rfl) (And.intro (fun wS hw => by kernel_rfl) (And.intro (fun wS hw => hw.elim fun qs hw => run_loadV rfl rfl (run_loadS rfl rfl (hw.cell 0 rfl 3 rfl))) (And.intro (fun wS hw => by kernel_rfl) (And.intro (fun wS hw => by kernel_rfl) (And.intro (fun wS hw => run_rem rfl rfl rfl hc11 _) (And.intro (fun wS hw => by kernel_rfl) (And.intro (fun wS hw => run_idx rfl rfl rfl rfl rfl (inR_spec hc13).1 (inR_spec hc13).2 _) (And.intro (fun wS hw => run_load1 rfl rfl rfl (hw.elim fun qs hw => hw.atI 1 rfl hc13)) (And.intro (fun wS hw => by kernel_rfl) trivial)))))))))))))))))) (fun _ _ _ _ _ h => h) ⟨_, hS17⟩ (l' := [(4, nI (atI Lg0 (IntKind.i64.wrap (Int.tmod (IntKind.u64.wrap i1) (IntKind.u64.wrap (Lg0.length : Int))))))]) (by kernel_rfl) ?_
 intro a19 hF18; clear hF9
 refine any_done (by kernel_rfl) ?_
 refine thenN ?_
 refine wp_ret ?_
 have hS20 := hS17.pick1.pick4.pick4.pick4.pick4
 clear hS17
 simp only [Option.some.injEq, Prod.mk.injEq] at hm14
 obtain ⟨rfl, rfl, rfl⟩ := hm14
 refine ev_ret hF18 [4] (nI (atI Lg0 (IntKind.i64.wrap (Int.tmod (IntKind.u64.wrap i1) (IntKind.u64.wrap (Lg0.length : Int)))))) rfl rfl rfl ?_
 exact ⟨rfl, hS20⟩

end Go.Proofs.YtaihdiccmaincaaGreat
