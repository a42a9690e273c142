/- GWake -/
import Derived.Test.YtgejcjcpchofiaaGreatKGView
import Derived.Deep.LoopGhost
import Derived.KernelRfl
/- The walks of GWake, printed by gen/walk.py. -/
namespace Go.Proofs.YtgejcjcpchofiaaGreat
open Go.RowKit
set_option linter.unusedVariables false

def wake_look.m (k : Nat) (s0 : HSt) (i1 : Int) : Option (Option (Su ⊕ Gr) × HSt) := bind2 (pSudog i1 s0) fun q5 x6 => (if (x6 == 0) then some ((some (.inl (⟨q5.gor, q5.chan, q5.value, q5.next, q5.to, q5.reg, q5.more⟩ : Su))), s0) else bind3 (view_Gor.m k s0 i1) fun q39 x40 s41 => (if (x40 == 0) then some ((some (.inr (⟨q39.id, q39.status, q39.pc, q39.a, q39.b, q39.c, q39.d, q39.e, q39.f, q39.sudogs⟩ : Gr))), s41) else some (none, s41)))
set_option maxRecDepth 100000 in
set_option maxHeartbeats 1500000 in
theorem wake_look.ok {w0 w : World} {F0 : List Nat} {ps : List Piece} {k : Nat} {b0 ab0 : Nat} {s0 : HSt} {i1 : Int} {r0 : Option (Su ⊕ Gr)} {t0 : HSt} (hS : St w0 F0 (HeapP b0 ab0 s0 :: ps) w) (hm : wake_look.m k s0 i1 = some (r0, t0)) :
    Calls Tryz.prog 146 #[nP b0 0, nI i1] w fun e w' => e = .returned (oSGV 113 29 r0) ∧ St w0 F0 (HeapP b0 ab0 t0 :: ps) w' := by
 refine ev_enterL 29 [nP b0 0, nI i1] Tryz.func146 rfl rfl (by simp) ?_
 intro a hF
 have hF0 : Fr 29 a [(0, nP b0 0), (1, nI i1)] := hF; clear hF
 unfold wake_look.m at hm
 refine wp_seq (wp_region_lit ?_)
 refine ev_runK 1 hF0 [0, 1] (l' := [(0, nP b0 0), (1, nI i1)]) (w' := w) (by kernel_rfl) ?_
 intro a2 hF1; clear hF0
 refine wpList_nil (thenN (wp_seq (wp_seq (wp_region_lit ?_))))
 refine ev_runs 2 hF1 (l' := [(11, nI i1), (10, nP b0 0), (0, nP b0 0), (1, nI i1)]) (w' := w) (by kernel_rfl) ?_
 intro a4 hF3; clear hF1
 refine ev_call 68 #[nP b0 0, nI i1] hF3 rfl rfl (by kernel_rfl) rfl (by kernel_rfl) (fun w => by kernel_rfl) ?_
 obtain ⟨q5, x6, hx7, hm8⟩ := bind2E hm; clear hm
 refine (p_Sudog hS hx7).mono ?_
 rintro _ w9 ⟨rfl, hS11⟩ a10 hF12; clear hF3 hS
 refine ev_runs 4 hF12 (l' := [(5, nP (w9.heap.size) 0), (14, nI x6), (13, .agg #[nI (q5.gor), nI (q5.chan), nI (q5.value), nI (q5.next), nI (q5.to), nI (q5.reg), nI (q5.more)]), (9, .tuple #[.agg #[nI (q5.gor), nI (q5.chan), nI (q5.value), nI (q5.next), nI (q5.to), nI (q5.reg), nI (q5.more)], nI x6]), (12, .tuple #[.agg #[nI (q5.gor), nI (q5.chan), nI (q5.value), nI (q5.next), nI (q5.to), nI (q5.reg), nI (q5.more)], nI x6]), (11, nI i1), (10, nP b0 0), (0, nP b0 0), (1, nI i1)]) (w' := w9.alloc (.cells #[nI 0, nI 0, nI 0, nI 0, nI 0, nI 0, nI 0] 113)) (by kernel_rfl) ?_
 intro a14 hF13; clear hF12
 have hS16 : St w0 F0 (BlkP (w9.heap.size) 113 #[nI 0, nI 0, nI 0, nI 0, nI 0, nI 0, nI 0] :: HeapP b0 ab0 s0 :: ps) (w9.alloc (.cells #[nI 0, nI 0, nI 0, nI 0, nI 0, nI 0, nI 0] 113)) := St.new hS11 #[nI 0, nI 0, nI 0, nI 0, nI 0, nI 0, nI 0] 113
 clear hS11
 refine ev_store (.agg #[nI (q5.gor), nI (q5.chan), nI (q5.value), nI (q5.next), nI (q5.to), nI (q5.reg), nI (q5.more)]) #[nI (q5.gor), nI (q5.chan), nI (q5.value), nI (q5.next), nI (q5.to), nI (q5.reg), nI (q5.more)] hF13 (by kernel_rfl) rfl rfl rfl rfl (by kernel_rfl) hS16 (by kernel_rfl) (by kernel_rfl) (by kernel_rfl) (l' := [(5, nP (w9.heap.size) 0), (14, nI x6), (13, .agg #[nI (q5.gor), nI (q5.chan), nI (q5.value), nI (q5.next), nI (q5.to), nI (q5.reg), nI (q5.more)]), (9, .tuple #[.agg #[nI (q5.gor), nI (q5.chan), nI (q5.value), nI (q5.next), nI (q5.to), nI (q5.reg), nI (q5.more)], nI x6]), (12, .tuple #[.agg #[nI (q5.gor), nI (q5.chan), nI (q5.value), nI (q5.next), nI (q5.to), nI (q5.reg), nI (q5.more)], nI x6]), (11, nI i1), (10, nP b0 0), (0, nP b0 0), (1, nI i1)]) (by kernel_rfl) ?_
 intro w17 a18 hS19 hF20; clear hF13 hS16
 refine ev_runK 1 hF20 [0, 1, 5, 6] (l' := [(6, nI x6), (5, nP (w9.heap.size) 0), (0, nP b0 0), (1, nI i1)]) (w' := w17) (by kernel_rfl) ?_
 intro a22 hF21; clear hF20
 refine wpList_nil (thenN (wp_seq (wp_region_lit ?_)))
 refine ev_runK 2 hF21 [0, 1, 5, 16] (l' := [(16, .bool (x6 == 0)), (5, nP (w9.heap.size) 0), (0, nP b0 0), (1, nI i1)]) (w' := w17) (by kernel_rfl) ?_
 intro a24 hF23; clear hF21
 refine wpList_nil (thenN ?_)
 cases hc25 : (x6 == 0) with
 | true =>
  rw [hc25] at hF23
  have hm26 := ifYes hc25 hm8; clear hm8
  refine ev_condT hF23 rfl rfl ?_
  refine wp_seq (wp_region_lit ?_)
  refine ev_one (.agg #[nI (q5.gor), nI (q5.chan), nI (q5.value), nI (q5.next), nI (q5.to), nI (q5.reg), nI (q5.more)]) w17 hF23 (by kernel_rfl) rfl (by kernel_rfl) (run_loadV rfl rfl (run_loadA (cs := [nI (q5.gor), nI (q5.chan), nI (q5.value), nI (q5.next), nI (q5.to), nI (q5.reg), nI (q5.more)]) rfl rfl (by kernel_rfl) (blk_cells hS19 0 rfl rfl))) (l' := [(17, .agg #[nI (q5.gor), nI (q5.chan), nI (q5.value), nI (q5.next), nI (q5.to), nI (q5.reg), nI (q5.more)]), (16, .bool true), (5, nP (w9.heap.size) 0), (0, nP b0 0), (1, nI i1)]) (by kernel_rfl) ?_
  intro a28 hF27; clear hF23
  refine ev_runK 2 hF27 [4] (l' := [(4, .iface 113 (.agg #[nI (q5.gor), nI (q5.chan), nI (q5.value), nI (q5.next), nI (q5.to), nI (q5.reg), nI (q5.more)]))]) (w' := w17) (by kernel_rfl) ?_
  intro a30 hF29; clear hF27
  refine wpList_nil ?_
  have hS31 := hS19.drop
  clear hS19
  refine thenN ?_
  refine wp_ret ?_
  refine thenR ?_
  simp only [Option.some.injEq, Prod.mk.injEq] at hm26
  obtain ⟨rfl, rfl⟩ := hm26
  refine ev_ret hF29 [4] (.iface 113 (.agg #[nI (q5.gor), nI (q5.chan), nI (q5.value), nI (q5.next), nI (q5.to), nI (q5.reg), nI (q5.more)])) rfl rfl rfl ?_
  exact ⟨rfl, hS31⟩
 | false =>
  rw [hc25] at hF23
  have hm34 := ifNot hc25 hm8; clear hm8
  refine ev_condF hF23 rfl rfl ?_
  refine wp_skip ?_
  have hF35 := hF23.keep [0, 1]
  clear hF23
  have hS36 := hS19.drop
  clear hS19
  refine thenN (wp_seq (wp_seq (wp_region_lit ?_)))
  refine ev_runs 2 hF35 (l' := [(21, nI i1), (20, nP b0 0), (0, nP b0 0), (1, nI i1)]) (w' := w17) (by kernel_rfl) ?_
  intro a38 hF37; clear hF35
  refine ev_call 36 #[nP b0 0, nI i1] hF37 rfl rfl (by kernel_rfl) rfl (by kernel_rfl) (fun w => by kernel_rfl) ?_
  obtain ⟨q39, x40, s41, hx42, hm43⟩ := bind3E hm34; clear hm34
  refine (view_Gor.ok hS36 hx42).mono ?_
  rintro _ w44 ⟨rfl, hS46⟩ a45 hF47; clear hF37 hS36
  refine ev_runs 4 hF47 (l' := [(7, nP (w44.heap.size) 0), (24, nI x40), (23, .agg #[nI (q39.id), nI (q39.status), nI (q39.pc), nI (q39.a), nI (q39.b), nI (q39.c), nI (q39.d), nI (q39.e), nI (q39.f), nI (q39.sudogs)]), (19, .tuple #[.agg #[nI (q39.id), nI (q39.status), nI (q39.pc), nI (q39.a), nI (q39.b), nI (q39.c), nI (q39.d), nI (q39.e), nI (q39.f), nI (q39.sudogs)], nI x40]), (22, .tuple #[.agg #[nI (q39.id), nI (q39.status), nI (q39.pc), nI (q39.a), nI (q39.b), nI (q39.c), nI (q39.d), nI (q39.e), nI (q39.f), nI (q39.sudogs)], nI x40]), (21, nI i1), (20, nP b0 0), (0, nP b0 0), (1, nI i1)]) (w' := w44.alloc (.cells #[nI 0, nI 0, nI 0, nI 0, nI 0, nI 0, nI 0, nI 0, nI 0, nI 0] 29)) (by kernel_rfl) ?_
  intro a49 hF48; clear hF47
  have hS51 : St w0 F0 (BlkP (w44.heap.size) 29 #[nI 0, nI 0, nI 0, nI 0, nI 0, nI 0, nI 0, nI 0, nI 0, nI 0] :: HeapP b0 ab0 s41 :: ps) (w44.alloc (.cells #[nI 0, nI 0, nI 0, nI 0, nI 0, nI 0, nI 0, nI 0, nI 0, nI 0] 29)) := St.new hS46 #[nI 0, nI 0, nI 0, nI 0, nI 0, nI 0, nI 0, nI 0, nI 0, nI 0] 29
  clear hS46
  refine ev_store (.agg #[nI (q39.id), nI (q39.status), nI (q39.pc), nI (q39.a), nI (q39.b), nI (q39.c), nI (q39.d), nI (q39.e), nI (q39.f), nI (q39.sudogs)]) #[nI (q39.id), nI (q39.status), nI (q39.pc), nI (q39.a), nI (q39.b), nI (q39.c), nI (q39.d), nI (q39.e), nI (q39.f), nI (q39.sudogs)] hF48 (by kernel_rfl) rfl rfl rfl rfl (by kernel_rfl) hS51 (by kernel_rfl) (by kernel_rfl) (by kernel_rfl) (l' := [(7, nP (w44.heap.size) 0), (24, nI x40), (23, .agg #[nI (q39.id), nI (q39.status), nI (q39.pc), nI (q39.a), nI (q39.b), nI (q39.c), nI (q39.d), nI (q39.e), nI (q39.f), nI (q39.sudogs)]), (19, .tuple #[.agg #[nI (q39.id), nI (q39.status), nI (q39.pc), nI (q39.a), nI (q39.b), nI (q39.c), nI (q39.d), nI (q39.e), nI (q39.f), nI (q39.sudogs)], nI x40]), (22, .tuple #[.agg #[nI (q39.id), nI (q39.status), nI (q39.pc), nI (q39.a), nI (q39.b), nI (q39.c), nI (q39.d), nI (q39.e), nI (q39.f), nI (q39.sudogs)], nI x40]), (21, nI i1), (20, nP b0 0), (0, nP b0 0), (1, nI i1)]) (by kernel_rfl) ?_
  intro w52 a53 hS54 hF55; clear hF48 hS51
  refine ev_runK 1 hF55 [7, 8] (l' := [(8, nI x40), (7, nP (w44.heap.size) 0)]) (w' := w52) (by kernel_rfl) ?_
  intro a57 hF56; clear hF55
  refine wpList_nil (thenN (wp_seq (wp_region_lit ?_)))
  refine ev_runK 2 hF56 [7, 26] (l' := [(26, .bool (x40 == 0)), (7, nP (w44.heap.size) 0)]) (w' := w52) (by kernel_rfl) ?_
  intro a59 hF58; clear hF56
  refine wpList_nil (thenN ?_)
  cases hc60 : (x40 == 0) with
  | true =>
   rw [hc60] at hF58
   have hm61 := ifYes hc60 hm43; clear hm43
   refine ev_condT hF58 rfl rfl ?_
   refine wp_seq (wp_region_lit ?_)
   refine ev_one (.agg #[nI (q39.id), nI (q39.status), nI (q39.pc), nI (q39.a), nI (q39.b), nI (q39.c), nI (q39.d), nI (q39.e), nI (q39.f), nI (q39.sudogs)]) w52 hF58 (by kernel_rfl) rfl (by kernel_rfl) (run_loadV rfl rfl (run_loadA (cs := [nI (q39.id), nI (q39.status), nI (q39.pc), nI (q39.a), nI (q39.b), nI (q39.c), nI (q39.d), nI (q39.e), nI (q39.f), nI (q39.sudogs)]) rfl rfl (by kernel_rfl) (blk_cells hS54 0 rfl rfl))) (l' := [(27, .agg #[nI (q39.id), nI (q39.status), nI (q39.pc), nI (q39.a), nI (q39.b), nI (q39.c), nI (q39.d), nI (q39.e), nI (q39.f), nI (q39.sudogs)]), (26, .bool true), (7, nP (w44.heap.size) 0)]) (by kernel_rfl) ?_
   intro a63 hF62; clear hF58
   refine ev_runK 2 hF62 [4] (l' := [(4, .iface 29 (.agg #[nI (q39.id), nI (q39.status), nI (q39.pc), nI (q39.a), nI (q39.b), nI (q39.c), nI (q39.d), nI (q39.e), nI (q39.f), nI (q39.sudogs)]))]) (w' := w52) (by kernel_rfl) ?_
   intro a65 hF64; clear hF62
   refine wpList_nil ?_
   have hS66 := hS54.drop
   clear hS54
   refine thenN ?_
   refine wp_ret ?_
   refine thenR ?_
   simp only [Option.some.injEq, Prod.mk.injEq] at hm61
   obtain ⟨rfl, rfl⟩ := hm61
   refine ev_ret hF64 [4] (.iface 29 (.agg #[nI (q39.id), nI (q39.status), nI (q39.pc), nI (q39.a), nI (q39.b), nI (q39.c), nI (q39.d), nI (q39.e), nI (q39.f), nI (q39.sudogs)])) rfl rfl rfl ?_
   exact ⟨rfl, hS66⟩
  | false =>
   rw [hc60] at hF58
   have hm69 := ifNot hc60 hm43; clear hm43
   refine ev_condF hF58 rfl rfl ?_
   refine wp_skip ?_
   have hF70 := hF58.keep []
   clear hF58
   have hS71 := hS54.drop
   clear hS54
   refine thenN (wp_seq (wp_region_lit ?_))
   refine ev_runs 1 hF70 (l' := [(4, .nilIface)]) (w' := w52) (by kernel_rfl) ?_
   intro a73 hF72; clear hF70
   refine wpList_nil (thenN ?_)
   refine wp_ret ?_
   simp only [Option.some.injEq, Prod.mk.injEq] at hm69
   obtain ⟨rfl, rfl⟩ := hm69
   refine ev_ret hF72 [4] (.nilIface) rfl rfl rfl ?_
   exact ⟨rfl, hS71⟩

def wake_leave.l1b (k : Nat) (rec12 : (Int → Int) → HSt → Int → Option (HSt)) (f7 : (Int → Int)) (s8 : HSt) (x9 : Int) : Option (HSt) := (if (wdR x9) then (if ((f7 x9) == 0) then bind2 (wake_look.m k s8 x9) fun o32 s33 => optE o32 (some (s33)) fun q55 => sumE q55 (fun q57 => (if (keyR x9) then (if (wdR (IntKind.i64.wrap ((f7 x9) + 1))) then bind2 (list_Remove.m k s33 q57.chan (true) x9) fun y97 s98 => bind2 (list_Remove.m k s98 q57.chan (false) x9) fun y112 s113 => rec12 ((updM f7 x9 (IntKind.i64.wrap ((f7 x9) + 1)))) s113 q57.more else none) else none)) fun q58 => some (s33) else some (s8)) else none)
def wake_leave.l1 (k : Nat) : Nat → (Int → Int) → HSt → Int → Option (HSt)
  | 0 => fun _ _ _ => none
  | kI + 1 => wake_leave.l1b k (wake_leave.l1 k kI)
def wake_leave.m (k : Nat) (s0 : HSt) (i1 : Int) : Option (HSt) := wake_leave.l1 k k (fun _ => 0) s0 i1
set_option maxRecDepth 100000 in
set_option maxHeartbeats 1500000 in
theorem wake_leave.ok {w0 w : World} {F0 : List Nat} {ps : List Piece} {k : Nat} {b0 ab0 : Nat} {s0 : HSt} {i1 : Int} {t0 : HSt} (hS : St w0 F0 (HeapP b0 ab0 s0 :: ps) w) (hm : wake_leave.m k s0 i1 = some t0) :
    Calls Tryz.prog 114 #[nP b0 0, nI i1] w fun e w' => e = .returned (.tuple #[]) ∧ St w0 F0 (HeapP b0 ab0 t0 :: ps) w' := by
 refine ev_enterL 37 [nP b0 0, nI i1] Tryz.func114 rfl rfl (by simp) ?_
 intro a hF
 have hF0 : Fr 37 a [(0, nP b0 0), (1, nI i1)] := hF; clear hF
 unfold wake_leave.m at hm
 refine wp_seq (wp_region_lit ?_)
 refine ev_runs 1 hF0 (l' := [(7, .map (some (w.heap.size))), (0, nP b0 0), (1, nI i1)]) (w' := w.alloc (.map #[] 0)) (by kernel_rfl) ?_
 intro a3 hF2; clear hF0
 have hS4 : St w0 F0 (ColP (w.heap.size) (fun _ => 0) :: HeapP b0 ab0 s0 :: ps) (w.alloc (.map #[] 0)) := St.newMap hS
 refine ev_runK 1 hF2 [0, 1, 4] (l' := [(4, .map (some (w.heap.size))), (0, nP b0 0), (1, nI i1)]) (w' := w.alloc (.map #[] 0)) (by kernel_rfl) ?_
 intro a6 hF5; clear hF2
 refine wpList_nil (thenN ?_)
 refine wp_block ?_
 refine wp_loop_ghost (fun kI aI wI => ∃ (f7 : (Int → Int)) (s8 : HSt) (x9 : Int), Fr 37 aI [(4, .map (some (w.heap.size))), (0, nP b0 0), (1, nI x9)] ∧ St w0 F0 (ColP (w.heap.size) f7 :: HeapP b0 ab0 s8 :: ps) wI ∧ wake_leave.l1 k kI f7 s8 x9 = some t0) k ⟨(fun _ => 0), s0, i1, hF5, hS4, hm⟩ ?_
 rintro k10 a11 w12 ⟨f7, s8, x9, hF13, hS14, hm15⟩
 clear hF5 hS4 hm
 cases k10 with
 | zero => cases hm15
 | succ k10 =>
  have hm16 : wake_leave.l1b k (wake_leave.l1 k k10) f7 s8 x9 = some t0 := hm15
  clear hm15
  unfold wake_leave.l1b at hm16
  refine wp_seq (wp_seq (wp_region_lit ?_))
  refine ev_runs 2 hF13 (l' := [(9, nI x9), (8, .map (some (w.heap.size))), (4, .map (some (w.heap.size))), (0, nP b0 0), (1, nI x9)]) (w' := w12) (by kernel_rfl) ?_
  intro a18 hF17; clear hF13
  obtain ⟨hc19, hm20⟩ := ifTE hm16; clear hm16
  refine ev_colGet 10 0 (.tmp 8) (.tmp 9) x9 hF17 hS14 rfl rfl rfl (by kernel_rfl) rfl (by kernel_rfl) (by kernel_rfl) rfl rfl hc19 ?_
  intro a22 hF21; clear hF17
  have hF23 : Fr 37 a22 [(10, nI (f7 x9)), (9, nI x9), (8, .map (some (w.heap.size))), (4, .map (some (w.heap.size))), (0, nP b0 0), (1, nI x9)] := hF21
  clear hF21
  refine ev_runK 1 hF23 [0, 1, 4, 11] (l' := [(11, .bool ((f7 x9) == 0)), (4, .map (some (w.heap.size))), (0, nP b0 0), (1, nI x9)]) (w' := w12) (by kernel_rfl) ?_
  intro a25 hF24; clear hF23
  refine wpList_nil (thenN ?_)
  cases hc26 : ((f7 x9) == 0) with
  | true =>
   rw [hc26] at hF24
   have hm27 := ifYes hc26 hm20; clear hm20
   refine ev_condT hF24 rfl rfl ?_
   refine wp_skip ?_
   have hF28 := hF24.keep [0, 1, 4]
   clear hF24
   refine thenN ?_
   refine wp_block ?_
   refine wp_seq (wp_region_lit ?_)
   refine ev_runs 2 hF28 (l' := [(14, nI x9), (13, nP b0 0), (4, .map (some (w.heap.size))), (0, nP b0 0), (1, nI x9)]) (w' := w12) (by kernel_rfl) ?_
   intro a30 hF29; clear hF28
   have hS31 := hS14.pick1
   clear hS14
   refine ev_call 146 #[nP b0 0, nI x9] hF29 rfl rfl (by kernel_rfl) rfl (by kernel_rfl) (fun w => by kernel_rfl) ?_
   obtain ⟨o32, s33, hx34, hm35⟩ := bind2E hm27; clear hm27
   refine (wake_look.ok hS31 hx34).mono ?_
   rintro _ w36 ⟨rfl, hS38⟩ a37 hF39; clear hF29 hS31
   cases o32 with
   | none =>
    have hm40 := optN hm35; clear hm35
    refine ev_runs 5 hF39 (l' := [(5, nP (w36.heap.size) 0), (18, .bool false), (17, .agg #[nI 0, nI 0, nI 0, nI 0, nI 0, nI 0, nI 0]), (12, .tuple #[.agg #[nI 0, nI 0, nI 0, nI 0, nI 0, nI 0, nI 0], .bool false]), (16, .tuple #[.agg #[nI 0, nI 0, nI 0, nI 0, nI 0, nI 0, nI 0], .bool false]), (15, .nilIface), (14, nI x9), (13, nP b0 0), (4, .map (some (w.heap.size))), (0, nP b0 0), (1, nI x9)]) (w' := w36.alloc (.cells #[nI 0, nI 0, nI 0, nI 0, nI 0, nI 0, nI 0] 113)) (by kernel_rfl) ?_
    intro a42 hF41; clear hF39
    have hS44 : St w0 F0 (BlkP (w36.heap.size) 113 #[nI 0, nI 0, nI 0, nI 0, nI 0, nI 0, nI 0] :: HeapP b0 ab0 s33 :: ColP (w.heap.size) f7 :: ps) (w36.alloc (.cells #[nI 0, nI 0, nI 0, nI 0, nI 0, nI 0, nI 0] 113)) := St.new hS38 #[nI 0, nI 0, nI 0, nI 0, nI 0, nI 0, nI 0] 113
    clear hS38
    refine ev_store (.agg #[nI 0, nI 0, nI 0, nI 0, nI 0, nI 0, nI 0]) #[nI 0, nI 0, nI 0, nI 0, nI 0, nI 0, nI 0] hF41 (by kernel_rfl) rfl rfl rfl rfl (by kernel_rfl) hS44 (by kernel_rfl) (by kernel_rfl) (by kernel_rfl) (l' := [(5, nP (w36.heap.size) 0), (18, .bool false), (17, .agg #[nI 0, nI 0, nI 0, nI 0, nI 0, nI 0, nI 0]), (12, .tuple #[.agg #[nI 0, nI 0, nI 0, nI 0, nI 0, nI 0, nI 0], .bool false]), (16, .tuple #[.agg #[nI 0, nI 0, nI 0, nI 0, nI 0, nI 0, nI 0], .bool false]), (15, .nilIface), (14, nI x9), (13, nP b0 0), (4, .map (some (w.heap.size))), (0, nP b0 0), (1, nI x9)]) (by kernel_rfl) ?_
    intro w45 a46 hS47 hF48; clear hF41 hS44
    refine ev_runK 1 hF48 [0, 1, 4, 5, 6] (l' := [(6, .bool false), (5, nP (w36.heap.size) 0), (4, .map (some (w.heap.size))), (0, nP b0 0), (1, nI x9)]) (w' := w45) (by kernel_rfl) ?_
    intro a50 hF49; clear hF48
    refine wpList_nil (thenN (wp_seq (wp_seq (wp_region_lit ?_))))
    refine ev_runK 2 hF49 [0, 1, 4, 5, 20] (l' := [(20, .bool true), (5, nP (w36.heap.size) 0), (4, .map (some (w.heap.size))), (0, nP b0 0), (1, nI x9)]) (w' := w45) (by kernel_rfl) ?_
    intro a52 hF51; clear hF49
    refine wpList_nil (thenN ?_)
    refine ev_condT hF51 rfl rfl ?_
    refine wp_ret ?_
    refine thenR ?_
    refine blockR ?_
    refine thenR ?_
    refine blockR ?_
    have hS53 := hS47.drop.pick1.drop
    clear hS47
    obtain rfl := Option.some.inj hm40
    refine ev_ret hF51 [] (.tuple #[]) rfl rfl rfl ?_
    exact ⟨rfl, hS53⟩
   | some q55 =>
    have hm56 := optS hm35; clear hm35
    cases q55 with
    | inl q57 =>
     have hm59 := sumL hm56; clear hm56
     refine ev_runs 5 hF39 (l' := [(5, nP (w36.heap.size) 0), (18, .bool true), (17, .agg #[nI (q57.gor), nI (q57.chan), nI (q57.value), nI (q57.next), nI (q57.to), nI (q57.reg), nI (q57.more)]), (12, .tuple #[.agg #[nI (q57.gor), nI (q57.chan), nI (q57.value), nI (q57.next), nI (q57.to), nI (q57.reg), nI (q57.more)], .bool true]), (16, .tuple #[.agg #[nI (q57.gor), nI (q57.chan), nI (q57.value), nI (q57.next), nI (q57.to), nI (q57.reg), nI (q57.more)], .bool true]), (15, .iface 113 (.agg #[nI (q57.gor), nI (q57.chan), nI (q57.value), nI (q57.next), nI (q57.to), nI (q57.reg), nI (q57.more)])), (14, nI x9), (13, nP b0 0), (4, .map (some (w.heap.size))), (0, nP b0 0), (1, nI x9)]) (w' := w36.alloc (.cells #[nI 0, nI 0, nI 0, nI 0, nI 0, nI 0, nI 0] 113)) (by kernel_rfl) ?_
     intro a61 hF60; clear hF39
     have hS63 : St w0 F0 (BlkP (w36.heap.size) 113 #[nI 0, nI 0, nI 0, nI 0, nI 0, nI 0, nI 0] :: HeapP b0 ab0 s33 :: ColP (w.heap.size) f7 :: ps) (w36.alloc (.cells #[nI 0, nI 0, nI 0, nI 0, nI 0, nI 0, nI 0] 113)) := St.new hS38 #[nI 0, nI 0, nI 0, nI 0, nI 0, nI 0, nI 0] 113
     clear hS38
     refine ev_store (.agg #[nI (q57.gor), nI (q57.chan), nI (q57.value), nI (q57.next), nI (q57.to), nI (q57.reg), nI (q57.more)]) #[nI (q57.gor), nI (q57.chan), nI (q57.value), nI (q57.next), nI (q57.to), nI (q57.reg), nI (q57.more)] hF60 (by kernel_rfl) rfl rfl rfl rfl (by kernel_rfl) hS63 (by kernel_rfl) (by kernel_rfl) (by kernel_rfl) (l' := [(5, nP (w36.heap.size) 0), (18, .bool true), (17, .agg #[nI (q57.gor), nI (q57.chan), nI (q57.value), nI (q57.next), nI (q57.to), nI (q57.reg), nI (q57.more)]), (12, .tuple #[.agg #[nI (q57.gor), nI (q57.chan), nI (q57.value), nI (q57.next), nI (q57.to), nI (q57.reg), nI (q57.more)], .bool true]), (16, .tuple #[.agg #[nI (q57.gor), nI (q57.chan), nI (q57.value), nI (q57.next), nI (q57.to), nI (q57.reg), nI (q57.more)], .bool true]), (15, .iface 113 (.agg #[nI (q57.gor), nI (q57.chan), nI (q57.value), nI (q57.next), nI (q57.to), nI (q57.reg), nI (q57.more)])), (14, nI x9), (13, nP b0 0), (4, .map (some (w.heap.size))), (0, nP b0 0), (1, nI x9)]) (by kernel_rfl) ?_
     intro w64 a65 hS66 hF67; clear hF60 hS63
     refine ev_runK 1 hF67 [0, 1, 4, 5, 6] (l' := [(6, .bool true), (5, nP (w36.heap.size) 0), (4, .map (some (w.heap.size))), (0, nP b0 0), (1, nI x9)]) (w' := w64) (by kernel_rfl) ?_
     intro a69 hF68; clear hF67
     refine wpList_nil (thenN (wp_seq (wp_seq (wp_region_lit ?_))))
     refine ev_runK 2 hF68 [0, 1, 4, 5, 20] (l' := [(20, .bool false), (5, nP (w36.heap.size) 0), (4, .map (some (w.heap.size))), (0, nP b0 0), (1, nI x9)]) (w' := w64) (by kernel_rfl) ?_
     intro a71 hF70; clear hF68
     refine wpList_nil (thenN ?_)
     refine ev_condF hF70 rfl rfl ?_
     refine wp_skip ?_
     have hF72 := hF70.keep [0, 1, 4, 5]
     clear hF70
     refine thenN (wp_seq (wp_region_lit ?_))
     refine ev_runs 2 hF72 (l' := [(22, nI x9), (21, .map (some (w.heap.size))), (5, nP (w36.heap.size) 0), (4, .map (some (w.heap.size))), (0, nP b0 0), (1, nI x9)]) (w' := w64) (by kernel_rfl) ?_
     intro a74 hF73; clear hF72
     refine ev_colGet 23 2 (.tmp 21) (.tmp 22) x9 hF73 hS66 rfl rfl rfl (by kernel_rfl) rfl (by kernel_rfl) (by kernel_rfl) rfl rfl hc19 ?_
     intro a76 hF75; clear hF73
     have hF77 : Fr 37 a76 [(23, nI (f7 x9)), (22, nI x9), (21, .map (some (w.heap.size))), (5, nP (w36.heap.size) 0), (4, .map (some (w.heap.size))), (0, nP b0 0), (1, nI x9)] := hF75
     clear hF75
     refine ev_runs 1 hF77 (l' := [(24, nI (IntKind.i64.wrap ((f7 x9) + 1))), (23, nI (f7 x9)), (22, nI x9), (21, .map (some (w.heap.size))), (5, nP (w36.heap.size) 0), (4, .map (some (w.heap.size))), (0, nP b0 0), (1, nI x9)]) (w' := w64) (by kernel_rfl) ?_
     intro a79 hF78; clear hF77
     have hS80 := hS66.pick2
     clear hS66
     obtain ⟨hc81, hm82⟩ := ifTE hm59; clear hm59
     obtain ⟨hc83, hm84⟩ := ifTE hm82; clear hm82
     refine ev_colSet (.tmp 21) (.tmp 22) (.tmp 24) x9 (IntKind.i64.wrap ((f7 x9) + 1)) hF78 hS80 rfl rfl (by kernel_rfl) (by kernel_rfl) (by kernel_rfl) rfl rfl rfl hc81 hc83 (l' := [(24, nI (IntKind.i64.wrap ((f7 x9) + 1))), (23, nI (f7 x9)), (22, nI x9), (21, .map (some (w.heap.size))), (5, nP (w36.heap.size) 0), (4, .map (some (w.heap.size))), (0, nP b0 0), (1, nI x9)]) (by kernel_rfl) ?_
     intro w85 a86 hS87 hF88; clear hF78 hS80
     refine wpList_nil ?_
     have hF89 := hF88.keep [0, 1, 4, 5]
     clear hF88
     refine thenN (wp_seq (wp_region_lit ?_))
     refine ev_runs 2 hF89 (l' := [(26, nP (w36.heap.size) 1), (25, nP b0 0), (5, nP (w36.heap.size) 0), (4, .map (some (w.heap.size))), (0, nP b0 0), (1, nI x9)]) (w' := w85) (by kernel_rfl) ?_
     intro a91 hF90; clear hF89
     refine ev_one (nI (q57.chan)) w85 hF90 (by kernel_rfl) rfl (by kernel_rfl) (run_loadV rfl rfl (run_loadS rfl rfl (hS87.cell 1 rfl 1 rfl))) (l' := [(27, nI (q57.chan)), (26, nP (w36.heap.size) 1), (25, nP b0 0), (5, nP (w36.heap.size) 0), (4, .map (some (w.heap.size))), (0, nP b0 0), (1, nI x9)]) (by kernel_rfl) ?_
     intro a93 hF92; clear hF90
     refine ev_runs 1 hF92 (l' := [(28, nI x9), (27, nI (q57.chan)), (26, nP (w36.heap.size) 1), (25, nP b0 0), (5, nP (w36.heap.size) 0), (4, .map (some (w.heap.size))), (0, nP b0 0), (1, nI x9)]) (w' := w85) (by kernel_rfl) ?_
     intro a95 hF94; clear hF92
     have hS96 := hS87.pick2
     clear hS87
     refine ev_call 147 #[nP b0 0, nI (q57.chan), .bool true, nI x9] hF94 rfl rfl (by kernel_rfl) rfl (by kernel_rfl) (fun w => by kernel_rfl) ?_
     obtain ⟨y97, s98, hx99, hm100⟩ := bind2E hm84; clear hm84
     refine (list_Remove.ok hS96 hx99).mono ?_
     rintro _ w101 ⟨rfl, hS103⟩ a102 hF104; clear hF94 hS96
     refine wpList_nil ?_
     have hF105 := hF104.keep [0, 1, 4, 5]
     clear hF104
     refine thenN (wp_seq (wp_region_lit ?_))
     refine ev_runs 2 hF105 (l' := [(31, nP (w36.heap.size) 1), (30, nP b0 0), (5, nP (w36.heap.size) 0), (4, .map (some (w.heap.size))), (0, nP b0 0), (1, nI x9)]) (w' := w101) (by kernel_rfl) ?_
     intro a107 hF106; clear hF105
     refine ev_one (nI (q57.chan)) w101 hF106 (by kernel_rfl) rfl (by kernel_rfl) (run_loadV rfl rfl (run_loadS rfl rfl (hS103.cell 2 rfl 1 rfl))) (l' := [(32, nI (q57.chan)), (31, nP (w36.heap.size) 1), (30, nP b0 0), (5, nP (w36.heap.size) 0), (4, .map (some (w.heap.size))), (0, nP b0 0), (1, nI x9)]) (by kernel_rfl) ?_
     intro a109 hF108; clear hF106
     refine ev_runs 1 hF108 (l' := [(33, nI x9), (32, nI (q57.chan)), (31, nP (w36.heap.size) 1), (30, nP b0 0), (5, nP (w36.heap.size) 0), (4, .map (some (w.heap.size))), (0, nP b0 0), (1, nI x9)]) (w' := w101) (by kernel_rfl) ?_
     intro a111 hF110; clear hF108
     refine ev_call 147 #[nP b0 0, nI (q57.chan), .bool false, nI x9] hF110 rfl rfl (by kernel_rfl) rfl (by kernel_rfl) (fun w => by kernel_rfl) ?_
     obtain ⟨y112, s113, hx114, hm115⟩ := bind2E hm100; clear hm100
     refine (list_Remove.ok hS103 hx114).mono ?_
     rintro _ w116 ⟨rfl, hS118⟩ a117 hF119; clear hF110 hS103
     refine wpList_nil ?_
     have hF120 := hF119.keep [0, 4, 5]
     clear hF119
     refine thenN (wp_region_lit ?_)
     refine ev_runs 1 hF120 (l' := [(35, nP (w36.heap.size) 6), (5, nP (w36.heap.size) 0), (4, .map (some (w.heap.size))), (0, nP b0 0)]) (w' := w116) (by kernel_rfl) ?_
     intro a122 hF121; clear hF120
     refine ev_one (nI (q57.more)) w116 hF121 (by kernel_rfl) rfl (by kernel_rfl) (run_loadV rfl rfl (run_loadS rfl rfl (hS118.cell 2 rfl 6 rfl))) (l' := [(36, nI (q57.more)), (35, nP (w36.heap.size) 6), (5, nP (w36.heap.size) 0), (4, .map (some (w.heap.size))), (0, nP b0 0)]) (by kernel_rfl) ?_
     intro a124 hF123; clear hF121
     refine ev_runK 1 hF123 [0, 1, 4] (l' := [(1, nI (q57.more)), (4, .map (some (w.heap.size))), (0, nP b0 0)]) (w' := w116) (by kernel_rfl) ?_
     intro a126 hF125; clear hF123
     refine wpList_nil ?_
     have hS127 := hS118.pick2.drop
     clear hS118
     refine blockN ?_
     have hF128 : Fr 37 a126 [(4, .map (some (w.heap.size))), (0, nP b0 0), (1, nI (q57.more))] := Fr.re hF125 (by kernel_rfl)
     clear hF125
     have hS129 := hS127.pick1
     clear hS127
     exact thenN ⟨k10, Nat.lt_succ_self _, (updM f7 x9 (IntKind.i64.wrap ((f7 x9) + 1))), s113, q57.more, hF128, hS129, hm115⟩
    | inr q58 =>
     have hm130 := sumR hm56; clear hm56
     refine ev_runs 5 hF39 (l' := [(5, nP (w36.heap.size) 0), (18, .bool false), (17, .agg #[nI 0, nI 0, nI 0, nI 0, nI 0, nI 0, nI 0]), (12, .tuple #[.agg #[nI 0, nI 0, nI 0, nI 0, nI 0, nI 0, nI 0], .bool false]), (16, .tuple #[.agg #[nI 0, nI 0, nI 0, nI 0, nI 0, nI 0, nI 0], .bool false]), (15, .iface 29 (.agg #[nI (q58.id), nI (q58.status), nI (q58.pc), nI (q58.a), nI (q58.b), nI (q58.c), nI (q58.d), nI (q58.e), nI (q58.f), nI (q58.sudogs)])), (14, nI x9), (13, nP b0 0), (4, .map (some (w.heap.size))), (0, nP b0 0), (1, nI x9)]) (w' := w36.alloc (.cells #[nI 0, nI 0, nI 0, nI 0, nI 0, nI 0, nI 0] 113)) (by kernel_rfl) ?_
     intro a132 hF131; clear hF39
     have hS134 : St w0 F0 (BlkP (w36.heap.size) 113 #[nI 0, nI 0, nI 0, nI 0, nI 0, nI 0, nI 0] :: HeapP b0 ab0 s33 :: ColP (w.heap.size) f7 :: ps) (w36.alloc (.cells #[nI 0, nI 0, nI 0, nI 0, nI 0, nI 0, nI 0] 113)) := St.new hS38 #[nI 0, nI 0, nI 0, nI 0, nI 0, nI 0, nI 0] 113
     clear hS38
     refine ev_store (.agg #[nI 0, nI 0, nI 0, nI 0, nI 0, nI 0, nI 0]) #[nI 0, nI 0, nI 0, nI 0, nI 0, nI 0, nI 0] hF131 (by kernel_rfl) rfl rfl rfl rfl (by kernel_rfl) hS134 (by kernel_rfl) (by kernel_rfl) (by kernel_rfl) (l' := [(5, nP (w36.heap.size) 0), (18, .bool false), (17, .agg #[nI 0, nI 0, nI 0, nI 0, nI 0, nI 0, nI 0]), (12, .tuple #[.agg #[nI 0, nI 0, nI 0, nI 0, nI 0, nI 0, nI 0], .bool false]), (16, .tuple #[.agg #[nI 0, nI 0, nI 0, nI 0, nI 0, nI 0, nI 0], .bool false]), (15, .iface 29 (.agg #[nI (q58.id), nI (q58.status), nI (q58.pc), nI (q58.a), nI (q58.b), nI (q58.c), nI (q58.d), nI (q58.e), nI (q58.f), nI (q58.sudogs)])), (14, nI x9), (13, nP b0 0), (4, .map (some (w.heap.size))), (0, nP b0 0), (1, nI x9)]) (by kernel_rfl) ?_
     intro w135 a136 hS137 hF138; clear hF131 hS134
     refine ev_runK 1 hF138 [0, 1, 4, 5, 6] (l' := [(6, .bool false), (5, nP (w36.heap.size) 0), (4, .map (some (w.heap.size))), (0, nP b0 0), (1, nI x9)]) (w' := w135) (by kernel_rfl) ?_
     intro a140 hF139; clear hF138
     refine wpList_nil (thenN (wp_seq (wp_seq (wp_region_lit ?_))))
     refine ev_runK 2 hF139 [0, 1, 4, 5, 20] (l' := [(20, .bool true), (5, nP (w36.heap.size) 0), (4, .map (some (w.heap.size))), (0, nP b0 0), (1, nI x9)]) (w' := w135) (by kernel_rfl) ?_
     intro a142 hF141; clear hF139
     refine wpList_nil (thenN ?_)
     refine ev_condT hF141 rfl rfl ?_
     refine wp_ret ?_
     refine thenR ?_
     refine blockR ?_
     refine thenR ?_
     refine blockR ?_
     have hS143 := hS137.drop.pick1.drop
     clear hS137
     obtain rfl := Option.some.inj hm130
     refine ev_ret hF141 [] (.tuple #[]) rfl rfl rfl ?_
     exact ⟨rfl, hS143⟩
  | false =>
   rw [hc26] at hF24
   have hm145 := ifNot hc26 hm20; clear hm20
   refine ev_condF hF24 rfl rfl ?_
   refine wp_exit ?_
   refine thenE ?_
   refine thenE ?_
   refine blockE ?_
   have hS146 := hS14.drop
   clear hS14
   obtain rfl := Option.some.inj hm145
   refine ev_retN hF24 [] (.tuple #[]) rfl rfl rfl ?_
   exact ⟨rfl, hS146⟩

def wake_Wake.j2 (q5 : Su) (q40 : Gr) (s76 : HSt) (x114 : Int) (x115 : Int) (x116 : Int) (x117 : Int) (x118 : Int) (x119 : Int) : Option (Int × Int × HSt) := bind2 (pPutGor q5.gor (⟨q40.id, 0, q5.to, x114, x115, x116, x117, x118, x119, -1⟩ : Gr) s76) fun x134 s135 => bind1 (pShade q5.gor s135) fun s149 => some (q5.gor, x134, s149)
def wake_Wake.j1 (i2 : Int) (q5 : Su) (q40 : Gr) (s76 : HSt) (y106 : Bool) : Option (Int × Int × HSt) := (if (y106) then (if (q5.reg == 0) then wake_Wake.j2 q5 q40 s76 i2 q40.b q40.c q40.d q40.e q40.f else (if (q5.reg == 1) then wake_Wake.j2 q5 q40 s76 q40.a i2 q40.c q40.d q40.e q40.f else (if (q5.reg == 2) then wake_Wake.j2 q5 q40 s76 q40.a q40.b i2 q40.d q40.e q40.f else (if (q5.reg == 3) then wake_Wake.j2 q5 q40 s76 q40.a q40.b q40.c i2 q40.e q40.f else (if (q5.reg == 4) then wake_Wake.j2 q5 q40 s76 q40.a q40.b q40.c q40.d i2 q40.f else (if (q5.reg == 5) then wake_Wake.j2 q5 q40 s76 q40.a q40.b q40.c q40.d q40.e i2 else none)))))) else wake_Wake.j2 q5 q40 s76 q40.a q40.b q40.c q40.d q40.e q40.f)
def wake_Wake.m (k : Nat) (s0 : HSt) (i1 : Int) (i2 : Int) : Option (Int × Int × HSt) := bind2 (pSudog i1 s0) fun q5 x6 => (if (x6 != 0) then some (0, x6, s0) else bind3 (view_Gor.m k s0 q5.gor) fun q40 x41 s42 => (if (x41 != 0) then some (0, x41, s42) else bind1 (wake_leave.m k s42 q40.sudogs) fun s76 => (if (decide (q5.reg ≥ 0)) then wake_Wake.j1 i2 q5 q40 s76 (decide (q5.reg < 6)) else wake_Wake.j1 i2 q5 q40 s76 false)))
set_option maxRecDepth 100000 in
set_option maxHeartbeats 1500000 in
theorem wake_Wake.ok {w0 w : World} {F0 : List Nat} {ps : List Piece} {k : Nat} {b0 ab0 : Nat} {s0 : HSt} {i1 : Int} {i2 : Int} {r0 : Int} {r1 : Int} {t0 : HSt} (hS : St w0 F0 (HeapP b0 ab0 s0 :: ps) w) (hm : wake_Wake.m k s0 i1 i2 = some (r0, r1, t0)) :
    Calls Tryz.prog 66 #[nP b0 0, nI i1, nI i2] w fun e w' => e = .returned (.tuple #[.int .i64 r0, .int .i64 r1]) ∧ St w0 F0 (HeapP b0 ab0 t0 :: ps) w' := by
 refine ev_enterL 64 [nP b0 0, nI i1, nI i2] Tryz.func66 rfl rfl (by simp) ?_
 intro a hF
 have hF0 : Fr 64 a [(0, nP b0 0), (1, nI i1), (2, nI i2)] := hF; clear hF
 unfold wake_Wake.m at hm
 refine wp_seq (wp_region_lit ?_)
 refine ev_runK 2 hF0 [0, 1, 2] (l' := [(0, nP b0 0), (1, nI i1), (2, nI i2)]) (w' := w) (by kernel_rfl) ?_
 intro a2 hF1; clear hF0
 refine wpList_nil (thenN (wp_seq (wp_region_lit ?_)))
 refine ev_runs 2 hF1 (l' := [(13, nI i1), (12, nP b0 0), (0, nP b0 0), (1, nI i1), (2, nI i2)]) (w' := w) (by kernel_rfl) ?_
 intro a4 hF3; clear hF1
 refine ev_call 68 #[nP b0 0, nI i1] hF3 rfl rfl (by kernel_rfl) rfl (by kernel_rfl) (fun w => by kernel_rfl) ?_
 obtain ⟨q5, x6, hx7, hm8⟩ := bind2E hm; clear hm
 refine (p_Sudog hS hx7).mono ?_
 rintro _ w9 ⟨rfl, hS11⟩ a10 hF12; clear hF3 hS
 refine ev_runs 4 hF12 (l' := [(8, nP (w9.heap.size) 0), (16, nI x6), (15, .agg #[nI (q5.gor), nI (q5.chan), nI (q5.value), nI (q5.next), nI (q5.to), nI (q5.reg), nI (q5.more)]), (11, .tuple #[.agg #[nI (q5.gor), nI (q5.chan), nI (q5.value), nI (q5.next), nI (q5.to), nI (q5.reg), nI (q5.more)], nI x6]), (14, .tuple #[.agg #[nI (q5.gor), nI (q5.chan), nI (q5.value), nI (q5.next), nI (q5.to), nI (q5.reg), nI (q5.more)], nI x6]), (13, nI i1), (12, nP b0 0), (0, nP b0 0), (1, nI i1), (2, nI i2)]) (w' := w9.alloc (.cells #[nI 0, nI 0, nI 0, nI 0, nI 0, nI 0, nI 0] 113)) (by kernel_rfl) ?_
 intro a14 hF13; clear hF12
 have hS16 : St w0 F0 (BlkP (w9.heap.size) 113 #[nI 0, nI 0, nI 0, nI 0, nI 0, nI 0, nI 0] :: HeapP b0 ab0 s0 :: ps) (w9.alloc (.cells #[nI 0, nI 0, nI 0, nI 0, nI 0, nI 0, nI 0] 113)) := St.new hS11 #[nI 0, nI 0, nI 0, nI 0, nI 0, nI 0, nI 0] 113
 clear hS11
 refine ev_store (.agg #[nI (q5.gor), nI (q5.chan), nI (q5.value), nI (q5.next), nI (q5.to), nI (q5.reg), nI (q5.more)]) #[nI (q5.gor), nI (q5.chan), nI (q5.value), nI (q5.next), nI (q5.to), nI (q5.reg), nI (q5.more)] hF13 (by kernel_rfl) rfl rfl rfl rfl (by kernel_rfl) hS16 (by kernel_rfl) (by kernel_rfl) (by kernel_rfl) (l' := [(8, nP (w9.heap.size) 0), (16, nI x6), (15, .agg #[nI (q5.gor), nI (q5.chan), nI (q5.value), nI (q5.next), nI (q5.to), nI (q5.reg), nI (q5.more)]), (11, .tuple #[.agg #[nI (q5.gor), nI (q5.chan), nI (q5.value), nI (q5.next), nI (q5.to), nI (q5.reg), nI (q5.more)], nI x6]), (14, .tuple #[.agg #[nI (q5.gor), nI (q5.chan), nI (q5.value), nI (q5.next), nI (q5.to), nI (q5.reg), nI (q5.more)], nI x6]), (13, nI i1), (12, nP b0 0), (0, nP b0 0), (1, nI i1), (2, nI i2)]) (by kernel_rfl) ?_
 intro w17 a18 hS19 hF20; clear hF13 hS16
 refine ev_runK 1 hF20 [0, 2, 8, 9] (l' := [(9, nI x6), (8, nP (w9.heap.size) 0), (0, nP b0 0), (2, nI i2)]) (w' := w17) (by kernel_rfl) ?_
 intro a22 hF21; clear hF20
 refine wpList_nil (thenN (wp_seq (wp_seq (wp_region_lit ?_))))
 refine ev_runK 2 hF21 [0, 2, 8, 9, 18] (l' := [(18, .bool (x6 != 0)), (9, nI x6), (8, nP (w9.heap.size) 0), (0, nP b0 0), (2, nI i2)]) (w' := w17) (by kernel_rfl) ?_
 intro a24 hF23; clear hF21
 refine wpList_nil (thenN ?_)
 cases hc25 : (x6 != 0) with
 | true =>
  rw [hc25] at hF23
  have hm26 := ifYes hc25 hm8; clear hm8
  refine ev_condT hF23 rfl rfl ?_
  refine wp_seq (wp_region_lit ?_)
  refine ev_runK 3 hF23 [6, 7] (l' := [(7, nI x6), (6, nI 0)]) (w' := w17) (by kernel_rfl) ?_
  intro a28 hF27; clear hF23
  refine wpList_nil ?_
  have hS29 := hS19.drop
  clear hS19
  refine thenN ?_
  refine wp_ret ?_
  refine thenR ?_
  simp only [Option.some.injEq, Prod.mk.injEq] at hm26
  obtain ⟨rfl, rfl, rfl⟩ := hm26
  refine ev_ret hF27 [6, 7] (.tuple #[nI 0, nI x6]) rfl rfl rfl ?_
  exact ⟨rfl, hS29⟩
 | false =>
  rw [hc25] at hF23
  have hm33 := ifNot hc25 hm8; clear hm8
  refine ev_condF hF23 rfl rfl ?_
  refine wp_skip ?_
  have hF34 := hF23.keep [0, 2, 8]
  clear hF23
  refine thenN (wp_seq (wp_region_lit ?_))
  refine ev_runs 2 hF34 (l' := [(22, nP (w9.heap.size) 0), (21, nP b0 0), (8, nP (w9.heap.size) 0), (0, nP b0 0), (2, nI i2)]) (w' := w17) (by kernel_rfl) ?_
  intro a36 hF35; clear hF34
  refine ev_one (nI (q5.gor)) w17 hF35 (by kernel_rfl) rfl (by kernel_rfl) (run_loadV rfl rfl (run_loadS rfl rfl (hS19.cell 0 rfl 0 rfl))) (l' := [(23, nI (q5.gor)), (22, nP (w9.heap.size) 0), (21, nP b0 0), (8, nP (w9.heap.size) 0), (0, nP b0 0), (2, nI i2)]) (by kernel_rfl) ?_
  intro a38 hF37; clear hF35
  have hS39 := hS19.pick1
  clear hS19
  refine ev_call 36 #[nP b0 0, nI (q5.gor)] hF37 rfl rfl (by kernel_rfl) rfl (by kernel_rfl) (fun w => by kernel_rfl) ?_
  obtain ⟨q40, x41, s42, hx43, hm44⟩ := bind3E hm33; clear hm33
  refine (view_Gor.ok hS39 hx43).mono ?_
  rintro _ w45 ⟨rfl, hS47⟩ a46 hF48; clear hF37 hS39
  refine ev_runs 4 hF48 (l' := [(10, nP (w45.heap.size) 0), (26, nI x41), (25, .agg #[nI (q40.id), nI (q40.status), nI (q40.pc), nI (q40.a), nI (q40.b), nI (q40.c), nI (q40.d), nI (q40.e), nI (q40.f), nI (q40.sudogs)]), (20, .tuple #[.agg #[nI (q40.id), nI (q40.status), nI (q40.pc), nI (q40.a), nI (q40.b), nI (q40.c), nI (q40.d), nI (q40.e), nI (q40.f), nI (q40.sudogs)], nI x41]), (24, .tuple #[.agg #[nI (q40.id), nI (q40.status), nI (q40.pc), nI (q40.a), nI (q40.b), nI (q40.c), nI (q40.d), nI (q40.e), nI (q40.f), nI (q40.sudogs)], nI x41]), (23, nI (q5.gor)), (22, nP (w9.heap.size) 0), (21, nP b0 0), (8, nP (w9.heap.size) 0), (0, nP b0 0), (2, nI i2)]) (w' := w45.alloc (.cells #[nI 0, nI 0, nI 0, nI 0, nI 0, nI 0, nI 0, nI 0, nI 0, nI 0] 29)) (by kernel_rfl) ?_
  intro a50 hF49; clear hF48
  have hS52 : St w0 F0 (BlkP (w45.heap.size) 29 #[nI 0, nI 0, nI 0, nI 0, nI 0, nI 0, nI 0, nI 0, nI 0, nI 0] :: HeapP b0 ab0 s42 :: BlkP (w9.heap.size) 113 #[nI (q5.gor), nI (q5.chan), nI (q5.value), nI (q5.next), nI (q5.to), nI (q5.reg), nI (q5.more)] :: ps) (w45.alloc (.cells #[nI 0, nI 0, nI 0, nI 0, nI 0, nI 0, nI 0, nI 0, nI 0, nI 0] 29)) := St.new hS47 #[nI 0, nI 0, nI 0, nI 0, nI 0, nI 0, nI 0, nI 0, nI 0, nI 0] 29
  clear hS47
  refine ev_store (.agg #[nI (q40.id), nI (q40.status), nI (q40.pc), nI (q40.a), nI (q40.b), nI (q40.c), nI (q40.d), nI (q40.e), nI (q40.f), nI (q40.sudogs)]) #[nI (q40.id), nI (q40.status), nI (q40.pc), nI (q40.a), nI (q40.b), nI (q40.c), nI (q40.d), nI (q40.e), nI (q40.f), nI (q40.sudogs)] hF49 (by kernel_rfl) rfl rfl rfl rfl (by kernel_rfl) hS52 (by kernel_rfl) (by kernel_rfl) (by kernel_rfl) (l' := [(10, nP (w45.heap.size) 0), (26, nI x41), (25, .agg #[nI (q40.id), nI (q40.status), nI (q40.pc), nI (q40.a), nI (q40.b), nI (q40.c), nI (q40.d), nI (q40.e), nI (q40.f), nI (q40.sudogs)]), (20, .tuple #[.agg #[nI (q40.id), nI (q40.status), nI (q40.pc), nI (q40.a), nI (q40.b), nI (q40.c), nI (q40.d), nI (q40.e), nI (q40.f), nI (q40.sudogs)], nI x41]), (24, .tuple #[.agg #[nI (q40.id), nI (q40.status), nI (q40.pc), nI (q40.a), nI (q40.b), nI (q40.c), nI (q40.d), nI (q40.e), nI (q40.f), nI (q40.sudogs)], nI x41]), (23, nI (q5.gor)), (22, nP (w9.heap.size) 0), (21, nP b0 0), (8, nP (w9.heap.size) 0), (0, nP b0 0), (2, nI i2)]) (by kernel_rfl) ?_
  intro w53 a54 hS55 hF56; clear hF49 hS52
  refine ev_runK 1 hF56 [0, 2, 8, 9, 10] (l' := [(9, nI x41), (10, nP (w45.heap.size) 0), (8, nP (w9.heap.size) 0), (0, nP b0 0), (2, nI i2)]) (w' := w53) (by kernel_rfl) ?_
  intro a58 hF57; clear hF56
  refine wpList_nil (thenN (wp_seq (wp_seq (wp_region_lit ?_))))
  refine ev_runK 2 hF57 [0, 2, 8, 9, 10, 28] (l' := [(28, .bool (x41 != 0)), (9, nI x41), (10, nP (w45.heap.size) 0), (8, nP (w9.heap.size) 0), (0, nP b0 0), (2, nI i2)]) (w' := w53) (by kernel_rfl) ?_
  intro a60 hF59; clear hF57
  refine wpList_nil (thenN ?_)
  cases hc61 : (x41 != 0) with
  | true =>
   rw [hc61] at hF59
   have hm62 := ifYes hc61 hm44; clear hm44
   refine ev_condT hF59 rfl rfl ?_
   refine wp_seq (wp_region_lit ?_)
   refine ev_runK 3 hF59 [6, 7] (l' := [(7, nI x41), (6, nI 0)]) (w' := w53) (by kernel_rfl) ?_
   intro a64 hF63; clear hF59
   refine wpList_nil ?_
   have hS65 := hS55.drop.pick1.drop
   clear hS55
   refine thenN ?_
   refine wp_ret ?_
   refine thenR ?_
   simp only [Option.some.injEq, Prod.mk.injEq] at hm62
   obtain ⟨rfl, rfl, rfl⟩ := hm62
   refine ev_ret hF63 [6, 7] (.tuple #[nI 0, nI x41]) rfl rfl rfl ?_
   exact ⟨rfl, hS65⟩
  | false =>
   rw [hc61] at hF59
   have hm69 := ifNot hc61 hm44; clear hm44
   refine ev_condF hF59 rfl rfl ?_
   refine wp_skip ?_
   have hF70 := hF59.keep [0, 2, 8, 10]
   clear hF59
   refine thenN (wp_seq (wp_region_lit ?_))
   refine ev_runs 2 hF70 (l' := [(31, nP (w45.heap.size) 9), (30, nP b0 0), (10, nP (w45.heap.size) 0), (8, nP (w9.heap.size) 0), (0, nP b0 0), (2, nI i2)]) (w' := w53) (by kernel_rfl) ?_
   intro a72 hF71; clear hF70
   refine ev_one (nI (q40.sudogs)) w53 hF71 (by kernel_rfl) rfl (by kernel_rfl) (run_loadV rfl rfl (run_loadS rfl rfl (hS55.cell 0 rfl 9 rfl))) (l' := [(32, nI (q40.sudogs)), (31, nP (w45.heap.size) 9), (30, nP b0 0), (10, nP (w45.heap.size) 0), (8, nP (w9.heap.size) 0), (0, nP b0 0), (2, nI i2)]) (by kernel_rfl) ?_
   intro a74 hF73; clear hF71
   have hS75 := hS55.pick1
   clear hS55
   refine ev_call 114 #[nP b0 0, nI (q40.sudogs)] hF73 rfl rfl (by kernel_rfl) rfl (by kernel_rfl) (fun w => by kernel_rfl) ?_
   obtain ⟨s76, hx77, hm78⟩ := bind1E hm69; clear hm69
   refine (wake_leave.ok hS75 hx77).mono ?_
   rintro _ w79 ⟨rfl, hS81⟩ a80 hF82; clear hF73 hS75
   refine wpList_nil ?_
   have hF83 := hF82.keep [0, 2, 8, 10]
   clear hF82
   refine thenN (wp_seq ?_)
   -- draws
   have hS84 := hS81.pick2
   clear hS81
   have hS85 := hS84.drew; clear hS84
   refine any_start (fun wS => ∃ qs, St w0 F0 (BlkP (w9.heap.size) 113 #[nI (q5.gor), nI (q5.chan), nI (q5.value), nI (q5.next), nI (q5.to), nI (q5.reg), nI (q5.more)] :: qs) wS) 8 #[false, false, false, false, false, false, false, false] (by kernel_rfl) (by kernel_rfl) (by kernel_rfl) ?_
   refine any_many 3 [(0, some (nP (w9.heap.size) 4)), (1, some (nI (q5.to))), (2, some (nP (w45.heap.size) 9))] [0, 2, 8, 10, 35, 36, 37, 38] #[true, true, true, false, false, false, false, false] (by rfl) hF83 (by kernel_rfl) (by kernel_rfl) (by exact (And.intro (fun wS hw => by kernel_rfl) (And.intro (fun wS hw => hw.elim fun qs hw => run_loadV rfl rfl (run_loadS rfl rfl (hw.cell 0 rfl 4 rfl))) (And.intro (fun wS hw => by kernel_rfl) trivial)))) (fun _ _ _ _ _ h => h) ⟨_, hS85⟩ (l' := [(36, nP (w45.heap.size) 9), (35, nI (q5.to)), (10, nP (w45.heap.size) 0), (8, nP (w9.heap.size) 0), (0, nP b0 0), (2, nI i2)]) (by kernel_rfl) ?_
   intro a87 hF86; clear hF83
   refine any_one 3 (by kernel_rfl) ?_
   have hS88 := hS85.pick2
   clear hS85
   refine op_store 3 #[true, true, true, true, false, false, false, false] (nI (-1)) #[nI (q40.id), nI (q40.status), nI (q40.pc), nI (q40.a), nI (q40.b), nI (q40.c), nI (q40.d), nI (q40.e), nI (q40.f), nI (-1)] hF86 rfl (by kernel_rfl) rfl rfl rfl rfl (by kernel_rfl) hS88 (by kernel_rfl) (by kernel_rfl) (by kernel_rfl) (l' := [(36, nP (w45.heap.size) 9), (35, nI (q5.to)), (10, nP (w45.heap.size) 0), (8, nP (w9.heap.size) 0), (0, nP b0 0), (2, nI i2)]) (by kernel_rfl) (by kernel_rfl) ?_
   intro w89 a90 hS91 hF92; clear hF86 hS88
   refine ⟨⟨_, hS91.pick1⟩, ?_⟩
   refine any_many 1 [(4, some (nP (w45.heap.size) 1))] [0, 2, 8, 10, 35, 37, 38] #[true, true, true, true, true, false, false, false] (by rfl) hF92 (by kernel_rfl) (by kernel_rfl) (by exact (And.intro (fun wS hw => by kernel_rfl) trivial)) (fun _ _ _ _ _ h => h) ⟨_, hS91.pick1⟩ (l' := [(37, nP (w45.heap.size) 1), (35, nI (q5.to)), (10, nP (w45.heap.size) 0), (8, nP (w9.heap.size) 0), (0, nP b0 0), (2, nI i2)]) (by kernel_rfl) ?_
   intro a94 hF93; clear hF92
   refine any_one 5 (by kernel_rfl) ?_
   refine op_store 5 #[true, true, true, true, true, true, false, false] (nI 0) #[nI (q40.id), nI 0, nI (q40.pc), nI (q40.a), nI (q40.b), nI (q40.c), nI (q40.d), nI (q40.e), nI (q40.f), nI (-1)] hF93 rfl (by kernel_rfl) rfl rfl rfl rfl (by kernel_rfl) hS91 (by kernel_rfl) (by kernel_rfl) (by kernel_rfl) (l' := [(37, nP (w45.heap.size) 1), (35, nI (q5.to)), (10, nP (w45.heap.size) 0), (8, nP (w9.heap.size) 0), (0, nP b0 0), (2, nI i2)]) (by kernel_rfl) (by kernel_rfl) ?_
   intro w95 a96 hS97 hF98; clear hF93 hS91
   refine ⟨⟨_, hS97.pick1⟩, ?_⟩
   refine any_many 1 [(6, some (nP (w45.heap.size) 2))] [0, 2, 8, 10, 35, 38] #[true, true, true, true, true, true, true, false] (by rfl) hF98 (by kernel_rfl) (by kernel_rfl) (by exact (And.intro (fun wS hw => by kernel_rfl) trivial)) (fun _ _ _ _ _ h => h) ⟨_, hS97.pick1⟩ (l' := [(38, nP (w45.heap.size) 2), (35, nI (q5.to)), (10, nP (w45.heap.size) 0), (8, nP (w9.heap.size) 0), (0, nP b0 0), (2, nI i2)]) (by kernel_rfl) ?_
   intro a100 hF99; clear hF98
   refine any_one 7 (by kernel_rfl) ?_
   refine op_store 7 #[true, true, true, true, true, true, true, true] (nI (q5.to)) #[nI (q40.id), nI 0, nI (q5.to), nI (q40.a), nI (q40.b), nI (q40.c), nI (q40.d), nI (q40.e), nI (q40.f), nI (-1)] hF99 rfl (by kernel_rfl) rfl rfl rfl rfl (by kernel_rfl) hS97 (by kernel_rfl) (by kernel_rfl) (by kernel_rfl) (l' := [(38, nP (w45.heap.size) 2), (35, nI (q5.to)), (10, nP (w45.heap.size) 0), (8, nP (w9.heap.size) 0), (0, nP b0 0), (2, nI i2)]) (by kernel_rfl) (by kernel_rfl) ?_
   intro w101 a102 hS103 hF104; clear hF99 hS97
   refine ⟨⟨_, hS103.pick1⟩, ?_⟩
   refine any_done (by kernel_rfl) ?_
   have hF105 := hF104.keep [0, 2, 8, 10]
   clear hF104
   refine thenN (wp_seq (wp_seq ?_))
   refine joinQ (fun aI wI => ∃ (y106 : Bool), Fr 64 aI [(46, .bool (y106)), (10, nP (w45.heap.size) 0), (8, nP (w9.heap.size) 0), (0, nP b0 0), (2, nI i2)] ∧ St w0 F0 (BlkP (w45.heap.size) 29 #[nI (q40.id), nI 0, nI (q5.to), nI (q40.a), nI (q40.b), nI (q40.c), nI (q40.d), nI (q40.e), nI (q40.f), nI (-1)] :: BlkP (w9.heap.size) 113 #[nI (q5.gor), nI (q5.chan), nI (q5.value), nI (q5.next), nI (q5.to), nI (q5.reg), nI (q5.more)] :: HeapP b0 ab0 s76 :: ps) wI ∧ wake_Wake.j1 i2 q5 q40 s76 y106 = some (r0, r1, t0)) ?_ ?_
   rotate_left
   · rintro a108 w109 ⟨y106, hF110, hS111, hm112⟩
     clear hF105 hS103 hm78
     unfold wake_Wake.j1 at hm112
     refine thenN ?_
     refine joinQ (fun aI wI => ∃ (x114 : Int) (x115 : Int) (x116 : Int) (x117 : Int) (x118 : Int) (x119 : Int), Fr 64 aI [(10, nP (w45.heap.size) 0), (8, nP (w9.heap.size) 0), (0, nP b0 0)] ∧ St w0 F0 (BlkP (w45.heap.size) 29 #[nI (q40.id), nI 0, nI (q5.to), nI x114, nI x115, nI x116, nI x117, nI x118, nI x119, nI (-1)] :: BlkP (w9.heap.size) 113 #[nI (q5.gor), nI (q5.chan), nI (q5.value), nI (q5.next), nI (q5.to), nI (q5.reg), nI (q5.more)] :: HeapP b0 ab0 s76 :: ps) wI ∧ wake_Wake.j2 q5 q40 s76 x114 x115 x116 x117 x118 x119 = some (r0, r1, t0)) ?_ ?_
     rotate_left
     · rintro a121 w122 ⟨x114, x115, x116, x117, x118, x119, hF123, hS124, hm125⟩
       clear hF110 hS111 hm112
       unfold wake_Wake.j2 at hm125
       refine thenN (wp_seq (wp_region_lit ?_))
       refine ev_runs 2 hF123 (l' := [(53, nP (w9.heap.size) 0), (52, nP b0 0), (10, nP (w45.heap.size) 0), (8, nP (w9.heap.size) 0), (0, nP b0 0)]) (w' := w122) (by kernel_rfl) ?_
       intro a128 hF127; clear hF123
       refine ev_one (nI (q5.gor)) w122 hF127 (by kernel_rfl) rfl (by kernel_rfl) (run_loadV rfl rfl (run_loadS rfl rfl (hS124.cell 1 rfl 0 rfl))) (l' := [(54, nI (q5.gor)), (53, nP (w9.heap.size) 0), (52, nP b0 0), (10, nP (w45.heap.size) 0), (8, nP (w9.heap.size) 0), (0, nP b0 0)]) (by kernel_rfl) ?_
       intro a130 hF129; clear hF127
       refine ev_one (.agg #[nI (q40.id), nI 0, nI (q5.to), nI x114, nI x115, nI x116, nI x117, nI x118, nI x119, nI (-1)]) w122 hF129 (by kernel_rfl) rfl (by kernel_rfl) (run_loadV rfl rfl (run_loadA (cs := [nI (q40.id), nI 0, nI (q5.to), nI x114, nI x115, nI x116, nI x117, nI x118, nI x119, nI (-1)]) rfl rfl (by kernel_rfl) (blk_cells hS124 0 rfl rfl))) (l' := [(55, .agg #[nI (q40.id), nI 0, nI (q5.to), nI x114, nI x115, nI x116, nI x117, nI x118, nI x119, nI (-1)]), (54, nI (q5.gor)), (53, nP (w9.heap.size) 0), (52, nP b0 0), (10, nP (w45.heap.size) 0), (8, nP (w9.heap.size) 0), (0, nP b0 0)]) (by kernel_rfl) ?_
       intro a132 hF131; clear hF129
       have hS133 := hS124.pick2
       clear hS124
       refine ev_call 56 #[nP b0 0, nI (q5.gor), .agg #[nI (q40.id), nI 0, nI (q5.to), nI x114, nI x115, nI x116, nI x117, nI x118, nI x119, nI (-1)]] hF131 rfl rfl (by kernel_rfl) rfl (by kernel_rfl) (fun w => by kernel_rfl) ?_
       obtain ⟨x134, s135, hx136, hm137⟩ := bind2E hm125; clear hm125
       refine (p_PutGor hS133 hx136).mono ?_
       rintro _ w138 ⟨rfl, hS140⟩ a139 hF141; clear hF131 hS133
       refine ev_runK 1 hF141 [0, 8, 9] (l' := [(9, nI x134), (8, nP (w9.heap.size) 0), (0, nP b0 0)]) (w' := w138) (by kernel_rfl) ?_
       intro a143 hF142; clear hF141
       refine wpList_nil ?_
       have hS144 := hS140.pick1.drop
       clear hS140
       refine thenN (wp_seq (wp_region_lit ?_))
       refine ev_runs 2 hF142 (l' := [(58, nP (w9.heap.size) 0), (57, nP b0 0), (9, nI x134), (8, nP (w9.heap.size) 0), (0, nP b0 0)]) (w' := w138) (by kernel_rfl) ?_
       intro a146 hF145; clear hF142
       refine ev_one (nI (q5.gor)) w138 hF145 (by kernel_rfl) rfl (by kernel_rfl) (run_loadV rfl rfl (run_loadS rfl rfl (hS144.cell 1 rfl 0 rfl))) (l' := [(59, nI (q5.gor)), (58, nP (w9.heap.size) 0), (57, nP b0 0), (9, nI x134), (8, nP (w9.heap.size) 0), (0, nP b0 0)]) (by kernel_rfl) ?_
       intro a148 hF147; clear hF145
       refine ev_call 95 #[nP b0 0, nI (q5.gor)] hF147 rfl rfl (by kernel_rfl) rfl (by kernel_rfl) (fun w => by kernel_rfl) ?_
       obtain ⟨s149, hx150, hm151⟩ := bind1E hm137; clear hm137
       refine (p_Shade hS144 hx150).mono ?_
       rintro _ w152 ⟨rfl, hS154⟩ a153 hF155; clear hF147 hS144
       refine wpList_nil ?_
       have hF156 := hF155.keep [8, 9]
       clear hF155
       refine thenN (wp_seq (wp_region_lit ?_))
       refine ev_runs 1 hF156 (l' := [(61, nP (w9.heap.size) 0), (9, nI x134), (8, nP (w9.heap.size) 0)]) (w' := w152) (by kernel_rfl) ?_
       intro a158 hF157; clear hF156
       refine ev_one (nI (q5.gor)) w152 hF157 (by kernel_rfl) rfl (by kernel_rfl) (run_loadV rfl rfl (run_loadS rfl rfl (hS154.cell 1 rfl 0 rfl))) (l' := [(62, nI (q5.gor)), (61, nP (w9.heap.size) 0), (9, nI x134), (8, nP (w9.heap.size) 0)]) (by kernel_rfl) ?_
       intro a160 hF159; clear hF157
       refine ev_runK 3 hF159 [6, 7] (l' := [(7, nI x134), (6, nI (q5.gor))]) (w' := w152) (by kernel_rfl) ?_
       intro a162 hF161; clear hF159
       refine wpList_nil ?_
       have hS163 := hS154.pick1.drop
       clear hS154
       refine thenN ?_
       refine wp_ret ?_
       simp only [Option.some.injEq, Prod.mk.injEq] at hm151
       obtain ⟨rfl, rfl, rfl⟩ := hm151
       refine ev_ret hF161 [6, 7] (.tuple #[nI (q5.gor), nI x134]) rfl rfl rfl ?_
       exact ⟨rfl, hS163⟩
     · skip
       cases hc167 : (y106) with
       | true =>
        rw [hc167] at hF110
        have hm168 := ifYes hc167 hm112; clear hm112
        refine ev_condT hF110 rfl rfl ?_
        refine wp_region_lit ?_
        refine ev_runs 1 hF110 (l' := [(47, nP (w9.heap.size) 5), (46, .bool true), (10, nP (w45.heap.size) 0), (8, nP (w9.heap.size) 0), (0, nP b0 0), (2, nI i2)]) (w' := w109) (by kernel_rfl) ?_
        intro a170 hF169; clear hF110
        refine ev_one (nI (q5.reg)) w109 hF169 (by kernel_rfl) rfl (by kernel_rfl) (run_loadV rfl rfl (run_loadS rfl rfl (hS111.cell 1 rfl 5 rfl))) (l' := [(48, nI (q5.reg)), (47, nP (w9.heap.size) 5), (46, .bool true), (10, nP (w45.heap.size) 0), (8, nP (w9.heap.size) 0), (0, nP b0 0), (2, nI i2)]) (by kernel_rfl) ?_
        intro a172 hF171; clear hF169
        refine ev_runs 2 hF171 (l' := [(50, nP (w45.heap.size) 3), (49, nI i2), (48, nI (q5.reg)), (47, nP (w9.heap.size) 5), (46, .bool true), (10, nP (w45.heap.size) 0), (8, nP (w9.heap.size) 0), (0, nP b0 0), (2, nI i2)]) (w' := w109) (by kernel_rfl) ?_
        intro a174 hF173; clear hF171
        cases hc175 : (q5.reg == 0) with
        | true =>
         have hm176 := ifYes hc175 hm168; clear hm168
         refine ev_one (nP (w45.heap.size) 3) w109 hF173 (by kernel_rfl) rfl (by kernel_rfl) (run_idxA (q := 0) rfl rfl rfl rfl (congrArg (Value.int .i64) (eq_of_beq hc175)) (by decide) (by decide) (by kernel_rfl) _) (l' := [(51, nP (w45.heap.size) 3), (50, nP (w45.heap.size) 3), (49, nI i2), (48, nI (q5.reg)), (47, nP (w9.heap.size) 5), (46, .bool true), (10, nP (w45.heap.size) 0), (8, nP (w9.heap.size) 0), (0, nP b0 0), (2, nI i2)]) (by kernel_rfl) ?_
         intro a178 hF177; clear hF173
         refine ev_store (nI i2) #[nI (q40.id), nI 0, nI (q5.to), nI i2, nI (q40.b), nI (q40.c), nI (q40.d), nI (q40.e), nI (q40.f), nI (-1)] hF177 (by kernel_rfl) rfl rfl rfl rfl (by kernel_rfl) hS111 (by kernel_rfl) (by kernel_rfl) (by kernel_rfl) (l' := [(51, nP (w45.heap.size) 3), (50, nP (w45.heap.size) 3), (49, nI i2), (48, nI (q5.reg)), (47, nP (w9.heap.size) 5), (46, .bool true), (10, nP (w45.heap.size) 0), (8, nP (w9.heap.size) 0), (0, nP b0 0), (2, nI i2)]) (by kernel_rfl) ?_
         intro w179 a180 hS181 hF182; clear hF177 hS111
         refine wpList_nil ?_
         have hF183 := hF182.keep [0, 8, 10]
         clear hF182
         exact thenN ⟨i2, q40.b, q40.c, q40.d, q40.e, q40.f, hF183, hS181, hm176⟩
        | false =>
         have hm184 := ifNot hc175 hm168; clear hm168
         cases hc185 : (q5.reg == 1) with
         | true =>
          have hm186 := ifYes hc185 hm184; clear hm184
          refine ev_one (nP (w45.heap.size) 4) w109 hF173 (by kernel_rfl) rfl (by kernel_rfl) (run_idxA (q := 1) rfl rfl rfl rfl (congrArg (Value.int .i64) (eq_of_beq hc185)) (by decide) (by decide) (by kernel_rfl) _) (l' := [(51, nP (w45.heap.size) 4), (50, nP (w45.heap.size) 3), (49, nI i2), (48, nI (q5.reg)), (47, nP (w9.heap.size) 5), (46, .bool true), (10, nP (w45.heap.size) 0), (8, nP (w9.heap.size) 0), (0, nP b0 0), (2, nI i2)]) (by kernel_rfl) ?_
          intro a188 hF187; clear hF173
          refine ev_store (nI i2) #[nI (q40.id), nI 0, nI (q5.to), nI (q40.a), nI i2, nI (q40.c), nI (q40.d), nI (q40.e), nI (q40.f), nI (-1)] hF187 (by kernel_rfl) rfl rfl rfl rfl (by kernel_rfl) hS111 (by kernel_rfl) (by kernel_rfl) (by kernel_rfl) (l' := [(51, nP (w45.heap.size) 4), (50, nP (w45.heap.size) 3), (49, nI i2), (48, nI (q5.reg)), (47, nP (w9.heap.size) 5), (46, .bool true), (10, nP (w45.heap.size) 0), (8, nP (w9.heap.size) 0), (0, nP b0 0), (2, nI i2)]) (by kernel_rfl) ?_
          intro w189 a190 hS191 hF192; clear hF187 hS111
          refine wpList_nil ?_
          have hF193 := hF192.keep [0, 8, 10]
          clear hF192
          exact thenN ⟨q40.a, i2, q40.c, q40.d, q40.e, q40.f, hF193, hS191, hm186⟩
         | false =>
          have hm194 := ifNot hc185 hm184; clear hm184
          cases hc195 : (q5.reg == 2) with
          | true =>
           have hm196 := ifYes hc195 hm194; clear hm194
           refine ev_one (nP (w45.heap.size) 5) w109 hF173 (by kernel_rfl) rfl (by kernel_rfl) (run_idxA (q := 2) rfl rfl rfl rfl (congrArg (Value.int .i64) (eq_of_beq hc195)) (by decide) (by decide) (by kernel_rfl) _) (l' := [(51, nP (w45.heap.size) 5), (50, nP (w45.heap.size) 3), (49, nI i2), (48, nI (q5.reg)), (47, nP (w9.heap.size) 5), (46, .bool true), (10, nP (w45.heap.size) 0), (8, nP (w9.heap.size) 0), (0, nP b0 0), (2, nI i2)]) (by kernel_rfl) ?_
           intro a198 hF197; clear hF173
           refine ev_store (nI i2) #[nI (q40.id), nI 0, nI (q5.to), nI (q40.a), nI (q40.b), nI i2, nI (q40.d), nI (q40.e), nI (q40.f), nI (-1)] hF197 (by kernel_rfl) rfl rfl rfl rfl (by kernel_rfl) hS111 (by kernel_rfl) (by kernel_rfl) (by kernel_rfl) (l' := [(51, nP (w45.heap.size) 5), (50, nP (w45.heap.size) 3), (49, nI i2), (48, nI (q5.reg)), (47, nP (w9.heap.size) 5), (46, .bool true), (10, nP (w45.heap.size) 0), (8, nP (w9.heap.size) 0), (0, nP b0 0), (2, nI i2)]) (by kernel_rfl) ?_
           intro w199 a200 hS201 hF202; clear hF197 hS111
           refine wpList_nil ?_
           have hF203 := hF202.keep [0, 8, 10]
           clear hF202
           exact thenN ⟨q40.a, q40.b, i2, q40.d, q40.e, q40.f, hF203, hS201, hm196⟩
          | false =>
           have hm204 := ifNot hc195 hm194; clear hm194
           cases hc205 : (q5.reg == 3) with
           | true =>
            have hm206 := ifYes hc205 hm204; clear hm204
            refine ev_one (nP (w45.heap.size) 6) w109 hF173 (by kernel_rfl) rfl (by kernel_rfl) (run_idxA (q := 3) rfl rfl rfl rfl (congrArg (Value.int .i64) (eq_of_beq hc205)) (by decide) (by decide) (by kernel_rfl) _) (l' := [(51, nP (w45.heap.size) 6), (50, nP (w45.heap.size) 3), (49, nI i2), (48, nI (q5.reg)), (47, nP (w9.heap.size) 5), (46, .bool true), (10, nP (w45.heap.size) 0), (8, nP (w9.heap.size) 0), (0, nP b0 0), (2, nI i2)]) (by kernel_rfl) ?_
            intro a208 hF207; clear hF173
            refine ev_store (nI i2) #[nI (q40.id), nI 0, nI (q5.to), nI (q40.a), nI (q40.b), nI (q40.c), nI i2, nI (q40.e), nI (q40.f), nI (-1)] hF207 (by kernel_rfl) rfl rfl rfl rfl (by kernel_rfl) hS111 (by kernel_rfl) (by kernel_rfl) (by kernel_rfl) (l' := [(51, nP (w45.heap.size) 6), (50, nP (w45.heap.size) 3), (49, nI i2), (48, nI (q5.reg)), (47, nP (w9.heap.size) 5), (46, .bool true), (10, nP (w45.heap.size) 0), (8, nP (w9.heap.size) 0), (0, nP b0 0), (2, nI i2)]) (by kernel_rfl) ?_
            intro w209 a210 hS211 hF212; clear hF207 hS111
            refine wpList_nil ?_
            have hF213 := hF212.keep [0, 8, 10]
            clear hF212
            exact thenN ⟨q40.a, q40.b, q40.c, i2, q40.e, q40.f, hF213, hS211, hm206⟩
           | false =>
            have hm214 := ifNot hc205 hm204; clear hm204
            cases hc215 : (q5.reg == 4) with
            | true =>
             have hm216 := ifYes hc215 hm214; clear hm214
             refine ev_one (nP (w45.heap.size) 7) w109 hF173 (by kernel_rfl) rfl (by kernel_rfl) (run_idxA (q := 4) rfl rfl rfl rfl (congrArg (Value.int .i64) (eq_of_beq hc215)) (by decide) (by decide) (by kernel_rfl) _) (l' := [(51, nP (w45.heap.size) 7), (50, nP (w45.heap.size) 3), (49, nI i2), (48, nI (q5.reg)), (47, nP (w9.heap.size) 5), (46, .bool true), (10, nP (w45.heap.size) 0), (8, nP (w9.heap.size) 0), (0, nP b0 0), (2, nI i2)]) (by kernel_rfl) ?_
             intro a218 hF217; clear hF173
             refine ev_store (nI i2) #[nI (q40.id), nI 0, nI (q5.to), nI (q40.a), nI (q40.b), nI (q40.c), nI (q40.d), nI i2, nI (q40.f), nI (-1)] hF217 (by kernel_rfl) rfl rfl rfl rfl (by kernel_rfl) hS111 (by kernel_rfl) (by kernel_rfl) (by kernel_rfl) (l' := [(51, nP (w45.heap.size) 7), (50, nP (w45.heap.size) 3), (49, nI i2), (48, nI (q5.reg)), (47, nP (w9.heap.size) 5), (46, .bool true), (10, nP (w45.heap.size) 0), (8, nP (w9.heap.size) 0), (0, nP b0 0), (2, nI i2)]) (by kernel_rfl) ?_
             intro w219 a220 hS221 hF222; clear hF217 hS111
             refine wpList_nil ?_
             have hF223 := hF222.keep [0, 8, 10]
             clear hF222
             exact thenN ⟨q40.a, q40.b, q40.c, q40.d, i2, q40.f, hF223, hS221, hm216⟩
            | false =>
             have hm224 := ifNot hc215 hm214; clear hm214
             cases hc225 : (q5.reg == 5) with
             | true =>
              have hm226 := ifYes hc225 hm224; clear hm224
              refine ev_one (nP (w45.heap.size) 8) w109 hF173 (by kernel_rfl) rfl (by kernel_rfl) (run_idxA (q := 5) rfl rfl rfl rfl (congrArg (Value.int .i64) (eq_of_beq hc225)) (by decide) (by decide) (by kernel_rfl) _) (l' := [(51, nP (w45.heap.size) 8), (50, nP (w45.heap.size) 3), (49, nI i2), (48, nI (q5.reg)), (47, nP (w9.heap.size) 5), (46, .bool true), (10, nP (w45.heap.size) 0), (8, nP (w9.heap.size) 0), (0, nP b0 0), (2, nI i2)]) (by kernel_rfl) ?_
              intro a228 hF227; clear hF173
              refine ev_store (nI i2) #[nI (q40.id), nI 0, nI (q5.to), nI (q40.a), nI (q40.b), nI (q40.c), nI (q40.d), nI (q40.e), nI i2, nI (-1)] hF227 (by kernel_rfl) rfl rfl rfl rfl (by kernel_rfl) hS111 (by kernel_rfl) (by kernel_rfl) (by kernel_rfl) (l' := [(51, nP (w45.heap.size) 8), (50, nP (w45.heap.size) 3), (49, nI i2), (48, nI (q5.reg)), (47, nP (w9.heap.size) 5), (46, .bool true), (10, nP (w45.heap.size) 0), (8, nP (w9.heap.size) 0), (0, nP b0 0), (2, nI i2)]) (by kernel_rfl) ?_
              intro w229 a230 hS231 hF232; clear hF227 hS111
              refine wpList_nil ?_
              have hF233 := hF232.keep [0, 8, 10]
              clear hF232
              exact thenN ⟨q40.a, q40.b, q40.c, q40.d, q40.e, i2, hF233, hS231, hm226⟩
             | false =>
              have hm234 := ifNot hc225 hm224; clear hm224
              exact absurd hm234 (by simp)
       | false =>
        rw [hc167] at hF110
        have hm235 := ifNot hc167 hm112; clear hm112
        refine ev_condF hF110 rfl rfl ?_
        refine wp_skip ?_
        have hF236 := hF110.keep [0, 8, 10]
        clear hF110
        exact thenN ⟨q40.a, q40.b, q40.c, q40.d, q40.e, q40.f, hF236, hS111, hm235⟩
   · skip
     refine wp_region_lit ?_
     refine ev_runs 1 hF105 (l' := [(39, nP (w9.heap.size) 5), (10, nP (w45.heap.size) 0), (8, nP (w9.heap.size) 0), (0, nP b0 0), (2, nI i2)]) (w' := w101) (by kernel_rfl) ?_
     intro a238 hF237; clear hF105
     refine ev_one (nI (q5.reg)) w101 hF237 (by kernel_rfl) rfl (by kernel_rfl) (run_loadV rfl rfl (run_loadS rfl rfl (hS103.cell 1 rfl 5 rfl))) (l' := [(40, nI (q5.reg)), (39, nP (w9.heap.size) 5), (10, nP (w45.heap.size) 0), (8, nP (w9.heap.size) 0), (0, nP b0 0), (2, nI i2)]) (by kernel_rfl) ?_
     intro a240 hF239; clear hF237
     refine ev_runs 2 hF239 (l' := [(42, .bool (decide (q5.reg ≥ 0))), (41, .bool (decide (q5.reg ≥ 0))), (40, nI (q5.reg)), (39, nP (w9.heap.size) 5), (10, nP (w45.heap.size) 0), (8, nP (w9.heap.size) 0), (0, nP b0 0), (2, nI i2)]) (w' := w101) (by kernel_rfl) ?_
     intro a242 hF241; clear hF239
     cases hc243 : (decide (q5.reg ≥ 0)) with
     | true =>
      rw [hc243] at hF241
      have hm244 := ifYes hc243 hm78; clear hm78
      refine ev_runs 1 hF241 (l' := [(43, nP (w9.heap.size) 5), (42, .bool true), (41, .bool true), (40, nI (q5.reg)), (39, nP (w9.heap.size) 5), (10, nP (w45.heap.size) 0), (8, nP (w9.heap.size) 0), (0, nP b0 0), (2, nI i2)]) (w' := w101) (by kernel_rfl) ?_
      intro a246 hF245; clear hF241
      refine ev_one (nI (q5.reg)) w101 hF245 (by kernel_rfl) rfl (by kernel_rfl) (run_loadV rfl rfl (run_loadS rfl rfl (hS103.cell 1 rfl 5 rfl))) (l' := [(44, nI (q5.reg)), (43, nP (w9.heap.size) 5), (42, .bool true), (41, .bool true), (40, nI (q5.reg)), (39, nP (w9.heap.size) 5), (10, nP (w45.heap.size) 0), (8, nP (w9.heap.size) 0), (0, nP b0 0), (2, nI i2)]) (by kernel_rfl) ?_
      intro a248 hF247; clear hF245
      refine ev_runK 2 hF247 [0, 2, 8, 10, 46] (l' := [(46, .bool (decide (q5.reg < 6))), (10, nP (w45.heap.size) 0), (8, nP (w9.heap.size) 0), (0, nP b0 0), (2, nI i2)]) (w' := w101) (by kernel_rfl) ?_
      intro a250 hF249; clear hF247
      refine wpList_nil ?_
      exact thenN ⟨decide (q5.reg < 6), hF249, hS103, hm244⟩
     | false =>
      rw [hc243] at hF241
      have hm251 := ifNot hc243 hm78; clear hm78
      refine ev_runK 4 hF241 [0, 2, 8, 10, 46] (l' := [(46, .bool false), (10, nP (w45.heap.size) 0), (8, nP (w9.heap.size) 0), (0, nP b0 0), (2, nI i2)]) (w' := w101) (by kernel_rfl) ?_
      intro a253 hF252; clear hF241
      refine wpList_nil ?_
      exact thenN ⟨false, hF252, hS103, hm251⟩

def wake_Park.l2b (i1 : Int) (L2 : List Int) (q9 : Gr) (rec100 : HSt → Int → Int → Option (Int × HSt)) (s95 : HSt) (x96 : Int) (x97 : Int) : Option (Int × HSt) := (if (decide (x96 ≥ 0)) then (if (inR x96 L2.length) then bind2 (pSudog (atI L2 x96) s95) fun q120 x121 => bind2 (pPutSudog (atI L2 x96) (⟨q120.gor, q120.chan, q120.value, q120.next, q120.to, q120.reg, x97⟩ : Su) s95) fun x150 s151 => rec100 s151 (IntKind.i64.wrap (x96 - 1)) (atI L2 x96) else none) else bind2 (pPutGor i1 (⟨q9.id, 1, q9.pc, q9.a, q9.b, q9.c, q9.d, q9.e, q9.f, x97⟩ : Gr) s95) fun x190 s191 => some (x190, s191))
def wake_Park.l2 (i1 : Int) (L2 : List Int) (q9 : Gr) : Nat → HSt → Int → Int → Option (Int × HSt)
  | 0 => fun _ _ _ => none
  | kI + 1 => wake_Park.l2b i1 L2 q9 (wake_Park.l2 i1 L2 q9 kI)
def wake_Park.l1b (i1 : Int) (L2 : List Int) (k : Nat) (q9 : Gr) (s11 : HSt) (rec44 : Int → Option (Int × HSt)) (x41 : Int) : Option (Int × HSt) := (if (decide (x41 < (L2.length : Int))) then (if (inR x41 L2.length) then bind2 (pSudog (atI L2 x41) s11) fun q66 x67 => (if (x67 != 0) then some (x67, s11) else rec44 (IntKind.i64.wrap (x41 + 1))) else none) else wake_Park.l2 i1 L2 q9 k s11 (IntKind.i64.wrap ((L2.length : Int) - 1)) (-1))
def wake_Park.l1 (i1 : Int) (L2 : List Int) (k : Nat) (q9 : Gr) (s11 : HSt) : Nat → Int → Option (Int × HSt)
  | 0 => fun _ => none
  | kI + 1 => wake_Park.l1b i1 L2 k q9 s11 (wake_Park.l1 i1 L2 k q9 s11 kI)
def wake_Park.m (k : Nat) (s0 : HSt) (i1 : Int) (L2 : List Int) : Option (Int × HSt) := bind3 (view_Gor.m k s0 i1) fun q9 x10 s11 => (if (x10 != 0) then some (x10, s11) else wake_Park.l1 i1 L2 k q9 s11 k 0)
set_option maxRecDepth 100000 in
set_option maxHeartbeats 1500000 in
theorem wake_Park.ok {w0 w : World} {F0 : List Nat} {ps : List Piece} {k : Nat} {b0 ab0 : Nat} {s0 : HSt} {i1 : Int} {v2 : Value} {L2 : List Int} {r0 : Int} {t0 : HSt} (hS : St w0 F0 (HeapP b0 ab0 s0 :: RowP (v2) L2 :: ps) w) (hm : wake_Park.m k s0 i1 L2 = some (r0, t0)) :
    Calls Tryz.prog 25 #[nP b0 0, nI i1, v2] w fun e w' => e = .returned (.int .i64 r0) ∧ St w0 F0 (HeapP b0 ab0 t0 :: RowP (v2) L2 :: ps) w' := by
 refine ev_enterL 76 [nP b0 0, nI i1, v2] Tryz.func25 rfl rfl (by simp) ?_
 intro a hF
 have hF0 : Fr 76 a [(0, nP b0 0), (1, nI i1), (2, v2)] := hF; clear hF
 unfold wake_Park.m at hm
 obtain ⟨hl4, p1, c2, rfl, hp3⟩ := St.shape hS 1 rfl
 refine wp_seq (wp_region_lit ?_)
 refine ev_runK 1 hF0 [0, 1, 2] (l' := [(0, nP b0 0), (1, nI i1), (2, .slice p1 L2.length c2)]) (w' := w) (by kernel_rfl) ?_
 intro a6 hF5; clear hF0
 refine wpList_nil (thenN (wp_seq (wp_region_lit ?_)))
 refine ev_runs 2 hF5 (l' := [(17, nI i1), (16, nP b0 0), (0, nP b0 0), (1, nI i1), (2, .slice p1 L2.length c2)]) (w' := w) (by kernel_rfl) ?_
 intro a8 hF7; clear hF5
 refine ev_call 36 #[nP b0 0, nI i1] hF7 rfl rfl (by kernel_rfl) rfl (by kernel_rfl) (fun w => by kernel_rfl) ?_
 obtain ⟨q9, x10, s11, hx12, hm13⟩ := bind3E hm; clear hm
 refine (view_Gor.ok hS hx12).mono ?_
 rintro _ w14 ⟨rfl, hS16⟩ a15 hF17; clear hF7 hS
 refine ev_runs 4 hF17 (l' := [(7, nP (w14.heap.size) 0), (20, nI x10), (19, .agg #[nI (q9.id), nI (q9.status), nI (q9.pc), nI (q9.a), nI (q9.b), nI (q9.c), nI (q9.d), nI (q9.e), nI (q9.f), nI (q9.sudogs)]), (15, .tuple #[.agg #[nI (q9.id), nI (q9.status), nI (q9.pc), nI (q9.a), nI (q9.b), nI (q9.c), nI (q9.d), nI (q9.e), nI (q9.f), nI (q9.sudogs)], nI x10]), (18, .tuple #[.agg #[nI (q9.id), nI (q9.status), nI (q9.pc), nI (q9.a), nI (q9.b), nI (q9.c), nI (q9.d), nI (q9.e), nI (q9.f), nI (q9.sudogs)], nI x10]), (17, nI i1), (16, nP b0 0), (0, nP b0 0), (1, nI i1), (2, .slice p1 L2.length c2)]) (w' := w14.alloc (.cells #[nI 0, nI 0, nI 0, nI 0, nI 0, nI 0, nI 0, nI 0, nI 0, nI 0] 29)) (by kernel_rfl) ?_
 intro a19 hF18; clear hF17
 have hS21 : St w0 F0 (BlkP (w14.heap.size) 29 #[nI 0, nI 0, nI 0, nI 0, nI 0, nI 0, nI 0, nI 0, nI 0, nI 0] :: HeapP b0 ab0 s11 :: RowP (.slice p1 L2.length c2) L2 :: ps) (w14.alloc (.cells #[nI 0, nI 0, nI 0, nI 0, nI 0, nI 0, nI 0, nI 0, nI 0, nI 0] 29)) := St.new hS16 #[nI 0, nI 0, nI 0, nI 0, nI 0, nI 0, nI 0, nI 0, nI 0, nI 0] 29
 clear hS16
 refine ev_store (.agg #[nI (q9.id), nI (q9.status), nI (q9.pc), nI (q9.a), nI (q9.b), nI (q9.c), nI (q9.d), nI (q9.e), nI (q9.f), nI (q9.sudogs)]) #[nI (q9.id), nI (q9.status), nI (q9.pc), nI (q9.a), nI (q9.b), nI (q9.c), nI (q9.d), nI (q9.e), nI (q9.f), nI (q9.sudogs)] hF18 (by kernel_rfl) rfl rfl rfl rfl (by kernel_rfl) hS21 (by kernel_rfl) (by kernel_rfl) (by kernel_rfl) (l' := [(7, nP (w14.heap.size) 0), (20, nI x10), (19, .agg #[nI (q9.id), nI (q9.status), nI (q9.pc), nI (q9.a), nI (q9.b), nI (q9.c), nI (q9.d), nI (q9.e), nI (q9.f), nI (q9.sudogs)]), (15, .tuple #[.agg #[nI (q9.id), nI (q9.status), nI (q9.pc), nI (q9.a), nI (q9.b), nI (q9.c), nI (q9.d), nI (q9.e), nI (q9.f), nI (q9.sudogs)], nI x10]), (18, .tuple #[.agg #[nI (q9.id), nI (q9.status), nI (q9.pc), nI (q9.a), nI (q9.b), nI (q9.c), nI (q9.d), nI (q9.e), nI (q9.f), nI (q9.sudogs)], nI x10]), (17, nI i1), (16, nP b0 0), (0, nP b0 0), (1, nI i1), (2, .slice p1 L2.length c2)]) (by kernel_rfl) ?_
 intro w22 a23 hS24 hF25; clear hF18 hS21
 refine ev_runK 1 hF25 [0, 1, 2, 7, 8] (l' := [(8, nI x10), (7, nP (w14.heap.size) 0), (0, nP b0 0), (1, nI i1), (2, .slice p1 L2.length c2)]) (w' := w22) (by kernel_rfl) ?_
 intro a27 hF26; clear hF25
 refine wpList_nil (thenN (wp_seq (wp_seq (wp_region_lit ?_))))
 refine ev_runK 2 hF26 [0, 1, 2, 7, 8, 22] (l' := [(22, .bool (x10 != 0)), (8, nI x10), (7, nP (w14.heap.size) 0), (0, nP b0 0), (1, nI i1), (2, .slice p1 L2.length c2)]) (w' := w22) (by kernel_rfl) ?_
 intro a29 hF28; clear hF26
 refine wpList_nil (thenN ?_)
 cases hc30 : (x10 != 0) with
 | true =>
  rw [hc30] at hF28
  have hm31 := ifYes hc30 hm13; clear hm13
  refine ev_condT hF28 rfl rfl ?_
  refine wp_seq (wp_region_lit ?_)
  refine ev_runK 2 hF28 [6] (l' := [(6, nI x10)]) (w' := w22) (by kernel_rfl) ?_
  intro a33 hF32; clear hF28
  refine wpList_nil ?_
  have hS34 := hS24.drop
  clear hS24
  refine thenN ?_
  refine wp_ret ?_
  refine thenR ?_
  simp only [Option.some.injEq, Prod.mk.injEq] at hm31
  obtain ⟨rfl, rfl⟩ := hm31
  refine ev_ret hF32 [6] (nI x10) rfl rfl rfl ?_
  exact ⟨rfl, hS34⟩
 | false =>
  rw [hc30] at hF28
  have hm37 := ifNot hc30 hm13; clear hm13
  refine ev_condF hF28 rfl rfl ?_
  refine wp_skip ?_
  have hF38 := hF28.keep [0, 1, 2, 7]
  clear hF28
  refine thenN (wp_seq (wp_seq (wp_region_lit ?_)))
  refine ev_runs 3 hF38 (l' := [(26, nI 0), (25, nI ((L2.length : Int))), (24, .slice p1 L2.length c2), (7, nP (w14.heap.size) 0), (0, nP b0 0), (1, nI i1), (2, .slice p1 L2.length c2)]) (w' := w22) (by kernel_rfl) ?_
  intro a40 hF39; clear hF38
  refine wpList_nil (thenN ?_)
  refine wp_block ?_
  refine wp_loop_ghost (fun kI aI wI => ∃ (x41 : Int), Fr 76 aI [(26, nI x41), (25, nI ((L2.length : Int))), (24, .slice p1 L2.length c2), (7, nP (w14.heap.size) 0), (0, nP b0 0), (1, nI i1), (2, .slice p1 L2.length c2)] ∧ St w0 F0 (BlkP (w14.heap.size) 29 #[nI (q9.id), nI (q9.status), nI (q9.pc), nI (q9.a), nI (q9.b), nI (q9.c), nI (q9.d), nI (q9.e), nI (q9.f), nI (q9.sudogs)] :: HeapP b0 ab0 s11 :: RowP (.slice p1 L2.length c2) L2 :: ps) wI ∧ wake_Park.l1 i1 L2 k q9 s11 kI x41 = some (r0, t0)) k ⟨0, hF39, hS24, hm37⟩ ?_
  rintro k42 a43 w44 ⟨x41, hF45, hS46, hm47⟩
  clear hF39 hS24 hm37
  cases k42 with
  | zero => cases hm47
  | succ k42 =>
   have hm48 : wake_Park.l1b i1 L2 k q9 s11 (wake_Park.l1 i1 L2 k q9 s11 k42) x41 = some (r0, t0) := hm47
   clear hm47
   unfold wake_Park.l1b at hm48
   refine wp_seq (wp_region_lit ?_)
   refine ev_runs 1 hF45 (l' := [(27, .bool (decide (x41 < (L2.length : Int)))), (26, nI x41), (25, nI ((L2.length : Int))), (24, .slice p1 L2.length c2), (7, nP (w14.heap.size) 0), (0, nP b0 0), (1, nI i1), (2, .slice p1 L2.length c2)]) (w' := w44) (by kernel_rfl) ?_
   intro a50 hF49; clear hF45
   refine wpList_nil (thenN (wp_seq ?_))
   cases hc51 : (decide (x41 < (L2.length : Int))) with
   | true =>
    rw [hc51] at hF49
    have hm52 := ifYes hc51 hm48; clear hm48
    refine ev_condT hF49 rfl rfl ?_
    refine wp_skip ?_
    have hF53 := hF49.keep [0, 1, 2, 7, 24, 25, 26]
    clear hF49
    refine thenN (wp_seq ?_)
    refine wp_block ?_
    refine wp_seq (wp_region_lit ?_)
    obtain ⟨hc54, hm55⟩ := ifTE hm52; clear hm52
    obtain ⟨g56, rfl⟩ := hp3.resolve_left (by have := inR_spec hc54; omega)
    refine ev_one (nP g56 (x41.toNat)) w44 hF53 (by kernel_rfl) rfl (by kernel_rfl) (run_idx rfl rfl rfl rfl rfl (inR_spec hc54).1 (inR_spec hc54).2 _) (l' := [(28, nP g56 (x41.toNat)), (26, nI x41), (25, nI ((L2.length : Int))), (24, .slice (some ⟨g56, 0, none⟩) L2.length c2), (7, nP (w14.heap.size) 0), (0, nP b0 0), (1, nI i1), (2, .slice (some ⟨g56, 0, none⟩) L2.length c2)]) (by kernel_rfl) ?_
    intro a58 hF57; clear hF53
    refine ev_one (nI (atI L2 x41)) w44 hF57 (by kernel_rfl) rfl (by kernel_rfl) (run_load1 rfl rfl rfl (hS46.atI 2 rfl hc54)) (l' := [(29, nI (atI L2 x41)), (28, nP g56 (x41.toNat)), (26, nI x41), (25, nI ((L2.length : Int))), (24, .slice (some ⟨g56, 0, none⟩) L2.length c2), (7, nP (w14.heap.size) 0), (0, nP b0 0), (1, nI i1), (2, .slice (some ⟨g56, 0, none⟩) L2.length c2)]) (by kernel_rfl) ?_
    intro a60 hF59; clear hF57
    refine ev_runK 1 hF59 [0, 1, 2, 7, 10, 24, 25, 26] (l' := [(10, nI (atI L2 x41)), (26, nI x41), (25, nI ((L2.length : Int))), (24, .slice (some ⟨g56, 0, none⟩) L2.length c2), (7, nP (w14.heap.size) 0), (0, nP b0 0), (1, nI i1), (2, .slice (some ⟨g56, 0, none⟩) L2.length c2)]) (w' := w44) (by kernel_rfl) ?_
    intro a62 hF61; clear hF59
    refine wpList_nil (thenN (wp_seq (wp_region_lit ?_)))
    refine ev_runs 2 hF61 (l' := [(32, nI (atI L2 x41)), (31, nP b0 0), (10, nI (atI L2 x41)), (26, nI x41), (25, nI ((L2.length : Int))), (24, .slice (some ⟨g56, 0, none⟩) L2.length c2), (7, nP (w14.heap.size) 0), (0, nP b0 0), (1, nI i1), (2, .slice (some ⟨g56, 0, none⟩) L2.length c2)]) (w' := w44) (by kernel_rfl) ?_
    intro a64 hF63; clear hF61
    have hS65 := hS46.pick1
    clear hS46
    refine ev_call 68 #[nP b0 0, nI (atI L2 x41)] hF63 rfl rfl (by kernel_rfl) rfl (by kernel_rfl) (fun w => by kernel_rfl) ?_
    obtain ⟨q66, x67, hx68, hm69⟩ := bind2E hm55; clear hm55
    refine (p_Sudog hS65 hx68).mono ?_
    rintro _ w70 ⟨rfl, hS72⟩ a71 hF73; clear hF63 hS65
    refine ev_runK 4 hF73 [0, 1, 2, 7, 8, 24, 25, 26] (l' := [(8, nI x67), (26, nI x41), (25, nI ((L2.length : Int))), (24, .slice (some ⟨g56, 0, none⟩) L2.length c2), (7, nP (w14.heap.size) 0), (0, nP b0 0), (1, nI i1), (2, .slice (some ⟨g56, 0, none⟩) L2.length c2)]) (w' := w70) (by kernel_rfl) ?_
    intro a75 hF74; clear hF73
    refine wpList_nil (thenN (wp_seq (wp_region_lit ?_)))
    refine ev_runK 2 hF74 [0, 1, 2, 7, 8, 24, 25, 26, 37] (l' := [(37, .bool (x67 != 0)), (8, nI x67), (26, nI x41), (25, nI ((L2.length : Int))), (24, .slice (some ⟨g56, 0, none⟩) L2.length c2), (7, nP (w14.heap.size) 0), (0, nP b0 0), (1, nI i1), (2, .slice (some ⟨g56, 0, none⟩) L2.length c2)]) (w' := w70) (by kernel_rfl) ?_
    intro a77 hF76; clear hF74
    refine wpList_nil (thenN ?_)
    cases hc78 : (x67 != 0) with
    | true =>
     rw [hc78] at hF76
     have hm79 := ifYes hc78 hm69; clear hm69
     refine ev_condT hF76 rfl rfl ?_
     refine wp_seq (wp_region_lit ?_)
     refine ev_runK 2 hF76 [6] (l' := [(6, nI x67)]) (w' := w70) (by kernel_rfl) ?_
     intro a81 hF80; clear hF76
     refine wpList_nil ?_
     have hS82 := hS72.pick1.drop
     clear hS72
     refine thenN ?_
     refine wp_ret ?_
     refine blockR ?_
     refine thenR (thenR ?_)
     refine blockR ?_
     refine thenR ?_
     simp only [Option.some.injEq, Prod.mk.injEq] at hm79
     obtain ⟨rfl, rfl⟩ := hm79
     refine ev_ret hF80 [6] (nI x67) rfl rfl rfl ?_
     exact ⟨rfl, hS82⟩
    | false =>
     rw [hc78] at hF76
     have hm85 := ifNot hc78 hm69; clear hm69
     refine ev_condF hF76 rfl rfl ?_
     refine wp_skip ?_
     have hF86 := hF76.keep [0, 1, 2, 7, 24, 25, 26]
     clear hF76
     refine blockN ?_
     refine thenN (wp_region_lit ?_)
     refine ev_runK 2 hF86 [0, 1, 2, 7, 24, 25, 26] (l' := [(26, nI (IntKind.i64.wrap (x41 + 1))), (25, nI ((L2.length : Int))), (24, .slice (some ⟨g56, 0, none⟩) L2.length c2), (7, nP (w14.heap.size) 0), (0, nP b0 0), (1, nI i1), (2, .slice (some ⟨g56, 0, none⟩) L2.length c2)]) (w' := w70) (by kernel_rfl) ?_
     intro a88 hF87; clear hF86
     refine wpList_nil ?_
     have hS89 := hS72.pick2.pick1.pick2
     clear hS72
     exact thenN ⟨k42, Nat.lt_succ_self _, IntKind.i64.wrap (x41 + 1), hF87, hS89, hm85⟩
   | false =>
    rw [hc51] at hF49
    have hm90 := ifNot hc51 hm48; clear hm48
    refine ev_condF hF49 rfl rfl ?_
    refine wp_exit ?_
    refine thenE ?_
    refine thenE ?_
    refine blockE ?_
    refine thenN (wp_seq (wp_region_lit ?_))
    refine ev_runK 1 hF49 [0, 1, 2, 7, 11] (l' := [(11, nI (-1)), (7, nP (w14.heap.size) 0), (0, nP b0 0), (1, nI i1), (2, .slice p1 L2.length c2)]) (w' := w44) (by kernel_rfl) ?_
    intro a92 hF91; clear hF49
    refine wpList_nil (thenN (wp_seq (wp_seq (wp_region_lit ?_))))
    refine ev_runK 4 hF91 [0, 1, 2, 7, 11, 12] (l' := [(12, nI (IntKind.i64.wrap ((L2.length : Int) - 1))), (11, nI (-1)), (7, nP (w14.heap.size) 0), (0, nP b0 0), (1, nI i1), (2, .slice p1 L2.length c2)]) (w' := w44) (by kernel_rfl) ?_
    intro a94 hF93; clear hF91
    refine wpList_nil (thenN ?_)
    refine wp_block ?_
    refine wp_loop_ghost (fun kI aI wI => ∃ (s95 : HSt) (x96 : Int) (x97 : Int), Fr 76 aI [(12, nI x96), (11, nI x97), (7, nP (w14.heap.size) 0), (0, nP b0 0), (1, nI i1), (2, .slice p1 L2.length c2)] ∧ St w0 F0 (BlkP (w14.heap.size) 29 #[nI (q9.id), nI (q9.status), nI (q9.pc), nI (q9.a), nI (q9.b), nI (q9.c), nI (q9.d), nI (q9.e), nI (q9.f), nI (q9.sudogs)] :: HeapP b0 ab0 s95 :: RowP (.slice p1 L2.length c2) L2 :: ps) wI ∧ wake_Park.l2 i1 L2 q9 kI s95 x96 x97 = some (r0, t0)) k ⟨s11, IntKind.i64.wrap ((L2.length : Int) - 1), -1, hF93, hS46, hm90⟩ ?_
    rintro k98 a99 w100 ⟨s95, x96, x97, hF101, hS102, hm103⟩
    clear hF93 hS46 hm90
    cases k98 with
    | zero => cases hm103
    | succ k98 =>
     have hm104 : wake_Park.l2b i1 L2 q9 (wake_Park.l2 i1 L2 q9 k98) s95 x96 x97 = some (r0, t0) := hm103
     clear hm103
     unfold wake_Park.l2b at hm104
     refine wp_seq (wp_seq (wp_region_lit ?_))
     refine ev_runK 2 hF101 [0, 1, 2, 7, 11, 12, 44] (l' := [(44, .bool (decide (x96 ≥ 0))), (12, nI x96), (11, nI x97), (7, nP (w14.heap.size) 0), (0, nP b0 0), (1, nI i1), (2, .slice p1 L2.length c2)]) (w' := w100) (by kernel_rfl) ?_
     intro a106 hF105; clear hF101
     refine wpList_nil (thenN ?_)
     cases hc107 : (decide (x96 ≥ 0)) with
     | true =>
      rw [hc107] at hF105
      have hm108 := ifYes hc107 hm104; clear hm104
      refine ev_condT hF105 rfl rfl ?_
      refine wp_skip ?_
      have hF109 := hF105.keep [0, 1, 2, 7, 11, 12]
      clear hF105
      refine thenN (wp_seq ?_)
      refine wp_block ?_
      refine wp_seq (wp_region_lit ?_)
      refine ev_runs 3 hF109 (l' := [(50, nI x96), (49, .slice p1 L2.length c2), (48, nP b0 0), (12, nI x96), (11, nI x97), (7, nP (w14.heap.size) 0), (0, nP b0 0), (1, nI i1), (2, .slice p1 L2.length c2)]) (w' := w100) (by kernel_rfl) ?_
      intro a111 hF110; clear hF109
      obtain ⟨hc112, hm113⟩ := ifTE hm108; clear hm108
      obtain ⟨g114, rfl⟩ := hp3.resolve_left (by have := inR_spec hc112; omega)
      refine ev_one (nP g114 (x96.toNat)) w100 hF110 (by kernel_rfl) rfl (by kernel_rfl) (run_idx rfl rfl rfl rfl rfl (inR_spec hc112).1 (inR_spec hc112).2 _) (l' := [(51, nP g114 (x96.toNat)), (50, nI x96), (49, .slice (some ⟨g114, 0, none⟩) L2.length c2), (48, nP b0 0), (12, nI x96), (11, nI x97), (7, nP (w14.heap.size) 0), (0, nP b0 0), (1, nI i1), (2, .slice (some ⟨g114, 0, none⟩) L2.length c2)]) (by kernel_rfl) ?_
      intro a116 hF115; clear hF110
      refine ev_one (nI (atI L2 x96)) w100 hF115 (by kernel_rfl) rfl (by kernel_rfl) (run_load1 rfl rfl rfl (hS102.atI 2 rfl hc112)) (l' := [(52, nI (atI L2 x96)), (51, nP g114 (x96.toNat)), (50, nI x96), (49, .slice (some ⟨g114, 0, none⟩) L2.length c2), (48, nP b0 0), (12, nI x96), (11, nI x97), (7, nP (w14.heap.size) 0), (0, nP b0 0), (1, nI i1), (2, .slice (some ⟨g114, 0, none⟩) L2.length c2)]) (by kernel_rfl) ?_
      intro a118 hF117; clear hF115
      have hS119 := hS102.pick1
      clear hS102
      refine ev_call 68 #[nP b0 0, nI (atI L2 x96)] hF117 rfl rfl (by kernel_rfl) rfl (by kernel_rfl) (fun w => by kernel_rfl) ?_
      obtain ⟨q120, x121, hx122, hm123⟩ := bind2E hm113; clear hm113
      refine (p_Sudog hS119 hx122).mono ?_
      rintro _ w124 ⟨rfl, hS126⟩ a125 hF127; clear hF117 hS119
      refine ev_runs 4 hF127 (l' := [(13, nP (w124.heap.size) 0), (55, nI x121), (54, .agg #[nI (q120.gor), nI (q120.chan), nI (q120.value), nI (q120.next), nI (q120.to), nI (q120.reg), nI (q120.more)]), (47, .tuple #[.agg #[nI (q120.gor), nI (q120.chan), nI (q120.value), nI (q120.next), nI (q120.to), nI (q120.reg), nI (q120.more)], nI x121]), (53, .tuple #[.agg #[nI (q120.gor), nI (q120.chan), nI (q120.value), nI (q120.next), nI (q120.to), nI (q120.reg), nI (q120.more)], nI x121]), (52, nI (atI L2 x96)), (51, nP g114 (x96.toNat)), (50, nI x96), (49, .slice (some ⟨g114, 0, none⟩) L2.length c2), (48, nP b0 0), (12, nI x96), (11, nI x97), (7, nP (w14.heap.size) 0), (0, nP b0 0), (1, nI i1), (2, .slice (some ⟨g114, 0, none⟩) L2.length c2)]) (w' := w124.alloc (.cells #[nI 0, nI 0, nI 0, nI 0, nI 0, nI 0, nI 0] 113)) (by kernel_rfl) ?_
      intro a129 hF128; clear hF127
      have hS131 : St w0 F0 (BlkP (w124.heap.size) 113 #[nI 0, nI 0, nI 0, nI 0, nI 0, nI 0, nI 0] :: HeapP b0 ab0 s95 :: BlkP (w14.heap.size) 29 #[nI (q9.id), nI (q9.status), nI (q9.pc), nI (q9.a), nI (q9.b), nI (q9.c), nI (q9.d), nI (q9.e), nI (q9.f), nI (q9.sudogs)] :: RowP (.slice (some ⟨g114, 0, none⟩) L2.length c2) L2 :: ps) (w124.alloc (.cells #[nI 0, nI 0, nI 0, nI 0, nI 0, nI 0, nI 0] 113)) := St.new hS126 #[nI 0, nI 0, nI 0, nI 0, nI 0, nI 0, nI 0] 113
      clear hS126
      refine ev_store (.agg #[nI (q120.gor), nI (q120.chan), nI (q120.value), nI (q120.next), nI (q120.to), nI (q120.reg), nI (q120.more)]) #[nI (q120.gor), nI (q120.chan), nI (q120.value), nI (q120.next), nI (q120.to), nI (q120.reg), nI (q120.more)] hF128 (by kernel_rfl) rfl rfl rfl rfl (by kernel_rfl) hS131 (by kernel_rfl) (by kernel_rfl) (by kernel_rfl) (l' := [(13, nP (w124.heap.size) 0), (55, nI x121), (54, .agg #[nI (q120.gor), nI (q120.chan), nI (q120.value), nI (q120.next), nI (q120.to), nI (q120.reg), nI (q120.more)]), (47, .tuple #[.agg #[nI (q120.gor), nI (q120.chan), nI (q120.value), nI (q120.next), nI (q120.to), nI (q120.reg), nI (q120.more)], nI x121]), (53, .tuple #[.agg #[nI (q120.gor), nI (q120.chan), nI (q120.value), nI (q120.next), nI (q120.to), nI (q120.reg), nI (q120.more)], nI x121]), (52, nI (atI L2 x96)), (51, nP g114 (x96.toNat)), (50, nI x96), (49, .slice (some ⟨g114, 0, none⟩) L2.length c2), (48, nP b0 0), (12, nI x96), (11, nI x97), (7, nP (w14.heap.size) 0), (0, nP b0 0), (1, nI i1), (2, .slice (some ⟨g114, 0, none⟩) L2.length c2)]) (by kernel_rfl) ?_
      intro w132 a133 hS134 hF135; clear hF128 hS131
      refine ev_runK 1 hF135 [0, 1, 2, 7, 11, 12, 13] (l' := [(13, nP (w124.heap.size) 0), (12, nI x96), (11, nI x97), (7, nP (w14.heap.size) 0), (0, nP b0 0), (1, nI i1), (2, .slice (some ⟨g114, 0, none⟩) L2.length c2)]) (w' := w132) (by kernel_rfl) ?_
      intro a137 hF136; clear hF135
      refine wpList_nil (thenN (wp_seq (wp_region_lit ?_)))
      refine ev_runs 2 hF136 (l' := [(57, nP (w124.heap.size) 6), (56, nI x97), (13, nP (w124.heap.size) 0), (12, nI x96), (11, nI x97), (7, nP (w14.heap.size) 0), (0, nP b0 0), (1, nI i1), (2, .slice (some ⟨g114, 0, none⟩) L2.length c2)]) (w' := w132) (by kernel_rfl) ?_
      intro a139 hF138; clear hF136
      refine ev_store (nI x97) #[nI (q120.gor), nI (q120.chan), nI (q120.value), nI (q120.next), nI (q120.to), nI (q120.reg), nI x97] hF138 (by kernel_rfl) rfl rfl rfl rfl (by kernel_rfl) hS134 (by kernel_rfl) (by kernel_rfl) (by kernel_rfl) (l' := [(57, nP (w124.heap.size) 6), (56, nI x97), (13, nP (w124.heap.size) 0), (12, nI x96), (11, nI x97), (7, nP (w14.heap.size) 0), (0, nP b0 0), (1, nI i1), (2, .slice (some ⟨g114, 0, none⟩) L2.length c2)]) (by kernel_rfl) ?_
      intro w140 a141 hS142 hF143; clear hF138 hS134
      refine wpList_nil ?_
      have hF144 := hF143.keep [0, 1, 2, 7, 12, 13]
      clear hF143
      refine thenN (wp_seq ?_)
      -- draws
      have hS145 := hS142.pick3
      clear hS142
      have hS146 := hS145.drew; clear hS145
      refine any_start (fun wS => ∃ qs, St w0 F0 (RowP (.slice (some ⟨g114, 0, none⟩) L2.length c2) L2 :: BlkP (w124.heap.size) 113 #[nI (q120.gor), nI (q120.chan), nI (q120.value), nI (q120.next), nI (q120.to), nI (q120.reg), nI x97] :: qs) wS) 7 #[false, false, false, false, false, false, false] (by kernel_rfl) (by kernel_rfl) (by kernel_rfl) ?_
      refine any_many 6 [(0, some (nP b0 0)), (1, some (.slice (some ⟨g114, 0, none⟩) L2.length c2)), (2, some (nI x96)), (3, some (nP g114 (x96.toNat))), (4, some (nI (atI L2 x96))), (5, some (.agg #[nI (q120.gor), nI (q120.chan), nI (q120.value), nI (q120.next), nI (q120.to), nI (q120.reg), nI x97]))] [0, 1, 2, 7, 12, 58, 62, 63] #[true, true, true, true, true, true, false] (by rfl) hF144 (by kernel_rfl) (by kernel_rfl) (by exact (And.intro (fun wS hw => by kernel_rfl) (And.intro (fun wS hw => by kernel_rfl) (And.intro (fun wS hw => by kernel_rfl) (And.intro (fun wS hw => run_idx rfl rfl rfl rfl rfl (inR_spec hc112).1 (inR_spec hc112).2 _) (And.intro (fun wS hw => run_load1 rfl rfl rfl (hw.elim fun qs hw => hw.atI 0 rfl hc112)) (And.intro (fun wS hw => hw.elim fun qs hw => run_loadV rfl rfl (run_loadA (cs := [nI (q120.gor), nI (q120.chan), nI (q120.value), nI (q120.next), nI (q120.to), nI (q120.reg), nI x97]) rfl rfl (by kernel_rfl) (blk_cells hw 1 rfl rfl))) trivial))))))) (fun _ _ _ _ _ h => h) ⟨_, hS146⟩ (l' := [(63, .agg #[nI (q120.gor), nI (q120.chan), nI (q120.value), nI (q120.next), nI (q120.to), nI (q120.reg), nI x97]), (62, nI (atI L2 x96)), (58, nP b0 0), (12, nI x96), (7, nP (w14.heap.size) 0), (0, nP b0 0), (1, nI i1), (2, .slice (some ⟨g114, 0, none⟩) L2.length c2)]) (by kernel_rfl) ?_
      intro a148 hF147; clear hF144
      have hS149 := hS146.pick2
      clear hS146
      refine any_call 6 #[true, true, true, true, true, true, true] 69 #[nP b0 0, nI (atI L2 x96), .agg #[nI (q120.gor), nI (q120.chan), nI (q120.value), nI (q120.next), nI (q120.to), nI (q120.reg), nI x97]] hF147 rfl (by kernel_rfl) rfl rfl (by kernel_rfl) rfl (by kernel_rfl) (fun w => by kernel_rfl) (by kernel_rfl) ?_
      obtain ⟨x150, s151, hx152, hm153⟩ := bind2E hm123; clear hm123
      refine (p_PutSudog hS149 hx152).mono ?_
      rintro _ w154 ⟨rfl, hS156⟩; clear hS149
      refine ⟨⟨_, hS156.pick2.pick2⟩, ?_⟩
      intro a155 hF157; clear hF147
      refine any_done (by kernel_rfl) ?_
      have hF158 := hF157.keep [0, 1, 2, 7, 12]
      clear hF157
      have hS159 := hS156.pick2.drop
      clear hS156
      refine thenN (wp_region_lit ?_)
      refine ev_runs 2 hF158 (l' := [(66, nI x96), (65, .slice (some ⟨g114, 0, none⟩) L2.length c2), (12, nI x96), (7, nP (w14.heap.size) 0), (0, nP b0 0), (1, nI i1), (2, .slice (some ⟨g114, 0, none⟩) L2.length c2)]) (w' := w154) (by kernel_rfl) ?_
      intro a161 hF160; clear hF158
      refine ev_one (nP g114 (x96.toNat)) w154 hF160 (by kernel_rfl) rfl (by kernel_rfl) (run_idx rfl rfl rfl rfl rfl (inR_spec hc112).1 (inR_spec hc112).2 _) (l' := [(67, nP g114 (x96.toNat)), (66, nI x96), (65, .slice (some ⟨g114, 0, none⟩) L2.length c2), (12, nI x96), (7, nP (w14.heap.size) 0), (0, nP b0 0), (1, nI i1), (2, .slice (some ⟨g114, 0, none⟩) L2.length c2)]) (by kernel_rfl) ?_
      intro a163 hF162; clear hF160
      refine ev_one (nI (atI L2 x96)) w154 hF162 (by kernel_rfl) rfl (by kernel_rfl) (run_load1 rfl rfl rfl (hS159.atI 1 rfl hc112)) (l' := [(68, nI (atI L2 x96)), (67, nP g114 (x96.toNat)), (66, nI x96), (65, .slice (some ⟨g114, 0, none⟩) L2.length c2), (12, nI x96), (7, nP (w14.heap.size) 0), (0, nP b0 0), (1, nI i1), (2, .slice (some ⟨g114, 0, none⟩) L2.length c2)]) (by kernel_rfl) ?_
      intro a165 hF164; clear hF162
      refine ev_runK 1 hF164 [0, 1, 2, 7, 11, 12] (l' := [(11, nI (atI L2 x96)), (12, nI x96), (7, nP (w14.heap.size) 0), (0, nP b0 0), (1, nI i1), (2, .slice (some ⟨g114, 0, none⟩) L2.length c2)]) (w' := w154) (by kernel_rfl) ?_
      intro a167 hF166; clear hF164
      refine wpList_nil ?_
      refine blockN ?_
      refine thenN (wp_region_lit ?_)
      refine ev_runK 3 hF166 [0, 1, 2, 7, 11, 12] (l' := [(12, nI (IntKind.i64.wrap (x96 - 1))), (11, nI (atI L2 x96)), (7, nP (w14.heap.size) 0), (0, nP b0 0), (1, nI i1), (2, .slice (some ⟨g114, 0, none⟩) L2.length c2)]) (w' := w154) (by kernel_rfl) ?_
      intro a169 hF168; clear hF166
      refine wpList_nil ?_
      have hS170 := hS159.pick1.pick1.pick2
      clear hS159
      exact thenN ⟨k98, Nat.lt_succ_self _, s151, IntKind.i64.wrap (x96 - 1), atI L2 x96, hF168, hS170, hm153⟩
     | false =>
      rw [hc107] at hF105
      have hm171 := ifNot hc107 hm104; clear hm104
      refine ev_condF hF105 rfl rfl ?_
      refine wp_exit ?_
      refine thenE ?_
      refine thenE ?_
      refine blockE ?_
      refine thenN (wp_seq (wp_region_lit ?_))
      refine ev_runs 2 hF105 (l' := [(70, nP (w14.heap.size) 1), (69, nI x97), (44, .bool false), (12, nI x96), (11, nI x97), (7, nP (w14.heap.size) 0), (0, nP b0 0), (1, nI i1), (2, .slice p1 L2.length c2)]) (w' := w100) (by kernel_rfl) ?_
      intro a173 hF172; clear hF105
      refine ev_store (nI 1) #[nI (q9.id), nI 1, nI (q9.pc), nI (q9.a), nI (q9.b), nI (q9.c), nI (q9.d), nI (q9.e), nI (q9.f), nI (q9.sudogs)] hF172 (by kernel_rfl) rfl rfl rfl rfl (by kernel_rfl) hS102 (by kernel_rfl) (by kernel_rfl) (by kernel_rfl) (l' := [(70, nP (w14.heap.size) 1), (69, nI x97), (44, .bool false), (12, nI x96), (11, nI x97), (7, nP (w14.heap.size) 0), (0, nP b0 0), (1, nI i1), (2, .slice p1 L2.length c2)]) (by kernel_rfl) ?_
      intro w174 a175 hS176 hF177; clear hF172 hS102
      refine ev_runs 1 hF177 (l' := [(71, nP (w14.heap.size) 9), (70, nP (w14.heap.size) 1), (69, nI x97), (44, .bool false), (12, nI x96), (11, nI x97), (7, nP (w14.heap.size) 0), (0, nP b0 0), (1, nI i1), (2, .slice p1 L2.length c2)]) (w' := w174) (by kernel_rfl) ?_
      intro a179 hF178; clear hF177
      refine ev_store (nI x97) #[nI (q9.id), nI 1, nI (q9.pc), nI (q9.a), nI (q9.b), nI (q9.c), nI (q9.d), nI (q9.e), nI (q9.f), nI x97] hF178 (by kernel_rfl) rfl rfl rfl rfl (by kernel_rfl) hS176 (by kernel_rfl) (by kernel_rfl) (by kernel_rfl) (l' := [(71, nP (w14.heap.size) 9), (70, nP (w14.heap.size) 1), (69, nI x97), (44, .bool false), (12, nI x96), (11, nI x97), (7, nP (w14.heap.size) 0), (0, nP b0 0), (1, nI i1), (2, .slice p1 L2.length c2)]) (by kernel_rfl) ?_
      intro w180 a181 hS182 hF183; clear hF178 hS176
      refine wpList_nil ?_
      have hF184 := hF183.keep [0, 1, 7]
      clear hF183
      refine thenN (wp_seq (wp_region_lit ?_))
      refine ev_runs 2 hF184 (l' := [(73, nI i1), (72, nP b0 0), (7, nP (w14.heap.size) 0), (0, nP b0 0), (1, nI i1)]) (w' := w180) (by kernel_rfl) ?_
      intro a186 hF185; clear hF184
      refine ev_one (.agg #[nI (q9.id), nI 1, nI (q9.pc), nI (q9.a), nI (q9.b), nI (q9.c), nI (q9.d), nI (q9.e), nI (q9.f), nI x97]) w180 hF185 (by kernel_rfl) rfl (by kernel_rfl) (run_loadV rfl rfl (run_loadA (cs := [nI (q9.id), nI 1, nI (q9.pc), nI (q9.a), nI (q9.b), nI (q9.c), nI (q9.d), nI (q9.e), nI (q9.f), nI x97]) rfl rfl (by kernel_rfl) (blk_cells hS182 0 rfl rfl))) (l' := [(74, .agg #[nI (q9.id), nI 1, nI (q9.pc), nI (q9.a), nI (q9.b), nI (q9.c), nI (q9.d), nI (q9.e), nI (q9.f), nI x97]), (73, nI i1), (72, nP b0 0), (7, nP (w14.heap.size) 0), (0, nP b0 0), (1, nI i1)]) (by kernel_rfl) ?_
      intro a188 hF187; clear hF185
      have hS189 := hS182.pick1
      clear hS182
      refine ev_call 56 #[nP b0 0, nI i1, .agg #[nI (q9.id), nI 1, nI (q9.pc), nI (q9.a), nI (q9.b), nI (q9.c), nI (q9.d), nI (q9.e), nI (q9.f), nI x97]] hF187 rfl rfl (by kernel_rfl) rfl (by kernel_rfl) (fun w => by kernel_rfl) ?_
      obtain ⟨x190, s191, hx192, hm193⟩ := bind2E hm171; clear hm171
      refine (p_PutGor hS189 hx192).mono ?_
      rintro _ w194 ⟨rfl, hS196⟩ a195 hF197; clear hF187 hS189
      refine ev_runK 1 hF197 [6] (l' := [(6, nI x190)]) (w' := w194) (by kernel_rfl) ?_
      intro a199 hF198; clear hF197
      refine wpList_nil ?_
      have hS200 := hS196.pick1.drop
      clear hS196
      refine thenN ?_
      refine wp_ret ?_
      simp only [Option.some.injEq, Prod.mk.injEq] at hm193
      obtain ⟨rfl, rfl⟩ := hm193
      refine ev_ret hF198 [6] (nI x190) rfl rfl rfl ?_
      exact ⟨rfl, hS200⟩

end Go.Proofs.YtgejcjcpchofiaaGreat
