/- GList -/
import Derived.Test.YtaihdiccmaincaaGreatKGView
import Derived.Deep.LoopGhost
import Derived.KernelRfl
/- The walks of GList, printed by gen/walk.py. -/
namespace Go.Proofs.YtaihdiccmaincaaGreat
open Go.RowKit
set_option linter.unusedVariables false

def slices_Index.l1b (L0 : List Int) (i1 : Int) (rec12 : Int → Option (Int)) (x9 : Int) : Option (Int) := (if (decide (x9 < (L0.length : Int))) then (if (inR x9 L0.length) then (if (i1 == (atI L0 x9)) then some (x9) else rec12 (IntKind.i64.wrap (x9 + 1))) else none) else some (-1))
def slices_Index.l1 (L0 : List Int) (i1 : Int) : Nat → Int → Option (Int)
  | 0 => fun _ => none
  | kI + 1 => slices_Index.l1b L0 i1 (slices_Index.l1 L0 i1 kI)
def slices_Index.m (k : Nat) (L0 : List Int) (i1 : Int) : Option (Int) := slices_Index.l1 L0 i1 k 0
set_option maxRecDepth 100000 in
set_option maxHeartbeats 1500000 in
theorem slices_Index.ok {w0 w : World} {F0 : List Nat} {ps : List Piece} {k : Nat} {v0 : Value} {L0 : List Int} {i1 : Int} {r0 : Int} (hS : St w0 F0 (RowP (v0) L0 :: ps) w) (hm : slices_Index.m k L0 i1 = some r0) :
    Calls Tryz.prog 77 #[v0, nI i1] w fun e w' => e = .returned (.int .i64 r0) ∧ St w0 F0 (RowP (v0) L0 :: ps) w' := by
 refine ev_enterL 19 [v0, nI i1] Tryz.func77 rfl rfl (by simp) ?_
 intro a hF
 have hF0 : Fr 19 a [(0, v0), (1, nI i1)] := hF; clear hF
 unfold slices_Index.m at hm
 obtain ⟨hl4, p1, c2, rfl, hp3⟩ := St.shape hS 0 rfl
 refine wp_seq (wp_region_lit ?_)
 refine ev_runK 1 hF0 [0, 1] (l' := [(0, .slice p1 L0.length c2), (1, nI i1)]) (w' := w) (by kernel_rfl) ?_
 intro a6 hF5; clear hF0
 refine wpList_nil (thenN (wp_seq (wp_seq (wp_region_lit ?_))))
 refine ev_runK 3 hF5 [0, 1, 7, 8] (l' := [(8, nI 0), (7, nI ((L0.length : Int))), (0, .slice p1 L0.length c2), (1, nI i1)]) (w' := w) (by kernel_rfl) ?_
 intro a8 hF7; clear hF5
 refine wpList_nil (thenN ?_)
 refine wp_block ?_
 refine wp_loop_ghost (fun kI aI wI => ∃ (x9 : Int), Fr 19 aI [(8, nI x9), (7, nI ((L0.length : Int))), (0, .slice p1 L0.length c2), (1, nI i1)] ∧ St w0 F0 (RowP (.slice p1 L0.length c2) L0 :: ps) wI ∧ slices_Index.l1 L0 i1 kI x9 = some r0) k ⟨0, hF7, hS, hm⟩ ?_
 rintro k10 a11 w12 ⟨x9, hF13, hS14, hm15⟩
 clear hF7 hS hm
 cases k10 with
 | zero => cases hm15
 | succ k10 =>
  have hm16 : slices_Index.l1b L0 i1 (slices_Index.l1 L0 i1 k10) x9 = some r0 := hm15
  clear hm15
  unfold slices_Index.l1b at hm16
  refine wp_seq (wp_region_lit ?_)
  refine ev_runs 1 hF13 (l' := [(9, .bool (decide (x9 < (L0.length : Int)))), (8, nI x9), (7, nI ((L0.length : Int))), (0, .slice p1 L0.length c2), (1, nI i1)]) (w' := w12) (by kernel_rfl) ?_
  intro a18 hF17; clear hF13
  refine wpList_nil (thenN (wp_seq ?_))
  cases hc19 : (decide (x9 < (L0.length : Int))) with
  | true =>
   rw [hc19] at hF17
   rw [hc19] at hm16
   have hm20 := ifT hm16; clear hm16
   refine ev_condT hF17 rfl rfl ?_
   refine wp_skip ?_
   have hF21 := hF17.keep [0, 1, 7, 8]
   clear hF17
   refine thenN (wp_seq ?_)
   refine wp_block ?_
   refine wp_seq (wp_region_lit ?_)
   refine ev_runK 2 hF21 [0, 1, 5, 7, 8] (l' := [(5, nI x9), (8, nI x9), (7, nI ((L0.length : Int))), (0, .slice p1 L0.length c2), (1, nI i1)]) (w' := w12) (by kernel_rfl) ?_
   intro a23 hF22; clear hF21
   refine wpList_nil (thenN (wp_seq (wp_region_lit ?_)))
   refine ev_runs 3 hF22 (l' := [(13, nI x9), (12, .slice p1 L0.length c2), (11, nI i1), (5, nI x9), (8, nI x9), (7, nI ((L0.length : Int))), (0, .slice p1 L0.length c2), (1, nI i1)]) (w' := w12) (by kernel_rfl) ?_
   intro a25 hF24; clear hF22
   obtain ⟨hc26, hm27⟩ := ifTE hm20; clear hm20
   obtain ⟨g28, rfl⟩ := hp3.resolve_left (by have := inR_spec hc26; omega)
   refine ev_one (nP g28 (x9.toNat)) w12 hF24 (by kernel_rfl) rfl (by kernel_rfl) (run_idx rfl rfl rfl rfl rfl (inR_spec hc26).1 (inR_spec hc26).2 _) (l' := [(14, nP g28 (x9.toNat)), (13, nI x9), (12, .slice (some ⟨g28, 0, none⟩) L0.length c2), (11, nI i1), (5, nI x9), (8, nI x9), (7, nI ((L0.length : Int))), (0, .slice (some ⟨g28, 0, none⟩) L0.length c2), (1, nI i1)]) (by kernel_rfl) ?_
   intro a30 hF29; clear hF24
   refine ev_one (nI (atI L0 x9)) w12 hF29 (by kernel_rfl) rfl (by kernel_rfl) (run_load1 rfl rfl rfl (hS14.atI 0 rfl hc26)) (l' := [(15, nI (atI L0 x9)), (14, nP g28 (x9.toNat)), (13, nI x9), (12, .slice (some ⟨g28, 0, none⟩) L0.length c2), (11, nI i1), (5, nI x9), (8, nI x9), (7, nI ((L0.length : Int))), (0, .slice (some ⟨g28, 0, none⟩) L0.length c2), (1, nI i1)]) (by kernel_rfl) ?_
   intro a32 hF31; clear hF29
   refine ev_runK 1 hF31 [0, 1, 5, 7, 8, 16] (l' := [(16, .bool (i1 == (atI L0 x9))), (5, nI x9), (8, nI x9), (7, nI ((L0.length : Int))), (0, .slice (some ⟨g28, 0, none⟩) L0.length c2), (1, nI i1)]) (w' := w12) (by kernel_rfl) ?_
   intro a34 hF33; clear hF31
   refine wpList_nil (thenN ?_)
   cases hc35 : (i1 == (atI L0 x9)) with
   | true =>
    rw [hc35] at hF33
    rw [hc35] at hm27
    have hm36 := ifT hm27; clear hm27
    refine ev_condT hF33 rfl rfl ?_
    refine wp_seq (wp_region_lit ?_)
    refine ev_runK 2 hF33 [4] (l' := [(4, nI x9)]) (w' := w12) (by kernel_rfl) ?_
    intro a38 hF37; clear hF33
    refine wpList_nil (thenN ?_)
    refine wp_ret ?_
    refine blockR ?_
    refine thenR (thenR ?_)
    refine blockR ?_
    refine thenR ?_
    obtain rfl := Option.some.inj hm36
    refine ev_ret hF37 [4] (nI x9) rfl rfl rfl ?_
    exact ⟨rfl, hS14⟩
   | false =>
    rw [hc35] at hF33
    rw [hc35] at hm27
    have hm40 := ifF hm27; clear hm27
    refine ev_condF hF33 rfl rfl ?_
    refine wp_skip ?_
    have hF41 := hF33.keep [0, 1, 7, 8]
    clear hF33
    refine blockN ?_
    refine thenN (wp_region_lit ?_)
    refine ev_runK 2 hF41 [0, 1, 7, 8] (l' := [(8, nI (IntKind.i64.wrap (x9 + 1))), (7, nI ((L0.length : Int))), (0, .slice (some ⟨g28, 0, none⟩) L0.length c2), (1, nI i1)]) (w' := w12) (by kernel_rfl) ?_
    intro a43 hF42; clear hF41
    refine wpList_nil ?_
    exact thenN ⟨k10, Nat.lt_succ_self _, IntKind.i64.wrap (x9 + 1), hF42, hS14, hm40⟩
  | false =>
   rw [hc19] at hF17
   rw [hc19] at hm16
   have hm44 := ifF hm16; clear hm16
   refine ev_condF hF17 rfl rfl ?_
   refine wp_exit ?_
   refine thenE ?_
   refine thenE ?_
   refine blockE ?_
   refine thenN (wp_seq (wp_region_lit ?_))
   refine ev_runK 1 hF17 [4] (l' := [(4, nI (-1))]) (w' := w12) (by kernel_rfl) ?_
   intro a46 hF45; clear hF17
   refine wpList_nil (thenN ?_)
   refine wp_ret ?_
   obtain rfl := Option.some.inj hm44
   refine ev_ret hF45 [4] (nI (-1)) rfl rfl rfl ?_
   exact ⟨rfl, hS14⟩

def slices_Contains.m (k : Nat) (L0 : List Int) (i1 : Int) : Option (Bool) := bind1 (slices_Index.m k L0 i1) fun x9 => some (decide (x9 ≥ 0))
set_option maxRecDepth 100000 in
set_option maxHeartbeats 1500000 in
theorem slices_Contains.ok {w0 w : World} {F0 : List Nat} {ps : List Piece} {k : Nat} {v0 : Value} {L0 : List Int} {i1 : Int} {r0 : Bool} (hS : St w0 F0 (RowP (v0) L0 :: ps) w) (hm : slices_Contains.m k L0 i1 = some r0) :
    Calls Tryz.prog 78 #[v0, nI i1] w fun e w' => e = .returned (.bool r0) ∧ St w0 F0 (RowP (v0) L0 :: ps) w' := by
 refine ev_enterL 9 [v0, nI i1] Tryz.func78 rfl rfl (by simp) ?_
 intro a hF
 have hF0 : Fr 9 a [(0, v0), (1, nI i1)] := hF; clear hF
 unfold slices_Contains.m at hm
 obtain ⟨hl4, p1, c2, rfl, hp3⟩ := St.shape hS 0 rfl
 refine wp_seq (wp_region_lit ?_)
 refine ev_runK 1 hF0 [0, 1] (l' := [(0, .slice p1 L0.length c2), (1, nI i1)]) (w' := w) (by kernel_rfl) ?_
 intro a6 hF5; clear hF0
 refine wpList_nil (thenN (wp_seq (wp_region_lit ?_)))
 refine ev_runs 2 hF5 (l' := [(6, nI i1), (5, .slice p1 L0.length c2), (0, .slice p1 L0.length c2), (1, nI i1)]) (w' := w) (by kernel_rfl) ?_
 intro a8 hF7; clear hF5
 refine ev_call 77 #[.slice p1 L0.length c2, nI i1] hF7 rfl rfl (by kernel_rfl) rfl (by kernel_rfl) (fun w => by kernel_rfl) ?_
 obtain ⟨x9, hx10, hm11⟩ := bind1E hm; clear hm
 refine (slices_Index.ok hS hx10).mono ?_
 rintro _ w12 ⟨rfl, hS14⟩ a13 hF15; clear hF7 hS
 refine ev_runK 2 hF15 [4] (l' := [(4, .bool (decide (x9 ≥ 0)))]) (w' := w12) (by kernel_rfl) ?_
 intro a17 hF16; clear hF15
 refine wpList_nil (thenN ?_)
 refine wp_ret ?_
 obtain rfl := Option.some.inj hm11
 refine ev_ret hF16 [4] (.bool (decide (x9 ≥ 0))) rfl rfl rfl ?_
 exact ⟨rfl, hS14⟩

def list_of.m (k : Nat) (i0 : Ch) (i1 : Bool) : Option (En) := (if (i1) then some ((⟨i0.sh, i0.st⟩ : En)) else some ((⟨i0.th, i0.tt⟩ : En)))
set_option maxRecDepth 100000 in
set_option maxHeartbeats 1500000 in
theorem list_of.ok {w0 w : World} {F0 : List Nat} {ps : List Piece} {k : Nat} {i0 : Ch} {i1 : Bool} {r0 : En} (hS : St w0 F0 (ps) w) (hm : list_of.m k i0 i1 = some r0) :
    Calls Tryz.prog 73 #[.agg #[nI (i0.cap), nI (i0.closed), nI (i0.count), nI (i0.start), nI (i0.buf), nI (i0.th), nI (i0.tt), nI (i0.sh), nI (i0.st)], .bool (i1)] w fun e w' => e = .returned (.agg #[nI (r0.head), nI (r0.tail)]) ∧ St w0 F0 (ps) w' := by
 refine ev_enterL 16 [.agg #[nI (i0.cap), nI (i0.closed), nI (i0.count), nI (i0.start), nI (i0.buf), nI (i0.th), nI (i0.tt), nI (i0.sh), nI (i0.st)], .bool (i1)] Tryz.func73 rfl rfl (by simp) ?_
 intro a hF
 have hF0 : Fr 16 a [(0, .agg #[nI (i0.cap), nI (i0.closed), nI (i0.count), nI (i0.start), nI (i0.buf), nI (i0.th), nI (i0.tt), nI (i0.sh), nI (i0.st)]), (1, .bool (i1))] := hF; clear hF
 unfold list_of.m at hm
 refine wp_seq (wp_region_lit ?_)
 refine ev_runs 1 hF0 (l' := [(2, nP (w.heap.size) 0), (0, .agg #[nI (i0.cap), nI (i0.closed), nI (i0.count), nI (i0.start), nI (i0.buf), nI (i0.th), nI (i0.tt), nI (i0.sh), nI (i0.st)]), (1, .bool (i1))]) (w' := w.alloc (.cells #[nI (i0.cap), nI (i0.closed), nI (i0.count), nI (i0.start), nI (i0.buf), nI (i0.th), nI (i0.tt), nI (i0.sh), nI (i0.st)] 37)) (by kernel_rfl) ?_
 intro a2 hF1; clear hF0
 have hS4 : St w0 F0 (BlkP (w.heap.size) 37 #[nI (i0.cap), nI (i0.closed), nI (i0.count), nI (i0.start), nI (i0.buf), nI (i0.th), nI (i0.tt), nI (i0.sh), nI (i0.st)] :: ps) (w.alloc (.cells #[nI (i0.cap), nI (i0.closed), nI (i0.count), nI (i0.start), nI (i0.buf), nI (i0.th), nI (i0.tt), nI (i0.sh), nI (i0.st)] 37)) := St.new hS #[nI (i0.cap), nI (i0.closed), nI (i0.count), nI (i0.start), nI (i0.buf), nI (i0.th), nI (i0.tt), nI (i0.sh), nI (i0.st)] 37
 refine ev_runs 1 hF1 (l' := [(4, nP ((w.alloc (.cells #[nI (i0.cap), nI (i0.closed), nI (i0.count), nI (i0.start), nI (i0.buf), nI (i0.th), nI (i0.tt), nI (i0.sh), nI (i0.st)] 37)).heap.size) 0), (2, nP (w.heap.size) 0), (0, .agg #[nI (i0.cap), nI (i0.closed), nI (i0.count), nI (i0.start), nI (i0.buf), nI (i0.th), nI (i0.tt), nI (i0.sh), nI (i0.st)]), (1, .bool (i1))]) (w' := (w.alloc (.cells #[nI (i0.cap), nI (i0.closed), nI (i0.count), nI (i0.start), nI (i0.buf), nI (i0.th), nI (i0.tt), nI (i0.sh), nI (i0.st)] 37)).alloc (.cells #[nI 0, nI 0] 116)) (by kernel_rfl) ?_
 intro a6 hF5; clear hF1
 have hS8 : St w0 F0 (BlkP ((w.alloc (.cells #[nI (i0.cap), nI (i0.closed), nI (i0.count), nI (i0.start), nI (i0.buf), nI (i0.th), nI (i0.tt), nI (i0.sh), nI (i0.st)] 37)).heap.size) 116 #[nI 0, nI 0] :: BlkP (w.heap.size) 37 #[nI (i0.cap), nI (i0.closed), nI (i0.count), nI (i0.start), nI (i0.buf), nI (i0.th), nI (i0.tt), nI (i0.sh), nI (i0.st)] :: ps) ((w.alloc (.cells #[nI (i0.cap), nI (i0.closed), nI (i0.count), nI (i0.start), nI (i0.buf), nI (i0.th), nI (i0.tt), nI (i0.sh), nI (i0.st)] 37)).alloc (.cells #[nI 0, nI 0] 116)) := St.new hS4 #[nI 0, nI 0] 116
 clear hS4
 refine wpList_nil ?_
 have hF9 := hF5.keep [1, 2, 4]
 clear hF5
 refine thenN (wp_seq (wp_seq (wp_region_lit ?_)))
 refine ev_runK 1 hF9 [2, 4, 5] (l' := [(5, .bool (i1)), (4, nP ((w.alloc (.cells #[nI (i0.cap), nI (i0.closed), nI (i0.count), nI (i0.start), nI (i0.buf), nI (i0.th), nI (i0.tt), nI (i0.sh), nI (i0.st)] 37)).heap.size) 0), (2, nP (w.heap.size) 0)]) (w' := (w.alloc (.cells #[nI (i0.cap), nI (i0.closed), nI (i0.count), nI (i0.start), nI (i0.buf), nI (i0.th), nI (i0.tt), nI (i0.sh), nI (i0.st)] 37)).alloc (.cells #[nI 0, nI 0] 116)) (by kernel_rfl) ?_
 intro a11 hF10; clear hF9
 refine wpList_nil (thenN ?_)
 cases hc12 : (i1) with
 | true =>
  rw [hc12] at hF10
  rw [hc12] at hm
  have hm13 := ifT hm; clear hm
  refine ev_condT hF10 rfl rfl ?_
  refine wp_seq (wp_region_lit ?_)
  refine ev_runs 1 hF10 (l' := [(6, nP (w.heap.size) 7), (5, .bool true), (4, nP ((w.alloc (.cells #[nI (i0.cap), nI (i0.closed), nI (i0.count), nI (i0.start), nI (i0.buf), nI (i0.th), nI (i0.tt), nI (i0.sh), nI (i0.st)] 37)).heap.size) 0), (2, nP (w.heap.size) 0)]) (w' := (w.alloc (.cells #[nI (i0.cap), nI (i0.closed), nI (i0.count), nI (i0.start), nI (i0.buf), nI (i0.th), nI (i0.tt), nI (i0.sh), nI (i0.st)] 37)).alloc (.cells #[nI 0, nI 0] 116)) (by kernel_rfl) ?_
  intro a15 hF14; clear hF10
  refine ev_one (nI (i0.sh)) ((w.alloc (.cells #[nI (i0.cap), nI (i0.closed), nI (i0.count), nI (i0.start), nI (i0.buf), nI (i0.th), nI (i0.tt), nI (i0.sh), nI (i0.st)] 37)).alloc (.cells #[nI 0, nI 0] 116)) hF14 (by kernel_rfl) rfl (by kernel_rfl) (run_loadV rfl rfl (run_loadS rfl rfl (hS8.cell 1 rfl 7 rfl))) (l' := [(7, nI (i0.sh)), (6, nP (w.heap.size) 7), (5, .bool true), (4, nP ((w.alloc (.cells #[nI (i0.cap), nI (i0.closed), nI (i0.count), nI (i0.start), nI (i0.buf), nI (i0.th), nI (i0.tt), nI (i0.sh), nI (i0.st)] 37)).heap.size) 0), (2, nP (w.heap.size) 0)]) (by kernel_rfl) ?_
  intro a17 hF16; clear hF14
  refine ev_runs 1 hF16 (l' := [(8, nP (w.heap.size) 8), (7, nI (i0.sh)), (6, nP (w.heap.size) 7), (5, .bool true), (4, nP ((w.alloc (.cells #[nI (i0.cap), nI (i0.closed), nI (i0.count), nI (i0.start), nI (i0.buf), nI (i0.th), nI (i0.tt), nI (i0.sh), nI (i0.st)] 37)).heap.size) 0), (2, nP (w.heap.size) 0)]) (w' := (w.alloc (.cells #[nI (i0.cap), nI (i0.closed), nI (i0.count), nI (i0.start), nI (i0.buf), nI (i0.th), nI (i0.tt), nI (i0.sh), nI (i0.st)] 37)).alloc (.cells #[nI 0, nI 0] 116)) (by kernel_rfl) ?_
  intro a19 hF18; clear hF16
  refine ev_one (nI (i0.st)) ((w.alloc (.cells #[nI (i0.cap), nI (i0.closed), nI (i0.count), nI (i0.start), nI (i0.buf), nI (i0.th), nI (i0.tt), nI (i0.sh), nI (i0.st)] 37)).alloc (.cells #[nI 0, nI 0] 116)) hF18 (by kernel_rfl) rfl (by kernel_rfl) (run_loadV rfl rfl (run_loadS rfl rfl (hS8.cell 1 rfl 8 rfl))) (l' := [(9, nI (i0.st)), (8, nP (w.heap.size) 8), (7, nI (i0.sh)), (6, nP (w.heap.size) 7), (5, .bool true), (4, nP ((w.alloc (.cells #[nI (i0.cap), nI (i0.closed), nI (i0.count), nI (i0.start), nI (i0.buf), nI (i0.th), nI (i0.tt), nI (i0.sh), nI (i0.st)] 37)).heap.size) 0), (2, nP (w.heap.size) 0)]) (by kernel_rfl) ?_
  intro a21 hF20; clear hF18
  refine ev_runs 1 hF20 (l' := [(10, .agg #[nI (i0.sh), nI (i0.st)]), (9, nI (i0.st)), (8, nP (w.heap.size) 8), (7, nI (i0.sh)), (6, nP (w.heap.size) 7), (5, .bool true), (4, nP ((w.alloc (.cells #[nI (i0.cap), nI (i0.closed), nI (i0.count), nI (i0.start), nI (i0.buf), nI (i0.th), nI (i0.tt), nI (i0.sh), nI (i0.st)] 37)).heap.size) 0), (2, nP (w.heap.size) 0)]) (w' := (w.alloc (.cells #[nI (i0.cap), nI (i0.closed), nI (i0.count), nI (i0.start), nI (i0.buf), nI (i0.th), nI (i0.tt), nI (i0.sh), nI (i0.st)] 37)).alloc (.cells #[nI 0, nI 0] 116)) (by kernel_rfl) ?_
  intro a23 hF22; clear hF20
  refine ev_store (.agg #[nI (i0.sh), nI (i0.st)]) #[nI (i0.sh), nI (i0.st)] hF22 (by kernel_rfl) rfl rfl rfl rfl (by kernel_rfl) hS8 (by kernel_rfl) (by kernel_rfl) (by kernel_rfl) (l' := [(10, .agg #[nI (i0.sh), nI (i0.st)]), (9, nI (i0.st)), (8, nP (w.heap.size) 8), (7, nI (i0.sh)), (6, nP (w.heap.size) 7), (5, .bool true), (4, nP ((w.alloc (.cells #[nI (i0.cap), nI (i0.closed), nI (i0.count), nI (i0.start), nI (i0.buf), nI (i0.th), nI (i0.tt), nI (i0.sh), nI (i0.st)] 37)).heap.size) 0), (2, nP (w.heap.size) 0)]) (by kernel_rfl) ?_
  intro w24 a25 hS26 hF27; clear hF22 hS8
  refine wpList_nil ?_
  have hF28 := hF27.keep [4]
  clear hF27
  have hS29 := hS26.pick1.drop
  clear hS26
  refine thenN ?_
  refine wp_ret ?_
  refine thenR ?_
  obtain rfl := Option.some.inj hm13
  refine ev_retC hF28 _ [.agg #[nI (i0.sh), nI (i0.st)]] (.agg #[nI (i0.sh), nI (i0.st)]) rfl ⟨⟨rfl, _, rfl, (run_loadA (cs := [nI (i0.sh), nI (i0.st)]) rfl rfl (by kernel_rfl) (blk_cells hS29 0 rfl rfl))⟩, trivial⟩ rfl ?_
  have hS31 := hS29.drop
  clear hS29
  exact ⟨rfl, hS31⟩
 | false =>
  rw [hc12] at hF10
  rw [hc12] at hm
  have hm32 := ifF hm; clear hm
  refine ev_condF hF10 rfl rfl ?_
  refine wp_skip ?_
  have hF33 := hF10.keep [2, 4]
  clear hF10
  refine thenN (wp_seq (wp_region_lit ?_))
  refine ev_runs 1 hF33 (l' := [(11, nP (w.heap.size) 5), (4, nP ((w.alloc (.cells #[nI (i0.cap), nI (i0.closed), nI (i0.count), nI (i0.start), nI (i0.buf), nI (i0.th), nI (i0.tt), nI (i0.sh), nI (i0.st)] 37)).heap.size) 0), (2, nP (w.heap.size) 0)]) (w' := (w.alloc (.cells #[nI (i0.cap), nI (i0.closed), nI (i0.count), nI (i0.start), nI (i0.buf), nI (i0.th), nI (i0.tt), nI (i0.sh), nI (i0.st)] 37)).alloc (.cells #[nI 0, nI 0] 116)) (by kernel_rfl) ?_
  intro a35 hF34; clear hF33
  refine ev_one (nI (i0.th)) ((w.alloc (.cells #[nI (i0.cap), nI (i0.closed), nI (i0.count), nI (i0.start), nI (i0.buf), nI (i0.th), nI (i0.tt), nI (i0.sh), nI (i0.st)] 37)).alloc (.cells #[nI 0, nI 0] 116)) hF34 (by kernel_rfl) rfl (by kernel_rfl) (run_loadV rfl rfl (run_loadS rfl rfl (hS8.cell 1 rfl 5 rfl))) (l' := [(12, nI (i0.th)), (11, nP (w.heap.size) 5), (4, nP ((w.alloc (.cells #[nI (i0.cap), nI (i0.closed), nI (i0.count), nI (i0.start), nI (i0.buf), nI (i0.th), nI (i0.tt), nI (i0.sh), nI (i0.st)] 37)).heap.size) 0), (2, nP (w.heap.size) 0)]) (by kernel_rfl) ?_
  intro a37 hF36; clear hF34
  refine ev_runs 1 hF36 (l' := [(13, nP (w.heap.size) 6), (12, nI (i0.th)), (11, nP (w.heap.size) 5), (4, nP ((w.alloc (.cells #[nI (i0.cap), nI (i0.closed), nI (i0.count), nI (i0.start), nI (i0.buf), nI (i0.th), nI (i0.tt), nI (i0.sh), nI (i0.st)] 37)).heap.size) 0), (2, nP (w.heap.size) 0)]) (w' := (w.alloc (.cells #[nI (i0.cap), nI (i0.closed), nI (i0.count), nI (i0.start), nI (i0.buf), nI (i0.th), nI (i0.tt), nI (i0.sh), nI (i0.st)] 37)).alloc (.cells #[nI 0, nI 0] 116)) (by kernel_rfl) ?_
  intro a39 hF38; clear hF36
  refine ev_one (nI (i0.tt)) ((w.alloc (.cells #[nI (i0.cap), nI (i0.closed), nI (i0.count), nI (i0.start), nI (i0.buf), nI (i0.th), nI (i0.tt), nI (i0.sh), nI (i0.st)] 37)).alloc (.cells #[nI 0, nI 0] 116)) hF38 (by kernel_rfl) rfl (by kernel_rfl) (run_loadV rfl rfl (run_loadS rfl rfl (hS8.cell 1 rfl 6 rfl))) (l' := [(14, nI (i0.tt)), (13, nP (w.heap.size) 6), (12, nI (i0.th)), (11, nP (w.heap.size) 5), (4, nP ((w.alloc (.cells #[nI (i0.cap), nI (i0.closed), nI (i0.count), nI (i0.start), nI (i0.buf), nI (i0.th), nI (i0.tt), nI (i0.sh), nI (i0.st)] 37)).heap.size) 0), (2, nP (w.heap.size) 0)]) (by kernel_rfl) ?_
  intro a41 hF40; clear hF38
  refine ev_runs 1 hF40 (l' := [(15, .agg #[nI (i0.th), nI (i0.tt)]), (14, nI (i0.tt)), (13, nP (w.heap.size) 6), (12, nI (i0.th)), (11, nP (w.heap.size) 5), (4, nP ((w.alloc (.cells #[nI (i0.cap), nI (i0.closed), nI (i0.count), nI (i0.start), nI (i0.buf), nI (i0.th), nI (i0.tt), nI (i0.sh), nI (i0.st)] 37)).heap.size) 0), (2, nP (w.heap.size) 0)]) (w' := (w.alloc (.cells #[nI (i0.cap), nI (i0.closed), nI (i0.count), nI (i0.start), nI (i0.buf), nI (i0.th), nI (i0.tt), nI (i0.sh), nI (i0.st)] 37)).alloc (.cells #[nI 0, nI 0] 116)) (by kernel_rfl) ?_
  intro a43 hF42; clear hF40
  refine ev_store (.agg #[nI (i0.th), nI (i0.tt)]) #[nI (i0.th), nI (i0.tt)] hF42 (by kernel_rfl) rfl rfl rfl rfl (by kernel_rfl) hS8 (by kernel_rfl) (by kernel_rfl) (by kernel_rfl) (l' := [(15, .agg #[nI (i0.th), nI (i0.tt)]), (14, nI (i0.tt)), (13, nP (w.heap.size) 6), (12, nI (i0.th)), (11, nP (w.heap.size) 5), (4, nP ((w.alloc (.cells #[nI (i0.cap), nI (i0.closed), nI (i0.count), nI (i0.start), nI (i0.buf), nI (i0.th), nI (i0.tt), nI (i0.sh), nI (i0.st)] 37)).heap.size) 0), (2, nP (w.heap.size) 0)]) (by kernel_rfl) ?_
  intro w44 a45 hS46 hF47; clear hF42 hS8
  refine wpList_nil ?_
  have hF48 := hF47.keep [4]
  clear hF47
  have hS49 := hS46.pick1.drop
  clear hS46
  refine thenN ?_
  refine wp_ret ?_
  obtain rfl := Option.some.inj hm32
  refine ev_retC hF48 _ [.agg #[nI (i0.th), nI (i0.tt)]] (.agg #[nI (i0.th), nI (i0.tt)]) rfl ⟨⟨rfl, _, rfl, (run_loadA (cs := [nI (i0.th), nI (i0.tt)]) rfl rfl (by kernel_rfl) (blk_cells hS49 0 rfl rfl))⟩, trivial⟩ rfl ?_
  have hS51 := hS49.drop
  clear hS49
  exact ⟨rfl, hS51⟩

def list_into.m (k : Nat) (i0 : Ch) (i1 : Bool) (i2 : En) : Option (Ch) := (if (i1) then some ((⟨i0.cap, i0.closed, i0.count, i0.start, i0.buf, i0.th, i0.tt, i2.head, i2.tail⟩ : Ch)) else some ((⟨i0.cap, i0.closed, i0.count, i0.start, i0.buf, i2.head, i2.tail, i0.sh, i0.st⟩ : Ch)))
set_option maxRecDepth 100000 in
set_option maxHeartbeats 1500000 in
theorem list_into.ok {w0 w : World} {F0 : List Nat} {ps : List Piece} {k : Nat} {i0 : Ch} {i1 : Bool} {i2 : En} {r0 : Ch} (hS : St w0 F0 (ps) w) (hm : list_into.m k i0 i1 i2 = some r0) :
    Calls Tryz.prog 75 #[.agg #[nI (i0.cap), nI (i0.closed), nI (i0.count), nI (i0.start), nI (i0.buf), nI (i0.th), nI (i0.tt), nI (i0.sh), nI (i0.st)], .bool (i1), .agg #[nI (i2.head), nI (i2.tail)]] w fun e w' => e = .returned (.agg #[nI (r0.cap), nI (r0.closed), nI (r0.count), nI (r0.start), nI (r0.buf), nI (r0.th), nI (r0.tt), nI (r0.sh), nI (r0.st)]) ∧ St w0 F0 (ps) w' := by
 refine ev_enterL 21 [.agg #[nI (i0.cap), nI (i0.closed), nI (i0.count), nI (i0.start), nI (i0.buf), nI (i0.th), nI (i0.tt), nI (i0.sh), nI (i0.st)], .bool (i1), .agg #[nI (i2.head), nI (i2.tail)]] Tryz.func75 rfl rfl (by simp) ?_
 intro a hF
 have hF0 : Fr 21 a [(0, .agg #[nI (i0.cap), nI (i0.closed), nI (i0.count), nI (i0.start), nI (i0.buf), nI (i0.th), nI (i0.tt), nI (i0.sh), nI (i0.st)]), (1, .bool (i1)), (2, .agg #[nI (i2.head), nI (i2.tail)])] := hF; clear hF
 unfold list_into.m at hm
 refine wp_seq (wp_region_lit ?_)
 refine ev_runs 1 hF0 (l' := [(3, nP (w.heap.size) 0), (0, .agg #[nI (i0.cap), nI (i0.closed), nI (i0.count), nI (i0.start), nI (i0.buf), nI (i0.th), nI (i0.tt), nI (i0.sh), nI (i0.st)]), (1, .bool (i1)), (2, .agg #[nI (i2.head), nI (i2.tail)])]) (w' := w.alloc (.cells #[nI (i0.cap), nI (i0.closed), nI (i0.count), nI (i0.start), nI (i0.buf), nI (i0.th), nI (i0.tt), nI (i0.sh), nI (i0.st)] 37)) (by kernel_rfl) ?_
 intro a2 hF1; clear hF0
 have hS4 : St w0 F0 (BlkP (w.heap.size) 37 #[nI (i0.cap), nI (i0.closed), nI (i0.count), nI (i0.start), nI (i0.buf), nI (i0.th), nI (i0.tt), nI (i0.sh), nI (i0.st)] :: ps) (w.alloc (.cells #[nI (i0.cap), nI (i0.closed), nI (i0.count), nI (i0.start), nI (i0.buf), nI (i0.th), nI (i0.tt), nI (i0.sh), nI (i0.st)] 37)) := St.new hS #[nI (i0.cap), nI (i0.closed), nI (i0.count), nI (i0.start), nI (i0.buf), nI (i0.th), nI (i0.tt), nI (i0.sh), nI (i0.st)] 37
 refine ev_runs 1 hF1 (l' := [(5, nP ((w.alloc (.cells #[nI (i0.cap), nI (i0.closed), nI (i0.count), nI (i0.start), nI (i0.buf), nI (i0.th), nI (i0.tt), nI (i0.sh), nI (i0.st)] 37)).heap.size) 0), (3, nP (w.heap.size) 0), (0, .agg #[nI (i0.cap), nI (i0.closed), nI (i0.count), nI (i0.start), nI (i0.buf), nI (i0.th), nI (i0.tt), nI (i0.sh), nI (i0.st)]), (1, .bool (i1)), (2, .agg #[nI (i2.head), nI (i2.tail)])]) (w' := (w.alloc (.cells #[nI (i0.cap), nI (i0.closed), nI (i0.count), nI (i0.start), nI (i0.buf), nI (i0.th), nI (i0.tt), nI (i0.sh), nI (i0.st)] 37)).alloc (.cells #[nI (i2.head), nI (i2.tail)] 116)) (by kernel_rfl) ?_
 intro a6 hF5; clear hF1
 have hS8 : St w0 F0 (BlkP ((w.alloc (.cells #[nI (i0.cap), nI (i0.closed), nI (i0.count), nI (i0.start), nI (i0.buf), nI (i0.th), nI (i0.tt), nI (i0.sh), nI (i0.st)] 37)).heap.size) 116 #[nI (i2.head), nI (i2.tail)] :: BlkP (w.heap.size) 37 #[nI (i0.cap), nI (i0.closed), nI (i0.count), nI (i0.start), nI (i0.buf), nI (i0.th), nI (i0.tt), nI (i0.sh), nI (i0.st)] :: ps) ((w.alloc (.cells #[nI (i0.cap), nI (i0.closed), nI (i0.count), nI (i0.start), nI (i0.buf), nI (i0.th), nI (i0.tt), nI (i0.sh), nI (i0.st)] 37)).alloc (.cells #[nI (i2.head), nI (i2.tail)] 116)) := St.new hS4 #[nI (i2.head), nI (i2.tail)] 116
 clear hS4
 refine ev_runs 1 hF5 (l' := [(6, nP (((w.alloc (.cells #[nI (i0.cap), nI (i0.closed), nI (i0.count), nI (i0.start), nI (i0.buf), nI (i0.th), nI (i0.tt), nI (i0.sh), nI (i0.st)] 37)).alloc (.cells #[nI (i2.head), nI (i2.tail)] 116)).heap.size) 0), (5, nP ((w.alloc (.cells #[nI (i0.cap), nI (i0.closed), nI (i0.count), nI (i0.start), nI (i0.buf), nI (i0.th), nI (i0.tt), nI (i0.sh), nI (i0.st)] 37)).heap.size) 0), (3, nP (w.heap.size) 0), (0, .agg #[nI (i0.cap), nI (i0.closed), nI (i0.count), nI (i0.start), nI (i0.buf), nI (i0.th), nI (i0.tt), nI (i0.sh), nI (i0.st)]), (1, .bool (i1)), (2, .agg #[nI (i2.head), nI (i2.tail)])]) (w' := ((w.alloc (.cells #[nI (i0.cap), nI (i0.closed), nI (i0.count), nI (i0.start), nI (i0.buf), nI (i0.th), nI (i0.tt), nI (i0.sh), nI (i0.st)] 37)).alloc (.cells #[nI (i2.head), nI (i2.tail)] 116)).alloc (.cells #[nI 0, nI 0, nI 0, nI 0, nI 0, nI 0, nI 0, nI 0, nI 0] 37)) (by kernel_rfl) ?_
 intro a10 hF9; clear hF5
 have hS12 : St w0 F0 (BlkP (((w.alloc (.cells #[nI (i0.cap), nI (i0.closed), nI (i0.count), nI (i0.start), nI (i0.buf), nI (i0.th), nI (i0.tt), nI (i0.sh), nI (i0.st)] 37)).alloc (.cells #[nI (i2.head), nI (i2.tail)] 116)).heap.size) 37 #[nI 0, nI 0, nI 0, nI 0, nI 0, nI 0, nI 0, nI 0, nI 0] :: BlkP ((w.alloc (.cells #[nI (i0.cap), nI (i0.closed), nI (i0.count), nI (i0.start), nI (i0.buf), nI (i0.th), nI (i0.tt), nI (i0.sh), nI (i0.st)] 37)).heap.size) 116 #[nI (i2.head), nI (i2.tail)] :: BlkP (w.heap.size) 37 #[nI (i0.cap), nI (i0.closed), nI (i0.count), nI (i0.start), nI (i0.buf), nI (i0.th), nI (i0.tt), nI (i0.sh), nI (i0.st)] :: ps) (((w.alloc (.cells #[nI (i0.cap), nI (i0.closed), nI (i0.count), nI (i0.start), nI (i0.buf), nI (i0.th), nI (i0.tt), nI (i0.sh), nI (i0.st)] 37)).alloc (.cells #[nI (i2.head), nI (i2.tail)] 116)).alloc (.cells #[nI 0, nI 0, nI 0, nI 0, nI 0, nI 0, nI 0, nI 0, nI 0] 37)) := St.new hS8 #[nI 0, nI 0, nI 0, nI 0, nI 0, nI 0, nI 0, nI 0, nI 0] 37
 clear hS8
 refine wpList_nil ?_
 have hF13 := hF9.keep [1, 3, 5, 6]
 clear hF9
 refine thenN (wp_seq (wp_seq (wp_region_lit ?_)))
 refine ev_runK 1 hF13 [3, 5, 6, 7] (l' := [(7, .bool (i1)), (6, nP (((w.alloc (.cells #[nI (i0.cap), nI (i0.closed), nI (i0.count), nI (i0.start), nI (i0.buf), nI (i0.th), nI (i0.tt), nI (i0.sh), nI (i0.st)] 37)).alloc (.cells #[nI (i2.head), nI (i2.tail)] 116)).heap.size) 0), (5, nP ((w.alloc (.cells #[nI (i0.cap), nI (i0.closed), nI (i0.count), nI (i0.start), nI (i0.buf), nI (i0.th), nI (i0.tt), nI (i0.sh), nI (i0.st)] 37)).heap.size) 0), (3, nP (w.heap.size) 0)]) (w' := ((w.alloc (.cells #[nI (i0.cap), nI (i0.closed), nI (i0.count), nI (i0.start), nI (i0.buf), nI (i0.th), nI (i0.tt), nI (i0.sh), nI (i0.st)] 37)).alloc (.cells #[nI (i2.head), nI (i2.tail)] 116)).alloc (.cells #[nI 0, nI 0, nI 0, nI 0, nI 0, nI 0, nI 0, nI 0, nI 0] 37)) (by kernel_rfl) ?_
 intro a15 hF14; clear hF13
 refine wpList_nil (thenN ?_)
 cases hc16 : (i1) with
 | true =>
  rw [hc16] at hF14
  rw [hc16] at hm
  have hm17 := ifT hm; clear hm
  refine ev_condT hF14 rfl rfl ?_
  -- draws
  have hS18 := hS12.pick1
  clear hS12
  have hS19 := hS18.drew; clear hS18
  refine any_start (fun wS => ∃ qs, St w0 F0 (BlkP ((w.alloc (.cells #[nI (i0.cap), nI (i0.closed), nI (i0.count), nI (i0.start), nI (i0.buf), nI (i0.th), nI (i0.tt), nI (i0.sh), nI (i0.st)] 37)).heap.size) 116 #[nI (i2.head), nI (i2.tail)] :: qs) wS) 8 #[false, false, false, false, false, false, false, false] (by kernel_rfl) (by kernel_rfl) (by kernel_rfl) ?_
  refine any_many 5 [(0, some (nP ((w.alloc (.cells #[nI (i0.cap), nI (i0.closed), nI (i0.count), nI (i0.start), nI (i0.buf), nI (i0.th), nI (i0.tt), nI (i0.sh), nI (i0.st)] 37)).heap.size) 0)), (1, some (nI (i2.head))), (2, some (nP ((w.alloc (.cells #[nI (i0.cap), nI (i0.closed), nI (i0.count), nI (i0.start), nI (i0.buf), nI (i0.th), nI (i0.tt), nI (i0.sh), nI (i0.st)] 37)).heap.size) 1)), (3, some (nI (i2.tail))), (4, some (nP (w.heap.size) 7))] [3, 6, 9, 11, 12, 13] #[true, true, true, true, true, false, false, false] (by rfl) hF14 (by kernel_rfl) (by kernel_rfl) (by exact (And.intro (fun wS hw => by kernel_rfl) (And.intro (fun wS hw => hw.elim fun qs hw => run_loadV rfl rfl (run_loadS rfl rfl (hw.cell 0 rfl 0 rfl))) (And.intro (fun wS hw => by kernel_rfl) (And.intro (fun wS hw => hw.elim fun qs hw => run_loadV rfl rfl (run_loadS rfl rfl (hw.cell 0 rfl 1 rfl))) (And.intro (fun wS hw => by kernel_rfl) trivial)))))) (fun _ _ _ _ _ h => h) ⟨_, hS19⟩ (l' := [(12, nP (w.heap.size) 7), (11, nI (i2.tail)), (9, nI (i2.head)), (6, nP (((w.alloc (.cells #[nI (i0.cap), nI (i0.closed), nI (i0.count), nI (i0.start), nI (i0.buf), nI (i0.th), nI (i0.tt), nI (i0.sh), nI (i0.st)] 37)).alloc (.cells #[nI (i2.head), nI (i2.tail)] 116)).heap.size) 0), (3, nP (w.heap.size) 0)]) (by kernel_rfl) ?_
  intro a21 hF20; clear hF14
  refine any_one 5 (by kernel_rfl) ?_
  have hS22 := hS19.pick2
  clear hS19
  refine op_store 5 #[true, true, true, true, true, true, false, false] (nI (i2.head)) #[nI (i0.cap), nI (i0.closed), nI (i0.count), nI (i0.start), nI (i0.buf), nI (i0.th), nI (i0.tt), nI (i2.head), nI (i0.st)] hF20 rfl (by kernel_rfl) rfl rfl rfl rfl (by kernel_rfl) hS22 (by kernel_rfl) (by kernel_rfl) (by kernel_rfl) (l' := [(12, nP (w.heap.size) 7), (11, nI (i2.tail)), (9, nI (i2.head)), (6, nP (((w.alloc (.cells #[nI (i0.cap), nI (i0.closed), nI (i0.count), nI (i0.start), nI (i0.buf), nI (i0.th), nI (i0.tt), nI (i0.sh), nI (i0.st)] 37)).alloc (.cells #[nI (i2.head), nI (i2.tail)] 116)).heap.size) 0), (3, nP (w.heap.size) 0)]) (by kernel_rfl) (by kernel_rfl) ?_
  intro w23 a24 hS25 hF26; clear hF20 hS22
  refine ⟨⟨_, hS25.pick1⟩, ?_⟩
  refine any_many 1 [(6, some (nP (w.heap.size) 8))] [3, 6, 11, 13] #[true, true, true, true, true, true, true, false] (by rfl) hF26 (by kernel_rfl) (by kernel_rfl) (by exact (And.intro (fun wS hw => by kernel_rfl) trivial)) (fun _ _ _ _ _ h => h) ⟨_, hS25.pick1⟩ (l' := [(13, nP (w.heap.size) 8), (11, nI (i2.tail)), (6, nP (((w.alloc (.cells #[nI (i0.cap), nI (i0.closed), nI (i0.count), nI (i0.start), nI (i0.buf), nI (i0.th), nI (i0.tt), nI (i0.sh), nI (i0.st)] 37)).alloc (.cells #[nI (i2.head), nI (i2.tail)] 116)).heap.size) 0), (3, nP (w.heap.size) 0)]) (by kernel_rfl) ?_
  intro a28 hF27; clear hF26
  refine any_one 7 (by kernel_rfl) ?_
  refine op_store 7 #[true, true, true, true, true, true, true, true] (nI (i2.tail)) #[nI (i0.cap), nI (i0.closed), nI (i0.count), nI (i0.start), nI (i0.buf), nI (i0.th), nI (i0.tt), nI (i2.head), nI (i2.tail)] hF27 rfl (by kernel_rfl) rfl rfl rfl rfl (by kernel_rfl) hS25 (by kernel_rfl) (by kernel_rfl) (by kernel_rfl) (l' := [(13, nP (w.heap.size) 8), (11, nI (i2.tail)), (6, nP (((w.alloc (.cells #[nI (i0.cap), nI (i0.closed), nI (i0.count), nI (i0.start), nI (i0.buf), nI (i0.th), nI (i0.tt), nI (i0.sh), nI (i0.st)] 37)).alloc (.cells #[nI (i2.head), nI (i2.tail)] 116)).heap.size) 0), (3, nP (w.heap.size) 0)]) (by kernel_rfl) (by kernel_rfl) ?_
  intro w29 a30 hS31 hF32; clear hF27 hS25
  refine ⟨⟨_, hS31.pick1⟩, ?_⟩
  refine any_done (by kernel_rfl) ?_
  have hF33 := hF32.keep [3, 6]
  clear hF32
  have hS34 := hS31.pick1.drop
  clear hS31
  refine thenN (wp_seq (wp_region_lit ?_))
  refine ev_one (.agg #[nI (i0.cap), nI (i0.closed), nI (i0.count), nI (i0.start), nI (i0.buf), nI (i0.th), nI (i0.tt), nI (i2.head), nI (i2.tail)]) w29 hF33 (by kernel_rfl) rfl (by kernel_rfl) (run_loadV rfl rfl (run_loadA (cs := [nI (i0.cap), nI (i0.closed), nI (i0.count), nI (i0.start), nI (i0.buf), nI (i0.th), nI (i0.tt), nI (i2.head), nI (i2.tail)]) rfl rfl (by kernel_rfl) (blk_cells hS34 0 rfl rfl))) (l' := [(20, .agg #[nI (i0.cap), nI (i0.closed), nI (i0.count), nI (i0.start), nI (i0.buf), nI (i0.th), nI (i0.tt), nI (i2.head), nI (i2.tail)]), (6, nP (((w.alloc (.cells #[nI (i0.cap), nI (i0.closed), nI (i0.count), nI (i0.start), nI (i0.buf), nI (i0.th), nI (i0.tt), nI (i0.sh), nI (i0.st)] 37)).alloc (.cells #[nI (i2.head), nI (i2.tail)] 116)).heap.size) 0), (3, nP (w.heap.size) 0)]) (by kernel_rfl) ?_
  intro a36 hF35; clear hF33
  have hS37 := hS34.pick1
  clear hS34
  refine ev_store (.agg #[nI (i0.cap), nI (i0.closed), nI (i0.count), nI (i0.start), nI (i0.buf), nI (i0.th), nI (i0.tt), nI (i2.head), nI (i2.tail)]) #[nI (i0.cap), nI (i0.closed), nI (i0.count), nI (i0.start), nI (i0.buf), nI (i0.th), nI (i0.tt), nI (i2.head), nI (i2.tail)] hF35 (by kernel_rfl) rfl rfl rfl rfl (by kernel_rfl) hS37 (by kernel_rfl) (by kernel_rfl) (by kernel_rfl) (l' := [(20, .agg #[nI (i0.cap), nI (i0.closed), nI (i0.count), nI (i0.start), nI (i0.buf), nI (i0.th), nI (i0.tt), nI (i2.head), nI (i2.tail)]), (6, nP (((w.alloc (.cells #[nI (i0.cap), nI (i0.closed), nI (i0.count), nI (i0.start), nI (i0.buf), nI (i0.th), nI (i0.tt), nI (i0.sh), nI (i0.st)] 37)).alloc (.cells #[nI (i2.head), nI (i2.tail)] 116)).heap.size) 0), (3, nP (w.heap.size) 0)]) (by kernel_rfl) ?_
  intro w38 a39 hS40 hF41; clear hF35 hS37
  refine wpList_nil ?_
  have hF42 := hF41.keep [6]
  clear hF41
  have hS43 := hS40.pick1.drop
  clear hS40
  refine thenN ?_
  refine wp_ret ?_
  obtain rfl := Option.some.inj hm17
  refine ev_retC hF42 _ [.agg #[nI (i0.cap), nI (i0.closed), nI (i0.count), nI (i0.start), nI (i0.buf), nI (i0.th), nI (i0.tt), nI (i2.head), nI (i2.tail)]] (.agg #[nI (i0.cap), nI (i0.closed), nI (i0.count), nI (i0.start), nI (i0.buf), nI (i0.th), nI (i0.tt), nI (i2.head), nI (i2.tail)]) rfl ⟨⟨rfl, _, rfl, (run_loadA (cs := [nI (i0.cap), nI (i0.closed), nI (i0.count), nI (i0.start), nI (i0.buf), nI (i0.th), nI (i0.tt), nI (i2.head), nI (i2.tail)]) rfl rfl (by kernel_rfl) (blk_cells hS43 0 rfl rfl))⟩, trivial⟩ rfl ?_
  have hS45 := hS43.drop
  clear hS43
  exact ⟨rfl, hS45⟩
 | false =>
  rw [hc16] at hF14
  rw [hc16] at hm
  have hm46 := ifF hm; clear hm
  refine ev_condF hF14 rfl rfl ?_
  -- draws
  have hS47 := hS12.pick1
  clear hS12
  have hS48 := hS47.drew; clear hS47
  refine any_start (fun wS => ∃ qs, St w0 F0 (BlkP ((w.alloc (.cells #[nI (i0.cap), nI (i0.closed), nI (i0.count), nI (i0.start), nI (i0.buf), nI (i0.th), nI (i0.tt), nI (i0.sh), nI (i0.st)] 37)).heap.size) 116 #[nI (i2.head), nI (i2.tail)] :: qs) wS) 8 #[false, false, false, false, false, false, false, false] (by kernel_rfl) (by kernel_rfl) (by kernel_rfl) ?_
  refine any_many 5 [(0, some (nP ((w.alloc (.cells #[nI (i0.cap), nI (i0.closed), nI (i0.count), nI (i0.start), nI (i0.buf), nI (i0.th), nI (i0.tt), nI (i0.sh), nI (i0.st)] 37)).heap.size) 0)), (1, some (nI (i2.head))), (2, some (nP ((w.alloc (.cells #[nI (i0.cap), nI (i0.closed), nI (i0.count), nI (i0.start), nI (i0.buf), nI (i0.th), nI (i0.tt), nI (i0.sh), nI (i0.st)] 37)).heap.size) 1)), (3, some (nI (i2.tail))), (4, some (nP (w.heap.size) 5))] [3, 6, 15, 17, 18, 19] #[true, true, true, true, true, false, false, false] (by rfl) hF14 (by kernel_rfl) (by kernel_rfl) (by exact (And.intro (fun wS hw => by kernel_rfl) (And.intro (fun wS hw => hw.elim fun qs hw => run_loadV rfl rfl (run_loadS rfl rfl (hw.cell 0 rfl 0 rfl))) (And.intro (fun wS hw => by kernel_rfl) (And.intro (fun wS hw => hw.elim fun qs hw => run_loadV rfl rfl (run_loadS rfl rfl (hw.cell 0 rfl 1 rfl))) (And.intro (fun wS hw => by kernel_rfl) trivial)))))) (fun _ _ _ _ _ h => h) ⟨_, hS48⟩ (l' := [(18, nP (w.heap.size) 5), (17, nI (i2.tail)), (15, nI (i2.head)), (6, nP (((w.alloc (.cells #[nI (i0.cap), nI (i0.closed), nI (i0.count), nI (i0.start), nI (i0.buf), nI (i0.th), nI (i0.tt), nI (i0.sh), nI (i0.st)] 37)).alloc (.cells #[nI (i2.head), nI (i2.tail)] 116)).heap.size) 0), (3, nP (w.heap.size) 0)]) (by kernel_rfl) ?_
  intro a50 hF49; clear hF14
  refine any_one 5 (by kernel_rfl) ?_
  have hS51 := hS48.pick2
  clear hS48
  refine op_store 5 #[true, true, true, true, true, true, false, false] (nI (i2.head)) #[nI (i0.cap), nI (i0.closed), nI (i0.count), nI (i0.start), nI (i0.buf), nI (i2.head), nI (i0.tt), nI (i0.sh), nI (i0.st)] hF49 rfl (by kernel_rfl) rfl rfl rfl rfl (by kernel_rfl) hS51 (by kernel_rfl) (by kernel_rfl) (by kernel_rfl) (l' := [(18, nP (w.heap.size) 5), (17, nI (i2.tail)), (15, nI (i2.head)), (6, nP (((w.alloc (.cells #[nI (i0.cap), nI (i0.closed), nI (i0.count), nI (i0.start), nI (i0.buf), nI (i0.th), nI (i0.tt), nI (i0.sh), nI (i0.st)] 37)).alloc (.cells #[nI (i2.head), nI (i2.tail)] 116)).heap.size) 0), (3, nP (w.heap.size) 0)]) (by kernel_rfl) (by kernel_rfl) ?_
  intro w52 a53 hS54 hF55; clear hF49 hS51
  refine ⟨⟨_, hS54.pick1⟩, ?_⟩
  refine any_many 1 [(6, some (nP (w.heap.size) 6))] [3, 6, 17, 19] #[true, true, true, true, true, true, true, false] (by rfl) hF55 (by kernel_rfl) (by kernel_rfl) (by exact (And.intro (fun wS hw => by kernel_rfl) trivial)) (fun _ _ _ _ _ h => h) ⟨_, hS54.pick1⟩ (l' := [(19, nP (w.heap.size) 6), (17, nI (i2.tail)), (6, nP (((w.alloc (.cells #[nI (i0.cap), nI (i0.closed), nI (i0.count), nI (i0.start), nI (i0.buf), nI (i0.th), nI (i0.tt), nI (i0.sh), nI (i0.st)] 37)).alloc (.cells #[nI (i2.head), nI (i2.tail)] 116)).heap.size) 0), (3, nP (w.heap.size) 0)]) (by kernel_rfl) ?_
  intro a57 hF56; clear hF55
  refine any_one 7 (by kernel_rfl) ?_
  refine op_store 7 #[true, true, true, true, true, true, true, true] (nI (i2.tail)) #[nI (i0.cap), nI (i0.closed), nI (i0.count), nI (i0.start), nI (i0.buf), nI (i2.head), nI (i2.tail), nI (i0.sh), nI (i0.st)] hF56 rfl (by kernel_rfl) rfl rfl rfl rfl (by kernel_rfl) hS54 (by kernel_rfl) (by kernel_rfl) (by kernel_rfl) (l' := [(19, nP (w.heap.size) 6), (17, nI (i2.tail)), (6, nP (((w.alloc (.cells #[nI (i0.cap), nI (i0.closed), nI (i0.count), nI (i0.start), nI (i0.buf), nI (i0.th), nI (i0.tt), nI (i0.sh), nI (i0.st)] 37)).alloc (.cells #[nI (i2.head), nI (i2.tail)] 116)).heap.size) 0), (3, nP (w.heap.size) 0)]) (by kernel_rfl) (by kernel_rfl) ?_
  intro w58 a59 hS60 hF61; clear hF56 hS54
  refine ⟨⟨_, hS60.pick1⟩, ?_⟩
  refine any_done (by kernel_rfl) ?_
  have hF62 := hF61.keep [3, 6]
  clear hF61
  have hS63 := hS60.pick1.drop
  clear hS60
  refine thenN (wp_seq (wp_region_lit ?_))
  refine ev_one (.agg #[nI (i0.cap), nI (i0.closed), nI (i0.count), nI (i0.start), nI (i0.buf), nI (i2.head), nI (i2.tail), nI (i0.sh), nI (i0.st)]) w58 hF62 (by kernel_rfl) rfl (by kernel_rfl) (run_loadV rfl rfl (run_loadA (cs := [nI (i0.cap), nI (i0.closed), nI (i0.count), nI (i0.start), nI (i0.buf), nI (i2.head), nI (i2.tail), nI (i0.sh), nI (i0.st)]) rfl rfl (by kernel_rfl) (blk_cells hS63 0 rfl rfl))) (l' := [(20, .agg #[nI (i0.cap), nI (i0.closed), nI (i0.count), nI (i0.start), nI (i0.buf), nI (i2.head), nI (i2.tail), nI (i0.sh), nI (i0.st)]), (6, nP (((w.alloc (.cells #[nI (i0.cap), nI (i0.closed), nI (i0.count), nI (i0.start), nI (i0.buf), nI (i0.th), nI (i0.tt), nI (i0.sh), nI (i0.st)] 37)).alloc (.cells #[nI (i2.head), nI (i2.tail)] 116)).heap.size) 0), (3, nP (w.heap.size) 0)]) (by kernel_rfl) ?_
  intro a65 hF64; clear hF62
  have hS66 := hS63.pick1
  clear hS63
  refine ev_store (.agg #[nI (i0.cap), nI (i0.closed), nI (i0.count), nI (i0.start), nI (i0.buf), nI (i2.head), nI (i2.tail), nI (i0.sh), nI (i0.st)]) #[nI (i0.cap), nI (i0.closed), nI (i0.count), nI (i0.start), nI (i0.buf), nI (i2.head), nI (i2.tail), nI (i0.sh), nI (i0.st)] hF64 (by kernel_rfl) rfl rfl rfl rfl (by kernel_rfl) hS66 (by kernel_rfl) (by kernel_rfl) (by kernel_rfl) (l' := [(20, .agg #[nI (i0.cap), nI (i0.closed), nI (i0.count), nI (i0.start), nI (i0.buf), nI (i2.head), nI (i2.tail), nI (i0.sh), nI (i0.st)]), (6, nP (((w.alloc (.cells #[nI (i0.cap), nI (i0.closed), nI (i0.count), nI (i0.start), nI (i0.buf), nI (i0.th), nI (i0.tt), nI (i0.sh), nI (i0.st)] 37)).alloc (.cells #[nI (i2.head), nI (i2.tail)] 116)).heap.size) 0), (3, nP (w.heap.size) 0)]) (by kernel_rfl) ?_
  intro w67 a68 hS69 hF70; clear hF64 hS66
  refine wpList_nil ?_
  have hF71 := hF70.keep [6]
  clear hF70
  have hS72 := hS69.pick1.drop
  clear hS69
  refine thenN ?_
  refine wp_ret ?_
  obtain rfl := Option.some.inj hm46
  refine ev_retC hF71 _ [.agg #[nI (i0.cap), nI (i0.closed), nI (i0.count), nI (i0.start), nI (i0.buf), nI (i2.head), nI (i2.tail), nI (i0.sh), nI (i0.st)]] (.agg #[nI (i0.cap), nI (i0.closed), nI (i0.count), nI (i0.start), nI (i0.buf), nI (i2.head), nI (i2.tail), nI (i0.sh), nI (i0.st)]) rfl ⟨⟨rfl, _, rfl, (run_loadA (cs := [nI (i0.cap), nI (i0.closed), nI (i0.count), nI (i0.start), nI (i0.buf), nI (i2.head), nI (i2.tail), nI (i0.sh), nI (i0.st)]) rfl rfl (by kernel_rfl) (blk_cells hS72 0 rfl rfl))⟩, trivial⟩ rfl ?_
  have hS74 := hS72.drop
  clear hS72
  exact ⟨rfl, hS74⟩

def list_look.m (k : Nat) (s0 : HSt) (i1 : Int) : Option (Option Su × HSt) := bind2 (pSudog i1 s0) fun q5 x6 => (if (x6 != 0) then some (none, s0) else some ((some (⟨q5.gor, q5.chan, q5.value, q5.next, q5.to, q5.reg, q5.more⟩ : Su)), s0))
set_option maxRecDepth 100000 in
set_option maxHeartbeats 1500000 in
theorem list_look.ok {w0 w : World} {F0 : List Nat} {ps : List Piece} {k : Nat} {b0 ab0 : Nat} {s0 : HSt} {i1 : Int} {r0 : Option Su} {t0 : HSt} (hS : St w0 F0 (HeapP b0 ab0 s0 :: ps) w) (hm : list_look.m k s0 i1 = some (r0, t0)) :
    Calls Tryz.prog 76 #[nP b0 0, nI i1] w fun e w' => e = .returned (oSuV 54 r0) ∧ St w0 F0 (HeapP b0 ab0 t0 :: ps) w' := by
 refine ev_enterL 17 [nP b0 0, nI i1] Tryz.func76 rfl rfl (by simp) ?_
 intro a hF
 have hF0 : Fr 17 a [(0, nP b0 0), (1, nI i1)] := hF; clear hF
 unfold list_look.m at hm
 refine wp_seq (wp_region_lit ?_)
 refine ev_runK 1 hF0 [0, 1] (l' := [(0, nP b0 0), (1, nI i1)]) (w' := w) (by kernel_rfl) ?_
 intro a2 hF1; clear hF0
 refine wpList_nil (thenN (wp_seq (wp_region_lit ?_)))
 refine ev_runs 2 hF1 (l' := [(9, nI i1), (8, nP b0 0), (0, nP b0 0), (1, nI i1)]) (w' := w) (by kernel_rfl) ?_
 intro a4 hF3; clear hF1
 refine ev_call 29 #[nP b0 0, nI i1] hF3 rfl rfl (by kernel_rfl) rfl (by kernel_rfl) (fun w => by kernel_rfl) ?_
 obtain ⟨q5, x6, hx7, hm8⟩ := bind2E hm; clear hm
 refine (p_Sudog hS hx7).mono ?_
 rintro _ w9 ⟨rfl, hS11⟩ a10 hF12; clear hF3 hS
 refine ev_runs 4 hF12 (l' := [(5, nP (w9.heap.size) 0), (12, nI x6), (11, .agg #[nI (q5.gor), nI (q5.chan), nI (q5.value), nI (q5.next), nI (q5.to), nI (q5.reg), nI (q5.more)]), (7, .tuple #[.agg #[nI (q5.gor), nI (q5.chan), nI (q5.value), nI (q5.next), nI (q5.to), nI (q5.reg), nI (q5.more)], nI x6]), (10, .tuple #[.agg #[nI (q5.gor), nI (q5.chan), nI (q5.value), nI (q5.next), nI (q5.to), nI (q5.reg), nI (q5.more)], nI x6]), (9, nI i1), (8, nP b0 0), (0, nP b0 0), (1, nI i1)]) (w' := w9.alloc (.cells #[nI 0, nI 0, nI 0, nI 0, nI 0, nI 0, nI 0] 54)) (by kernel_rfl) ?_
 intro a14 hF13; clear hF12
 have hS16 : St w0 F0 (BlkP (w9.heap.size) 54 #[nI 0, nI 0, nI 0, nI 0, nI 0, nI 0, nI 0] :: HeapP b0 ab0 s0 :: ps) (w9.alloc (.cells #[nI 0, nI 0, nI 0, nI 0, nI 0, nI 0, nI 0] 54)) := St.new hS11 #[nI 0, nI 0, nI 0, nI 0, nI 0, nI 0, nI 0] 54
 clear hS11
 refine ev_store (.agg #[nI (q5.gor), nI (q5.chan), nI (q5.value), nI (q5.next), nI (q5.to), nI (q5.reg), nI (q5.more)]) #[nI (q5.gor), nI (q5.chan), nI (q5.value), nI (q5.next), nI (q5.to), nI (q5.reg), nI (q5.more)] hF13 (by kernel_rfl) rfl rfl rfl rfl (by kernel_rfl) hS16 (by kernel_rfl) (by kernel_rfl) (by kernel_rfl) (l' := [(5, nP (w9.heap.size) 0), (12, nI x6), (11, .agg #[nI (q5.gor), nI (q5.chan), nI (q5.value), nI (q5.next), nI (q5.to), nI (q5.reg), nI (q5.more)]), (7, .tuple #[.agg #[nI (q5.gor), nI (q5.chan), nI (q5.value), nI (q5.next), nI (q5.to), nI (q5.reg), nI (q5.more)], nI x6]), (10, .tuple #[.agg #[nI (q5.gor), nI (q5.chan), nI (q5.value), nI (q5.next), nI (q5.to), nI (q5.reg), nI (q5.more)], nI x6]), (9, nI i1), (8, nP b0 0), (0, nP b0 0), (1, nI i1)]) (by kernel_rfl) ?_
 intro w17 a18 hS19 hF20; clear hF13 hS16
 refine ev_runK 1 hF20 [5, 6] (l' := [(6, nI x6), (5, nP (w9.heap.size) 0)]) (w' := w17) (by kernel_rfl) ?_
 intro a22 hF21; clear hF20
 refine wpList_nil (thenN (wp_seq (wp_seq (wp_region_lit ?_))))
 refine ev_runK 2 hF21 [5, 14] (l' := [(14, .bool (x6 != 0)), (5, nP (w9.heap.size) 0)]) (w' := w17) (by kernel_rfl) ?_
 intro a24 hF23; clear hF21
 refine wpList_nil (thenN ?_)
 cases hc25 : (x6 != 0) with
 | true =>
  rw [hc25] at hF23
  rw [hc25] at hm8
  have hm26 := ifT hm8; clear hm8
  refine ev_condT hF23 rfl rfl ?_
  refine wp_seq (wp_region_lit ?_)
  refine ev_runK 1 hF23 [4] (l' := [(4, .nilIface)]) (w' := w17) (by kernel_rfl) ?_
  intro a28 hF27; clear hF23
  refine wpList_nil ?_
  have hS29 := hS19.drop
  clear hS19
  refine thenN ?_
  refine wp_ret ?_
  refine thenR ?_
  simp only [Option.some.injEq, Prod.mk.injEq] at hm26
  obtain ⟨rfl, rfl⟩ := hm26
  refine ev_ret hF27 [4] (.nilIface) rfl rfl rfl ?_
  exact ⟨rfl, hS29⟩
 | false =>
  rw [hc25] at hF23
  rw [hc25] at hm8
  have hm32 := ifF hm8; clear hm8
  refine ev_condF hF23 rfl rfl ?_
  refine wp_skip ?_
  have hF33 := hF23.keep [5]
  clear hF23
  refine thenN (wp_seq (wp_region_lit ?_))
  refine ev_one (.agg #[nI (q5.gor), nI (q5.chan), nI (q5.value), nI (q5.next), nI (q5.to), nI (q5.reg), nI (q5.more)]) w17 hF33 (by kernel_rfl) rfl (by kernel_rfl) (run_loadV rfl rfl (run_loadA (cs := [nI (q5.gor), nI (q5.chan), nI (q5.value), nI (q5.next), nI (q5.to), nI (q5.reg), nI (q5.more)]) rfl rfl (by kernel_rfl) (blk_cells hS19 0 rfl rfl))) (l' := [(15, .agg #[nI (q5.gor), nI (q5.chan), nI (q5.value), nI (q5.next), nI (q5.to), nI (q5.reg), nI (q5.more)]), (5, nP (w9.heap.size) 0)]) (by kernel_rfl) ?_
  intro a35 hF34; clear hF33
  refine ev_runK 2 hF34 [4] (l' := [(4, .iface 54 (.agg #[nI (q5.gor), nI (q5.chan), nI (q5.value), nI (q5.next), nI (q5.to), nI (q5.reg), nI (q5.more)]))]) (w' := w17) (by kernel_rfl) ?_
  intro a37 hF36; clear hF34
  refine wpList_nil ?_
  have hS38 := hS19.drop
  clear hS19
  refine thenN ?_
  refine wp_ret ?_
  simp only [Option.some.injEq, Prod.mk.injEq] at hm32
  obtain ⟨rfl, rfl⟩ := hm32
  refine ev_ret hF36 [4] (.iface 54 (.agg #[nI (q5.gor), nI (q5.chan), nI (q5.value), nI (q5.next), nI (q5.to), nI (q5.reg), nI (q5.more)])) rfl rfl rfl ?_
  exact ⟨rfl, hS38⟩

def list_follow.m (k : Nat) (s0 : HSt) (i1 : Int) (i2 : Int) : Option (HSt) := bind2 (list_look.m k s0 i1) fun o3 s4 => optE o3 (some (s4)) fun q27 => bind2 (pPutSudog i1 (⟨q27.gor, q27.chan, q27.value, i2, q27.to, q27.reg, q27.more⟩ : Su) s4) fun x53 s54 => some (s54)
set_option maxRecDepth 100000 in
set_option maxHeartbeats 1500000 in
theorem list_follow.ok {w0 w : World} {F0 : List Nat} {ps : List Piece} {k : Nat} {b0 ab0 : Nat} {s0 : HSt} {i1 : Int} {i2 : Int} {t0 : HSt} (hS : St w0 F0 (HeapP b0 ab0 s0 :: ps) w) (hm : list_follow.m k s0 i1 i2 = some t0) :
    Calls Tryz.prog 74 #[nP b0 0, nI i1, nI i2] w fun e w' => e = .returned (.tuple #[]) ∧ St w0 F0 (HeapP b0 ab0 t0 :: ps) w' := by
 refine ev_enterL 22 [nP b0 0, nI i1, nI i2] Tryz.func74 rfl rfl (by simp) ?_
 intro a hF
 have hF0 : Fr 22 a [(0, nP b0 0), (1, nI i1), (2, nI i2)] := hF; clear hF
 unfold list_follow.m at hm
 refine wp_seq (wp_region_lit ?_)
 refine ev_runs 2 hF0 (l' := [(10, nI i1), (9, nP b0 0), (0, nP b0 0), (1, nI i1), (2, nI i2)]) (w' := w) (by kernel_rfl) ?_
 intro a2 hF1; clear hF0
 refine ev_call 76 #[nP b0 0, nI i1] hF1 rfl rfl (by kernel_rfl) rfl (by kernel_rfl) (fun w => by kernel_rfl) ?_
 obtain ⟨o3, s4, hx5, hm6⟩ := bind2E hm; clear hm
 refine (list_look.ok hS hx5).mono ?_
 rintro _ w7 ⟨rfl, hS9⟩ a8 hF10; clear hF1 hS
 cases o3 with
 | none =>
  have hm11 := optN hm6; clear hm6
  refine ev_runs 5 hF10 (l' := [(6, nP (w7.heap.size) 0), (14, .bool false), (13, .agg #[nI 0, nI 0, nI 0, nI 0, nI 0, nI 0, nI 0]), (8, .tuple #[.agg #[nI 0, nI 0, nI 0, nI 0, nI 0, nI 0, nI 0], .bool false]), (12, .tuple #[.agg #[nI 0, nI 0, nI 0, nI 0, nI 0, nI 0, nI 0], .bool false]), (11, .nilIface), (10, nI i1), (9, nP b0 0), (0, nP b0 0), (1, nI i1), (2, nI i2)]) (w' := w7.alloc (.cells #[nI 0, nI 0, nI 0, nI 0, nI 0, nI 0, nI 0] 54)) (by kernel_rfl) ?_
  intro a13 hF12; clear hF10
  have hS15 : St w0 F0 (BlkP (w7.heap.size) 54 #[nI 0, nI 0, nI 0, nI 0, nI 0, nI 0, nI 0] :: HeapP b0 ab0 s4 :: ps) (w7.alloc (.cells #[nI 0, nI 0, nI 0, nI 0, nI 0, nI 0, nI 0] 54)) := St.new hS9 #[nI 0, nI 0, nI 0, nI 0, nI 0, nI 0, nI 0] 54
  clear hS9
  refine ev_store (.agg #[nI 0, nI 0, nI 0, nI 0, nI 0, nI 0, nI 0]) #[nI 0, nI 0, nI 0, nI 0, nI 0, nI 0, nI 0] hF12 (by kernel_rfl) rfl rfl rfl rfl (by kernel_rfl) hS15 (by kernel_rfl) (by kernel_rfl) (by kernel_rfl) (l' := [(6, nP (w7.heap.size) 0), (14, .bool false), (13, .agg #[nI 0, nI 0, nI 0, nI 0, nI 0, nI 0, nI 0]), (8, .tuple #[.agg #[nI 0, nI 0, nI 0, nI 0, nI 0, nI 0, nI 0], .bool false]), (12, .tuple #[.agg #[nI 0, nI 0, nI 0, nI 0, nI 0, nI 0, nI 0], .bool false]), (11, .nilIface), (10, nI i1), (9, nP b0 0), (0, nP b0 0), (1, nI i1), (2, nI i2)]) (by kernel_rfl) ?_
  intro w16 a17 hS18 hF19; clear hF12 hS15
  refine ev_runK 1 hF19 [0, 1, 2, 6, 7] (l' := [(7, .bool false), (6, nP (w7.heap.size) 0), (0, nP b0 0), (1, nI i1), (2, nI i2)]) (w' := w16) (by kernel_rfl) ?_
  intro a21 hF20; clear hF19
  refine wpList_nil (thenN (wp_seq (wp_region_lit ?_)))
  refine ev_runK 1 hF20 [0, 1, 2, 6, 15] (l' := [(15, .bool false), (6, nP (w7.heap.size) 0), (0, nP b0 0), (1, nI i1), (2, nI i2)]) (w' := w16) (by kernel_rfl) ?_
  intro a23 hF22; clear hF20
  refine wpList_nil (thenN ?_)
  refine ev_condF hF22 rfl rfl ?_
  refine wp_skip ?_
  have hF24 := hF22.keep []
  clear hF22
  have hS25 := hS18.drop
  clear hS18
  obtain rfl := Option.some.inj hm11
  refine ev_retN hF24 [] (.tuple #[]) rfl rfl rfl ?_
  exact ⟨rfl, hS25⟩
 | some q27 =>
  have hm28 := optS hm6; clear hm6
  refine ev_runs 5 hF10 (l' := [(6, nP (w7.heap.size) 0), (14, .bool true), (13, .agg #[nI (q27.gor), nI (q27.chan), nI (q27.value), nI (q27.next), nI (q27.to), nI (q27.reg), nI (q27.more)]), (8, .tuple #[.agg #[nI (q27.gor), nI (q27.chan), nI (q27.value), nI (q27.next), nI (q27.to), nI (q27.reg), nI (q27.more)], .bool true]), (12, .tuple #[.agg #[nI (q27.gor), nI (q27.chan), nI (q27.value), nI (q27.next), nI (q27.to), nI (q27.reg), nI (q27.more)], .bool true]), (11, .iface 54 (.agg #[nI (q27.gor), nI (q27.chan), nI (q27.value), nI (q27.next), nI (q27.to), nI (q27.reg), nI (q27.more)])), (10, nI i1), (9, nP b0 0), (0, nP b0 0), (1, nI i1), (2, nI i2)]) (w' := w7.alloc (.cells #[nI 0, nI 0, nI 0, nI 0, nI 0, nI 0, nI 0] 54)) (by kernel_rfl) ?_
  intro a30 hF29; clear hF10
  have hS32 : St w0 F0 (BlkP (w7.heap.size) 54 #[nI 0, nI 0, nI 0, nI 0, nI 0, nI 0, nI 0] :: HeapP b0 ab0 s4 :: ps) (w7.alloc (.cells #[nI 0, nI 0, nI 0, nI 0, nI 0, nI 0, nI 0] 54)) := St.new hS9 #[nI 0, nI 0, nI 0, nI 0, nI 0, nI 0, nI 0] 54
  clear hS9
  refine ev_store (.agg #[nI (q27.gor), nI (q27.chan), nI (q27.value), nI (q27.next), nI (q27.to), nI (q27.reg), nI (q27.more)]) #[nI (q27.gor), nI (q27.chan), nI (q27.value), nI (q27.next), nI (q27.to), nI (q27.reg), nI (q27.more)] hF29 (by kernel_rfl) rfl rfl rfl rfl (by kernel_rfl) hS32 (by kernel_rfl) (by kernel_rfl) (by kernel_rfl) (l' := [(6, nP (w7.heap.size) 0), (14, .bool true), (13, .agg #[nI (q27.gor), nI (q27.chan), nI (q27.value), nI (q27.next), nI (q27.to), nI (q27.reg), nI (q27.more)]), (8, .tuple #[.agg #[nI (q27.gor), nI (q27.chan), nI (q27.value), nI (q27.next), nI (q27.to), nI (q27.reg), nI (q27.more)], .bool true]), (12, .tuple #[.agg #[nI (q27.gor), nI (q27.chan), nI (q27.value), nI (q27.next), nI (q27.to), nI (q27.reg), nI (q27.more)], .bool true]), (11, .iface 54 (.agg #[nI (q27.gor), nI (q27.chan), nI (q27.value), nI (q27.next), nI (q27.to), nI (q27.reg), nI (q27.more)])), (10, nI i1), (9, nP b0 0), (0, nP b0 0), (1, nI i1), (2, nI i2)]) (by kernel_rfl) ?_
  intro w33 a34 hS35 hF36; clear hF29 hS32
  refine ev_runK 1 hF36 [0, 1, 2, 6, 7] (l' := [(7, .bool true), (6, nP (w7.heap.size) 0), (0, nP b0 0), (1, nI i1), (2, nI i2)]) (w' := w33) (by kernel_rfl) ?_
  intro a38 hF37; clear hF36
  refine wpList_nil (thenN (wp_seq (wp_region_lit ?_)))
  refine ev_runK 1 hF37 [0, 1, 2, 6, 15] (l' := [(15, .bool true), (6, nP (w7.heap.size) 0), (0, nP b0 0), (1, nI i1), (2, nI i2)]) (w' := w33) (by kernel_rfl) ?_
  intro a40 hF39; clear hF37
  refine wpList_nil (thenN ?_)
  refine ev_condT hF39 rfl rfl ?_
  refine wp_seq (wp_region_lit ?_)
  refine ev_runs 2 hF39 (l' := [(17, nP (w7.heap.size) 3), (16, nI i2), (15, .bool true), (6, nP (w7.heap.size) 0), (0, nP b0 0), (1, nI i1), (2, nI i2)]) (w' := w33) (by kernel_rfl) ?_
  intro a42 hF41; clear hF39
  refine ev_store (nI i2) #[nI (q27.gor), nI (q27.chan), nI (q27.value), nI i2, nI (q27.to), nI (q27.reg), nI (q27.more)] hF41 (by kernel_rfl) rfl rfl rfl rfl (by kernel_rfl) hS35 (by kernel_rfl) (by kernel_rfl) (by kernel_rfl) (l' := [(17, nP (w7.heap.size) 3), (16, nI i2), (15, .bool true), (6, nP (w7.heap.size) 0), (0, nP b0 0), (1, nI i1), (2, nI i2)]) (by kernel_rfl) ?_
  intro w43 a44 hS45 hF46; clear hF41 hS35
  refine wpList_nil ?_
  have hF47 := hF46.keep [0, 1, 6]
  clear hF46
  refine thenN (wp_region_lit ?_)
  refine ev_runs 2 hF47 (l' := [(19, nI i1), (18, nP b0 0), (6, nP (w7.heap.size) 0), (0, nP b0 0), (1, nI i1)]) (w' := w43) (by kernel_rfl) ?_
  intro a49 hF48; clear hF47
  refine ev_one (.agg #[nI (q27.gor), nI (q27.chan), nI (q27.value), nI i2, nI (q27.to), nI (q27.reg), nI (q27.more)]) w43 hF48 (by kernel_rfl) rfl (by kernel_rfl) (run_loadV rfl rfl (run_loadA (cs := [nI (q27.gor), nI (q27.chan), nI (q27.value), nI i2, nI (q27.to), nI (q27.reg), nI (q27.more)]) rfl rfl (by kernel_rfl) (blk_cells hS45 0 rfl rfl))) (l' := [(20, .agg #[nI (q27.gor), nI (q27.chan), nI (q27.value), nI i2, nI (q27.to), nI (q27.reg), nI (q27.more)]), (19, nI i1), (18, nP b0 0), (6, nP (w7.heap.size) 0), (0, nP b0 0), (1, nI i1)]) (by kernel_rfl) ?_
  intro a51 hF50; clear hF48
  have hS52 := hS45.pick1
  clear hS45
  refine ev_call 40 #[nP b0 0, nI i1, .agg #[nI (q27.gor), nI (q27.chan), nI (q27.value), nI i2, nI (q27.to), nI (q27.reg), nI (q27.more)]] hF50 rfl rfl (by kernel_rfl) rfl (by kernel_rfl) (fun w => by kernel_rfl) ?_
  obtain ⟨x53, s54, hx55, hm56⟩ := bind2E hm28; clear hm28
  refine (p_PutSudog hS52 hx55).mono ?_
  rintro _ w57 ⟨rfl, hS59⟩ a58 hF60; clear hF50 hS52
  refine wpList_nil ?_
  have hF61 := hF60.keep []
  clear hF60
  have hS62 := hS59.pick1.drop
  clear hS59
  obtain rfl := Option.some.inj hm56
  refine ev_retN hF61 [] (.tuple #[]) rfl rfl rfl ?_
  exact ⟨rfl, hS62⟩

def list_All.l1b (k : Nat) (rec64 : List Int → HSt → Int → Option (List Int × HSt)) (L58 : List Int) (s60 : HSt) (x61 : Int) : Option (List Int × HSt) := bind1 (slices_Contains.m k L58 x61) fun y75 => (if (!(y75)) then bind2 (list_look.m k s60 x61) fun o90 s91 => optE o90 (some (L58, s91)) fun q116 => bind1 (pushM L58 x61) fun L134 => rec64 L134 s91 q116.next else some (L58, s60))
def list_All.l1 (k : Nat) : Nat → List Int → HSt → Int → Option (List Int × HSt)
  | 0 => fun _ _ _ => none
  | kI + 1 => list_All.l1b k (list_All.l1 k kI)
def list_All.m (k : Nat) (s0 : HSt) (i1 : Int) (i2 : Bool) : Option (List Int × HSt) := bind2 (pChan i1 s0) fun q8 x9 => (if (x9 != 0) then some ([], s0) else bind1 (list_of.m k (⟨q8.cap, q8.closed, q8.count, q8.start, q8.buf, q8.th, q8.tt, q8.sh, q8.st⟩ : Ch) (i2)) fun q48 => list_All.l1 k k [] s0 q48.head)
set_option maxRecDepth 100000 in
set_option maxHeartbeats 1500000 in
theorem list_All.ok {w0 w : World} {F0 : List Nat} {ps : List Piece} {k : Nat} {b0 ab0 : Nat} {s0 : HSt} {i1 : Int} {i2 : Bool} {r0 : List Int} {t0 : HSt} (hS : St w0 F0 (HeapP b0 ab0 s0 :: ps) w) (hm : list_All.m k s0 i1 i2 = some (r0, t0)) :
    Calls Tryz.prog 33 #[nP b0 0, nI i1, .bool (i2)] w fun e w' => ∃ vr0, e = .returned (vr0) ∧ St w0 F0 (HeapP b0 ab0 t0 :: RowP vr0 r0 :: ps) w' := by
 refine ev_enterL 45 [nP b0 0, nI i1, .bool (i2)] Tryz.func33 rfl rfl (by simp) ?_
 intro a hF
 have hF0 : Fr 45 a [(0, nP b0 0), (1, nI i1), (2, .bool (i2))] := hF; clear hF
 unfold list_All.m at hm
 refine wp_seq (wp_region_lit ?_)
 have hS2 : St w0 F0 (RowP (.slice none 0 0) [] :: HeapP b0 ab0 s0 :: ps) w := St.nil hS
 refine ev_runK 1 hF0 [0, 1, 2] (l' := [(0, nP b0 0), (1, nI i1), (2, .bool (i2))]) (w' := w) (by kernel_rfl) ?_
 intro a4 hF3; clear hF0
 refine wpList_nil ?_
 have hS5 := hS2.drop
 clear hS2
 refine thenN (wp_seq (wp_region_lit ?_))
 refine ev_runs 2 hF3 (l' := [(15, nI i1), (14, nP b0 0), (0, nP b0 0), (1, nI i1), (2, .bool (i2))]) (w' := w) (by kernel_rfl) ?_
 intro a7 hF6; clear hF3
 refine ev_call 18 #[nP b0 0, nI i1] hF6 rfl rfl (by kernel_rfl) rfl (by kernel_rfl) (fun w => by kernel_rfl) ?_
 obtain ⟨q8, x9, hx10, hm11⟩ := bind2E hm; clear hm
 refine (p_Chan hS5 hx10).mono ?_
 rintro _ w12 ⟨rfl, hS14⟩ a13 hF15; clear hF6 hS5
 refine ev_runs 4 hF15 (l' := [(7, nP (w12.heap.size) 0), (18, nI x9), (17, .agg #[nI (q8.cap), nI (q8.closed), nI (q8.count), nI (q8.start), nI (q8.buf), nI (q8.th), nI (q8.tt), nI (q8.sh), nI (q8.st)]), (13, .tuple #[.agg #[nI (q8.cap), nI (q8.closed), nI (q8.count), nI (q8.start), nI (q8.buf), nI (q8.th), nI (q8.tt), nI (q8.sh), nI (q8.st)], nI x9]), (16, .tuple #[.agg #[nI (q8.cap), nI (q8.closed), nI (q8.count), nI (q8.start), nI (q8.buf), nI (q8.th), nI (q8.tt), nI (q8.sh), nI (q8.st)], nI x9]), (15, nI i1), (14, nP b0 0), (0, nP b0 0), (1, nI i1), (2, .bool (i2))]) (w' := w12.alloc (.cells #[nI 0, nI 0, nI 0, nI 0, nI 0, nI 0, nI 0, nI 0, nI 0] 37)) (by kernel_rfl) ?_
 intro a17 hF16; clear hF15
 have hS19 : St w0 F0 (BlkP (w12.heap.size) 37 #[nI 0, nI 0, nI 0, nI 0, nI 0, nI 0, nI 0, nI 0, nI 0] :: HeapP b0 ab0 s0 :: ps) (w12.alloc (.cells #[nI 0, nI 0, nI 0, nI 0, nI 0, nI 0, nI 0, nI 0, nI 0] 37)) := St.new hS14 #[nI 0, nI 0, nI 0, nI 0, nI 0, nI 0, nI 0, nI 0, nI 0] 37
 clear hS14
 refine ev_store (.agg #[nI (q8.cap), nI (q8.closed), nI (q8.count), nI (q8.start), nI (q8.buf), nI (q8.th), nI (q8.tt), nI (q8.sh), nI (q8.st)]) #[nI (q8.cap), nI (q8.closed), nI (q8.count), nI (q8.start), nI (q8.buf), nI (q8.th), nI (q8.tt), nI (q8.sh), nI (q8.st)] hF16 (by kernel_rfl) rfl rfl rfl rfl (by kernel_rfl) hS19 (by kernel_rfl) (by kernel_rfl) (by kernel_rfl) (l' := [(7, nP (w12.heap.size) 0), (18, nI x9), (17, .agg #[nI (q8.cap), nI (q8.closed), nI (q8.count), nI (q8.start), nI (q8.buf), nI (q8.th), nI (q8.tt), nI (q8.sh), nI (q8.st)]), (13, .tuple #[.agg #[nI (q8.cap), nI (q8.closed), nI (q8.count), nI (q8.start), nI (q8.buf), nI (q8.th), nI (q8.tt), nI (q8.sh), nI (q8.st)], nI x9]), (16, .tuple #[.agg #[nI (q8.cap), nI (q8.closed), nI (q8.count), nI (q8.start), nI (q8.buf), nI (q8.th), nI (q8.tt), nI (q8.sh), nI (q8.st)], nI x9]), (15, nI i1), (14, nP b0 0), (0, nP b0 0), (1, nI i1), (2, .bool (i2))]) (by kernel_rfl) ?_
 intro w20 a21 hS22 hF23; clear hF16 hS19
 refine ev_runK 1 hF23 [0, 2, 7, 8] (l' := [(8, nI x9), (7, nP (w12.heap.size) 0), (0, nP b0 0), (2, .bool (i2))]) (w' := w20) (by kernel_rfl) ?_
 intro a25 hF24; clear hF23
 refine wpList_nil (thenN (wp_seq (wp_seq (wp_region_lit ?_))))
 refine ev_runK 2 hF24 [0, 2, 7, 20] (l' := [(20, .bool (x9 != 0)), (7, nP (w12.heap.size) 0), (0, nP b0 0), (2, .bool (i2))]) (w' := w20) (by kernel_rfl) ?_
 intro a27 hF26; clear hF24
 refine wpList_nil (thenN ?_)
 cases hc28 : (x9 != 0) with
 | true =>
  rw [hc28] at hF26
  rw [hc28] at hm11
  have hm29 := ifT hm11; clear hm11
  refine ev_condT hF26 rfl rfl ?_
  refine wp_seq (wp_region_lit ?_)
  have hS31 : St w0 F0 (RowP (.slice none 0 0) [] :: BlkP (w12.heap.size) 37 #[nI (q8.cap), nI (q8.closed), nI (q8.count), nI (q8.start), nI (q8.buf), nI (q8.th), nI (q8.tt), nI (q8.sh), nI (q8.st)] :: HeapP b0 ab0 s0 :: ps) w20 := St.nil hS22
  clear hS22
  refine ev_runK 1 hF26 [6] (l' := [(6, .slice none 0 0)]) (w' := w20) (by kernel_rfl) ?_
  intro a33 hF32; clear hF26
  refine wpList_nil ?_
  have hS34 := hS31.pick1.drop
  clear hS31
  refine thenN ?_
  refine wp_ret ?_
  refine thenR ?_
  have hS35 := hS34.pick1
  clear hS34
  simp only [Option.some.injEq, Prod.mk.injEq] at hm29
  obtain ⟨rfl, rfl⟩ := hm29
  refine ev_ret hF32 [6] (.slice none 0 0) rfl rfl rfl ?_
  exact ⟨_, rfl, hS35⟩
 | false =>
  rw [hc28] at hF26
  rw [hc28] at hm11
  have hm38 := ifF hm11; clear hm11
  refine ev_condF hF26 rfl rfl ?_
  refine wp_skip ?_
  have hF39 := hF26.keep [0, 2, 7]
  clear hF26
  refine thenN (wp_seq (wp_region_lit ?_))
  have hS41 : St w0 F0 (RowP (.slice none 0 0) [] :: BlkP (w12.heap.size) 37 #[nI (q8.cap), nI (q8.closed), nI (q8.count), nI (q8.start), nI (q8.buf), nI (q8.th), nI (q8.tt), nI (q8.sh), nI (q8.st)] :: HeapP b0 ab0 s0 :: ps) w20 := St.nil hS22
  clear hS22
  refine ev_runs 1 hF39 (l' := [(9, .slice none 0 0), (7, nP (w12.heap.size) 0), (0, nP b0 0), (2, .bool (i2))]) (w' := w20) (by kernel_rfl) ?_
  intro a43 hF42; clear hF39
  refine wpList_nil (thenN (wp_seq (wp_seq (wp_region_lit ?_))))
  refine ev_one (.agg #[nI (q8.cap), nI (q8.closed), nI (q8.count), nI (q8.start), nI (q8.buf), nI (q8.th), nI (q8.tt), nI (q8.sh), nI (q8.st)]) w20 hF42 (by kernel_rfl) rfl (by kernel_rfl) (run_loadV rfl rfl (run_loadA (cs := [nI (q8.cap), nI (q8.closed), nI (q8.count), nI (q8.start), nI (q8.buf), nI (q8.th), nI (q8.tt), nI (q8.sh), nI (q8.st)]) rfl rfl (by kernel_rfl) (blk_cells hS41 1 rfl rfl))) (l' := [(21, .agg #[nI (q8.cap), nI (q8.closed), nI (q8.count), nI (q8.start), nI (q8.buf), nI (q8.th), nI (q8.tt), nI (q8.sh), nI (q8.st)]), (9, .slice none 0 0), (7, nP (w12.heap.size) 0), (0, nP b0 0), (2, .bool (i2))]) (by kernel_rfl) ?_
  intro a45 hF44; clear hF42
  refine ev_runs 1 hF44 (l' := [(22, .bool (i2)), (21, .agg #[nI (q8.cap), nI (q8.closed), nI (q8.count), nI (q8.start), nI (q8.buf), nI (q8.th), nI (q8.tt), nI (q8.sh), nI (q8.st)]), (9, .slice none 0 0), (7, nP (w12.heap.size) 0), (0, nP b0 0), (2, .bool (i2))]) (w' := w20) (by kernel_rfl) ?_
  intro a47 hF46; clear hF44
  refine ev_call 73 #[.agg #[nI (q8.cap), nI (q8.closed), nI (q8.count), nI (q8.start), nI (q8.buf), nI (q8.th), nI (q8.tt), nI (q8.sh), nI (q8.st)], .bool (i2)] hF46 rfl rfl (by kernel_rfl) rfl (by kernel_rfl) (fun w => by kernel_rfl) ?_
  obtain ⟨q48, hx49, hm50⟩ := bind1E hm38; clear hm38
  refine (list_of.ok hS41 hx49).mono ?_
  rintro _ w51 ⟨rfl, hS53⟩ a52 hF54; clear hF46 hS41
  refine ev_runK 2 hF54 [0, 9, 10] (l' := [(10, nI (q48.head)), (9, .slice none 0 0), (0, nP b0 0)]) (w' := w51) (by kernel_rfl) ?_
  intro a56 hF55; clear hF54
  refine wpList_nil ?_
  have hS57 := hS53.pick1.drop
  clear hS53
  refine thenN ?_
  refine wp_block ?_
  refine wp_loop_ghost (fun kI aI wI => ∃ (v59 : Value) (L58 : List Int) (s60 : HSt) (x61 : Int), Fr 45 aI [(10, nI x61), (9, v59), (0, nP b0 0)] ∧ St w0 F0 (RowP (v59) L58 :: HeapP b0 ab0 s60 :: ps) wI ∧ list_All.l1 k kI L58 s60 x61 = some (r0, t0)) k ⟨.slice none 0 0, [], s0, q48.head, hF55, hS57, hm50⟩ ?_
  rintro k62 a63 w64 ⟨v59, L58, s60, x61, hF65, hS66, hm67⟩
  clear hF55 hS57 hm50
  cases k62 with
  | zero => cases hm67
  | succ k62 =>
   have hm68 : list_All.l1b k (list_All.l1 k k62) L58 s60 x61 = some (r0, t0) := hm67
   clear hm67
   unfold list_All.l1b at hm68
   obtain ⟨hl72, p69, c70, rfl, hp71⟩ := St.shape hS66 0 rfl
   refine wp_seq (wp_seq (wp_region_lit ?_))
   refine ev_runs 2 hF65 (l' := [(26, nI x61), (25, .slice p69 L58.length c70), (10, nI x61), (9, .slice p69 L58.length c70), (0, nP b0 0)]) (w' := w64) (by kernel_rfl) ?_
   intro a74 hF73; clear hF65
   refine ev_call 78 #[.slice p69 L58.length c70, nI x61] hF73 rfl rfl (by kernel_rfl) rfl (by kernel_rfl) (fun w => by kernel_rfl) ?_
   obtain ⟨y75, hx76, hm77⟩ := bind1E hm68; clear hm68
   refine (slices_Contains.ok hS66 hx76).mono ?_
   rintro _ w78 ⟨rfl, hS80⟩ a79 hF81; clear hF73 hS66
   refine ev_runK 1 hF81 [0, 9, 10, 28] (l' := [(28, .bool (!(y75))), (10, nI x61), (9, .slice p69 L58.length c70), (0, nP b0 0)]) (w' := w78) (by kernel_rfl) ?_
   intro a83 hF82; clear hF81
   refine wpList_nil (thenN ?_)
   cases hc84 : (!(y75)) with
   | true =>
    rw [hc84] at hF82
    rw [hc84] at hm77
    have hm85 := ifT hm77; clear hm77
    refine ev_condT hF82 rfl rfl ?_
    refine wp_skip ?_
    have hF86 := hF82.keep [0, 9, 10]
    clear hF82
    refine thenN ?_
    refine wp_block ?_
    refine wp_seq (wp_region_lit ?_)
    refine ev_runs 2 hF86 (l' := [(31, nI x61), (30, nP b0 0), (10, nI x61), (9, .slice p69 L58.length c70), (0, nP b0 0)]) (w' := w78) (by kernel_rfl) ?_
    intro a88 hF87; clear hF86
    have hS89 := hS80.pick1
    clear hS80
    refine ev_call 76 #[nP b0 0, nI x61] hF87 rfl rfl (by kernel_rfl) rfl (by kernel_rfl) (fun w => by kernel_rfl) ?_
    obtain ⟨o90, s91, hx92, hm93⟩ := bind2E hm85; clear hm85
    refine (list_look.ok hS89 hx92).mono ?_
    rintro _ w94 ⟨rfl, hS96⟩ a95 hF97; clear hF87 hS89
    cases o90 with
    | none =>
     have hm98 := optN hm93; clear hm93
     refine ev_runs 5 hF97 (l' := [(11, nP (w94.heap.size) 0), (35, .bool false), (34, .agg #[nI 0, nI 0, nI 0, nI 0, nI 0, nI 0, nI 0]), (29, .tuple #[.agg #[nI 0, nI 0, nI 0, nI 0, nI 0, nI 0, nI 0], .bool false]), (33, .tuple #[.agg #[nI 0, nI 0, nI 0, nI 0, nI 0, nI 0, nI 0], .bool false]), (32, .nilIface), (31, nI x61), (30, nP b0 0), (10, nI x61), (9, .slice p69 L58.length c70), (0, nP b0 0)]) (w' := w94.alloc (.cells #[nI 0, nI 0, nI 0, nI 0, nI 0, nI 0, nI 0] 54)) (by kernel_rfl) ?_
     intro a100 hF99; clear hF97
     have hS102 : St w0 F0 (BlkP (w94.heap.size) 54 #[nI 0, nI 0, nI 0, nI 0, nI 0, nI 0, nI 0] :: HeapP b0 ab0 s91 :: RowP (.slice p69 L58.length c70) L58 :: ps) (w94.alloc (.cells #[nI 0, nI 0, nI 0, nI 0, nI 0, nI 0, nI 0] 54)) := St.new hS96 #[nI 0, nI 0, nI 0, nI 0, nI 0, nI 0, nI 0] 54
     clear hS96
     refine ev_store (.agg #[nI 0, nI 0, nI 0, nI 0, nI 0, nI 0, nI 0]) #[nI 0, nI 0, nI 0, nI 0, nI 0, nI 0, nI 0] hF99 (by kernel_rfl) rfl rfl rfl rfl (by kernel_rfl) hS102 (by kernel_rfl) (by kernel_rfl) (by kernel_rfl) (l' := [(11, nP (w94.heap.size) 0), (35, .bool false), (34, .agg #[nI 0, nI 0, nI 0, nI 0, nI 0, nI 0, nI 0]), (29, .tuple #[.agg #[nI 0, nI 0, nI 0, nI 0, nI 0, nI 0, nI 0], .bool false]), (33, .tuple #[.agg #[nI 0, nI 0, nI 0, nI 0, nI 0, nI 0, nI 0], .bool false]), (32, .nilIface), (31, nI x61), (30, nP b0 0), (10, nI x61), (9, .slice p69 L58.length c70), (0, nP b0 0)]) (by kernel_rfl) ?_
     intro w103 a104 hS105 hF106; clear hF99 hS102
     refine ev_runK 1 hF106 [0, 9, 10, 11, 12] (l' := [(12, .bool false), (11, nP (w94.heap.size) 0), (10, nI x61), (9, .slice p69 L58.length c70), (0, nP b0 0)]) (w' := w103) (by kernel_rfl) ?_
     intro a108 hF107; clear hF106
     refine wpList_nil (thenN (wp_seq (wp_seq (wp_region_lit ?_))))
     refine ev_runK 2 hF107 [0, 9, 10, 11, 37] (l' := [(37, .bool true), (11, nP (w94.heap.size) 0), (10, nI x61), (9, .slice p69 L58.length c70), (0, nP b0 0)]) (w' := w103) (by kernel_rfl) ?_
     intro a110 hF109; clear hF107
     refine wpList_nil (thenN ?_)
     refine ev_condT hF109 rfl rfl ?_
     refine wp_exit ?_
     refine thenE ?_
     refine blockX (by decide) ?_
     refine thenE ?_
     refine blockE ?_
     refine thenN (wp_seq (wp_region_lit ?_))
     refine ev_runK 2 hF109 [6] (l' := [(6, .slice p69 L58.length c70)]) (w' := w103) (by kernel_rfl) ?_
     intro a112 hF111; clear hF109
     refine wpList_nil ?_
     have hS113 := hS105.drop
     clear hS105
     refine thenN ?_
     refine wp_ret ?_
     simp only [Option.some.injEq, Prod.mk.injEq] at hm98
     obtain ⟨rfl, rfl⟩ := hm98
     refine ev_ret hF111 [6] (.slice p69 L58.length c70) rfl rfl rfl ?_
     exact ⟨_, rfl, hS113⟩
    | some q116 =>
     have hm117 := optS hm93; clear hm93
     refine ev_runs 5 hF97 (l' := [(11, nP (w94.heap.size) 0), (35, .bool true), (34, .agg #[nI (q116.gor), nI (q116.chan), nI (q116.value), nI (q116.next), nI (q116.to), nI (q116.reg), nI (q116.more)]), (29, .tuple #[.agg #[nI (q116.gor), nI (q116.chan), nI (q116.value), nI (q116.next), nI (q116.to), nI (q116.reg), nI (q116.more)], .bool true]), (33, .tuple #[.agg #[nI (q116.gor), nI (q116.chan), nI (q116.value), nI (q116.next), nI (q116.to), nI (q116.reg), nI (q116.more)], .bool true]), (32, .iface 54 (.agg #[nI (q116.gor), nI (q116.chan), nI (q116.value), nI (q116.next), nI (q116.to), nI (q116.reg), nI (q116.more)])), (31, nI x61), (30, nP b0 0), (10, nI x61), (9, .slice p69 L58.length c70), (0, nP b0 0)]) (w' := w94.alloc (.cells #[nI 0, nI 0, nI 0, nI 0, nI 0, nI 0, nI 0] 54)) (by kernel_rfl) ?_
     intro a119 hF118; clear hF97
     have hS121 : St w0 F0 (BlkP (w94.heap.size) 54 #[nI 0, nI 0, nI 0, nI 0, nI 0, nI 0, nI 0] :: HeapP b0 ab0 s91 :: RowP (.slice p69 L58.length c70) L58 :: ps) (w94.alloc (.cells #[nI 0, nI 0, nI 0, nI 0, nI 0, nI 0, nI 0] 54)) := St.new hS96 #[nI 0, nI 0, nI 0, nI 0, nI 0, nI 0, nI 0] 54
     clear hS96
     refine ev_store (.agg #[nI (q116.gor), nI (q116.chan), nI (q116.value), nI (q116.next), nI (q116.to), nI (q116.reg), nI (q116.more)]) #[nI (q116.gor), nI (q116.chan), nI (q116.value), nI (q116.next), nI (q116.to), nI (q116.reg), nI (q116.more)] hF118 (by kernel_rfl) rfl rfl rfl rfl (by kernel_rfl) hS121 (by kernel_rfl) (by kernel_rfl) (by kernel_rfl) (l' := [(11, nP (w94.heap.size) 0), (35, .bool true), (34, .agg #[nI (q116.gor), nI (q116.chan), nI (q116.value), nI (q116.next), nI (q116.to), nI (q116.reg), nI (q116.more)]), (29, .tuple #[.agg #[nI (q116.gor), nI (q116.chan), nI (q116.value), nI (q116.next), nI (q116.to), nI (q116.reg), nI (q116.more)], .bool true]), (33, .tuple #[.agg #[nI (q116.gor), nI (q116.chan), nI (q116.value), nI (q116.next), nI (q116.to), nI (q116.reg), nI (q116.more)], .bool true]), (32, .iface 54 (.agg #[nI (q116.gor), nI (q116.chan), nI (q116.value), nI (q116.next), nI (q116.to), nI (q116.reg), nI (q116.more)])), (31, nI x61), (30, nP b0 0), (10, nI x61), (9, .slice p69 L58.length c70), (0, nP b0 0)]) (by kernel_rfl) ?_
     intro w122 a123 hS124 hF125; clear hF118 hS121
     refine ev_runK 1 hF125 [0, 9, 10, 11, 12] (l' := [(12, .bool true), (11, nP (w94.heap.size) 0), (10, nI x61), (9, .slice p69 L58.length c70), (0, nP b0 0)]) (w' := w122) (by kernel_rfl) ?_
     intro a127 hF126; clear hF125
     refine wpList_nil (thenN (wp_seq (wp_seq (wp_region_lit ?_))))
     refine ev_runK 2 hF126 [0, 9, 10, 11, 37] (l' := [(37, .bool false), (11, nP (w94.heap.size) 0), (10, nI x61), (9, .slice p69 L58.length c70), (0, nP b0 0)]) (w' := w122) (by kernel_rfl) ?_
     intro a129 hF128; clear hF126
     refine wpList_nil (thenN ?_)
     refine ev_condF hF128 rfl rfl ?_
     refine wp_skip ?_
     have hF130 := hF128.keep [0, 9, 10, 11]
     clear hF128
     refine thenN (wp_seq (wp_region_lit ?_))
     refine ev_runs 3 hF130 (l' := [(40, .slice (some ⟨w122.heap.size, 0, none⟩) 1 1), (39, nI x61), (38, .slice p69 L58.length c70), (11, nP (w94.heap.size) 0), (10, nI x61), (9, .slice p69 L58.length c70), (0, nP b0 0)]) (w' := w122.alloc (.cells #[nI x61] 3)) (by kernel_rfl) ?_
     intro a132 hF131; clear hF130
     have hS133 := hS124.pick2
     clear hS124
     obtain ⟨L134, hx135, hm136⟩ := bind1E hm117; clear hm117
     refine ev_push 41 (.tmp 38) (.tmp 40) hF131 rfl rfl rfl rfl rfl rfl rfl rfl hS133 hx135 ?_
     intro g137 c138 w139 a140 hS141 hF142; clear hF131 hS133
     refine ev_runK 1 hF142 [0, 9, 11] (l' := [(9, .slice (some ⟨g137, 0, none⟩) L134.length c138), (11, nP (w94.heap.size) 0), (0, nP b0 0)]) (w' := w139) (by kernel_rfl) ?_
     intro a144 hF143; clear hF142
     refine wpList_nil (thenN (wp_region_lit ?_))
     refine ev_runs 1 hF143 (l' := [(42, nP (w94.heap.size) 3), (9, .slice (some ⟨g137, 0, none⟩) L134.length c138), (11, nP (w94.heap.size) 0), (0, nP b0 0)]) (w' := w139) (by kernel_rfl) ?_
     intro a146 hF145; clear hF143
     refine ev_one (nI (q116.next)) w139 hF145 (by kernel_rfl) rfl (by kernel_rfl) (run_loadV rfl rfl (run_loadS rfl rfl (hS141.cell 1 rfl 3 rfl))) (l' := [(43, nI (q116.next)), (42, nP (w94.heap.size) 3), (9, .slice (some ⟨g137, 0, none⟩) L134.length c138), (11, nP (w94.heap.size) 0), (0, nP b0 0)]) (by kernel_rfl) ?_
     intro a148 hF147; clear hF145
     refine ev_runK 1 hF147 [0, 9, 10] (l' := [(10, nI (q116.next)), (9, .slice (some ⟨g137, 0, none⟩) L134.length c138), (0, nP b0 0)]) (w' := w139) (by kernel_rfl) ?_
     intro a150 hF149; clear hF147
     refine wpList_nil ?_
     have hS151 := hS141.pick1.drop
     clear hS141
     refine blockN ?_
     exact thenN ⟨k62, Nat.lt_succ_self _, .slice (some ⟨g137, 0, none⟩) L134.length c138, L134, s91, q116.next, hF149, hS151, hm136⟩
   | false =>
    rw [hc84] at hF82
    rw [hc84] at hm77
    have hm152 := ifF hm77; clear hm77
    refine ev_condF hF82 rfl rfl ?_
    refine wp_exit ?_
    refine thenE ?_
    refine thenE ?_
    refine blockE ?_
    refine thenN (wp_seq (wp_region_lit ?_))
    refine ev_runK 2 hF82 [6] (l' := [(6, .slice p69 L58.length c70)]) (w' := w78) (by kernel_rfl) ?_
    intro a154 hF153; clear hF82
    refine wpList_nil (thenN ?_)
    refine wp_ret ?_
    have hS155 := hS80.pick1
    clear hS80
    simp only [Option.some.injEq, Prod.mk.injEq] at hm152
    obtain ⟨rfl, rfl⟩ := hm152
    refine ev_ret hF153 [6] (.slice p69 L58.length c70) rfl rfl rfl ?_
    exact ⟨_, rfl, hS155⟩

def list_Push.m (k : Nat) (s0 : HSt) (i1 : Int) (i2 : Bool) (i3 : Int) : Option (Int × HSt) := bind2 (pChan i1 s0) fun q5 x6 => (if (x6 != 0) then some (x6, s0) else bind2 (pSudog i3 s0) fun q37 x38 => (if (x38 != 0) then some (x38, s0) else bind1 (list_of.m k (⟨q5.cap, q5.closed, q5.count, q5.start, q5.buf, q5.th, q5.tt, q5.sh, q5.st⟩ : Ch) (i2)) fun q62 => bind2 (list_All.m k s0 i1 (i2)) fun L81 s82 => (if (decide ((L81.length : Int) > 0)) then (if (inR (IntKind.i64.wrap ((L81.length : Int) - 1)) L81.length) then bind1 (list_follow.m k s82 (atI L81 (IntKind.i64.wrap ((L81.length : Int) - 1))) i3) fun s112 => bind1 (list_follow.m k s112 i3 (-1)) fun s132 => bind1 (list_into.m k (⟨q5.cap, q5.closed, q5.count, q5.start, q5.buf, q5.th, q5.tt, q5.sh, q5.st⟩ : Ch) (i2) (⟨q62.head, i3⟩ : En)) fun q148 => bind2 (pPutChan i1 (⟨q148.cap, q148.closed, q148.count, q148.start, q148.buf, q148.th, q148.tt, q148.sh, q148.st⟩ : Ch) s132) fun x155 s156 => some (x155, s156) else none) else bind1 (list_follow.m k s82 i3 (-1)) fun s188 => bind1 (list_into.m k (⟨q5.cap, q5.closed, q5.count, q5.start, q5.buf, q5.th, q5.tt, q5.sh, q5.st⟩ : Ch) (i2) (⟨i3, i3⟩ : En)) fun q204 => bind2 (pPutChan i1 (⟨q204.cap, q204.closed, q204.count, q204.start, q204.buf, q204.th, q204.tt, q204.sh, q204.st⟩ : Ch) s188) fun x211 s212 => some (x211, s212))))
set_option maxRecDepth 100000 in
set_option maxHeartbeats 1500000 in
theorem list_Push.ok {w0 w : World} {F0 : List Nat} {ps : List Piece} {k : Nat} {b0 ab0 : Nat} {s0 : HSt} {i1 : Int} {i2 : Bool} {i3 : Int} {r0 : Int} {t0 : HSt} (hS : St w0 F0 (HeapP b0 ab0 s0 :: ps) w) (hm : list_Push.m k s0 i1 i2 i3 = some (r0, t0)) :
    Calls Tryz.prog 28 #[nP b0 0, nI i1, .bool (i2), nI i3] w fun e w' => e = .returned (.int .i64 r0) ∧ St w0 F0 (HeapP b0 ab0 t0 :: ps) w' := by
 refine ev_enterL 64 [nP b0 0, nI i1, .bool (i2), nI i3] Tryz.func28 rfl rfl (by simp) ?_
 intro a hF
 have hF0 : Fr 64 a [(0, nP b0 0), (1, nI i1), (2, .bool (i2)), (3, nI i3)] := hF; clear hF
 unfold list_Push.m at hm
 refine wp_seq (wp_region_lit ?_)
 refine ev_runK 1 hF0 [0, 1, 2, 3] (l' := [(0, nP b0 0), (1, nI i1), (2, .bool (i2)), (3, nI i3)]) (w' := w) (by kernel_rfl) ?_
 intro a2 hF1; clear hF0
 refine wpList_nil (thenN (wp_seq (wp_region_lit ?_)))
 refine ev_runs 2 hF1 (l' := [(15, nI i1), (14, nP b0 0), (0, nP b0 0), (1, nI i1), (2, .bool (i2)), (3, nI i3)]) (w' := w) (by kernel_rfl) ?_
 intro a4 hF3; clear hF1
 refine ev_call 18 #[nP b0 0, nI i1] hF3 rfl rfl (by kernel_rfl) rfl (by kernel_rfl) (fun w => by kernel_rfl) ?_
 obtain ⟨q5, x6, hx7, hm8⟩ := bind2E hm; clear hm
 refine (p_Chan hS hx7).mono ?_
 rintro _ w9 ⟨rfl, hS11⟩ a10 hF12; clear hF3 hS
 refine ev_runs 4 hF12 (l' := [(9, nP (w9.heap.size) 0), (18, nI x6), (17, .agg #[nI (q5.cap), nI (q5.closed), nI (q5.count), nI (q5.start), nI (q5.buf), nI (q5.th), nI (q5.tt), nI (q5.sh), nI (q5.st)]), (13, .tuple #[.agg #[nI (q5.cap), nI (q5.closed), nI (q5.count), nI (q5.start), nI (q5.buf), nI (q5.th), nI (q5.tt), nI (q5.sh), nI (q5.st)], nI x6]), (16, .tuple #[.agg #[nI (q5.cap), nI (q5.closed), nI (q5.count), nI (q5.start), nI (q5.buf), nI (q5.th), nI (q5.tt), nI (q5.sh), nI (q5.st)], nI x6]), (15, nI i1), (14, nP b0 0), (0, nP b0 0), (1, nI i1), (2, .bool (i2)), (3, nI i3)]) (w' := w9.alloc (.cells #[nI 0, nI 0, nI 0, nI 0, nI 0, nI 0, nI 0, nI 0, nI 0] 37)) (by kernel_rfl) ?_
 intro a14 hF13; clear hF12
 have hS16 : St w0 F0 (BlkP (w9.heap.size) 37 #[nI 0, nI 0, nI 0, nI 0, nI 0, nI 0, nI 0, nI 0, nI 0] :: HeapP b0 ab0 s0 :: ps) (w9.alloc (.cells #[nI 0, nI 0, nI 0, nI 0, nI 0, nI 0, nI 0, nI 0, nI 0] 37)) := St.new hS11 #[nI 0, nI 0, nI 0, nI 0, nI 0, nI 0, nI 0, nI 0, nI 0] 37
 clear hS11
 refine ev_store (.agg #[nI (q5.cap), nI (q5.closed), nI (q5.count), nI (q5.start), nI (q5.buf), nI (q5.th), nI (q5.tt), nI (q5.sh), nI (q5.st)]) #[nI (q5.cap), nI (q5.closed), nI (q5.count), nI (q5.start), nI (q5.buf), nI (q5.th), nI (q5.tt), nI (q5.sh), nI (q5.st)] hF13 (by kernel_rfl) rfl rfl rfl rfl (by kernel_rfl) hS16 (by kernel_rfl) (by kernel_rfl) (by kernel_rfl) (l' := [(9, nP (w9.heap.size) 0), (18, nI x6), (17, .agg #[nI (q5.cap), nI (q5.closed), nI (q5.count), nI (q5.start), nI (q5.buf), nI (q5.th), nI (q5.tt), nI (q5.sh), nI (q5.st)]), (13, .tuple #[.agg #[nI (q5.cap), nI (q5.closed), nI (q5.count), nI (q5.start), nI (q5.buf), nI (q5.th), nI (q5.tt), nI (q5.sh), nI (q5.st)], nI x6]), (16, .tuple #[.agg #[nI (q5.cap), nI (q5.closed), nI (q5.count), nI (q5.start), nI (q5.buf), nI (q5.th), nI (q5.tt), nI (q5.sh), nI (q5.st)], nI x6]), (15, nI i1), (14, nP b0 0), (0, nP b0 0), (1, nI i1), (2, .bool (i2)), (3, nI i3)]) (by kernel_rfl) ?_
 intro w17 a18 hS19 hF20; clear hF13 hS16
 refine ev_runK 1 hF20 [0, 1, 2, 3, 9, 10] (l' := [(10, nI x6), (9, nP (w9.heap.size) 0), (0, nP b0 0), (1, nI i1), (2, .bool (i2)), (3, nI i3)]) (w' := w17) (by kernel_rfl) ?_
 intro a22 hF21; clear hF20
 refine wpList_nil (thenN (wp_seq (wp_seq (wp_region_lit ?_))))
 refine ev_runK 2 hF21 [0, 1, 2, 3, 9, 10, 20] (l' := [(20, .bool (x6 != 0)), (10, nI x6), (9, nP (w9.heap.size) 0), (0, nP b0 0), (1, nI i1), (2, .bool (i2)), (3, nI i3)]) (w' := w17) (by kernel_rfl) ?_
 intro a24 hF23; clear hF21
 refine wpList_nil (thenN ?_)
 cases hc25 : (x6 != 0) with
 | true =>
  rw [hc25] at hF23
  rw [hc25] at hm8
  have hm26 := ifT hm8; clear hm8
  refine ev_condT hF23 rfl rfl ?_
  refine wp_seq (wp_region_lit ?_)
  refine ev_runK 2 hF23 [8] (l' := [(8, nI x6)]) (w' := w17) (by kernel_rfl) ?_
  intro a28 hF27; clear hF23
  refine wpList_nil ?_
  have hS29 := hS19.drop
  clear hS19
  refine thenN ?_
  refine wp_ret ?_
  refine thenR ?_
  simp only [Option.some.injEq, Prod.mk.injEq] at hm26
  obtain ⟨rfl, rfl⟩ := hm26
  refine ev_ret hF27 [8] (nI x6) rfl rfl rfl ?_
  exact ⟨rfl, hS29⟩
 | false =>
  rw [hc25] at hF23
  rw [hc25] at hm8
  have hm32 := ifF hm8; clear hm8
  refine ev_condF hF23 rfl rfl ?_
  refine wp_skip ?_
  have hF33 := hF23.keep [0, 1, 2, 3, 9]
  clear hF23
  refine thenN (wp_seq (wp_seq (wp_region_lit ?_)))
  refine ev_runs 2 hF33 (l' := [(24, nI i3), (23, nP b0 0), (9, nP (w9.heap.size) 0), (0, nP b0 0), (1, nI i1), (2, .bool (i2)), (3, nI i3)]) (w' := w17) (by kernel_rfl) ?_
  intro a35 hF34; clear hF33
  have hS36 := hS19.pick1
  clear hS19
  refine ev_call 29 #[nP b0 0, nI i3] hF34 rfl rfl (by kernel_rfl) rfl (by kernel_rfl) (fun w => by kernel_rfl) ?_
  obtain ⟨q37, x38, hx39, hm40⟩ := bind2E hm32; clear hm32
  refine (p_Sudog hS36 hx39).mono ?_
  rintro _ w41 ⟨rfl, hS43⟩ a42 hF44; clear hF34 hS36
  refine ev_runK 4 hF44 [0, 1, 2, 3, 9, 10] (l' := [(10, nI x38), (9, nP (w9.heap.size) 0), (0, nP b0 0), (1, nI i1), (2, .bool (i2)), (3, nI i3)]) (w' := w41) (by kernel_rfl) ?_
  intro a46 hF45; clear hF44
  refine wpList_nil (thenN (wp_seq (wp_region_lit ?_)))
  refine ev_runK 2 hF45 [0, 1, 2, 3, 9, 10, 29] (l' := [(29, .bool (x38 != 0)), (10, nI x38), (9, nP (w9.heap.size) 0), (0, nP b0 0), (1, nI i1), (2, .bool (i2)), (3, nI i3)]) (w' := w41) (by kernel_rfl) ?_
  intro a48 hF47; clear hF45
  refine wpList_nil (thenN ?_)
  cases hc49 : (x38 != 0) with
  | true =>
   rw [hc49] at hF47
   rw [hc49] at hm40
   have hm50 := ifT hm40; clear hm40
   refine ev_condT hF47 rfl rfl ?_
   refine wp_seq (wp_region_lit ?_)
   refine ev_runK 2 hF47 [8] (l' := [(8, nI x38)]) (w' := w41) (by kernel_rfl) ?_
   intro a52 hF51; clear hF47
   refine wpList_nil ?_
   have hS53 := hS43.pick1.drop
   clear hS43
   refine thenN ?_
   refine wp_ret ?_
   refine thenR ?_
   simp only [Option.some.injEq, Prod.mk.injEq] at hm50
   obtain ⟨rfl, rfl⟩ := hm50
   refine ev_ret hF51 [8] (nI x38) rfl rfl rfl ?_
   exact ⟨rfl, hS53⟩
  | false =>
   rw [hc49] at hF47
   rw [hc49] at hm40
   have hm56 := ifF hm40; clear hm40
   refine ev_condF hF47 rfl rfl ?_
   refine wp_skip ?_
   have hF57 := hF47.keep [0, 1, 2, 3, 9]
   clear hF47
   refine thenN (wp_seq (wp_region_lit ?_))
   refine ev_one (.agg #[nI (q5.cap), nI (q5.closed), nI (q5.count), nI (q5.start), nI (q5.buf), nI (q5.th), nI (q5.tt), nI (q5.sh), nI (q5.st)]) w41 hF57 (by kernel_rfl) rfl (by kernel_rfl) (run_loadV rfl rfl (run_loadA (cs := [nI (q5.cap), nI (q5.closed), nI (q5.count), nI (q5.start), nI (q5.buf), nI (q5.th), nI (q5.tt), nI (q5.sh), nI (q5.st)]) rfl rfl (by kernel_rfl) (blk_cells hS43 1 rfl rfl))) (l' := [(31, .agg #[nI (q5.cap), nI (q5.closed), nI (q5.count), nI (q5.start), nI (q5.buf), nI (q5.th), nI (q5.tt), nI (q5.sh), nI (q5.st)]), (9, nP (w9.heap.size) 0), (0, nP b0 0), (1, nI i1), (2, .bool (i2)), (3, nI i3)]) (by kernel_rfl) ?_
   intro a59 hF58; clear hF57
   refine ev_runs 1 hF58 (l' := [(32, .bool (i2)), (31, .agg #[nI (q5.cap), nI (q5.closed), nI (q5.count), nI (q5.start), nI (q5.buf), nI (q5.th), nI (q5.tt), nI (q5.sh), nI (q5.st)]), (9, nP (w9.heap.size) 0), (0, nP b0 0), (1, nI i1), (2, .bool (i2)), (3, nI i3)]) (w' := w41) (by kernel_rfl) ?_
   intro a61 hF60; clear hF58
   refine ev_call 73 #[.agg #[nI (q5.cap), nI (q5.closed), nI (q5.count), nI (q5.start), nI (q5.buf), nI (q5.th), nI (q5.tt), nI (q5.sh), nI (q5.st)], .bool (i2)] hF60 rfl rfl (by kernel_rfl) rfl (by kernel_rfl) (fun w => by kernel_rfl) ?_
   obtain ⟨q62, hx63, hm64⟩ := bind1E hm56; clear hm56
   refine (list_of.ok hS43 hx63).mono ?_
   rintro _ w65 ⟨rfl, hS67⟩ a66 hF68; clear hF60 hS43
   refine ev_runs 1 hF68 (l' := [(11, nP (w65.heap.size) 0), (33, .agg #[nI (q62.head), nI (q62.tail)]), (32, .bool (i2)), (31, .agg #[nI (q5.cap), nI (q5.closed), nI (q5.count), nI (q5.start), nI (q5.buf), nI (q5.th), nI (q5.tt), nI (q5.sh), nI (q5.st)]), (9, nP (w9.heap.size) 0), (0, nP b0 0), (1, nI i1), (2, .bool (i2)), (3, nI i3)]) (w' := w65.alloc (.cells #[nI 0, nI 0] 116)) (by kernel_rfl) ?_
   intro a70 hF69; clear hF68
   have hS72 : St w0 F0 (BlkP (w65.heap.size) 116 #[nI 0, nI 0] :: HeapP b0 ab0 s0 :: BlkP (w9.heap.size) 37 #[nI (q5.cap), nI (q5.closed), nI (q5.count), nI (q5.start), nI (q5.buf), nI (q5.th), nI (q5.tt), nI (q5.sh), nI (q5.st)] :: ps) (w65.alloc (.cells #[nI 0, nI 0] 116)) := St.new hS67 #[nI 0, nI 0] 116
   clear hS67
   refine ev_store (.agg #[nI (q62.head), nI (q62.tail)]) #[nI (q62.head), nI (q62.tail)] hF69 (by kernel_rfl) rfl rfl rfl rfl (by kernel_rfl) hS72 (by kernel_rfl) (by kernel_rfl) (by kernel_rfl) (l' := [(11, nP (w65.heap.size) 0), (33, .agg #[nI (q62.head), nI (q62.tail)]), (32, .bool (i2)), (31, .agg #[nI (q5.cap), nI (q5.closed), nI (q5.count), nI (q5.start), nI (q5.buf), nI (q5.th), nI (q5.tt), nI (q5.sh), nI (q5.st)]), (9, nP (w9.heap.size) 0), (0, nP b0 0), (1, nI i1), (2, .bool (i2)), (3, nI i3)]) (by kernel_rfl) ?_
   intro w73 a74 hS75 hF76; clear hF69 hS72
   refine wpList_nil ?_
   have hF77 := hF76.keep [0, 1, 2, 3, 9, 11]
   clear hF76
   refine thenN (wp_seq (wp_seq (wp_region_lit ?_)))
   refine ev_runs 3 hF77 (l' := [(36, .bool (i2)), (35, nI i1), (34, nP b0 0), (11, nP (w65.heap.size) 0), (9, nP (w9.heap.size) 0), (0, nP b0 0), (1, nI i1), (2, .bool (i2)), (3, nI i3)]) (w' := w73) (by kernel_rfl) ?_
   intro a79 hF78; clear hF77
   have hS80 := hS75.pick1
   clear hS75
   refine ev_call 33 #[nP b0 0, nI i1, .bool (i2)] hF78 rfl rfl (by kernel_rfl) rfl (by kernel_rfl) (fun w => by kernel_rfl) ?_
   obtain ⟨L81, s82, hx83, hm84⟩ := bind2E hm64; clear hm64
   refine (list_All.ok hS80 hx83).mono ?_
   rintro _ w85 ⟨z89, rfl, hS87⟩ a86 hF88; clear hF78 hS80
   obtain ⟨hl94, p91, c92, rfl, hp93⟩ := St.shape hS87 1 rfl
   refine ev_runK 1 hF88 [0, 1, 2, 3, 9, 11, 12] (l' := [(12, .slice p91 L81.length c92), (11, nP (w65.heap.size) 0), (9, nP (w9.heap.size) 0), (0, nP b0 0), (1, nI i1), (2, .bool (i2)), (3, nI i3)]) (w' := w85) (by kernel_rfl) ?_
   intro a96 hF95; clear hF88
   refine wpList_nil (thenN (wp_seq (wp_region_lit ?_)))
   refine ev_runK 3 hF95 [0, 1, 2, 3, 9, 11, 12, 40] (l' := [(40, .bool (decide ((L81.length : Int) > 0))), (12, .slice p91 L81.length c92), (11, nP (w65.heap.size) 0), (9, nP (w9.heap.size) 0), (0, nP b0 0), (1, nI i1), (2, .bool (i2)), (3, nI i3)]) (w' := w85) (by kernel_rfl) ?_
   intro a98 hF97; clear hF95
   refine wpList_nil (thenN ?_)
   cases hc99 : (decide ((L81.length : Int) > 0)) with
   | true =>
    rw [hc99] at hF97
    rw [hc99] at hm84
    have hm100 := ifT hm84; clear hm84
    refine ev_condT hF97 rfl rfl ?_
    refine wp_region_lit ?_
    refine ev_runs 5 hF97 (l' := [(45, nI (IntKind.i64.wrap ((L81.length : Int) - 1))), (44, nI ((L81.length : Int))), (43, .slice p91 L81.length c92), (42, .slice p91 L81.length c92), (41, nP b0 0), (40, .bool true), (12, .slice p91 L81.length c92), (11, nP (w65.heap.size) 0), (9, nP (w9.heap.size) 0), (0, nP b0 0), (1, nI i1), (2, .bool (i2)), (3, nI i3)]) (w' := w85) (by kernel_rfl) ?_
    intro a102 hF101; clear hF97
    obtain ⟨hc103, hm104⟩ := ifTE hm100; clear hm100
    obtain ⟨g105, rfl⟩ := hp93.resolve_left (by have := inR_spec hc103; omega)
    refine ev_one (nP g105 ((IntKind.i64.wrap ((L81.length : Int) - 1)).toNat)) w85 hF101 (by kernel_rfl) rfl (by kernel_rfl) (run_idx rfl rfl rfl rfl rfl (inR_spec hc103).1 (inR_spec hc103).2 _) (l' := [(46, nP g105 ((IntKind.i64.wrap ((L81.length : Int) - 1)).toNat)), (45, nI (IntKind.i64.wrap ((L81.length : Int) - 1))), (44, nI ((L81.length : Int))), (43, .slice (some ⟨g105, 0, none⟩) L81.length c92), (42, .slice (some ⟨g105, 0, none⟩) L81.length c92), (41, nP b0 0), (40, .bool true), (12, .slice (some ⟨g105, 0, none⟩) L81.length c92), (11, nP (w65.heap.size) 0), (9, nP (w9.heap.size) 0), (0, nP b0 0), (1, nI i1), (2, .bool (i2)), (3, nI i3)]) (by kernel_rfl) ?_
    intro a107 hF106; clear hF101
    refine ev_one (nI (atI L81 (IntKind.i64.wrap ((L81.length : Int) - 1)))) w85 hF106 (by kernel_rfl) rfl (by kernel_rfl) (run_load1 rfl rfl rfl (hS87.atI 1 rfl hc103)) (l' := [(47, nI (atI L81 (IntKind.i64.wrap ((L81.length : Int) - 1)))), (46, nP g105 ((IntKind.i64.wrap ((L81.length : Int) - 1)).toNat)), (45, nI (IntKind.i64.wrap ((L81.length : Int) - 1))), (44, nI ((L81.length : Int))), (43, .slice (some ⟨g105, 0, none⟩) L81.length c92), (42, .slice (some ⟨g105, 0, none⟩) L81.length c92), (41, nP b0 0), (40, .bool true), (12, .slice (some ⟨g105, 0, none⟩) L81.length c92), (11, nP (w65.heap.size) 0), (9, nP (w9.heap.size) 0), (0, nP b0 0), (1, nI i1), (2, .bool (i2)), (3, nI i3)]) (by kernel_rfl) ?_
    intro a109 hF108; clear hF106
    refine ev_runs 1 hF108 (l' := [(48, nI i3), (47, nI (atI L81 (IntKind.i64.wrap ((L81.length : Int) - 1)))), (46, nP g105 ((IntKind.i64.wrap ((L81.length : Int) - 1)).toNat)), (45, nI (IntKind.i64.wrap ((L81.length : Int) - 1))), (44, nI ((L81.length : Int))), (43, .slice (some ⟨g105, 0, none⟩) L81.length c92), (42, .slice (some ⟨g105, 0, none⟩) L81.length c92), (41, nP b0 0), (40, .bool true), (12, .slice (some ⟨g105, 0, none⟩) L81.length c92), (11, nP (w65.heap.size) 0), (9, nP (w9.heap.size) 0), (0, nP b0 0), (1, nI i1), (2, .bool (i2)), (3, nI i3)]) (w' := w85) (by kernel_rfl) ?_
    intro a111 hF110; clear hF108
    refine ev_call 74 #[nP b0 0, nI (atI L81 (IntKind.i64.wrap ((L81.length : Int) - 1))), nI i3] hF110 rfl rfl (by kernel_rfl) rfl (by kernel_rfl) (fun w => by kernel_rfl) ?_
    obtain ⟨s112, hx113, hm114⟩ := bind1E hm104; clear hm104
    refine (list_follow.ok hS87 hx113).mono ?_
    rintro _ w115 ⟨rfl, hS117⟩ a116 hF118; clear hF110 hS87
    refine wpList_nil ?_
    have hF119 := hF118.keep [0, 1, 2, 3, 9, 11]
    clear hF118
    have hS120 := hS117.pick1.drop
    clear hS117
    refine thenN (wp_seq (wp_region_lit ?_))
    refine ev_runs 2 hF119 (l' := [(53, nP (w65.heap.size) 1), (52, nI i3), (11, nP (w65.heap.size) 0), (9, nP (w9.heap.size) 0), (0, nP b0 0), (1, nI i1), (2, .bool (i2)), (3, nI i3)]) (w' := w115) (by kernel_rfl) ?_
    intro a122 hF121; clear hF119
    have hS123 := hS120.pick1
    clear hS120
    refine ev_store (nI i3) #[nI (q62.head), nI i3] hF121 (by kernel_rfl) rfl rfl rfl rfl (by kernel_rfl) hS123 (by kernel_rfl) (by kernel_rfl) (by kernel_rfl) (l' := [(53, nP (w65.heap.size) 1), (52, nI i3), (11, nP (w65.heap.size) 0), (9, nP (w9.heap.size) 0), (0, nP b0 0), (1, nI i1), (2, .bool (i2)), (3, nI i3)]) (by kernel_rfl) ?_
    intro w124 a125 hS126 hF127; clear hF121 hS123
    refine wpList_nil ?_
    have hF128 := hF127.keep [0, 1, 2, 3, 9, 11]
    clear hF127
    refine thenN (wp_seq (wp_region_lit ?_))
    refine ev_runs 2 hF128 (l' := [(55, nI i3), (54, nP b0 0), (11, nP (w65.heap.size) 0), (9, nP (w9.heap.size) 0), (0, nP b0 0), (1, nI i1), (2, .bool (i2)), (3, nI i3)]) (w' := w124) (by kernel_rfl) ?_
    intro a130 hF129; clear hF128
    have hS131 := hS126.pick1
    clear hS126
    refine ev_call 74 #[nP b0 0, nI i3, nI (-1)] hF129 rfl rfl (by kernel_rfl) rfl (by kernel_rfl) (fun w => by kernel_rfl) ?_
    obtain ⟨s132, hx133, hm134⟩ := bind1E hm114; clear hm114
    refine (list_follow.ok hS131 hx133).mono ?_
    rintro _ w135 ⟨rfl, hS137⟩ a136 hF138; clear hF129 hS131
    refine wpList_nil ?_
    have hF139 := hF138.keep [0, 1, 2, 9, 11]
    clear hF138
    refine thenN (wp_seq (wp_region_lit ?_))
    refine ev_runs 2 hF139 (l' := [(58, nI i1), (57, nP b0 0), (11, nP (w65.heap.size) 0), (9, nP (w9.heap.size) 0), (0, nP b0 0), (1, nI i1), (2, .bool (i2))]) (w' := w135) (by kernel_rfl) ?_
    intro a141 hF140; clear hF139
    refine ev_one (.agg #[nI (q5.cap), nI (q5.closed), nI (q5.count), nI (q5.start), nI (q5.buf), nI (q5.th), nI (q5.tt), nI (q5.sh), nI (q5.st)]) w135 hF140 (by kernel_rfl) rfl (by kernel_rfl) (run_loadV rfl rfl (run_loadA (cs := [nI (q5.cap), nI (q5.closed), nI (q5.count), nI (q5.start), nI (q5.buf), nI (q5.th), nI (q5.tt), nI (q5.sh), nI (q5.st)]) rfl rfl (by kernel_rfl) (blk_cells hS137 2 rfl rfl))) (l' := [(59, .agg #[nI (q5.cap), nI (q5.closed), nI (q5.count), nI (q5.start), nI (q5.buf), nI (q5.th), nI (q5.tt), nI (q5.sh), nI (q5.st)]), (58, nI i1), (57, nP b0 0), (11, nP (w65.heap.size) 0), (9, nP (w9.heap.size) 0), (0, nP b0 0), (1, nI i1), (2, .bool (i2))]) (by kernel_rfl) ?_
    intro a143 hF142; clear hF140
    refine ev_runs 1 hF142 (l' := [(60, .bool (i2)), (59, .agg #[nI (q5.cap), nI (q5.closed), nI (q5.count), nI (q5.start), nI (q5.buf), nI (q5.th), nI (q5.tt), nI (q5.sh), nI (q5.st)]), (58, nI i1), (57, nP b0 0), (11, nP (w65.heap.size) 0), (9, nP (w9.heap.size) 0), (0, nP b0 0), (1, nI i1), (2, .bool (i2))]) (w' := w135) (by kernel_rfl) ?_
    intro a145 hF144; clear hF142
    refine ev_one (.agg #[nI (q62.head), nI i3]) w135 hF144 (by kernel_rfl) rfl (by kernel_rfl) (run_loadV rfl rfl (run_loadA (cs := [nI (q62.head), nI i3]) rfl rfl (by kernel_rfl) (blk_cells hS137 1 rfl rfl))) (l' := [(61, .agg #[nI (q62.head), nI i3]), (60, .bool (i2)), (59, .agg #[nI (q5.cap), nI (q5.closed), nI (q5.count), nI (q5.start), nI (q5.buf), nI (q5.th), nI (q5.tt), nI (q5.sh), nI (q5.st)]), (58, nI i1), (57, nP b0 0), (11, nP (w65.heap.size) 0), (9, nP (w9.heap.size) 0), (0, nP b0 0), (1, nI i1), (2, .bool (i2))]) (by kernel_rfl) ?_
    intro a147 hF146; clear hF144
    refine ev_call 75 #[.agg #[nI (q5.cap), nI (q5.closed), nI (q5.count), nI (q5.start), nI (q5.buf), nI (q5.th), nI (q5.tt), nI (q5.sh), nI (q5.st)], .bool (i2), .agg #[nI (q62.head), nI i3]] hF146 rfl rfl (by kernel_rfl) rfl (by kernel_rfl) (fun w => by kernel_rfl) ?_
    obtain ⟨q148, hx149, hm150⟩ := bind1E hm134; clear hm134
    refine (list_into.ok hS137 hx149).mono ?_
    rintro _ w151 ⟨rfl, hS153⟩ a152 hF154; clear hF146 hS137
    refine ev_call 22 #[nP b0 0, nI i1, .agg #[nI (q148.cap), nI (q148.closed), nI (q148.count), nI (q148.start), nI (q148.buf), nI (q148.th), nI (q148.tt), nI (q148.sh), nI (q148.st)]] hF154 rfl rfl (by kernel_rfl) rfl (by kernel_rfl) (fun w => by kernel_rfl) ?_
    obtain ⟨x155, s156, hx157, hm158⟩ := bind2E hm150; clear hm150
    refine (p_PutChan hS153 hx157).mono ?_
    rintro _ w159 ⟨rfl, hS161⟩ a160 hF162; clear hF154 hS153
    refine ev_runK 1 hF162 [8] (l' := [(8, nI x155)]) (w' := w159) (by kernel_rfl) ?_
    intro a164 hF163; clear hF162
    refine wpList_nil ?_
    have hS165 := hS161.pick1.drop.pick1.drop
    clear hS161
    refine thenN ?_
    refine wp_ret ?_
    simp only [Option.some.injEq, Prod.mk.injEq] at hm158
    obtain ⟨rfl, rfl⟩ := hm158
    refine ev_ret hF163 [8] (nI x155) rfl rfl rfl ?_
    exact ⟨rfl, hS165⟩
   | false =>
    rw [hc99] at hF97
    rw [hc99] at hm84
    have hm168 := ifF hm84; clear hm84
    refine ev_condF hF97 rfl rfl ?_
    refine wp_region_lit ?_
    refine ev_runs 2 hF97 (l' := [(51, nP (w65.heap.size) 0), (50, nI i3), (40, .bool false), (12, .slice p91 L81.length c92), (11, nP (w65.heap.size) 0), (9, nP (w9.heap.size) 0), (0, nP b0 0), (1, nI i1), (2, .bool (i2)), (3, nI i3)]) (w' := w85) (by kernel_rfl) ?_
    intro a170 hF169; clear hF97
    have hS171 := hS87.pick2
    clear hS87
    refine ev_store (nI i3) #[nI i3, nI (q62.tail)] hF169 (by kernel_rfl) rfl rfl rfl rfl (by kernel_rfl) hS171 (by kernel_rfl) (by kernel_rfl) (by kernel_rfl) (l' := [(51, nP (w65.heap.size) 0), (50, nI i3), (40, .bool false), (12, .slice p91 L81.length c92), (11, nP (w65.heap.size) 0), (9, nP (w9.heap.size) 0), (0, nP b0 0), (1, nI i1), (2, .bool (i2)), (3, nI i3)]) (by kernel_rfl) ?_
    intro w172 a173 hS174 hF175; clear hF169 hS171
    refine wpList_nil ?_
    have hF176 := hF175.keep [0, 1, 2, 3, 9, 11]
    clear hF175
    have hS177 := hS174.pick2.drop
    clear hS174
    refine thenN (wp_seq (wp_region_lit ?_))
    refine ev_runs 2 hF176 (l' := [(53, nP (w65.heap.size) 1), (52, nI i3), (11, nP (w65.heap.size) 0), (9, nP (w9.heap.size) 0), (0, nP b0 0), (1, nI i1), (2, .bool (i2)), (3, nI i3)]) (w' := w172) (by kernel_rfl) ?_
    intro a179 hF178; clear hF176
    refine ev_store (nI i3) #[nI i3, nI i3] hF178 (by kernel_rfl) rfl rfl rfl rfl (by kernel_rfl) hS177 (by kernel_rfl) (by kernel_rfl) (by kernel_rfl) (l' := [(53, nP (w65.heap.size) 1), (52, nI i3), (11, nP (w65.heap.size) 0), (9, nP (w9.heap.size) 0), (0, nP b0 0), (1, nI i1), (2, .bool (i2)), (3, nI i3)]) (by kernel_rfl) ?_
    intro w180 a181 hS182 hF183; clear hF178 hS177
    refine wpList_nil ?_
    have hF184 := hF183.keep [0, 1, 2, 3, 9, 11]
    clear hF183
    refine thenN (wp_seq (wp_region_lit ?_))
    refine ev_runs 2 hF184 (l' := [(55, nI i3), (54, nP b0 0), (11, nP (w65.heap.size) 0), (9, nP (w9.heap.size) 0), (0, nP b0 0), (1, nI i1), (2, .bool (i2)), (3, nI i3)]) (w' := w180) (by kernel_rfl) ?_
    intro a186 hF185; clear hF184
    have hS187 := hS182.pick1
    clear hS182
    refine ev_call 74 #[nP b0 0, nI i3, nI (-1)] hF185 rfl rfl (by kernel_rfl) rfl (by kernel_rfl) (fun w => by kernel_rfl) ?_
    obtain ⟨s188, hx189, hm190⟩ := bind1E hm168; clear hm168
    refine (list_follow.ok hS187 hx189).mono ?_
    rintro _ w191 ⟨rfl, hS193⟩ a192 hF194; clear hF185 hS187
    refine wpList_nil ?_
    have hF195 := hF194.keep [0, 1, 2, 9, 11]
    clear hF194
    refine thenN (wp_seq (wp_region_lit ?_))
    refine ev_runs 2 hF195 (l' := [(58, nI i1), (57, nP b0 0), (11, nP (w65.heap.size) 0), (9, nP (w9.heap.size) 0), (0, nP b0 0), (1, nI i1), (2, .bool (i2))]) (w' := w191) (by kernel_rfl) ?_
    intro a197 hF196; clear hF195
    refine ev_one (.agg #[nI (q5.cap), nI (q5.closed), nI (q5.count), nI (q5.start), nI (q5.buf), nI (q5.th), nI (q5.tt), nI (q5.sh), nI (q5.st)]) w191 hF196 (by kernel_rfl) rfl (by kernel_rfl) (run_loadV rfl rfl (run_loadA (cs := [nI (q5.cap), nI (q5.closed), nI (q5.count), nI (q5.start), nI (q5.buf), nI (q5.th), nI (q5.tt), nI (q5.sh), nI (q5.st)]) rfl rfl (by kernel_rfl) (blk_cells hS193 2 rfl rfl))) (l' := [(59, .agg #[nI (q5.cap), nI (q5.closed), nI (q5.count), nI (q5.start), nI (q5.buf), nI (q5.th), nI (q5.tt), nI (q5.sh), nI (q5.st)]), (58, nI i1), (57, nP b0 0), (11, nP (w65.heap.size) 0), (9, nP (w9.heap.size) 0), (0, nP b0 0), (1, nI i1), (2, .bool (i2))]) (by kernel_rfl) ?_
    intro a199 hF198; clear hF196
    refine ev_runs 1 hF198 (l' := [(60, .bool (i2)), (59, .agg #[nI (q5.cap), nI (q5.closed), nI (q5.count), nI (q5.start), nI (q5.buf), nI (q5.th), nI (q5.tt), nI (q5.sh), nI (q5.st)]), (58, nI i1), (57, nP b0 0), (11, nP (w65.heap.size) 0), (9, nP (w9.heap.size) 0), (0, nP b0 0), (1, nI i1), (2, .bool (i2))]) (w' := w191) (by kernel_rfl) ?_
    intro a201 hF200; clear hF198
    refine ev_one (.agg #[nI i3, nI i3]) w191 hF200 (by kernel_rfl) rfl (by kernel_rfl) (run_loadV rfl rfl (run_loadA (cs := [nI i3, nI i3]) rfl rfl (by kernel_rfl) (blk_cells hS193 1 rfl rfl))) (l' := [(61, .agg #[nI i3, nI i3]), (60, .bool (i2)), (59, .agg #[nI (q5.cap), nI (q5.closed), nI (q5.count), nI (q5.start), nI (q5.buf), nI (q5.th), nI (q5.tt), nI (q5.sh), nI (q5.st)]), (58, nI i1), (57, nP b0 0), (11, nP (w65.heap.size) 0), (9, nP (w9.heap.size) 0), (0, nP b0 0), (1, nI i1), (2, .bool (i2))]) (by kernel_rfl) ?_
    intro a203 hF202; clear hF200
    refine ev_call 75 #[.agg #[nI (q5.cap), nI (q5.closed), nI (q5.count), nI (q5.start), nI (q5.buf), nI (q5.th), nI (q5.tt), nI (q5.sh), nI (q5.st)], .bool (i2), .agg #[nI i3, nI i3]] hF202 rfl rfl (by kernel_rfl) rfl (by kernel_rfl) (fun w => by kernel_rfl) ?_
    obtain ⟨q204, hx205, hm206⟩ := bind1E hm190; clear hm190
    refine (list_into.ok hS193 hx205).mono ?_
    rintro _ w207 ⟨rfl, hS209⟩ a208 hF210; clear hF202 hS193
    refine ev_call 22 #[nP b0 0, nI i1, .agg #[nI (q204.cap), nI (q204.closed), nI (q204.count), nI (q204.start), nI (q204.buf), nI (q204.th), nI (q204.tt), nI (q204.sh), nI (q204.st)]] hF210 rfl rfl (by kernel_rfl) rfl (by kernel_rfl) (fun w => by kernel_rfl) ?_
    obtain ⟨x211, s212, hx213, hm214⟩ := bind2E hm206; clear hm206
    refine (p_PutChan hS209 hx213).mono ?_
    rintro _ w215 ⟨rfl, hS217⟩ a216 hF218; clear hF210 hS209
    refine ev_runK 1 hF218 [8] (l' := [(8, nI x211)]) (w' := w215) (by kernel_rfl) ?_
    intro a220 hF219; clear hF218
    refine wpList_nil ?_
    have hS221 := hS217.pick1.drop.pick1.drop
    clear hS217
    refine thenN ?_
    refine wp_ret ?_
    simp only [Option.some.injEq, Prod.mk.injEq] at hm214
    obtain ⟨rfl, rfl⟩ := hm214
    refine ev_ret hF219 [8] (nI x211) rfl rfl rfl ?_
    exact ⟨rfl, hS221⟩

def list_Pop.m (k : Nat) (s0 : HSt) (i1 : Int) (i2 : Bool) : Option (Int × Bool × HSt) := bind2 (pChan i1 s0) fun q5 x6 => (if (x6 != 0) then some (0, false, s0) else bind1 (list_of.m k (⟨q5.cap, q5.closed, q5.count, q5.start, q5.buf, q5.th, q5.tt, q5.sh, q5.st⟩ : Ch) (i2)) fun q39 => bind2 (list_look.m k s0 q39.head) fun o64 s65 => optE o64 (some (0, false, s65)) fun q91 => (if (q91.next == (-1)) then bind1 (list_into.m k (⟨q5.cap, q5.closed, q5.count, q5.start, q5.buf, q5.th, q5.tt, q5.sh, q5.st⟩ : Ch) (i2) (⟨q91.next, -1⟩ : En)) fun q142 => bind2 (pPutChan i1 (⟨q142.cap, q142.closed, q142.count, q142.start, q142.buf, q142.th, q142.tt, q142.sh, q142.st⟩ : Ch) s65) fun x150 s151 => bind1 (list_follow.m k s151 q39.head (-1)) fun s162 => some (q39.head, true, s162) else bind1 (list_into.m k (⟨q5.cap, q5.closed, q5.count, q5.start, q5.buf, q5.th, q5.tt, q5.sh, q5.st⟩ : Ch) (i2) (⟨q91.next, q39.tail⟩ : En)) fun q185 => bind2 (pPutChan i1 (⟨q185.cap, q185.closed, q185.count, q185.start, q185.buf, q185.th, q185.tt, q185.sh, q185.st⟩ : Ch) s65) fun x193 s194 => bind1 (list_follow.m k s194 q39.head (-1)) fun s205 => some (q39.head, true, s205)))
set_option maxRecDepth 100000 in
set_option maxHeartbeats 1500000 in
theorem list_Pop.ok {w0 w : World} {F0 : List Nat} {ps : List Piece} {k : Nat} {b0 ab0 : Nat} {s0 : HSt} {i1 : Int} {i2 : Bool} {r0 : Int} {r1 : Bool} {t0 : HSt} (hS : St w0 F0 (HeapP b0 ab0 s0 :: ps) w) (hm : list_Pop.m k s0 i1 i2 = some (r0, r1, t0)) :
    Calls Tryz.prog 31 #[nP b0 0, nI i1, .bool (i2)] w fun e w' => e = .returned (.tuple #[.int .i64 r0, .bool r1]) ∧ St w0 F0 (HeapP b0 ab0 t0 :: ps) w' := by
 refine ev_enterL 54 [nP b0 0, nI i1, .bool (i2)] Tryz.func31 rfl rfl (by simp) ?_
 intro a hF
 have hF0 : Fr 54 a [(0, nP b0 0), (1, nI i1), (2, .bool (i2))] := hF; clear hF
 unfold list_Pop.m at hm
 refine wp_seq (wp_region_lit ?_)
 refine ev_runK 2 hF0 [0, 1, 2] (l' := [(0, nP b0 0), (1, nI i1), (2, .bool (i2))]) (w' := w) (by kernel_rfl) ?_
 intro a2 hF1; clear hF0
 refine wpList_nil (thenN (wp_seq (wp_region_lit ?_)))
 refine ev_runs 2 hF1 (l' := [(16, nI i1), (15, nP b0 0), (0, nP b0 0), (1, nI i1), (2, .bool (i2))]) (w' := w) (by kernel_rfl) ?_
 intro a4 hF3; clear hF1
 refine ev_call 18 #[nP b0 0, nI i1] hF3 rfl rfl (by kernel_rfl) rfl (by kernel_rfl) (fun w => by kernel_rfl) ?_
 obtain ⟨q5, x6, hx7, hm8⟩ := bind2E hm; clear hm
 refine (p_Chan hS hx7).mono ?_
 rintro _ w9 ⟨rfl, hS11⟩ a10 hF12; clear hF3 hS
 refine ev_runs 4 hF12 (l' := [(8, nP (w9.heap.size) 0), (19, nI x6), (18, .agg #[nI (q5.cap), nI (q5.closed), nI (q5.count), nI (q5.start), nI (q5.buf), nI (q5.th), nI (q5.tt), nI (q5.sh), nI (q5.st)]), (14, .tuple #[.agg #[nI (q5.cap), nI (q5.closed), nI (q5.count), nI (q5.start), nI (q5.buf), nI (q5.th), nI (q5.tt), nI (q5.sh), nI (q5.st)], nI x6]), (17, .tuple #[.agg #[nI (q5.cap), nI (q5.closed), nI (q5.count), nI (q5.start), nI (q5.buf), nI (q5.th), nI (q5.tt), nI (q5.sh), nI (q5.st)], nI x6]), (16, nI i1), (15, nP b0 0), (0, nP b0 0), (1, nI i1), (2, .bool (i2))]) (w' := w9.alloc (.cells #[nI 0, nI 0, nI 0, nI 0, nI 0, nI 0, nI 0, nI 0, nI 0] 37)) (by kernel_rfl) ?_
 intro a14 hF13; clear hF12
 have hS16 : St w0 F0 (BlkP (w9.heap.size) 37 #[nI 0, nI 0, nI 0, nI 0, nI 0, nI 0, nI 0, nI 0, nI 0] :: HeapP b0 ab0 s0 :: ps) (w9.alloc (.cells #[nI 0, nI 0, nI 0, nI 0, nI 0, nI 0, nI 0, nI 0, nI 0] 37)) := St.new hS11 #[nI 0, nI 0, nI 0, nI 0, nI 0, nI 0, nI 0, nI 0, nI 0] 37
 clear hS11
 refine ev_store (.agg #[nI (q5.cap), nI (q5.closed), nI (q5.count), nI (q5.start), nI (q5.buf), nI (q5.th), nI (q5.tt), nI (q5.sh), nI (q5.st)]) #[nI (q5.cap), nI (q5.closed), nI (q5.count), nI (q5.start), nI (q5.buf), nI (q5.th), nI (q5.tt), nI (q5.sh), nI (q5.st)] hF13 (by kernel_rfl) rfl rfl rfl rfl (by kernel_rfl) hS16 (by kernel_rfl) (by kernel_rfl) (by kernel_rfl) (l' := [(8, nP (w9.heap.size) 0), (19, nI x6), (18, .agg #[nI (q5.cap), nI (q5.closed), nI (q5.count), nI (q5.start), nI (q5.buf), nI (q5.th), nI (q5.tt), nI (q5.sh), nI (q5.st)]), (14, .tuple #[.agg #[nI (q5.cap), nI (q5.closed), nI (q5.count), nI (q5.start), nI (q5.buf), nI (q5.th), nI (q5.tt), nI (q5.sh), nI (q5.st)], nI x6]), (17, .tuple #[.agg #[nI (q5.cap), nI (q5.closed), nI (q5.count), nI (q5.start), nI (q5.buf), nI (q5.th), nI (q5.tt), nI (q5.sh), nI (q5.st)], nI x6]), (16, nI i1), (15, nP b0 0), (0, nP b0 0), (1, nI i1), (2, .bool (i2))]) (by kernel_rfl) ?_
 intro w17 a18 hS19 hF20; clear hF13 hS16
 refine ev_runK 1 hF20 [0, 1, 2, 8, 9] (l' := [(9, nI x6), (8, nP (w9.heap.size) 0), (0, nP b0 0), (1, nI i1), (2, .bool (i2))]) (w' := w17) (by kernel_rfl) ?_
 intro a22 hF21; clear hF20
 refine wpList_nil (thenN (wp_seq (wp_seq (wp_region_lit ?_))))
 refine ev_runK 2 hF21 [0, 1, 2, 8, 21] (l' := [(21, .bool (x6 != 0)), (8, nP (w9.heap.size) 0), (0, nP b0 0), (1, nI i1), (2, .bool (i2))]) (w' := w17) (by kernel_rfl) ?_
 intro a24 hF23; clear hF21
 refine wpList_nil (thenN ?_)
 cases hc25 : (x6 != 0) with
 | true =>
  rw [hc25] at hF23
  rw [hc25] at hm8
  have hm26 := ifT hm8; clear hm8
  refine ev_condT hF23 rfl rfl ?_
  refine wp_seq (wp_region_lit ?_)
  refine ev_runK 2 hF23 [6, 7] (l' := [(7, .bool false), (6, nI 0)]) (w' := w17) (by kernel_rfl) ?_
  intro a28 hF27; clear hF23
  refine wpList_nil ?_
  have hS29 := hS19.drop
  clear hS19
  refine thenN ?_
  refine wp_ret ?_
  refine thenR ?_
  simp only [Option.some.injEq, Prod.mk.injEq] at hm26
  obtain ⟨rfl, rfl, rfl⟩ := hm26
  refine ev_ret hF27 [6, 7] (.tuple #[nI 0, .bool false]) rfl rfl rfl ?_
  exact ⟨rfl, hS29⟩
 | false =>
  rw [hc25] at hF23
  rw [hc25] at hm8
  have hm33 := ifF hm8; clear hm8
  refine ev_condF hF23 rfl rfl ?_
  refine wp_skip ?_
  have hF34 := hF23.keep [0, 1, 2, 8]
  clear hF23
  refine thenN (wp_seq (wp_region_lit ?_))
  refine ev_one (.agg #[nI (q5.cap), nI (q5.closed), nI (q5.count), nI (q5.start), nI (q5.buf), nI (q5.th), nI (q5.tt), nI (q5.sh), nI (q5.st)]) w17 hF34 (by kernel_rfl) rfl (by kernel_rfl) (run_loadV rfl rfl (run_loadA (cs := [nI (q5.cap), nI (q5.closed), nI (q5.count), nI (q5.start), nI (q5.buf), nI (q5.th), nI (q5.tt), nI (q5.sh), nI (q5.st)]) rfl rfl (by kernel_rfl) (blk_cells hS19 0 rfl rfl))) (l' := [(22, .agg #[nI (q5.cap), nI (q5.closed), nI (q5.count), nI (q5.start), nI (q5.buf), nI (q5.th), nI (q5.tt), nI (q5.sh), nI (q5.st)]), (8, nP (w9.heap.size) 0), (0, nP b0 0), (1, nI i1), (2, .bool (i2))]) (by kernel_rfl) ?_
  intro a36 hF35; clear hF34
  refine ev_runs 1 hF35 (l' := [(23, .bool (i2)), (22, .agg #[nI (q5.cap), nI (q5.closed), nI (q5.count), nI (q5.start), nI (q5.buf), nI (q5.th), nI (q5.tt), nI (q5.sh), nI (q5.st)]), (8, nP (w9.heap.size) 0), (0, nP b0 0), (1, nI i1), (2, .bool (i2))]) (w' := w17) (by kernel_rfl) ?_
  intro a38 hF37; clear hF35
  refine ev_call 73 #[.agg #[nI (q5.cap), nI (q5.closed), nI (q5.count), nI (q5.start), nI (q5.buf), nI (q5.th), nI (q5.tt), nI (q5.sh), nI (q5.st)], .bool (i2)] hF37 rfl rfl (by kernel_rfl) rfl (by kernel_rfl) (fun w => by kernel_rfl) ?_
  obtain ⟨q39, hx40, hm41⟩ := bind1E hm33; clear hm33
  refine (list_of.ok hS19 hx40).mono ?_
  rintro _ w42 ⟨rfl, hS44⟩ a43 hF45; clear hF37 hS19
  refine ev_runs 1 hF45 (l' := [(10, nP (w42.heap.size) 0), (24, .agg #[nI (q39.head), nI (q39.tail)]), (23, .bool (i2)), (22, .agg #[nI (q5.cap), nI (q5.closed), nI (q5.count), nI (q5.start), nI (q5.buf), nI (q5.th), nI (q5.tt), nI (q5.sh), nI (q5.st)]), (8, nP (w9.heap.size) 0), (0, nP b0 0), (1, nI i1), (2, .bool (i2))]) (w' := w42.alloc (.cells #[nI 0, nI 0] 116)) (by kernel_rfl) ?_
  intro a47 hF46; clear hF45
  have hS49 : St w0 F0 (BlkP (w42.heap.size) 116 #[nI 0, nI 0] :: BlkP (w9.heap.size) 37 #[nI (q5.cap), nI (q5.closed), nI (q5.count), nI (q5.start), nI (q5.buf), nI (q5.th), nI (q5.tt), nI (q5.sh), nI (q5.st)] :: HeapP b0 ab0 s0 :: ps) (w42.alloc (.cells #[nI 0, nI 0] 116)) := St.new hS44 #[nI 0, nI 0] 116
  clear hS44
  refine ev_store (.agg #[nI (q39.head), nI (q39.tail)]) #[nI (q39.head), nI (q39.tail)] hF46 (by kernel_rfl) rfl rfl rfl rfl (by kernel_rfl) hS49 (by kernel_rfl) (by kernel_rfl) (by kernel_rfl) (l' := [(10, nP (w42.heap.size) 0), (24, .agg #[nI (q39.head), nI (q39.tail)]), (23, .bool (i2)), (22, .agg #[nI (q5.cap), nI (q5.closed), nI (q5.count), nI (q5.start), nI (q5.buf), nI (q5.th), nI (q5.tt), nI (q5.sh), nI (q5.st)]), (8, nP (w9.heap.size) 0), (0, nP b0 0), (1, nI i1), (2, .bool (i2))]) (by kernel_rfl) ?_
  intro w50 a51 hS52 hF53; clear hF46 hS49
  refine wpList_nil ?_
  have hF54 := hF53.keep [0, 1, 2, 8, 10]
  clear hF53
  refine thenN (wp_seq (wp_region_lit ?_))
  refine ev_runs 1 hF54 (l' := [(25, nP (w42.heap.size) 0), (10, nP (w42.heap.size) 0), (8, nP (w9.heap.size) 0), (0, nP b0 0), (1, nI i1), (2, .bool (i2))]) (w' := w50) (by kernel_rfl) ?_
  intro a56 hF55; clear hF54
  refine ev_one (nI (q39.head)) w50 hF55 (by kernel_rfl) rfl (by kernel_rfl) (run_loadV rfl rfl (run_loadS rfl rfl (hS52.cell 0 rfl 0 rfl))) (l' := [(26, nI (q39.head)), (25, nP (w42.heap.size) 0), (10, nP (w42.heap.size) 0), (8, nP (w9.heap.size) 0), (0, nP b0 0), (1, nI i1), (2, .bool (i2))]) (by kernel_rfl) ?_
  intro a58 hF57; clear hF55
  refine ev_runK 1 hF57 [0, 1, 2, 8, 10, 11] (l' := [(11, nI (q39.head)), (10, nP (w42.heap.size) 0), (8, nP (w9.heap.size) 0), (0, nP b0 0), (1, nI i1), (2, .bool (i2))]) (w' := w50) (by kernel_rfl) ?_
  intro a60 hF59; clear hF57
  refine wpList_nil (thenN (wp_seq (wp_region_lit ?_)))
  refine ev_runs 2 hF59 (l' := [(29, nI (q39.head)), (28, nP b0 0), (11, nI (q39.head)), (10, nP (w42.heap.size) 0), (8, nP (w9.heap.size) 0), (0, nP b0 0), (1, nI i1), (2, .bool (i2))]) (w' := w50) (by kernel_rfl) ?_
  intro a62 hF61; clear hF59
  have hS63 := hS52.pick2
  clear hS52
  refine ev_call 76 #[nP b0 0, nI (q39.head)] hF61 rfl rfl (by kernel_rfl) rfl (by kernel_rfl) (fun w => by kernel_rfl) ?_
  obtain ⟨o64, s65, hx66, hm67⟩ := bind2E hm41; clear hm41
  refine (list_look.ok hS63 hx66).mono ?_
  rintro _ w68 ⟨rfl, hS70⟩ a69 hF71; clear hF61 hS63
  cases o64 with
  | none =>
   have hm72 := optN hm67; clear hm67
   refine ev_runs 5 hF71 (l' := [(12, nP (w68.heap.size) 0), (33, .bool false), (32, .agg #[nI 0, nI 0, nI 0, nI 0, nI 0, nI 0, nI 0]), (27, .tuple #[.agg #[nI 0, nI 0, nI 0, nI 0, nI 0, nI 0, nI 0], .bool false]), (31, .tuple #[.agg #[nI 0, nI 0, nI 0, nI 0, nI 0, nI 0, nI 0], .bool false]), (30, .nilIface), (29, nI (q39.head)), (28, nP b0 0), (11, nI (q39.head)), (10, nP (w42.heap.size) 0), (8, nP (w9.heap.size) 0), (0, nP b0 0), (1, nI i1), (2, .bool (i2))]) (w' := w68.alloc (.cells #[nI 0, nI 0, nI 0, nI 0, nI 0, nI 0, nI 0] 54)) (by kernel_rfl) ?_
   intro a74 hF73; clear hF71
   have hS76 : St w0 F0 (BlkP (w68.heap.size) 54 #[nI 0, nI 0, nI 0, nI 0, nI 0, nI 0, nI 0] :: HeapP b0 ab0 s65 :: BlkP (w42.heap.size) 116 #[nI (q39.head), nI (q39.tail)] :: BlkP (w9.heap.size) 37 #[nI (q5.cap), nI (q5.closed), nI (q5.count), nI (q5.start), nI (q5.buf), nI (q5.th), nI (q5.tt), nI (q5.sh), nI (q5.st)] :: ps) (w68.alloc (.cells #[nI 0, nI 0, nI 0, nI 0, nI 0, nI 0, nI 0] 54)) := St.new hS70 #[nI 0, nI 0, nI 0, nI 0, nI 0, nI 0, nI 0] 54
   clear hS70
   refine ev_store (.agg #[nI 0, nI 0, nI 0, nI 0, nI 0, nI 0, nI 0]) #[nI 0, nI 0, nI 0, nI 0, nI 0, nI 0, nI 0] hF73 (by kernel_rfl) rfl rfl rfl rfl (by kernel_rfl) hS76 (by kernel_rfl) (by kernel_rfl) (by kernel_rfl) (l' := [(12, nP (w68.heap.size) 0), (33, .bool false), (32, .agg #[nI 0, nI 0, nI 0, nI 0, nI 0, nI 0, nI 0]), (27, .tuple #[.agg #[nI 0, nI 0, nI 0, nI 0, nI 0, nI 0, nI 0], .bool false]), (31, .tuple #[.agg #[nI 0, nI 0, nI 0, nI 0, nI 0, nI 0, nI 0], .bool false]), (30, .nilIface), (29, nI (q39.head)), (28, nP b0 0), (11, nI (q39.head)), (10, nP (w42.heap.size) 0), (8, nP (w9.heap.size) 0), (0, nP b0 0), (1, nI i1), (2, .bool (i2))]) (by kernel_rfl) ?_
   intro w77 a78 hS79 hF80; clear hF73 hS76
   refine ev_runK 1 hF80 [0, 1, 2, 8, 10, 11, 12, 13] (l' := [(13, .bool false), (12, nP (w68.heap.size) 0), (11, nI (q39.head)), (10, nP (w42.heap.size) 0), (8, nP (w9.heap.size) 0), (0, nP b0 0), (1, nI i1), (2, .bool (i2))]) (w' := w77) (by kernel_rfl) ?_
   intro a82 hF81; clear hF80
   refine wpList_nil (thenN (wp_seq (wp_seq (wp_region_lit ?_))))
   refine ev_runK 2 hF81 [0, 1, 2, 8, 10, 11, 12, 35] (l' := [(35, .bool true), (12, nP (w68.heap.size) 0), (11, nI (q39.head)), (10, nP (w42.heap.size) 0), (8, nP (w9.heap.size) 0), (0, nP b0 0), (1, nI i1), (2, .bool (i2))]) (w' := w77) (by kernel_rfl) ?_
   intro a84 hF83; clear hF81
   refine wpList_nil (thenN ?_)
   refine ev_condT hF83 rfl rfl ?_
   refine wp_seq (wp_region_lit ?_)
   refine ev_runK 2 hF83 [6, 7] (l' := [(7, .bool false), (6, nI 0)]) (w' := w77) (by kernel_rfl) ?_
   intro a86 hF85; clear hF83
   refine wpList_nil ?_
   have hS87 := hS79.drop.pick1.drop.pick1.drop
   clear hS79
   refine thenN ?_
   refine wp_ret ?_
   refine thenR ?_
   simp only [Option.some.injEq, Prod.mk.injEq] at hm72
   obtain ⟨rfl, rfl, rfl⟩ := hm72
   refine ev_ret hF85 [6, 7] (.tuple #[nI 0, .bool false]) rfl rfl rfl ?_
   exact ⟨rfl, hS87⟩
  | some q91 =>
   have hm92 := optS hm67; clear hm67
   refine ev_runs 5 hF71 (l' := [(12, nP (w68.heap.size) 0), (33, .bool true), (32, .agg #[nI (q91.gor), nI (q91.chan), nI (q91.value), nI (q91.next), nI (q91.to), nI (q91.reg), nI (q91.more)]), (27, .tuple #[.agg #[nI (q91.gor), nI (q91.chan), nI (q91.value), nI (q91.next), nI (q91.to), nI (q91.reg), nI (q91.more)], .bool true]), (31, .tuple #[.agg #[nI (q91.gor), nI (q91.chan), nI (q91.value), nI (q91.next), nI (q91.to), nI (q91.reg), nI (q91.more)], .bool true]), (30, .iface 54 (.agg #[nI (q91.gor), nI (q91.chan), nI (q91.value), nI (q91.next), nI (q91.to), nI (q91.reg), nI (q91.more)])), (29, nI (q39.head)), (28, nP b0 0), (11, nI (q39.head)), (10, nP (w42.heap.size) 0), (8, nP (w9.heap.size) 0), (0, nP b0 0), (1, nI i1), (2, .bool (i2))]) (w' := w68.alloc (.cells #[nI 0, nI 0, nI 0, nI 0, nI 0, nI 0, nI 0] 54)) (by kernel_rfl) ?_
   intro a94 hF93; clear hF71
   have hS96 : St w0 F0 (BlkP (w68.heap.size) 54 #[nI 0, nI 0, nI 0, nI 0, nI 0, nI 0, nI 0] :: HeapP b0 ab0 s65 :: BlkP (w42.heap.size) 116 #[nI (q39.head), nI (q39.tail)] :: BlkP (w9.heap.size) 37 #[nI (q5.cap), nI (q5.closed), nI (q5.count), nI (q5.start), nI (q5.buf), nI (q5.th), nI (q5.tt), nI (q5.sh), nI (q5.st)] :: ps) (w68.alloc (.cells #[nI 0, nI 0, nI 0, nI 0, nI 0, nI 0, nI 0] 54)) := St.new hS70 #[nI 0, nI 0, nI 0, nI 0, nI 0, nI 0, nI 0] 54
   clear hS70
   refine ev_store (.agg #[nI (q91.gor), nI (q91.chan), nI (q91.value), nI (q91.next), nI (q91.to), nI (q91.reg), nI (q91.more)]) #[nI (q91.gor), nI (q91.chan), nI (q91.value), nI (q91.next), nI (q91.to), nI (q91.reg), nI (q91.more)] hF93 (by kernel_rfl) rfl rfl rfl rfl (by kernel_rfl) hS96 (by kernel_rfl) (by kernel_rfl) (by kernel_rfl) (l' := [(12, nP (w68.heap.size) 0), (33, .bool true), (32, .agg #[nI (q91.gor), nI (q91.chan), nI (q91.value), nI (q91.next), nI (q91.to), nI (q91.reg), nI (q91.more)]), (27, .tuple #[.agg #[nI (q91.gor), nI (q91.chan), nI (q91.value), nI (q91.next), nI (q91.to), nI (q91.reg), nI (q91.more)], .bool true]), (31, .tuple #[.agg #[nI (q91.gor), nI (q91.chan), nI (q91.value), nI (q91.next), nI (q91.to), nI (q91.reg), nI (q91.more)], .bool true]), (30, .iface 54 (.agg #[nI (q91.gor), nI (q91.chan), nI (q91.value), nI (q91.next), nI (q91.to), nI (q91.reg), nI (q91.more)])), (29, nI (q39.head)), (28, nP b0 0), (11, nI (q39.head)), (10, nP (w42.heap.size) 0), (8, nP (w9.heap.size) 0), (0, nP b0 0), (1, nI i1), (2, .bool (i2))]) (by kernel_rfl) ?_
   intro w97 a98 hS99 hF100; clear hF93 hS96
   refine ev_runK 1 hF100 [0, 1, 2, 8, 10, 11, 12, 13] (l' := [(13, .bool true), (12, nP (w68.heap.size) 0), (11, nI (q39.head)), (10, nP (w42.heap.size) 0), (8, nP (w9.heap.size) 0), (0, nP b0 0), (1, nI i1), (2, .bool (i2))]) (w' := w97) (by kernel_rfl) ?_
   intro a102 hF101; clear hF100
   refine wpList_nil (thenN (wp_seq (wp_seq (wp_region_lit ?_))))
   refine ev_runK 2 hF101 [0, 1, 2, 8, 10, 11, 12, 35] (l' := [(35, .bool false), (12, nP (w68.heap.size) 0), (11, nI (q39.head)), (10, nP (w42.heap.size) 0), (8, nP (w9.heap.size) 0), (0, nP b0 0), (1, nI i1), (2, .bool (i2))]) (w' := w97) (by kernel_rfl) ?_
   intro a104 hF103; clear hF101
   refine wpList_nil (thenN ?_)
   refine ev_condF hF103 rfl rfl ?_
   refine wp_skip ?_
   have hF105 := hF103.keep [0, 1, 2, 8, 10, 11, 12]
   clear hF103
   refine thenN (wp_seq (wp_seq (wp_region_lit ?_)))
   refine ev_runs 1 hF105 (l' := [(36, nP (w68.heap.size) 3), (12, nP (w68.heap.size) 0), (11, nI (q39.head)), (10, nP (w42.heap.size) 0), (8, nP (w9.heap.size) 0), (0, nP b0 0), (1, nI i1), (2, .bool (i2))]) (w' := w97) (by kernel_rfl) ?_
   intro a107 hF106; clear hF105
   refine ev_one (nI (q91.next)) w97 hF106 (by kernel_rfl) rfl (by kernel_rfl) (run_loadV rfl rfl (run_loadS rfl rfl (hS99.cell 0 rfl 3 rfl))) (l' := [(37, nI (q91.next)), (36, nP (w68.heap.size) 3), (12, nP (w68.heap.size) 0), (11, nI (q39.head)), (10, nP (w42.heap.size) 0), (8, nP (w9.heap.size) 0), (0, nP b0 0), (1, nI i1), (2, .bool (i2))]) (by kernel_rfl) ?_
   intro a109 hF108; clear hF106
   refine ev_runs 1 hF108 (l' := [(38, nP (w42.heap.size) 0), (37, nI (q91.next)), (36, nP (w68.heap.size) 3), (12, nP (w68.heap.size) 0), (11, nI (q39.head)), (10, nP (w42.heap.size) 0), (8, nP (w9.heap.size) 0), (0, nP b0 0), (1, nI i1), (2, .bool (i2))]) (w' := w97) (by kernel_rfl) ?_
   intro a111 hF110; clear hF108
   have hS112 := hS99.pick2
   clear hS99
   refine ev_store (nI (q91.next)) #[nI (q91.next), nI (q39.tail)] hF110 (by kernel_rfl) rfl rfl rfl rfl (by kernel_rfl) hS112 (by kernel_rfl) (by kernel_rfl) (by kernel_rfl) (l' := [(38, nP (w42.heap.size) 0), (37, nI (q91.next)), (36, nP (w68.heap.size) 3), (12, nP (w68.heap.size) 0), (11, nI (q39.head)), (10, nP (w42.heap.size) 0), (8, nP (w9.heap.size) 0), (0, nP b0 0), (1, nI i1), (2, .bool (i2))]) (by kernel_rfl) ?_
   intro w113 a114 hS115 hF116; clear hF110 hS112
   refine wpList_nil ?_
   have hF117 := hF116.keep [0, 1, 2, 8, 10, 11]
   clear hF116
   have hS118 := hS115.pick1.drop
   clear hS115
   refine thenN (wp_seq (wp_region_lit ?_))
   refine ev_runs 1 hF117 (l' := [(39, nP (w42.heap.size) 0), (11, nI (q39.head)), (10, nP (w42.heap.size) 0), (8, nP (w9.heap.size) 0), (0, nP b0 0), (1, nI i1), (2, .bool (i2))]) (w' := w113) (by kernel_rfl) ?_
   intro a120 hF119; clear hF117
   refine ev_one (nI (q91.next)) w113 hF119 (by kernel_rfl) rfl (by kernel_rfl) (run_loadV rfl rfl (run_loadS rfl rfl (hS118.cell 0 rfl 0 rfl))) (l' := [(40, nI (q91.next)), (39, nP (w42.heap.size) 0), (11, nI (q39.head)), (10, nP (w42.heap.size) 0), (8, nP (w9.heap.size) 0), (0, nP b0 0), (1, nI i1), (2, .bool (i2))]) (by kernel_rfl) ?_
   intro a122 hF121; clear hF119
   refine ev_runK 1 hF121 [0, 1, 2, 8, 10, 11, 41] (l' := [(41, .bool (q91.next == (-1))), (11, nI (q39.head)), (10, nP (w42.heap.size) 0), (8, nP (w9.heap.size) 0), (0, nP b0 0), (1, nI i1), (2, .bool (i2))]) (w' := w113) (by kernel_rfl) ?_
   intro a124 hF123; clear hF121
   refine wpList_nil (thenN ?_)
   cases hc125 : (q91.next == (-1)) with
   | true =>
    rw [hc125] at hF123
    rw [hc125] at hm92
    have hm126 := ifT hm92; clear hm92
    refine ev_condT hF123 rfl rfl ?_
    refine wp_region_lit ?_
    refine ev_runs 1 hF123 (l' := [(42, nP (w42.heap.size) 1), (41, .bool true), (11, nI (q39.head)), (10, nP (w42.heap.size) 0), (8, nP (w9.heap.size) 0), (0, nP b0 0), (1, nI i1), (2, .bool (i2))]) (w' := w113) (by kernel_rfl) ?_
    intro a128 hF127; clear hF123
    refine ev_store (nI (-1)) #[nI (q91.next), nI (-1)] hF127 (by kernel_rfl) rfl rfl rfl rfl (by kernel_rfl) hS118 (by kernel_rfl) (by kernel_rfl) (by kernel_rfl) (l' := [(42, nP (w42.heap.size) 1), (41, .bool true), (11, nI (q39.head)), (10, nP (w42.heap.size) 0), (8, nP (w9.heap.size) 0), (0, nP b0 0), (1, nI i1), (2, .bool (i2))]) (by kernel_rfl) ?_
    intro w129 a130 hS131 hF132; clear hF127 hS118
    refine wpList_nil ?_
    have hF133 := hF132.keep [0, 1, 2, 8, 10, 11]
    clear hF132
    refine thenN (wp_seq (wp_region_lit ?_))
    refine ev_runs 2 hF133 (l' := [(44, nI i1), (43, nP b0 0), (11, nI (q39.head)), (10, nP (w42.heap.size) 0), (8, nP (w9.heap.size) 0), (0, nP b0 0), (1, nI i1), (2, .bool (i2))]) (w' := w129) (by kernel_rfl) ?_
    intro a135 hF134; clear hF133
    refine ev_one (.agg #[nI (q5.cap), nI (q5.closed), nI (q5.count), nI (q5.start), nI (q5.buf), nI (q5.th), nI (q5.tt), nI (q5.sh), nI (q5.st)]) w129 hF134 (by kernel_rfl) rfl (by kernel_rfl) (run_loadV rfl rfl (run_loadA (cs := [nI (q5.cap), nI (q5.closed), nI (q5.count), nI (q5.start), nI (q5.buf), nI (q5.th), nI (q5.tt), nI (q5.sh), nI (q5.st)]) rfl rfl (by kernel_rfl) (blk_cells hS131 2 rfl rfl))) (l' := [(45, .agg #[nI (q5.cap), nI (q5.closed), nI (q5.count), nI (q5.start), nI (q5.buf), nI (q5.th), nI (q5.tt), nI (q5.sh), nI (q5.st)]), (44, nI i1), (43, nP b0 0), (11, nI (q39.head)), (10, nP (w42.heap.size) 0), (8, nP (w9.heap.size) 0), (0, nP b0 0), (1, nI i1), (2, .bool (i2))]) (by kernel_rfl) ?_
    intro a137 hF136; clear hF134
    refine ev_runs 1 hF136 (l' := [(46, .bool (i2)), (45, .agg #[nI (q5.cap), nI (q5.closed), nI (q5.count), nI (q5.start), nI (q5.buf), nI (q5.th), nI (q5.tt), nI (q5.sh), nI (q5.st)]), (44, nI i1), (43, nP b0 0), (11, nI (q39.head)), (10, nP (w42.heap.size) 0), (8, nP (w9.heap.size) 0), (0, nP b0 0), (1, nI i1), (2, .bool (i2))]) (w' := w129) (by kernel_rfl) ?_
    intro a139 hF138; clear hF136
    refine ev_one (.agg #[nI (q91.next), nI (-1)]) w129 hF138 (by kernel_rfl) rfl (by kernel_rfl) (run_loadV rfl rfl (run_loadA (cs := [nI (q91.next), nI (-1)]) rfl rfl (by kernel_rfl) (blk_cells hS131 0 rfl rfl))) (l' := [(47, .agg #[nI (q91.next), nI (-1)]), (46, .bool (i2)), (45, .agg #[nI (q5.cap), nI (q5.closed), nI (q5.count), nI (q5.start), nI (q5.buf), nI (q5.th), nI (q5.tt), nI (q5.sh), nI (q5.st)]), (44, nI i1), (43, nP b0 0), (11, nI (q39.head)), (10, nP (w42.heap.size) 0), (8, nP (w9.heap.size) 0), (0, nP b0 0), (1, nI i1), (2, .bool (i2))]) (by kernel_rfl) ?_
    intro a141 hF140; clear hF138
    refine ev_call 75 #[.agg #[nI (q5.cap), nI (q5.closed), nI (q5.count), nI (q5.start), nI (q5.buf), nI (q5.th), nI (q5.tt), nI (q5.sh), nI (q5.st)], .bool (i2), .agg #[nI (q91.next), nI (-1)]] hF140 rfl rfl (by kernel_rfl) rfl (by kernel_rfl) (fun w => by kernel_rfl) ?_
    obtain ⟨q142, hx143, hm144⟩ := bind1E hm126; clear hm126
    refine (list_into.ok hS131 hx143).mono ?_
    rintro _ w145 ⟨rfl, hS147⟩ a146 hF148; clear hF140 hS131
    have hS149 := hS147.pick1
    clear hS147
    refine ev_call 22 #[nP b0 0, nI i1, .agg #[nI (q142.cap), nI (q142.closed), nI (q142.count), nI (q142.start), nI (q142.buf), nI (q142.th), nI (q142.tt), nI (q142.sh), nI (q142.st)]] hF148 rfl rfl (by kernel_rfl) rfl (by kernel_rfl) (fun w => by kernel_rfl) ?_
    obtain ⟨x150, s151, hx152, hm153⟩ := bind2E hm144; clear hm144
    refine (p_PutChan hS149 hx152).mono ?_
    rintro _ w154 ⟨rfl, hS156⟩ a155 hF157; clear hF148 hS149
    refine wpList_nil ?_
    have hF158 := hF157.keep [0, 11]
    clear hF157
    have hS159 := hS156.pick1.drop.pick1.drop
    clear hS156
    refine thenN (wp_seq (wp_region_lit ?_))
    refine ev_runs 2 hF158 (l' := [(51, nI (q39.head)), (50, nP b0 0), (11, nI (q39.head)), (0, nP b0 0)]) (w' := w154) (by kernel_rfl) ?_
    intro a161 hF160; clear hF158
    refine ev_call 74 #[nP b0 0, nI (q39.head), nI (-1)] hF160 rfl rfl (by kernel_rfl) rfl (by kernel_rfl) (fun w => by kernel_rfl) ?_
    obtain ⟨s162, hx163, hm164⟩ := bind1E hm153; clear hm153
    refine (list_follow.ok hS159 hx163).mono ?_
    rintro _ w165 ⟨rfl, hS167⟩ a166 hF168; clear hF160 hS159
    refine wpList_nil ?_
    have hF169 := hF168.keep [11]
    clear hF168
    refine thenN (wp_seq (wp_region_lit ?_))
    refine ev_runK 3 hF169 [6, 7] (l' := [(7, .bool true), (6, nI (q39.head))]) (w' := w165) (by kernel_rfl) ?_
    intro a171 hF170; clear hF169
    refine wpList_nil (thenN ?_)
    refine wp_ret ?_
    simp only [Option.some.injEq, Prod.mk.injEq] at hm164
    obtain ⟨rfl, rfl, rfl⟩ := hm164
    refine ev_ret hF170 [6, 7] (.tuple #[nI (q39.head), .bool true]) rfl rfl rfl ?_
    exact ⟨rfl, hS167⟩
   | false =>
    rw [hc125] at hF123
    rw [hc125] at hm92
    have hm175 := ifF hm92; clear hm92
    refine ev_condF hF123 rfl rfl ?_
    refine wp_skip ?_
    have hF176 := hF123.keep [0, 1, 2, 8, 10, 11]
    clear hF123
    refine thenN (wp_seq (wp_region_lit ?_))
    refine ev_runs 2 hF176 (l' := [(44, nI i1), (43, nP b0 0), (11, nI (q39.head)), (10, nP (w42.heap.size) 0), (8, nP (w9.heap.size) 0), (0, nP b0 0), (1, nI i1), (2, .bool (i2))]) (w' := w113) (by kernel_rfl) ?_
    intro a178 hF177; clear hF176
    refine ev_one (.agg #[nI (q5.cap), nI (q5.closed), nI (q5.count), nI (q5.start), nI (q5.buf), nI (q5.th), nI (q5.tt), nI (q5.sh), nI (q5.st)]) w113 hF177 (by kernel_rfl) rfl (by kernel_rfl) (run_loadV rfl rfl (run_loadA (cs := [nI (q5.cap), nI (q5.closed), nI (q5.count), nI (q5.start), nI (q5.buf), nI (q5.th), nI (q5.tt), nI (q5.sh), nI (q5.st)]) rfl rfl (by kernel_rfl) (blk_cells hS118 2 rfl rfl))) (l' := [(45, .agg #[nI (q5.cap), nI (q5.closed), nI (q5.count), nI (q5.start), nI (q5.buf), nI (q5.th), nI (q5.tt), nI (q5.sh), nI (q5.st)]), (44, nI i1), (43, nP b0 0), (11, nI (q39.head)), (10, nP (w42.heap.size) 0), (8, nP (w9.heap.size) 0), (0, nP b0 0), (1, nI i1), (2, .bool (i2))]) (by kernel_rfl) ?_
    intro a180 hF179; clear hF177
    refine ev_runs 1 hF179 (l' := [(46, .bool (i2)), (45, .agg #[nI (q5.cap), nI (q5.closed), nI (q5.count), nI (q5.start), nI (q5.buf), nI (q5.th), nI (q5.tt), nI (q5.sh), nI (q5.st)]), (44, nI i1), (43, nP b0 0), (11, nI (q39.head)), (10, nP (w42.heap.size) 0), (8, nP (w9.heap.size) 0), (0, nP b0 0), (1, nI i1), (2, .bool (i2))]) (w' := w113) (by kernel_rfl) ?_
    intro a182 hF181; clear hF179
    refine ev_one (.agg #[nI (q91.next), nI (q39.tail)]) w113 hF181 (by kernel_rfl) rfl (by kernel_rfl) (run_loadV rfl rfl (run_loadA (cs := [nI (q91.next), nI (q39.tail)]) rfl rfl (by kernel_rfl) (blk_cells hS118 0 rfl rfl))) (l' := [(47, .agg #[nI (q91.next), nI (q39.tail)]), (46, .bool (i2)), (45, .agg #[nI (q5.cap), nI (q5.closed), nI (q5.count), nI (q5.start), nI (q5.buf), nI (q5.th), nI (q5.tt), nI (q5.sh), nI (q5.st)]), (44, nI i1), (43, nP b0 0), (11, nI (q39.head)), (10, nP (w42.heap.size) 0), (8, nP (w9.heap.size) 0), (0, nP b0 0), (1, nI i1), (2, .bool (i2))]) (by kernel_rfl) ?_
    intro a184 hF183; clear hF181
    refine ev_call 75 #[.agg #[nI (q5.cap), nI (q5.closed), nI (q5.count), nI (q5.start), nI (q5.buf), nI (q5.th), nI (q5.tt), nI (q5.sh), nI (q5.st)], .bool (i2), .agg #[nI (q91.next), nI (q39.tail)]] hF183 rfl rfl (by kernel_rfl) rfl (by kernel_rfl) (fun w => by kernel_rfl) ?_
    obtain ⟨q185, hx186, hm187⟩ := bind1E hm175; clear hm175
    refine (list_into.ok hS118 hx186).mono ?_
    rintro _ w188 ⟨rfl, hS190⟩ a189 hF191; clear hF183 hS118
    have hS192 := hS190.pick1
    clear hS190
    refine ev_call 22 #[nP b0 0, nI i1, .agg #[nI (q185.cap), nI (q185.closed), nI (q185.count), nI (q185.start), nI (q185.buf), nI (q185.th), nI (q185.tt), nI (q185.sh), nI (q185.st)]] hF191 rfl rfl (by kernel_rfl) rfl (by kernel_rfl) (fun w => by kernel_rfl) ?_
    obtain ⟨x193, s194, hx195, hm196⟩ := bind2E hm187; clear hm187
    refine (p_PutChan hS192 hx195).mono ?_
    rintro _ w197 ⟨rfl, hS199⟩ a198 hF200; clear hF191 hS192
    refine wpList_nil ?_
    have hF201 := hF200.keep [0, 11]
    clear hF200
    have hS202 := hS199.pick1.drop.pick1.drop
    clear hS199
    refine thenN (wp_seq (wp_region_lit ?_))
    refine ev_runs 2 hF201 (l' := [(51, nI (q39.head)), (50, nP b0 0), (11, nI (q39.head)), (0, nP b0 0)]) (w' := w197) (by kernel_rfl) ?_
    intro a204 hF203; clear hF201
    refine ev_call 74 #[nP b0 0, nI (q39.head), nI (-1)] hF203 rfl rfl (by kernel_rfl) rfl (by kernel_rfl) (fun w => by kernel_rfl) ?_
    obtain ⟨s205, hx206, hm207⟩ := bind1E hm196; clear hm196
    refine (list_follow.ok hS202 hx206).mono ?_
    rintro _ w208 ⟨rfl, hS210⟩ a209 hF211; clear hF203 hS202
    refine wpList_nil ?_
    have hF212 := hF211.keep [11]
    clear hF211
    refine thenN (wp_seq (wp_region_lit ?_))
    refine ev_runK 3 hF212 [6, 7] (l' := [(7, .bool true), (6, nI (q39.head))]) (w' := w208) (by kernel_rfl) ?_
    intro a214 hF213; clear hF212
    refine wpList_nil (thenN ?_)
    refine wp_ret ?_
    simp only [Option.some.injEq, Prod.mk.injEq] at hm207
    obtain ⟨rfl, rfl, rfl⟩ := hm207
    refine ev_ret hF213 [6, 7] (.tuple #[nI (q39.head), .bool true]) rfl rfl rfl ?_
    exact ⟨rfl, hS210⟩

def list_Remove.m (k : Nat) (s0 : HSt) (i1 : Int) (i2 : Bool) (i3 : Int) : Option (Bool × HSt) := bind2 (list_All.m k s0 i1 (i2)) fun L5 s6 => bind1 (slices_Index.m k L5 i3) fun x24 => (if (decide (x24 < 0)) then some (false, s6) else bind2 (pChan i1 s6) fun q47 x48 => bind2 (pSudog i3 s6) fun q68 x69 => bind1 (list_of.m k (⟨q47.cap, q47.closed, q47.count, q47.start, q47.buf, q47.th, q47.tt, q47.sh, q47.st⟩ : Ch) (i2)) fun q90 => (if (decide (x24 > 0)) then (if (inR (IntKind.i64.wrap (x24 - 1)) L5.length) then bind1 (list_follow.m k s6 (atI L5 (IntKind.i64.wrap (x24 - 1))) q68.next) fun s128 => (if (q90.tail == i3) then bind1 (list_into.m k (⟨q47.cap, q47.closed, q47.count, q47.start, q47.buf, q47.th, q47.tt, q47.sh, q47.st⟩ : Ch) (i2) (⟨q90.head, atI L5 (IntKind.i64.wrap (x24 - 1))⟩ : En)) fun q161 => bind2 (pPutChan i1 (⟨q161.cap, q161.closed, q161.count, q161.start, q161.buf, q161.th, q161.tt, q161.sh, q161.st⟩ : Ch) s128) fun x169 s170 => bind1 (list_follow.m k s170 i3 (-1)) fun s181 => some (true, s181) else bind1 (list_into.m k (⟨q47.cap, q47.closed, q47.count, q47.start, q47.buf, q47.th, q47.tt, q47.sh, q47.st⟩ : Ch) (i2) (⟨q90.head, q90.tail⟩ : En)) fun q203 => bind2 (pPutChan i1 (⟨q203.cap, q203.closed, q203.count, q203.start, q203.buf, q203.th, q203.tt, q203.sh, q203.st⟩ : Ch) s128) fun x210 s211 => bind1 (list_follow.m k s211 i3 (-1)) fun s222 => some (true, s222)) else none) else (if (q90.tail == i3) then bind1 (list_into.m k (⟨q47.cap, q47.closed, q47.count, q47.start, q47.buf, q47.th, q47.tt, q47.sh, q47.st⟩ : Ch) (i2) (⟨q68.next, -1⟩ : En)) fun q270 => bind2 (pPutChan i1 (⟨q270.cap, q270.closed, q270.count, q270.start, q270.buf, q270.th, q270.tt, q270.sh, q270.st⟩ : Ch) s6) fun x278 s279 => bind1 (list_follow.m k s279 i3 (-1)) fun s290 => some (true, s290) else bind1 (list_into.m k (⟨q47.cap, q47.closed, q47.count, q47.start, q47.buf, q47.th, q47.tt, q47.sh, q47.st⟩ : Ch) (i2) (⟨q68.next, q90.tail⟩ : En)) fun q312 => bind2 (pPutChan i1 (⟨q312.cap, q312.closed, q312.count, q312.start, q312.buf, q312.th, q312.tt, q312.sh, q312.st⟩ : Ch) s6) fun x320 s321 => bind1 (list_follow.m k s321 i3 (-1)) fun s332 => some (true, s332))))
set_option maxRecDepth 100000 in
set_option maxHeartbeats 1500000 in
theorem list_Remove.ok {w0 w : World} {F0 : List Nat} {ps : List Piece} {k : Nat} {b0 ab0 : Nat} {s0 : HSt} {i1 : Int} {i2 : Bool} {i3 : Int} {r0 : Bool} {t0 : HSt} (hS : St w0 F0 (HeapP b0 ab0 s0 :: ps) w) (hm : list_Remove.m k s0 i1 i2 i3 = some (r0, t0)) :
    Calls Tryz.prog 32 #[nP b0 0, nI i1, .bool (i2), nI i3] w fun e w' => e = .returned (.bool r0) ∧ St w0 F0 (HeapP b0 ab0 t0 :: ps) w' := by
 refine ev_enterL 72 [nP b0 0, nI i1, .bool (i2), nI i3] Tryz.func32 rfl rfl (by simp) ?_
 intro a hF
 have hF0 : Fr 72 a [(0, nP b0 0), (1, nI i1), (2, .bool (i2)), (3, nI i3)] := hF; clear hF
 unfold list_Remove.m at hm
 refine wp_seq (wp_region_lit ?_)
 refine ev_runK 1 hF0 [0, 1, 2, 3] (l' := [(0, nP b0 0), (1, nI i1), (2, .bool (i2)), (3, nI i3)]) (w' := w) (by kernel_rfl) ?_
 intro a2 hF1; clear hF0
 refine wpList_nil (thenN (wp_seq (wp_region_lit ?_)))
 refine ev_runs 3 hF1 (l' := [(19, .bool (i2)), (18, nI i1), (17, nP b0 0), (0, nP b0 0), (1, nI i1), (2, .bool (i2)), (3, nI i3)]) (w' := w) (by kernel_rfl) ?_
 intro a4 hF3; clear hF1
 refine ev_call 33 #[nP b0 0, nI i1, .bool (i2)] hF3 rfl rfl (by kernel_rfl) rfl (by kernel_rfl) (fun w => by kernel_rfl) ?_
 obtain ⟨L5, s6, hx7, hm8⟩ := bind2E hm; clear hm
 refine (list_All.ok hS hx7).mono ?_
 rintro _ w9 ⟨z13, rfl, hS11⟩ a10 hF12; clear hF3 hS
 obtain ⟨hl18, p15, c16, rfl, hp17⟩ := St.shape hS11 1 rfl
 refine ev_runK 1 hF12 [0, 1, 2, 3, 9] (l' := [(9, .slice p15 L5.length c16), (0, nP b0 0), (1, nI i1), (2, .bool (i2)), (3, nI i3)]) (w' := w9) (by kernel_rfl) ?_
 intro a20 hF19; clear hF12
 refine wpList_nil (thenN (wp_seq (wp_region_lit ?_)))
 refine ev_runs 2 hF19 (l' := [(22, nI i3), (21, .slice p15 L5.length c16), (9, .slice p15 L5.length c16), (0, nP b0 0), (1, nI i1), (2, .bool (i2)), (3, nI i3)]) (w' := w9) (by kernel_rfl) ?_
 intro a22 hF21; clear hF19
 have hS23 := hS11.pick1
 clear hS11
 refine ev_call 77 #[.slice p15 L5.length c16, nI i3] hF21 rfl rfl (by kernel_rfl) rfl (by kernel_rfl) (fun w => by kernel_rfl) ?_
 obtain ⟨x24, hx25, hm26⟩ := bind1E hm8; clear hm8
 refine (slices_Index.ok hS23 hx25).mono ?_
 rintro _ w27 ⟨rfl, hS29⟩ a28 hF30; clear hF21 hS23
 refine ev_runK 1 hF30 [0, 1, 2, 3, 9, 10] (l' := [(10, nI x24), (9, .slice p15 L5.length c16), (0, nP b0 0), (1, nI i1), (2, .bool (i2)), (3, nI i3)]) (w' := w27) (by kernel_rfl) ?_
 intro a32 hF31; clear hF30
 refine wpList_nil (thenN (wp_seq (wp_seq (wp_region_lit ?_))))
 refine ev_runK 2 hF31 [0, 1, 2, 3, 9, 10, 25] (l' := [(25, .bool (decide (x24 < 0))), (10, nI x24), (9, .slice p15 L5.length c16), (0, nP b0 0), (1, nI i1), (2, .bool (i2)), (3, nI i3)]) (w' := w27) (by kernel_rfl) ?_
 intro a34 hF33; clear hF31
 refine wpList_nil (thenN ?_)
 cases hc35 : (decide (x24 < 0)) with
 | true =>
  rw [hc35] at hF33
  rw [hc35] at hm26
  have hm36 := ifT hm26; clear hm26
  refine ev_condT hF33 rfl rfl ?_
  refine wp_seq (wp_region_lit ?_)
  refine ev_runK 1 hF33 [8] (l' := [(8, .bool false)]) (w' := w27) (by kernel_rfl) ?_
  intro a38 hF37; clear hF33
  refine wpList_nil ?_
  have hS39 := hS29.drop
  clear hS29
  refine thenN ?_
  refine wp_ret ?_
  refine thenR ?_
  simp only [Option.some.injEq, Prod.mk.injEq] at hm36
  obtain ⟨rfl, rfl⟩ := hm36
  refine ev_ret hF37 [8] (.bool false) rfl rfl rfl ?_
  exact ⟨rfl, hS39⟩
 | false =>
  rw [hc35] at hF33
  rw [hc35] at hm26
  have hm42 := ifF hm26; clear hm26
  refine ev_condF hF33 rfl rfl ?_
  refine wp_skip ?_
  have hF43 := hF33.keep [0, 1, 2, 3, 9, 10]
  clear hF33
  refine thenN (wp_seq (wp_region_lit ?_))
  refine ev_runs 2 hF43 (l' := [(28, nI i1), (27, nP b0 0), (10, nI x24), (9, .slice p15 L5.length c16), (0, nP b0 0), (1, nI i1), (2, .bool (i2)), (3, nI i3)]) (w' := w27) (by kernel_rfl) ?_
  intro a45 hF44; clear hF43
  have hS46 := hS29.pick1
  clear hS29
  refine ev_call 18 #[nP b0 0, nI i1] hF44 rfl rfl (by kernel_rfl) rfl (by kernel_rfl) (fun w => by kernel_rfl) ?_
  obtain ⟨q47, x48, hx49, hm50⟩ := bind2E hm42; clear hm42
  refine (p_Chan hS46 hx49).mono ?_
  rintro _ w51 ⟨rfl, hS53⟩ a52 hF54; clear hF44 hS46
  refine ev_runs 4 hF54 (l' := [(11, nP (w51.heap.size) 0), (31, nI x48), (30, .agg #[nI (q47.cap), nI (q47.closed), nI (q47.count), nI (q47.start), nI (q47.buf), nI (q47.th), nI (q47.tt), nI (q47.sh), nI (q47.st)]), (26, .tuple #[.agg #[nI (q47.cap), nI (q47.closed), nI (q47.count), nI (q47.start), nI (q47.buf), nI (q47.th), nI (q47.tt), nI (q47.sh), nI (q47.st)], nI x48]), (29, .tuple #[.agg #[nI (q47.cap), nI (q47.closed), nI (q47.count), nI (q47.start), nI (q47.buf), nI (q47.th), nI (q47.tt), nI (q47.sh), nI (q47.st)], nI x48]), (28, nI i1), (27, nP b0 0), (10, nI x24), (9, .slice p15 L5.length c16), (0, nP b0 0), (1, nI i1), (2, .bool (i2)), (3, nI i3)]) (w' := w51.alloc (.cells #[nI 0, nI 0, nI 0, nI 0, nI 0, nI 0, nI 0, nI 0, nI 0] 37)) (by kernel_rfl) ?_
  intro a56 hF55; clear hF54
  have hS58 : St w0 F0 (BlkP (w51.heap.size) 37 #[nI 0, nI 0, nI 0, nI 0, nI 0, nI 0, nI 0, nI 0, nI 0] :: HeapP b0 ab0 s6 :: RowP (.slice p15 L5.length c16) L5 :: ps) (w51.alloc (.cells #[nI 0, nI 0, nI 0, nI 0, nI 0, nI 0, nI 0, nI 0, nI 0] 37)) := St.new hS53 #[nI 0, nI 0, nI 0, nI 0, nI 0, nI 0, nI 0, nI 0, nI 0] 37
  clear hS53
  refine ev_store (.agg #[nI (q47.cap), nI (q47.closed), nI (q47.count), nI (q47.start), nI (q47.buf), nI (q47.th), nI (q47.tt), nI (q47.sh), nI (q47.st)]) #[nI (q47.cap), nI (q47.closed), nI (q47.count), nI (q47.start), nI (q47.buf), nI (q47.th), nI (q47.tt), nI (q47.sh), nI (q47.st)] hF55 (by kernel_rfl) rfl rfl rfl rfl (by kernel_rfl) hS58 (by kernel_rfl) (by kernel_rfl) (by kernel_rfl) (l' := [(11, nP (w51.heap.size) 0), (31, nI x48), (30, .agg #[nI (q47.cap), nI (q47.closed), nI (q47.count), nI (q47.start), nI (q47.buf), nI (q47.th), nI (q47.tt), nI (q47.sh), nI (q47.st)]), (26, .tuple #[.agg #[nI (q47.cap), nI (q47.closed), nI (q47.count), nI (q47.start), nI (q47.buf), nI (q47.th), nI (q47.tt), nI (q47.sh), nI (q47.st)], nI x48]), (29, .tuple #[.agg #[nI (q47.cap), nI (q47.closed), nI (q47.count), nI (q47.start), nI (q47.buf), nI (q47.th), nI (q47.tt), nI (q47.sh), nI (q47.st)], nI x48]), (28, nI i1), (27, nP b0 0), (10, nI x24), (9, .slice p15 L5.length c16), (0, nP b0 0), (1, nI i1), (2, .bool (i2)), (3, nI i3)]) (by kernel_rfl) ?_
  intro w59 a60 hS61 hF62; clear hF55 hS58
  refine ev_runK 1 hF62 [0, 1, 2, 3, 9, 10, 11] (l' := [(11, nP (w51.heap.size) 0), (10, nI x24), (9, .slice p15 L5.length c16), (0, nP b0 0), (1, nI i1), (2, .bool (i2)), (3, nI i3)]) (w' := w59) (by kernel_rfl) ?_
  intro a64 hF63; clear hF62
  refine wpList_nil (thenN (wp_seq (wp_region_lit ?_)))
  refine ev_runs 2 hF63 (l' := [(34, nI i3), (33, nP b0 0), (11, nP (w51.heap.size) 0), (10, nI x24), (9, .slice p15 L5.length c16), (0, nP b0 0), (1, nI i1), (2, .bool (i2)), (3, nI i3)]) (w' := w59) (by kernel_rfl) ?_
  intro a66 hF65; clear hF63
  have hS67 := hS61.pick1
  clear hS61
  refine ev_call 29 #[nP b0 0, nI i3] hF65 rfl rfl (by kernel_rfl) rfl (by kernel_rfl) (fun w => by kernel_rfl) ?_
  obtain ⟨q68, x69, hx70, hm71⟩ := bind2E hm50; clear hm50
  refine (p_Sudog hS67 hx70).mono ?_
  rintro _ w72 ⟨rfl, hS74⟩ a73 hF75; clear hF65 hS67
  refine ev_runs 4 hF75 (l' := [(13, nP (w72.heap.size) 0), (37, nI x69), (36, .agg #[nI (q68.gor), nI (q68.chan), nI (q68.value), nI (q68.next), nI (q68.to), nI (q68.reg), nI (q68.more)]), (32, .tuple #[.agg #[nI (q68.gor), nI (q68.chan), nI (q68.value), nI (q68.next), nI (q68.to), nI (q68.reg), nI (q68.more)], nI x69]), (35, .tuple #[.agg #[nI (q68.gor), nI (q68.chan), nI (q68.value), nI (q68.next), nI (q68.to), nI (q68.reg), nI (q68.more)], nI x69]), (34, nI i3), (33, nP b0 0), (11, nP (w51.heap.size) 0), (10, nI x24), (9, .slice p15 L5.length c16), (0, nP b0 0), (1, nI i1), (2, .bool (i2)), (3, nI i3)]) (w' := w72.alloc (.cells #[nI 0, nI 0, nI 0, nI 0, nI 0, nI 0, nI 0] 54)) (by kernel_rfl) ?_
  intro a77 hF76; clear hF75
  have hS79 : St w0 F0 (BlkP (w72.heap.size) 54 #[nI 0, nI 0, nI 0, nI 0, nI 0, nI 0, nI 0] :: HeapP b0 ab0 s6 :: BlkP (w51.heap.size) 37 #[nI (q47.cap), nI (q47.closed), nI (q47.count), nI (q47.start), nI (q47.buf), nI (q47.th), nI (q47.tt), nI (q47.sh), nI (q47.st)] :: RowP (.slice p15 L5.length c16) L5 :: ps) (w72.alloc (.cells #[nI 0, nI 0, nI 0, nI 0, nI 0, nI 0, nI 0] 54)) := St.new hS74 #[nI 0, nI 0, nI 0, nI 0, nI 0, nI 0, nI 0] 54
  clear hS74
  refine ev_store (.agg #[nI (q68.gor), nI (q68.chan), nI (q68.value), nI (q68.next), nI (q68.to), nI (q68.reg), nI (q68.more)]) #[nI (q68.gor), nI (q68.chan), nI (q68.value), nI (q68.next), nI (q68.to), nI (q68.reg), nI (q68.more)] hF76 (by kernel_rfl) rfl rfl rfl rfl (by kernel_rfl) hS79 (by kernel_rfl) (by kernel_rfl) (by kernel_rfl) (l' := [(13, nP (w72.heap.size) 0), (37, nI x69), (36, .agg #[nI (q68.gor), nI (q68.chan), nI (q68.value), nI (q68.next), nI (q68.to), nI (q68.reg), nI (q68.more)]), (32, .tuple #[.agg #[nI (q68.gor), nI (q68.chan), nI (q68.value), nI (q68.next), nI (q68.to), nI (q68.reg), nI (q68.more)], nI x69]), (35, .tuple #[.agg #[nI (q68.gor), nI (q68.chan), nI (q68.value), nI (q68.next), nI (q68.to), nI (q68.reg), nI (q68.more)], nI x69]), (34, nI i3), (33, nP b0 0), (11, nP (w51.heap.size) 0), (10, nI x24), (9, .slice p15 L5.length c16), (0, nP b0 0), (1, nI i1), (2, .bool (i2)), (3, nI i3)]) (by kernel_rfl) ?_
  intro w80 a81 hS82 hF83; clear hF76 hS79
  refine ev_runK 1 hF83 [0, 1, 2, 3, 9, 10, 11, 13] (l' := [(13, nP (w72.heap.size) 0), (11, nP (w51.heap.size) 0), (10, nI x24), (9, .slice p15 L5.length c16), (0, nP b0 0), (1, nI i1), (2, .bool (i2)), (3, nI i3)]) (w' := w80) (by kernel_rfl) ?_
  intro a85 hF84; clear hF83
  refine wpList_nil (thenN (wp_seq (wp_region_lit ?_)))
  refine ev_one (.agg #[nI (q47.cap), nI (q47.closed), nI (q47.count), nI (q47.start), nI (q47.buf), nI (q47.th), nI (q47.tt), nI (q47.sh), nI (q47.st)]) w80 hF84 (by kernel_rfl) rfl (by kernel_rfl) (run_loadV rfl rfl (run_loadA (cs := [nI (q47.cap), nI (q47.closed), nI (q47.count), nI (q47.start), nI (q47.buf), nI (q47.th), nI (q47.tt), nI (q47.sh), nI (q47.st)]) rfl rfl (by kernel_rfl) (blk_cells hS82 2 rfl rfl))) (l' := [(38, .agg #[nI (q47.cap), nI (q47.closed), nI (q47.count), nI (q47.start), nI (q47.buf), nI (q47.th), nI (q47.tt), nI (q47.sh), nI (q47.st)]), (13, nP (w72.heap.size) 0), (11, nP (w51.heap.size) 0), (10, nI x24), (9, .slice p15 L5.length c16), (0, nP b0 0), (1, nI i1), (2, .bool (i2)), (3, nI i3)]) (by kernel_rfl) ?_
  intro a87 hF86; clear hF84
  refine ev_runs 1 hF86 (l' := [(39, .bool (i2)), (38, .agg #[nI (q47.cap), nI (q47.closed), nI (q47.count), nI (q47.start), nI (q47.buf), nI (q47.th), nI (q47.tt), nI (q47.sh), nI (q47.st)]), (13, nP (w72.heap.size) 0), (11, nP (w51.heap.size) 0), (10, nI x24), (9, .slice p15 L5.length c16), (0, nP b0 0), (1, nI i1), (2, .bool (i2)), (3, nI i3)]) (w' := w80) (by kernel_rfl) ?_
  intro a89 hF88; clear hF86
  refine ev_call 73 #[.agg #[nI (q47.cap), nI (q47.closed), nI (q47.count), nI (q47.start), nI (q47.buf), nI (q47.th), nI (q47.tt), nI (q47.sh), nI (q47.st)], .bool (i2)] hF88 rfl rfl (by kernel_rfl) rfl (by kernel_rfl) (fun w => by kernel_rfl) ?_
  obtain ⟨q90, hx91, hm92⟩ := bind1E hm71; clear hm71
  refine (list_of.ok hS82 hx91).mono ?_
  rintro _ w93 ⟨rfl, hS95⟩ a94 hF96; clear hF88 hS82
  refine ev_runs 1 hF96 (l' := [(15, nP (w93.heap.size) 0), (40, .agg #[nI (q90.head), nI (q90.tail)]), (39, .bool (i2)), (38, .agg #[nI (q47.cap), nI (q47.closed), nI (q47.count), nI (q47.start), nI (q47.buf), nI (q47.th), nI (q47.tt), nI (q47.sh), nI (q47.st)]), (13, nP (w72.heap.size) 0), (11, nP (w51.heap.size) 0), (10, nI x24), (9, .slice p15 L5.length c16), (0, nP b0 0), (1, nI i1), (2, .bool (i2)), (3, nI i3)]) (w' := w93.alloc (.cells #[nI 0, nI 0] 116)) (by kernel_rfl) ?_
  intro a98 hF97; clear hF96
  have hS100 : St w0 F0 (BlkP (w93.heap.size) 116 #[nI 0, nI 0] :: BlkP (w72.heap.size) 54 #[nI (q68.gor), nI (q68.chan), nI (q68.value), nI (q68.next), nI (q68.to), nI (q68.reg), nI (q68.more)] :: HeapP b0 ab0 s6 :: BlkP (w51.heap.size) 37 #[nI (q47.cap), nI (q47.closed), nI (q47.count), nI (q47.start), nI (q47.buf), nI (q47.th), nI (q47.tt), nI (q47.sh), nI (q47.st)] :: RowP (.slice p15 L5.length c16) L5 :: ps) (w93.alloc (.cells #[nI 0, nI 0] 116)) := St.new hS95 #[nI 0, nI 0] 116
  clear hS95
  refine ev_store (.agg #[nI (q90.head), nI (q90.tail)]) #[nI (q90.head), nI (q90.tail)] hF97 (by kernel_rfl) rfl rfl rfl rfl (by kernel_rfl) hS100 (by kernel_rfl) (by kernel_rfl) (by kernel_rfl) (l' := [(15, nP (w93.heap.size) 0), (40, .agg #[nI (q90.head), nI (q90.tail)]), (39, .bool (i2)), (38, .agg #[nI (q47.cap), nI (q47.closed), nI (q47.count), nI (q47.start), nI (q47.buf), nI (q47.th), nI (q47.tt), nI (q47.sh), nI (q47.st)]), (13, nP (w72.heap.size) 0), (11, nP (w51.heap.size) 0), (10, nI x24), (9, .slice p15 L5.length c16), (0, nP b0 0), (1, nI i1), (2, .bool (i2)), (3, nI i3)]) (by kernel_rfl) ?_
  intro w101 a102 hS103 hF104; clear hF97 hS100
  refine ev_runK 1 hF104 [0, 1, 2, 3, 9, 10, 11, 13, 15, 16] (l' := [(16, nI (-1)), (15, nP (w93.heap.size) 0), (13, nP (w72.heap.size) 0), (11, nP (w51.heap.size) 0), (10, nI x24), (9, .slice p15 L5.length c16), (0, nP b0 0), (1, nI i1), (2, .bool (i2)), (3, nI i3)]) (w' := w101) (by kernel_rfl) ?_
  intro a106 hF105; clear hF104
  refine wpList_nil (thenN (wp_seq (wp_seq (wp_region_lit ?_))))
  refine ev_runK 2 hF105 [0, 1, 2, 3, 9, 10, 11, 13, 15, 16, 42] (l' := [(42, .bool (decide (x24 > 0))), (16, nI (-1)), (15, nP (w93.heap.size) 0), (13, nP (w72.heap.size) 0), (11, nP (w51.heap.size) 0), (10, nI x24), (9, .slice p15 L5.length c16), (0, nP b0 0), (1, nI i1), (2, .bool (i2)), (3, nI i3)]) (w' := w101) (by kernel_rfl) ?_
  intro a108 hF107; clear hF105
  refine wpList_nil (thenN ?_)
  cases hc109 : (decide (x24 > 0)) with
  | true =>
   rw [hc109] at hF107
   rw [hc109] at hm92
   have hm110 := ifT hm92; clear hm92
   refine ev_condT hF107 rfl rfl ?_
   refine wp_seq (wp_region_lit ?_)
   refine ev_runs 3 hF107 (l' := [(45, nI (IntKind.i64.wrap (x24 - 1))), (44, nI x24), (43, .slice p15 L5.length c16), (42, .bool true), (16, nI (-1)), (15, nP (w93.heap.size) 0), (13, nP (w72.heap.size) 0), (11, nP (w51.heap.size) 0), (10, nI x24), (9, .slice p15 L5.length c16), (0, nP b0 0), (1, nI i1), (2, .bool (i2)), (3, nI i3)]) (w' := w101) (by kernel_rfl) ?_
   intro a112 hF111; clear hF107
   obtain ⟨hc113, hm114⟩ := ifTE hm110; clear hm110
   obtain ⟨g115, rfl⟩ := hp17.resolve_left (by have := inR_spec hc113; omega)
   refine ev_one (nP g115 ((IntKind.i64.wrap (x24 - 1)).toNat)) w101 hF111 (by kernel_rfl) rfl (by kernel_rfl) (run_idx rfl rfl rfl rfl rfl (inR_spec hc113).1 (inR_spec hc113).2 _) (l' := [(46, nP g115 ((IntKind.i64.wrap (x24 - 1)).toNat)), (45, nI (IntKind.i64.wrap (x24 - 1))), (44, nI x24), (43, .slice (some ⟨g115, 0, none⟩) L5.length c16), (42, .bool true), (16, nI (-1)), (15, nP (w93.heap.size) 0), (13, nP (w72.heap.size) 0), (11, nP (w51.heap.size) 0), (10, nI x24), (9, .slice (some ⟨g115, 0, none⟩) L5.length c16), (0, nP b0 0), (1, nI i1), (2, .bool (i2)), (3, nI i3)]) (by kernel_rfl) ?_
   intro a117 hF116; clear hF111
   refine ev_one (nI (atI L5 (IntKind.i64.wrap (x24 - 1)))) w101 hF116 (by kernel_rfl) rfl (by kernel_rfl) (run_load1 rfl rfl rfl (hS103.atI 4 rfl hc113)) (l' := [(47, nI (atI L5 (IntKind.i64.wrap (x24 - 1)))), (46, nP g115 ((IntKind.i64.wrap (x24 - 1)).toNat)), (45, nI (IntKind.i64.wrap (x24 - 1))), (44, nI x24), (43, .slice (some ⟨g115, 0, none⟩) L5.length c16), (42, .bool true), (16, nI (-1)), (15, nP (w93.heap.size) 0), (13, nP (w72.heap.size) 0), (11, nP (w51.heap.size) 0), (10, nI x24), (9, .slice (some ⟨g115, 0, none⟩) L5.length c16), (0, nP b0 0), (1, nI i1), (2, .bool (i2)), (3, nI i3)]) (by kernel_rfl) ?_
   intro a119 hF118; clear hF116
   refine ev_runK 1 hF118 [0, 1, 2, 3, 11, 13, 15, 16] (l' := [(16, nI (atI L5 (IntKind.i64.wrap (x24 - 1)))), (15, nP (w93.heap.size) 0), (13, nP (w72.heap.size) 0), (11, nP (w51.heap.size) 0), (0, nP b0 0), (1, nI i1), (2, .bool (i2)), (3, nI i3)]) (w' := w101) (by kernel_rfl) ?_
   intro a121 hF120; clear hF118
   refine wpList_nil ?_
   have hS122 := hS103.pick4.drop
   clear hS103
   refine thenN (wp_region_lit ?_)
   refine ev_runs 3 hF120 (l' := [(50, nP (w72.heap.size) 3), (49, nI (atI L5 (IntKind.i64.wrap (x24 - 1)))), (48, nP b0 0), (16, nI (atI L5 (IntKind.i64.wrap (x24 - 1)))), (15, nP (w93.heap.size) 0), (13, nP (w72.heap.size) 0), (11, nP (w51.heap.size) 0), (0, nP b0 0), (1, nI i1), (2, .bool (i2)), (3, nI i3)]) (w' := w101) (by kernel_rfl) ?_
   intro a124 hF123; clear hF120
   refine ev_one (nI (q68.next)) w101 hF123 (by kernel_rfl) rfl (by kernel_rfl) (run_loadV rfl rfl (run_loadS rfl rfl (hS122.cell 1 rfl 3 rfl))) (l' := [(51, nI (q68.next)), (50, nP (w72.heap.size) 3), (49, nI (atI L5 (IntKind.i64.wrap (x24 - 1)))), (48, nP b0 0), (16, nI (atI L5 (IntKind.i64.wrap (x24 - 1)))), (15, nP (w93.heap.size) 0), (13, nP (w72.heap.size) 0), (11, nP (w51.heap.size) 0), (0, nP b0 0), (1, nI i1), (2, .bool (i2)), (3, nI i3)]) (by kernel_rfl) ?_
   intro a126 hF125; clear hF123
   have hS127 := hS122.pick2
   clear hS122
   refine ev_call 74 #[nP b0 0, nI (atI L5 (IntKind.i64.wrap (x24 - 1))), nI (q68.next)] hF125 rfl rfl (by kernel_rfl) rfl (by kernel_rfl) (fun w => by kernel_rfl) ?_
   obtain ⟨s128, hx129, hm130⟩ := bind1E hm114; clear hm114
   refine (list_follow.ok hS127 hx129).mono ?_
   rintro _ w131 ⟨rfl, hS133⟩ a132 hF134; clear hF125 hS127
   refine wpList_nil ?_
   have hF135 := hF134.keep [0, 1, 2, 3, 11, 15, 16]
   clear hF134
   have hS136 := hS133.pick2.drop
   clear hS133
   refine thenN (wp_seq (wp_seq (wp_region_lit ?_)))
   refine ev_runs 1 hF135 (l' := [(56, nP (w93.heap.size) 1), (16, nI (atI L5 (IntKind.i64.wrap (x24 - 1)))), (15, nP (w93.heap.size) 0), (11, nP (w51.heap.size) 0), (0, nP b0 0), (1, nI i1), (2, .bool (i2)), (3, nI i3)]) (w' := w131) (by kernel_rfl) ?_
   intro a138 hF137; clear hF135
   refine ev_one (nI (q90.tail)) w131 hF137 (by kernel_rfl) rfl (by kernel_rfl) (run_loadV rfl rfl (run_loadS rfl rfl (hS136.cell 1 rfl 1 rfl))) (l' := [(57, nI (q90.tail)), (56, nP (w93.heap.size) 1), (16, nI (atI L5 (IntKind.i64.wrap (x24 - 1)))), (15, nP (w93.heap.size) 0), (11, nP (w51.heap.size) 0), (0, nP b0 0), (1, nI i1), (2, .bool (i2)), (3, nI i3)]) (by kernel_rfl) ?_
   intro a140 hF139; clear hF137
   refine ev_runK 2 hF139 [0, 1, 2, 3, 11, 15, 16, 59] (l' := [(59, .bool (q90.tail == i3)), (16, nI (atI L5 (IntKind.i64.wrap (x24 - 1)))), (15, nP (w93.heap.size) 0), (11, nP (w51.heap.size) 0), (0, nP b0 0), (1, nI i1), (2, .bool (i2)), (3, nI i3)]) (w' := w131) (by kernel_rfl) ?_
   intro a142 hF141; clear hF139
   refine wpList_nil (thenN ?_)
   cases hc143 : (q90.tail == i3) with
   | true =>
    rw [hc143] at hF141
    rw [hc143] at hm130
    have hm144 := ifT hm130; clear hm130
    refine ev_condT hF141 rfl rfl ?_
    refine wp_region_lit ?_
    refine ev_runs 2 hF141 (l' := [(61, nP (w93.heap.size) 1), (60, nI (atI L5 (IntKind.i64.wrap (x24 - 1)))), (59, .bool true), (16, nI (atI L5 (IntKind.i64.wrap (x24 - 1)))), (15, nP (w93.heap.size) 0), (11, nP (w51.heap.size) 0), (0, nP b0 0), (1, nI i1), (2, .bool (i2)), (3, nI i3)]) (w' := w131) (by kernel_rfl) ?_
    intro a146 hF145; clear hF141
    have hS147 := hS136.pick1
    clear hS136
    refine ev_store (nI (atI L5 (IntKind.i64.wrap (x24 - 1)))) #[nI (q90.head), nI (atI L5 (IntKind.i64.wrap (x24 - 1)))] hF145 (by kernel_rfl) rfl rfl rfl rfl (by kernel_rfl) hS147 (by kernel_rfl) (by kernel_rfl) (by kernel_rfl) (l' := [(61, nP (w93.heap.size) 1), (60, nI (atI L5 (IntKind.i64.wrap (x24 - 1)))), (59, .bool true), (16, nI (atI L5 (IntKind.i64.wrap (x24 - 1)))), (15, nP (w93.heap.size) 0), (11, nP (w51.heap.size) 0), (0, nP b0 0), (1, nI i1), (2, .bool (i2)), (3, nI i3)]) (by kernel_rfl) ?_
    intro w148 a149 hS150 hF151; clear hF145 hS147
    refine wpList_nil ?_
    have hF152 := hF151.keep [0, 1, 2, 3, 11, 15]
    clear hF151
    refine thenN (wp_seq (wp_region_lit ?_))
    refine ev_runs 2 hF152 (l' := [(63, nI i1), (62, nP b0 0), (15, nP (w93.heap.size) 0), (11, nP (w51.heap.size) 0), (0, nP b0 0), (1, nI i1), (2, .bool (i2)), (3, nI i3)]) (w' := w148) (by kernel_rfl) ?_
    intro a154 hF153; clear hF152
    refine ev_one (.agg #[nI (q47.cap), nI (q47.closed), nI (q47.count), nI (q47.start), nI (q47.buf), nI (q47.th), nI (q47.tt), nI (q47.sh), nI (q47.st)]) w148 hF153 (by kernel_rfl) rfl (by kernel_rfl) (run_loadV rfl rfl (run_loadA (cs := [nI (q47.cap), nI (q47.closed), nI (q47.count), nI (q47.start), nI (q47.buf), nI (q47.th), nI (q47.tt), nI (q47.sh), nI (q47.st)]) rfl rfl (by kernel_rfl) (blk_cells hS150 2 rfl rfl))) (l' := [(64, .agg #[nI (q47.cap), nI (q47.closed), nI (q47.count), nI (q47.start), nI (q47.buf), nI (q47.th), nI (q47.tt), nI (q47.sh), nI (q47.st)]), (63, nI i1), (62, nP b0 0), (15, nP (w93.heap.size) 0), (11, nP (w51.heap.size) 0), (0, nP b0 0), (1, nI i1), (2, .bool (i2)), (3, nI i3)]) (by kernel_rfl) ?_
    intro a156 hF155; clear hF153
    refine ev_runs 1 hF155 (l' := [(65, .bool (i2)), (64, .agg #[nI (q47.cap), nI (q47.closed), nI (q47.count), nI (q47.start), nI (q47.buf), nI (q47.th), nI (q47.tt), nI (q47.sh), nI (q47.st)]), (63, nI i1), (62, nP b0 0), (15, nP (w93.heap.size) 0), (11, nP (w51.heap.size) 0), (0, nP b0 0), (1, nI i1), (2, .bool (i2)), (3, nI i3)]) (w' := w148) (by kernel_rfl) ?_
    intro a158 hF157; clear hF155
    refine ev_one (.agg #[nI (q90.head), nI (atI L5 (IntKind.i64.wrap (x24 - 1)))]) w148 hF157 (by kernel_rfl) rfl (by kernel_rfl) (run_loadV rfl rfl (run_loadA (cs := [nI (q90.head), nI (atI L5 (IntKind.i64.wrap (x24 - 1)))]) rfl rfl (by kernel_rfl) (blk_cells hS150 0 rfl rfl))) (l' := [(66, .agg #[nI (q90.head), nI (atI L5 (IntKind.i64.wrap (x24 - 1)))]), (65, .bool (i2)), (64, .agg #[nI (q47.cap), nI (q47.closed), nI (q47.count), nI (q47.start), nI (q47.buf), nI (q47.th), nI (q47.tt), nI (q47.sh), nI (q47.st)]), (63, nI i1), (62, nP b0 0), (15, nP (w93.heap.size) 0), (11, nP (w51.heap.size) 0), (0, nP b0 0), (1, nI i1), (2, .bool (i2)), (3, nI i3)]) (by kernel_rfl) ?_
    intro a160 hF159; clear hF157
    refine ev_call 75 #[.agg #[nI (q47.cap), nI (q47.closed), nI (q47.count), nI (q47.start), nI (q47.buf), nI (q47.th), nI (q47.tt), nI (q47.sh), nI (q47.st)], .bool (i2), .agg #[nI (q90.head), nI (atI L5 (IntKind.i64.wrap (x24 - 1)))]] hF159 rfl rfl (by kernel_rfl) rfl (by kernel_rfl) (fun w => by kernel_rfl) ?_
    obtain ⟨q161, hx162, hm163⟩ := bind1E hm144; clear hm144
    refine (list_into.ok hS150 hx162).mono ?_
    rintro _ w164 ⟨rfl, hS166⟩ a165 hF167; clear hF159 hS150
    have hS168 := hS166.pick1
    clear hS166
    refine ev_call 22 #[nP b0 0, nI i1, .agg #[nI (q161.cap), nI (q161.closed), nI (q161.count), nI (q161.start), nI (q161.buf), nI (q161.th), nI (q161.tt), nI (q161.sh), nI (q161.st)]] hF167 rfl rfl (by kernel_rfl) rfl (by kernel_rfl) (fun w => by kernel_rfl) ?_
    obtain ⟨x169, s170, hx171, hm172⟩ := bind2E hm163; clear hm163
    refine (p_PutChan hS168 hx171).mono ?_
    rintro _ w173 ⟨rfl, hS175⟩ a174 hF176; clear hF167 hS168
    refine wpList_nil ?_
    have hF177 := hF176.keep [0, 3]
    clear hF176
    have hS178 := hS175.pick1.drop.pick1.drop
    clear hS175
    refine thenN (wp_seq (wp_region_lit ?_))
    refine ev_runs 2 hF177 (l' := [(70, nI i3), (69, nP b0 0), (0, nP b0 0), (3, nI i3)]) (w' := w173) (by kernel_rfl) ?_
    intro a180 hF179; clear hF177
    refine ev_call 74 #[nP b0 0, nI i3, nI (-1)] hF179 rfl rfl (by kernel_rfl) rfl (by kernel_rfl) (fun w => by kernel_rfl) ?_
    obtain ⟨s181, hx182, hm183⟩ := bind1E hm172; clear hm172
    refine (list_follow.ok hS178 hx182).mono ?_
    rintro _ w184 ⟨rfl, hS186⟩ a185 hF187; clear hF179 hS178
    refine wpList_nil ?_
    have hF188 := hF187.keep []
    clear hF187
    refine thenN (wp_seq (wp_region_lit ?_))
    refine ev_runs 1 hF188 (l' := [(8, .bool true)]) (w' := w184) (by kernel_rfl) ?_
    intro a190 hF189; clear hF188
    refine wpList_nil (thenN ?_)
    refine wp_ret ?_
    simp only [Option.some.injEq, Prod.mk.injEq] at hm183
    obtain ⟨rfl, rfl⟩ := hm183
    refine ev_ret hF189 [8] (.bool true) rfl rfl rfl ?_
    exact ⟨rfl, hS186⟩
   | false =>
    rw [hc143] at hF141
    rw [hc143] at hm130
    have hm193 := ifF hm130; clear hm130
    refine ev_condF hF141 rfl rfl ?_
    refine wp_skip ?_
    have hF194 := hF141.keep [0, 1, 2, 3, 11, 15]
    clear hF141
    refine thenN (wp_seq (wp_region_lit ?_))
    refine ev_runs 2 hF194 (l' := [(63, nI i1), (62, nP b0 0), (15, nP (w93.heap.size) 0), (11, nP (w51.heap.size) 0), (0, nP b0 0), (1, nI i1), (2, .bool (i2)), (3, nI i3)]) (w' := w131) (by kernel_rfl) ?_
    intro a196 hF195; clear hF194
    refine ev_one (.agg #[nI (q47.cap), nI (q47.closed), nI (q47.count), nI (q47.start), nI (q47.buf), nI (q47.th), nI (q47.tt), nI (q47.sh), nI (q47.st)]) w131 hF195 (by kernel_rfl) rfl (by kernel_rfl) (run_loadV rfl rfl (run_loadA (cs := [nI (q47.cap), nI (q47.closed), nI (q47.count), nI (q47.start), nI (q47.buf), nI (q47.th), nI (q47.tt), nI (q47.sh), nI (q47.st)]) rfl rfl (by kernel_rfl) (blk_cells hS136 2 rfl rfl))) (l' := [(64, .agg #[nI (q47.cap), nI (q47.closed), nI (q47.count), nI (q47.start), nI (q47.buf), nI (q47.th), nI (q47.tt), nI (q47.sh), nI (q47.st)]), (63, nI i1), (62, nP b0 0), (15, nP (w93.heap.size) 0), (11, nP (w51.heap.size) 0), (0, nP b0 0), (1, nI i1), (2, .bool (i2)), (3, nI i3)]) (by kernel_rfl) ?_
    intro a198 hF197; clear hF195
    refine ev_runs 1 hF197 (l' := [(65, .bool (i2)), (64, .agg #[nI (q47.cap), nI (q47.closed), nI (q47.count), nI (q47.start), nI (q47.buf), nI (q47.th), nI (q47.tt), nI (q47.sh), nI (q47.st)]), (63, nI i1), (62, nP b0 0), (15, nP (w93.heap.size) 0), (11, nP (w51.heap.size) 0), (0, nP b0 0), (1, nI i1), (2, .bool (i2)), (3, nI i3)]) (w' := w131) (by kernel_rfl) ?_
    intro a200 hF199; clear hF197
    refine ev_one (.agg #[nI (q90.head), nI (q90.tail)]) w131 hF199 (by kernel_rfl) rfl (by kernel_rfl) (run_loadV rfl rfl (run_loadA (cs := [nI (q90.head), nI (q90.tail)]) rfl rfl (by kernel_rfl) (blk_cells hS136 1 rfl rfl))) (l' := [(66, .agg #[nI (q90.head), nI (q90.tail)]), (65, .bool (i2)), (64, .agg #[nI (q47.cap), nI (q47.closed), nI (q47.count), nI (q47.start), nI (q47.buf), nI (q47.th), nI (q47.tt), nI (q47.sh), nI (q47.st)]), (63, nI i1), (62, nP b0 0), (15, nP (w93.heap.size) 0), (11, nP (w51.heap.size) 0), (0, nP b0 0), (1, nI i1), (2, .bool (i2)), (3, nI i3)]) (by kernel_rfl) ?_
    intro a202 hF201; clear hF199
    refine ev_call 75 #[.agg #[nI (q47.cap), nI (q47.closed), nI (q47.count), nI (q47.start), nI (q47.buf), nI (q47.th), nI (q47.tt), nI (q47.sh), nI (q47.st)], .bool (i2), .agg #[nI (q90.head), nI (q90.tail)]] hF201 rfl rfl (by kernel_rfl) rfl (by kernel_rfl) (fun w => by kernel_rfl) ?_
    obtain ⟨q203, hx204, hm205⟩ := bind1E hm193; clear hm193
    refine (list_into.ok hS136 hx204).mono ?_
    rintro _ w206 ⟨rfl, hS208⟩ a207 hF209; clear hF201 hS136
    refine ev_call 22 #[nP b0 0, nI i1, .agg #[nI (q203.cap), nI (q203.closed), nI (q203.count), nI (q203.start), nI (q203.buf), nI (q203.th), nI (q203.tt), nI (q203.sh), nI (q203.st)]] hF209 rfl rfl (by kernel_rfl) rfl (by kernel_rfl) (fun w => by kernel_rfl) ?_
    obtain ⟨x210, s211, hx212, hm213⟩ := bind2E hm205; clear hm205
    refine (p_PutChan hS208 hx212).mono ?_
    rintro _ w214 ⟨rfl, hS216⟩ a215 hF217; clear hF209 hS208
    refine wpList_nil ?_
    have hF218 := hF217.keep [0, 3]
    clear hF217
    have hS219 := hS216.pick1.drop.pick1.drop
    clear hS216
    refine thenN (wp_seq (wp_region_lit ?_))
    refine ev_runs 2 hF218 (l' := [(70, nI i3), (69, nP b0 0), (0, nP b0 0), (3, nI i3)]) (w' := w214) (by kernel_rfl) ?_
    intro a221 hF220; clear hF218
    refine ev_call 74 #[nP b0 0, nI i3, nI (-1)] hF220 rfl rfl (by kernel_rfl) rfl (by kernel_rfl) (fun w => by kernel_rfl) ?_
    obtain ⟨s222, hx223, hm224⟩ := bind1E hm213; clear hm213
    refine (list_follow.ok hS219 hx223).mono ?_
    rintro _ w225 ⟨rfl, hS227⟩ a226 hF228; clear hF220 hS219
    refine wpList_nil ?_
    have hF229 := hF228.keep []
    clear hF228
    refine thenN (wp_seq (wp_region_lit ?_))
    refine ev_runs 1 hF229 (l' := [(8, .bool true)]) (w' := w225) (by kernel_rfl) ?_
    intro a231 hF230; clear hF229
    refine wpList_nil (thenN ?_)
    refine wp_ret ?_
    simp only [Option.some.injEq, Prod.mk.injEq] at hm224
    obtain ⟨rfl, rfl⟩ := hm224
    refine ev_ret hF230 [8] (.bool true) rfl rfl rfl ?_
    exact ⟨rfl, hS227⟩
  | false =>
   rw [hc109] at hF107
   rw [hc109] at hm92
   have hm234 := ifF hm92; clear hm92
   refine ev_condF hF107 rfl rfl ?_
   refine wp_region_lit ?_
   refine ev_runs 1 hF107 (l' := [(53, nP (w72.heap.size) 3), (42, .bool false), (16, nI (-1)), (15, nP (w93.heap.size) 0), (13, nP (w72.heap.size) 0), (11, nP (w51.heap.size) 0), (10, nI x24), (9, .slice p15 L5.length c16), (0, nP b0 0), (1, nI i1), (2, .bool (i2)), (3, nI i3)]) (w' := w101) (by kernel_rfl) ?_
   intro a236 hF235; clear hF107
   refine ev_one (nI (q68.next)) w101 hF235 (by kernel_rfl) rfl (by kernel_rfl) (run_loadV rfl rfl (run_loadS rfl rfl (hS103.cell 1 rfl 3 rfl))) (l' := [(54, nI (q68.next)), (53, nP (w72.heap.size) 3), (42, .bool false), (16, nI (-1)), (15, nP (w93.heap.size) 0), (13, nP (w72.heap.size) 0), (11, nP (w51.heap.size) 0), (10, nI x24), (9, .slice p15 L5.length c16), (0, nP b0 0), (1, nI i1), (2, .bool (i2)), (3, nI i3)]) (by kernel_rfl) ?_
   intro a238 hF237; clear hF235
   refine ev_runs 1 hF237 (l' := [(55, nP (w93.heap.size) 0), (54, nI (q68.next)), (53, nP (w72.heap.size) 3), (42, .bool false), (16, nI (-1)), (15, nP (w93.heap.size) 0), (13, nP (w72.heap.size) 0), (11, nP (w51.heap.size) 0), (10, nI x24), (9, .slice p15 L5.length c16), (0, nP b0 0), (1, nI i1), (2, .bool (i2)), (3, nI i3)]) (w' := w101) (by kernel_rfl) ?_
   intro a240 hF239; clear hF237
   refine ev_store (nI (q68.next)) #[nI (q68.next), nI (q90.tail)] hF239 (by kernel_rfl) rfl rfl rfl rfl (by kernel_rfl) hS103 (by kernel_rfl) (by kernel_rfl) (by kernel_rfl) (l' := [(55, nP (w93.heap.size) 0), (54, nI (q68.next)), (53, nP (w72.heap.size) 3), (42, .bool false), (16, nI (-1)), (15, nP (w93.heap.size) 0), (13, nP (w72.heap.size) 0), (11, nP (w51.heap.size) 0), (10, nI x24), (9, .slice p15 L5.length c16), (0, nP b0 0), (1, nI i1), (2, .bool (i2)), (3, nI i3)]) (by kernel_rfl) ?_
   intro w241 a242 hS243 hF244; clear hF239 hS103
   refine wpList_nil ?_
   have hF245 := hF244.keep [0, 1, 2, 3, 11, 15, 16]
   clear hF244
   have hS246 := hS243.pick1.drop.pick3.drop
   clear hS243
   refine thenN (wp_seq (wp_seq (wp_region_lit ?_)))
   refine ev_runs 1 hF245 (l' := [(56, nP (w93.heap.size) 1), (16, nI (-1)), (15, nP (w93.heap.size) 0), (11, nP (w51.heap.size) 0), (0, nP b0 0), (1, nI i1), (2, .bool (i2)), (3, nI i3)]) (w' := w241) (by kernel_rfl) ?_
   intro a248 hF247; clear hF245
   refine ev_one (nI (q90.tail)) w241 hF247 (by kernel_rfl) rfl (by kernel_rfl) (run_loadV rfl rfl (run_loadS rfl rfl (hS246.cell 0 rfl 1 rfl))) (l' := [(57, nI (q90.tail)), (56, nP (w93.heap.size) 1), (16, nI (-1)), (15, nP (w93.heap.size) 0), (11, nP (w51.heap.size) 0), (0, nP b0 0), (1, nI i1), (2, .bool (i2)), (3, nI i3)]) (by kernel_rfl) ?_
   intro a250 hF249; clear hF247
   refine ev_runK 2 hF249 [0, 1, 2, 3, 11, 15, 16, 59] (l' := [(59, .bool (q90.tail == i3)), (16, nI (-1)), (15, nP (w93.heap.size) 0), (11, nP (w51.heap.size) 0), (0, nP b0 0), (1, nI i1), (2, .bool (i2)), (3, nI i3)]) (w' := w241) (by kernel_rfl) ?_
   intro a252 hF251; clear hF249
   refine wpList_nil (thenN ?_)
   cases hc253 : (q90.tail == i3) with
   | true =>
    rw [hc253] at hF251
    rw [hc253] at hm234
    have hm254 := ifT hm234; clear hm234
    refine ev_condT hF251 rfl rfl ?_
    refine wp_region_lit ?_
    refine ev_runs 2 hF251 (l' := [(61, nP (w93.heap.size) 1), (60, nI (-1)), (59, .bool true), (16, nI (-1)), (15, nP (w93.heap.size) 0), (11, nP (w51.heap.size) 0), (0, nP b0 0), (1, nI i1), (2, .bool (i2)), (3, nI i3)]) (w' := w241) (by kernel_rfl) ?_
    intro a256 hF255; clear hF251
    refine ev_store (nI (-1)) #[nI (q68.next), nI (-1)] hF255 (by kernel_rfl) rfl rfl rfl rfl (by kernel_rfl) hS246 (by kernel_rfl) (by kernel_rfl) (by kernel_rfl) (l' := [(61, nP (w93.heap.size) 1), (60, nI (-1)), (59, .bool true), (16, nI (-1)), (15, nP (w93.heap.size) 0), (11, nP (w51.heap.size) 0), (0, nP b0 0), (1, nI i1), (2, .bool (i2)), (3, nI i3)]) (by kernel_rfl) ?_
    intro w257 a258 hS259 hF260; clear hF255 hS246
    refine wpList_nil ?_
    have hF261 := hF260.keep [0, 1, 2, 3, 11, 15]
    clear hF260
    refine thenN (wp_seq (wp_region_lit ?_))
    refine ev_runs 2 hF261 (l' := [(63, nI i1), (62, nP b0 0), (15, nP (w93.heap.size) 0), (11, nP (w51.heap.size) 0), (0, nP b0 0), (1, nI i1), (2, .bool (i2)), (3, nI i3)]) (w' := w257) (by kernel_rfl) ?_
    intro a263 hF262; clear hF261
    refine ev_one (.agg #[nI (q47.cap), nI (q47.closed), nI (q47.count), nI (q47.start), nI (q47.buf), nI (q47.th), nI (q47.tt), nI (q47.sh), nI (q47.st)]) w257 hF262 (by kernel_rfl) rfl (by kernel_rfl) (run_loadV rfl rfl (run_loadA (cs := [nI (q47.cap), nI (q47.closed), nI (q47.count), nI (q47.start), nI (q47.buf), nI (q47.th), nI (q47.tt), nI (q47.sh), nI (q47.st)]) rfl rfl (by kernel_rfl) (blk_cells hS259 2 rfl rfl))) (l' := [(64, .agg #[nI (q47.cap), nI (q47.closed), nI (q47.count), nI (q47.start), nI (q47.buf), nI (q47.th), nI (q47.tt), nI (q47.sh), nI (q47.st)]), (63, nI i1), (62, nP b0 0), (15, nP (w93.heap.size) 0), (11, nP (w51.heap.size) 0), (0, nP b0 0), (1, nI i1), (2, .bool (i2)), (3, nI i3)]) (by kernel_rfl) ?_
    intro a265 hF264; clear hF262
    refine ev_runs 1 hF264 (l' := [(65, .bool (i2)), (64, .agg #[nI (q47.cap), nI (q47.closed), nI (q47.count), nI (q47.start), nI (q47.buf), nI (q47.th), nI (q47.tt), nI (q47.sh), nI (q47.st)]), (63, nI i1), (62, nP b0 0), (15, nP (w93.heap.size) 0), (11, nP (w51.heap.size) 0), (0, nP b0 0), (1, nI i1), (2, .bool (i2)), (3, nI i3)]) (w' := w257) (by kernel_rfl) ?_
    intro a267 hF266; clear hF264
    refine ev_one (.agg #[nI (q68.next), nI (-1)]) w257 hF266 (by kernel_rfl) rfl (by kernel_rfl) (run_loadV rfl rfl (run_loadA (cs := [nI (q68.next), nI (-1)]) rfl rfl (by kernel_rfl) (blk_cells hS259 0 rfl rfl))) (l' := [(66, .agg #[nI (q68.next), nI (-1)]), (65, .bool (i2)), (64, .agg #[nI (q47.cap), nI (q47.closed), nI (q47.count), nI (q47.start), nI (q47.buf), nI (q47.th), nI (q47.tt), nI (q47.sh), nI (q47.st)]), (63, nI i1), (62, nP b0 0), (15, nP (w93.heap.size) 0), (11, nP (w51.heap.size) 0), (0, nP b0 0), (1, nI i1), (2, .bool (i2)), (3, nI i3)]) (by kernel_rfl) ?_
    intro a269 hF268; clear hF266
    refine ev_call 75 #[.agg #[nI (q47.cap), nI (q47.closed), nI (q47.count), nI (q47.start), nI (q47.buf), nI (q47.th), nI (q47.tt), nI (q47.sh), nI (q47.st)], .bool (i2), .agg #[nI (q68.next), nI (-1)]] hF268 rfl rfl (by kernel_rfl) rfl (by kernel_rfl) (fun w => by kernel_rfl) ?_
    obtain ⟨q270, hx271, hm272⟩ := bind1E hm254; clear hm254
    refine (list_into.ok hS259 hx271).mono ?_
    rintro _ w273 ⟨rfl, hS275⟩ a274 hF276; clear hF268 hS259
    have hS277 := hS275.pick1
    clear hS275
    refine ev_call 22 #[nP b0 0, nI i1, .agg #[nI (q270.cap), nI (q270.closed), nI (q270.count), nI (q270.start), nI (q270.buf), nI (q270.th), nI (q270.tt), nI (q270.sh), nI (q270.st)]] hF276 rfl rfl (by kernel_rfl) rfl (by kernel_rfl) (fun w => by kernel_rfl) ?_
    obtain ⟨x278, s279, hx280, hm281⟩ := bind2E hm272; clear hm272
    refine (p_PutChan hS277 hx280).mono ?_
    rintro _ w282 ⟨rfl, hS284⟩ a283 hF285; clear hF276 hS277
    refine wpList_nil ?_
    have hF286 := hF285.keep [0, 3]
    clear hF285
    have hS287 := hS284.pick1.drop.pick1.drop
    clear hS284
    refine thenN (wp_seq (wp_region_lit ?_))
    refine ev_runs 2 hF286 (l' := [(70, nI i3), (69, nP b0 0), (0, nP b0 0), (3, nI i3)]) (w' := w282) (by kernel_rfl) ?_
    intro a289 hF288; clear hF286
    refine ev_call 74 #[nP b0 0, nI i3, nI (-1)] hF288 rfl rfl (by kernel_rfl) rfl (by kernel_rfl) (fun w => by kernel_rfl) ?_
    obtain ⟨s290, hx291, hm292⟩ := bind1E hm281; clear hm281
    refine (list_follow.ok hS287 hx291).mono ?_
    rintro _ w293 ⟨rfl, hS295⟩ a294 hF296; clear hF288 hS287
    refine wpList_nil ?_
    have hF297 := hF296.keep []
    clear hF296
    refine thenN (wp_seq (wp_region_lit ?_))
    refine ev_runs 1 hF297 (l' := [(8, .bool true)]) (w' := w293) (by kernel_rfl) ?_
    intro a299 hF298; clear hF297
    refine wpList_nil (thenN ?_)
    refine wp_ret ?_
    simp only [Option.some.injEq, Prod.mk.injEq] at hm292
    obtain ⟨rfl, rfl⟩ := hm292
    refine ev_ret hF298 [8] (.bool true) rfl rfl rfl ?_
    exact ⟨rfl, hS295⟩
   | false =>
    rw [hc253] at hF251
    rw [hc253] at hm234
    have hm302 := ifF hm234; clear hm234
    refine ev_condF hF251 rfl rfl ?_
    refine wp_skip ?_
    have hF303 := hF251.keep [0, 1, 2, 3, 11, 15]
    clear hF251
    refine thenN (wp_seq (wp_region_lit ?_))
    refine ev_runs 2 hF303 (l' := [(63, nI i1), (62, nP b0 0), (15, nP (w93.heap.size) 0), (11, nP (w51.heap.size) 0), (0, nP b0 0), (1, nI i1), (2, .bool (i2)), (3, nI i3)]) (w' := w241) (by kernel_rfl) ?_
    intro a305 hF304; clear hF303
    refine ev_one (.agg #[nI (q47.cap), nI (q47.closed), nI (q47.count), nI (q47.start), nI (q47.buf), nI (q47.th), nI (q47.tt), nI (q47.sh), nI (q47.st)]) w241 hF304 (by kernel_rfl) rfl (by kernel_rfl) (run_loadV rfl rfl (run_loadA (cs := [nI (q47.cap), nI (q47.closed), nI (q47.count), nI (q47.start), nI (q47.buf), nI (q47.th), nI (q47.tt), nI (q47.sh), nI (q47.st)]) rfl rfl (by kernel_rfl) (blk_cells hS246 2 rfl rfl))) (l' := [(64, .agg #[nI (q47.cap), nI (q47.closed), nI (q47.count), nI (q47.start), nI (q47.buf), nI (q47.th), nI (q47.tt), nI (q47.sh), nI (q47.st)]), (63, nI i1), (62, nP b0 0), (15, nP (w93.heap.size) 0), (11, nP (w51.heap.size) 0), (0, nP b0 0), (1, nI i1), (2, .bool (i2)), (3, nI i3)]) (by kernel_rfl) ?_
    intro a307 hF306; clear hF304
    refine ev_runs 1 hF306 (l' := [(65, .bool (i2)), (64, .agg #[nI (q47.cap), nI (q47.closed), nI (q47.count), nI (q47.start), nI (q47.buf), nI (q47.th), nI (q47.tt), nI (q47.sh), nI (q47.st)]), (63, nI i1), (62, nP b0 0), (15, nP (w93.heap.size) 0), (11, nP (w51.heap.size) 0), (0, nP b0 0), (1, nI i1), (2, .bool (i2)), (3, nI i3)]) (w' := w241) (by kernel_rfl) ?_
    intro a309 hF308; clear hF306
    refine ev_one (.agg #[nI (q68.next), nI (q90.tail)]) w241 hF308 (by kernel_rfl) rfl (by kernel_rfl) (run_loadV rfl rfl (run_loadA (cs := [nI (q68.next), nI (q90.tail)]) rfl rfl (by kernel_rfl) (blk_cells hS246 0 rfl rfl))) (l' := [(66, .agg #[nI (q68.next), nI (q90.tail)]), (65, .bool (i2)), (64, .agg #[nI (q47.cap), nI (q47.closed), nI (q47.count), nI (q47.start), nI (q47.buf), nI (q47.th), nI (q47.tt), nI (q47.sh), nI (q47.st)]), (63, nI i1), (62, nP b0 0), (15, nP (w93.heap.size) 0), (11, nP (w51.heap.size) 0), (0, nP b0 0), (1, nI i1), (2, .bool (i2)), (3, nI i3)]) (by kernel_rfl) ?_
    intro a311 hF310; clear hF308
    refine ev_call 75 #[.agg #[nI (q47.cap), nI (q47.closed), nI (q47.count), nI (q47.start), nI (q47.buf), nI (q47.th), nI (q47.tt), nI (q47.sh), nI (q47.st)], .bool (i2), .agg #[nI (q68.next), nI (q90.tail)]] hF310 rfl rfl (by kernel_rfl) rfl (by kernel_rfl) (fun w => by kernel_rfl) ?_
    obtain ⟨q312, hx313, hm314⟩ := bind1E hm302; clear hm302
    refine (list_into.ok hS246 hx313).mono ?_
    rintro _ w315 ⟨rfl, hS317⟩ a316 hF318; clear hF310 hS246
    have hS319 := hS317.pick1
    clear hS317
    refine ev_call 22 #[nP b0 0, nI i1, .agg #[nI (q312.cap), nI (q312.closed), nI (q312.count), nI (q312.start), nI (q312.buf), nI (q312.th), nI (q312.tt), nI (q312.sh), nI (q312.st)]] hF318 rfl rfl (by kernel_rfl) rfl (by kernel_rfl) (fun w => by kernel_rfl) ?_
    obtain ⟨x320, s321, hx322, hm323⟩ := bind2E hm314; clear hm314
    refine (p_PutChan hS319 hx322).mono ?_
    rintro _ w324 ⟨rfl, hS326⟩ a325 hF327; clear hF318 hS319
    refine wpList_nil ?_
    have hF328 := hF327.keep [0, 3]
    clear hF327
    have hS329 := hS326.pick1.drop.pick1.drop
    clear hS326
    refine thenN (wp_seq (wp_region_lit ?_))
    refine ev_runs 2 hF328 (l' := [(70, nI i3), (69, nP b0 0), (0, nP b0 0), (3, nI i3)]) (w' := w324) (by kernel_rfl) ?_
    intro a331 hF330; clear hF328
    refine ev_call 74 #[nP b0 0, nI i3, nI (-1)] hF330 rfl rfl (by kernel_rfl) rfl (by kernel_rfl) (fun w => by kernel_rfl) ?_
    obtain ⟨s332, hx333, hm334⟩ := bind1E hm323; clear hm323
    refine (list_follow.ok hS329 hx333).mono ?_
    rintro _ w335 ⟨rfl, hS337⟩ a336 hF338; clear hF330 hS329
    refine wpList_nil ?_
    have hF339 := hF338.keep []
    clear hF338
    refine thenN (wp_seq (wp_region_lit ?_))
    refine ev_runs 1 hF339 (l' := [(8, .bool true)]) (w' := w335) (by kernel_rfl) ?_
    intro a341 hF340; clear hF339
    refine wpList_nil (thenN ?_)
    refine wp_ret ?_
    simp only [Option.some.injEq, Prod.mk.injEq] at hm334
    obtain ⟨rfl, rfl⟩ := hm334
    refine ev_ret hF340 [8] (.bool true) rfl rfl rfl ?_
    exact ⟨rfl, hS337⟩

end Go.Proofs.YtaihdiccmaincaaGreat
