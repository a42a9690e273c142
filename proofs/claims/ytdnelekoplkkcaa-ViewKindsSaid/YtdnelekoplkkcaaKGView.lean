/- GView -/
import Derived.Test.YtdnelekoplkkcaaKPrimV
import Derived.Test.YtdnelekoplkkcaaKGHelp
import Derived.Deep.LoopGhost
import Derived.KernelRfl
/- The walks of GView, printed by gen/walk.py. -/
namespace Go.Proofs.Ytdnelekoplkkcaa
open Go.RowKit
set_option linter.unusedVariables false

def view_Gor.l1b (s0 : HSt) (L11 : List Int) (x63 : Int) (x71 : Int) (x79 : Int) (rec108 : Int → Int → Int → Int → Int → Int → Int → Option (Gr × Int × HSt)) (x99 : Int) (x100 : Int) (x101 : Int) (x102 : Int) (x103 : Int) (x104 : Int) (x105 : Int) : Option (Gr × Int × HSt) := (if (decide (x105 < 6)) then (if (inR (IntKind.i64.wrap (3 + x105)) L11.length) then (if (x105 == 0) then rec108 (atI L11 (IntKind.i64.wrap (3 + x105))) x100 x101 x102 x103 x104 (IntKind.i64.wrap (x105 + 1)) else (if (x105 == 1) then rec108 x99 (atI L11 (IntKind.i64.wrap (3 + x105))) x101 x102 x103 x104 (IntKind.i64.wrap (x105 + 1)) else (if (x105 == 2) then rec108 x99 x100 (atI L11 (IntKind.i64.wrap (3 + x105))) x102 x103 x104 (IntKind.i64.wrap (x105 + 1)) else (if (x105 == 3) then rec108 x99 x100 x101 (atI L11 (IntKind.i64.wrap (3 + x105))) x103 x104 (IntKind.i64.wrap (x105 + 1)) else (if (x105 == 4) then rec108 x99 x100 x101 x102 (atI L11 (IntKind.i64.wrap (3 + x105))) x104 (IntKind.i64.wrap (x105 + 1)) else (if (x105 == 5) then rec108 x99 x100 x101 x102 x103 (atI L11 (IntKind.i64.wrap (3 + x105))) (IntKind.i64.wrap (x105 + 1)) else none)))))) else none) else (if (inR (9 : Int) L11.length) then bind1 (pAt (atI L11 (9 : Int))) fun x218 => some ((⟨x63, x71, x79, x99, x100, x101, x102, x103, x104, x218⟩ : Gr), 0, s0) else none))
def view_Gor.l1 (s0 : HSt) (L11 : List Int) (x63 : Int) (x71 : Int) (x79 : Int) : Nat → Int → Int → Int → Int → Int → Int → Int → Option (Gr × Int × HSt)
  | 0 => fun _ _ _ _ _ _ _ => none
  | kI + 1 => view_Gor.l1b s0 L11 x63 x71 x79 (view_Gor.l1 s0 L11 x63 x71 x79 kI)
def view_Gor.m (k : Nat) (s0 : HSt) (i1 : Int) : Option (Gr × Int × HSt) := bind2 (pSeen4 i1 s0) fun L11 x12 => (if (x12 != 0) then some ((⟨0, 0, 0, 0, 0, 0, 0, 0, 0, 0⟩ : Gr), x12, s0) else (if (inR (0 : Int) L11.length) then (if (inR (1 : Int) L11.length) then (if (inR (2 : Int) L11.length) then bind1 (pNum (atI L11 (0 : Int))) fun x63 => bind1 (pNum (atI L11 (1 : Int))) fun x71 => bind1 (pNum (atI L11 (2 : Int))) fun x79 => view_Gor.l1 s0 L11 x63 x71 x79 k 0 0 0 0 0 0 0 else none) else none) else none))
set_option maxRecDepth 100000 in
set_option maxHeartbeats 1500000 in
theorem view_Gor.ok {w0 w : World} {F0 : List Nat} {ps : List Piece} {k : Nat} {b0 ab0 : Nat} {s0 : HSt} {i1 : Int} {r0 : Gr} {r1 : Int} {t0 : HSt} (hS : St w0 F0 (HeapP b0 ab0 s0 :: ps) w) (hm : view_Gor.m k s0 i1 = some (r0, r1, t0)) :
    Calls Try.prog 20 #[.pointer (some ⟨b0, 0, none⟩), .int .i64 (i1)] w fun e w' => e = .returned (.tuple #[.agg #[.int .i64 (r0.id), .int .i64 (r0.status), .int .i64 (r0.pc), .int .i64 (r0.a), .int .i64 (r0.b), .int .i64 (r0.c), .int .i64 (r0.d), .int .i64 (r0.e), .int .i64 (r0.f), .int .i64 (r0.sudogs)], .int .i64 r1]) ∧ St w0 F0 (HeapP b0 ab0 t0 :: ps) w' := by
  refine ev_enterL 51 [.pointer (some ⟨b0, 0, none⟩), .int .i64 (i1)] Try.func20 rfl rfl (by simp) ?_
  intro a hF
  have hF0 : Fr 51 a [(0, .pointer (some ⟨b0, 0, none⟩)), (1, .int .i64 (i1))] := hF; clear hF
  unfold view_Gor.m at hm
  refine wp_seq ?_
  refine wp_region_lit ?_
  refine ev_runs 1 hF0 (l' := [(4, .pointer (some ⟨w.heap.size, 0, none⟩)), (0, .pointer (some ⟨b0, 0, none⟩)), (1, .int .i64 (i1))]) (w' := w.alloc (.cells #[.int .i64 0, .int .i64 0, .int .i64 0, .int .i64 0, .int .i64 0, .int .i64 0, .int .i64 0, .int .i64 0, .int .i64 0, .int .i64 0] 43)) (by kernel_rfl) ?_
  intro a2 hF1; clear hF0
  have hS4 : St w0 F0 (BlkP (w.heap.size) 43 #[.int .i64 0, .int .i64 0, .int .i64 0, .int .i64 0, .int .i64 0, .int .i64 0, .int .i64 0, .int .i64 0, .int .i64 0, .int .i64 0] :: HeapP b0 ab0 s0 :: ps) (w.alloc (.cells #[.int .i64 0, .int .i64 0, .int .i64 0, .int .i64 0, .int .i64 0, .int .i64 0, .int .i64 0, .int .i64 0, .int .i64 0, .int .i64 0] 43)) := St.new hS #[.int .i64 0, .int .i64 0, .int .i64 0, .int .i64 0, .int .i64 0, .int .i64 0, .int .i64 0, .int .i64 0, .int .i64 0, .int .i64 0] 43
  refine ev_runs 1 hF1 (l' := [(5, .int .i64 0), (4, .pointer (some ⟨w.heap.size, 0, none⟩)), (0, .pointer (some ⟨b0, 0, none⟩)), (1, .int .i64 (i1))]) (w' := w.alloc (.cells #[.int .i64 0, .int .i64 0, .int .i64 0, .int .i64 0, .int .i64 0, .int .i64 0, .int .i64 0, .int .i64 0, .int .i64 0, .int .i64 0] 43)) (by kernel_rfl) ?_
  intro a6 hF5; clear hF1
  refine wpList_nil ?_
  have hF7 : Fr 51 a6 [(4, .pointer (some ⟨w.heap.size, 0, none⟩)), (0, .pointer (some ⟨b0, 0, none⟩)), (1, .int .i64 (i1))] := hF5.keep [0, 1, 4]
  clear hF5
  refine thenN ?_
  refine wp_seq ?_
  refine wp_region_lit ?_
  refine ev_runs 2 hF7 (l' := [(12, .int .i64 (i1)), (11, .pointer (some ⟨b0, 0, none⟩)), (4, .pointer (some ⟨w.heap.size, 0, none⟩)), (0, .pointer (some ⟨b0, 0, none⟩)), (1, .int .i64 (i1))]) (w' := w.alloc (.cells #[.int .i64 0, .int .i64 0, .int .i64 0, .int .i64 0, .int .i64 0, .int .i64 0, .int .i64 0, .int .i64 0, .int .i64 0, .int .i64 0] 43)) (by kernel_rfl) ?_
  intro a9 hF8; clear hF7
  have hS10 : St w0 F0 (HeapP b0 ab0 s0 :: BlkP (w.heap.size) 43 #[.int .i64 0, .int .i64 0, .int .i64 0, .int .i64 0, .int .i64 0, .int .i64 0, .int .i64 0, .int .i64 0, .int .i64 0, .int .i64 0] :: ps) (w.alloc (.cells #[.int .i64 0, .int .i64 0, .int .i64 0, .int .i64 0, .int .i64 0, .int .i64 0, .int .i64 0, .int .i64 0, .int .i64 0, .int .i64 0] 43)) := St.ordP [BlkP (w.heap.size) 43 #[.int .i64 0, .int .i64 0, .int .i64 0, .int .i64 0, .int .i64 0, .int .i64 0, .int .i64 0, .int .i64 0, .int .i64 0, .int .i64 0], HeapP b0 ab0 s0] ps hS4 [1, 0] [] (by kernel_rfl)
  clear hS4
  refine ev_call 51 #[.pointer (some ⟨b0, 0, none⟩), .int .i64 (i1), .int .i64 4] hF8 rfl rfl (by kernel_rfl) rfl (by kernel_rfl) (fun w => by kernel_rfl) ?_
  obtain ⟨L11, x12, hx13, hm14⟩ := bind2E hm; clear hm
  refine (p_seen4 hS10 hx13).mono ?_
  rintro _ w15 ⟨z19, rfl, hS17⟩ a16 hF18; clear hF8 hS10
  obtain ⟨hl24, p21, c22, rfl, hp23⟩ := St.shape hS17 1 rfl
  have hF25 : Fr 51 a16 [(13, .tuple #[.slice p21 L11.length c22, .int .i64 (x12)]), (12, .int .i64 (i1)), (11, .pointer (some ⟨b0, 0, none⟩)), (4, .pointer (some ⟨w.heap.size, 0, none⟩)), (0, .pointer (some ⟨b0, 0, none⟩)), (1, .int .i64 (i1))] := hF18
  clear hF18
  refine ev_runs 5 hF25 (l' := [(7, .int .i64 (x12)), (6, .slice p21 L11.length c22), (15, .int .i64 (x12)), (14, .slice p21 L11.length c22), (10, .tuple #[.slice p21 L11.length c22, .int .i64 (x12)]), (13, .tuple #[.slice p21 L11.length c22, .int .i64 (x12)]), (12, .int .i64 (i1)), (11, .pointer (some ⟨b0, 0, none⟩)), (4, .pointer (some ⟨w.heap.size, 0, none⟩)), (0, .pointer (some ⟨b0, 0, none⟩)), (1, .int .i64 (i1))]) (w' := w15) (by kernel_rfl) ?_
  intro a27 hF26; clear hF25
  refine wpList_nil ?_
  have hF28 : Fr 51 a27 [(7, .int .i64 (x12)), (6, .slice p21 L11.length c22), (4, .pointer (some ⟨w.heap.size, 0, none⟩))] := hF26.keep [4, 6, 7]
  clear hF26
  refine thenN ?_
  refine wp_seq ?_
  refine wp_seq ?_
  refine wp_region_lit ?_
  refine ev_runs 2 hF28 (l' := [(17, .bool (x12 != 0)), (16, .int .i64 (x12)), (7, .int .i64 (x12)), (6, .slice p21 L11.length c22), (4, .pointer (some ⟨w.heap.size, 0, none⟩))]) (w' := w15) (by kernel_rfl) ?_
  intro a30 hF29; clear hF28
  refine wpList_nil ?_
  have hF31 : Fr 51 a30 [(17, .bool (x12 != 0)), (7, .int .i64 (x12)), (6, .slice p21 L11.length c22), (4, .pointer (some ⟨w.heap.size, 0, none⟩))] := hF29.keep [4, 6, 7, 17]
  clear hF29
  refine thenN ?_
  cases hc32 : (x12 != 0) with
  | true =>
    rw [hc32] at hF31
    rw [hc32] at hm14
    have hm33 := ifT hm14; clear hm14
    refine ev_condT hF31 rfl rfl ?_
    refine wp_seq ?_
    refine wp_region_lit ?_
    refine ev_runs 2 hF31 (l' := [(19, .int .i64 (x12)), (18, .agg #[.int .i64 0, .int .i64 0, .int .i64 0, .int .i64 0, .int .i64 0, .int .i64 0, .int .i64 0, .int .i64 0, .int .i64 0, .int .i64 0]), (17, .bool true), (7, .int .i64 (x12)), (6, .slice p21 L11.length c22), (4, .pointer (some ⟨w.heap.size, 0, none⟩))]) (w' := w15) (by kernel_rfl) ?_
    intro a35 hF34; clear hF31
    have hS36 : St w0 F0 (BlkP (w.heap.size) 43 #[.int .i64 0, .int .i64 0, .int .i64 0, .int .i64 0, .int .i64 0, .int .i64 0, .int .i64 0, .int .i64 0, .int .i64 0, .int .i64 0] :: HeapP b0 ab0 s0 :: RowP (.slice p21 L11.length c22) L11 :: ps) w15 := St.ordP [HeapP b0 ab0 s0, RowP (.slice p21 L11.length c22) L11, BlkP (w.heap.size) 43 #[.int .i64 0, .int .i64 0, .int .i64 0, .int .i64 0, .int .i64 0, .int .i64 0, .int .i64 0, .int .i64 0, .int .i64 0, .int .i64 0]] ps hS17 [2, 0, 1] [] (by kernel_rfl)
    clear hS17
    refine ev_store (.agg #[.int .i64 0, .int .i64 0, .int .i64 0, .int .i64 0, .int .i64 0, .int .i64 0, .int .i64 0, .int .i64 0, .int .i64 0, .int .i64 0]) #[.int .i64 0, .int .i64 0, .int .i64 0, .int .i64 0, .int .i64 0, .int .i64 0, .int .i64 0, .int .i64 0, .int .i64 0, .int .i64 0] hF34 (by kernel_rfl) rfl rfl rfl rfl (by kernel_rfl) hS36 (by kernel_rfl) (by kernel_rfl) (by kernel_rfl) (l' := [(19, .int .i64 (x12)), (18, .agg #[.int .i64 0, .int .i64 0, .int .i64 0, .int .i64 0, .int .i64 0, .int .i64 0, .int .i64 0, .int .i64 0, .int .i64 0, .int .i64 0]), (17, .bool true), (7, .int .i64 (x12)), (6, .slice p21 L11.length c22), (4, .pointer (some ⟨w.heap.size, 0, none⟩))]) (by kernel_rfl) ?_
    intro w37 a38 hS39 hF40; clear hF34 hS36
    refine ev_runs 1 hF40 (l' := [(5, .int .i64 (x12)), (19, .int .i64 (x12)), (18, .agg #[.int .i64 0, .int .i64 0, .int .i64 0, .int .i64 0, .int .i64 0, .int .i64 0, .int .i64 0, .int .i64 0, .int .i64 0, .int .i64 0]), (17, .bool true), (7, .int .i64 (x12)), (6, .slice p21 L11.length c22), (4, .pointer (some ⟨w.heap.size, 0, none⟩))]) (w' := w37) (by kernel_rfl) ?_
    intro a42 hF41; clear hF40
    refine wpList_nil ?_
    have hF43 : Fr 51 a42 [(5, .int .i64 (x12)), (4, .pointer (some ⟨w.heap.size, 0, none⟩))] := hF41.keep [4, 5]
    clear hF41
    have hS44 : St w0 F0 (BlkP (w.heap.size) 43 #[.int .i64 0, .int .i64 0, .int .i64 0, .int .i64 0, .int .i64 0, .int .i64 0, .int .i64 0, .int .i64 0, .int .i64 0, .int .i64 0] :: HeapP b0 ab0 s0 :: ps) w37 := St.ordP [BlkP (w.heap.size) 43 #[.int .i64 0, .int .i64 0, .int .i64 0, .int .i64 0, .int .i64 0, .int .i64 0, .int .i64 0, .int .i64 0, .int .i64 0, .int .i64 0], HeapP b0 ab0 s0, RowP (.slice p21 L11.length c22) L11] ps hS39 [0, 1] [2] (by kernel_rfl)
    clear hS39
    refine thenN ?_
    refine wp_ret ?_
    refine thenR ?_
    have hS45 : St w0 F0 (HeapP b0 ab0 s0 :: BlkP (w.heap.size) 43 #[.int .i64 0, .int .i64 0, .int .i64 0, .int .i64 0, .int .i64 0, .int .i64 0, .int .i64 0, .int .i64 0, .int .i64 0, .int .i64 0] :: ps) w37 := St.ordP [BlkP (w.heap.size) 43 #[.int .i64 0, .int .i64 0, .int .i64 0, .int .i64 0, .int .i64 0, .int .i64 0, .int .i64 0, .int .i64 0, .int .i64 0, .int .i64 0], HeapP b0 ab0 s0] ps hS44 [1, 0] [] (by kernel_rfl)
    clear hS44
    simp only [Option.some.injEq, Prod.mk.injEq] at hm33
    obtain ⟨rfl, rfl, rfl⟩ := hm33
    refine ev_retC hF43 _ [.agg #[.int .i64 0, .int .i64 0, .int .i64 0, .int .i64 0, .int .i64 0, .int .i64 0, .int .i64 0, .int .i64 0, .int .i64 0, .int .i64 0], .int .i64 (x12)] (.tuple #[.agg #[.int .i64 0, .int .i64 0, .int .i64 0, .int .i64 0, .int .i64 0, .int .i64 0, .int .i64 0, .int .i64 0, .int .i64 0, .int .i64 0], .int .i64 (x12)]) rfl ⟨⟨rfl, _, rfl, (run_loadA (cs := [.int .i64 0, .int .i64 0, .int .i64 0, .int .i64 0, .int .i64 0, .int .i64 0, .int .i64 0, .int .i64 0, .int .i64 0, .int .i64 0]) rfl rfl (by kernel_rfl) (blk_cells hS45 1 rfl rfl))⟩, ⟨rfl, rfl⟩, trivial⟩ rfl ?_
    have hS49 : St w0 F0 (HeapP b0 ab0 s0 :: ps) w37 := St.ordP [HeapP b0 ab0 s0, BlkP (w.heap.size) 43 #[.int .i64 0, .int .i64 0, .int .i64 0, .int .i64 0, .int .i64 0, .int .i64 0, .int .i64 0, .int .i64 0, .int .i64 0, .int .i64 0]] ps hS45 [0] [1] (by kernel_rfl)
    clear hS45
    exact ⟨rfl, hS49⟩
  | false =>
    rw [hc32] at hF31
    rw [hc32] at hm14
    have hm50 := ifF hm14; clear hm14
    refine ev_condF hF31 rfl rfl ?_
    refine wp_skip ?_
    have hF51 : Fr 51 a30 [(6, .slice p21 L11.length c22), (4, .pointer (some ⟨w.heap.size, 0, none⟩))] := hF31.keep [4, 6]
    clear hF31
    refine thenN ?_
    refine wp_seq ?_
    -- draws
    cases hc52 : (inR (0 : Int) L11.length) with
    | false => rw [hc52] at hm50; cases hm50
    | true =>
      rw [hc52] at hm50
      have hm53 := ifT hm50; clear hm50
      obtain ⟨g54, rfl⟩ := hp23.resolve_left (by have := inR_spec hc52; omega)
      cases hc55 : (inR (1 : Int) L11.length) with
      | false => rw [hc55] at hm53; cases hm53
      | true =>
        rw [hc55] at hm53
        have hm56 := ifT hm53; clear hm53
        cases hc57 : (inR (2 : Int) L11.length) with
        | false => rw [hc57] at hm56; cases hm56
        | true =>
          rw [hc57] at hm56
          have hm58 := ifT hm56; clear hm56
          have hS59 : St w0 F0 (RowP (.slice (some ⟨g54, 0, none⟩) L11.length c22) L11 :: HeapP b0 ab0 s0 :: BlkP (w.heap.size) 43 #[.int .i64 0, .int .i64 0, .int .i64 0, .int .i64 0, .int .i64 0, .int .i64 0, .int .i64 0, .int .i64 0, .int .i64 0, .int .i64 0] :: ps) w15 := St.ordP [HeapP b0 ab0 s0, RowP (.slice (some ⟨g54, 0, none⟩) L11.length c22) L11, BlkP (w.heap.size) 43 #[.int .i64 0, .int .i64 0, .int .i64 0, .int .i64 0, .int .i64 0, .int .i64 0, .int .i64 0, .int .i64 0, .int .i64 0, .int .i64 0]] ps hS17 [1, 0, 2] [] (by kernel_rfl)
          clear hS17
          have hS60 := hS59.drew; clear hS59
          refine any_start (fun wS => ∃ qs, St w0 F0 (RowP (.slice (some ⟨g54, 0, none⟩) L11.length c22) L11 :: qs) wS) 15 #[false, false, false, false, false, false, false, false, false, false, false, false, false, false, false] (by kernel_rfl) (by kernel_rfl) (by kernel_rfl) ?_
          refine any_many 9 [(0, some (.slice (some ⟨g54, 0, none⟩) L11.length c22)), (1, some (.pointer (some ⟨g54, (0 : Int).toNat, none⟩))), (2, some (.int .i64 (atI L11 (0 : Int)))), (4, some (.slice (some ⟨g54, 0, none⟩) L11.length c22)), (5, some (.pointer (some ⟨g54, (1 : Int).toNat, none⟩))), (6, some (.int .i64 (atI L11 (1 : Int)))), (8, some (.slice (some ⟨g54, 0, none⟩) L11.length c22)), (9, some (.pointer (some ⟨g54, (2 : Int).toNat, none⟩))), (10, some (.int .i64 (atI L11 (2 : Int))))] [4, 6, 8, 22, 23, 26, 27, 30, 31, 32] #[true, true, true, false, true, true, true, false, true, true, true, false, false, false, false] (by rfl) hF51 (by kernel_rfl) (by kernel_rfl) (by exact (And.intro (fun wS hw => by kernel_rfl) (And.intro (fun wS hw => run_idx rfl rfl rfl rfl rfl (inR_spec hc52).1 (inR_spec hc52).2 _) (And.intro (fun wS hw => run_load1 rfl rfl rfl (hw.elim fun qs hw => hw.atI 0 rfl hc52)) (And.intro (fun wS hw => by kernel_rfl) (And.intro (fun wS hw => run_idx rfl rfl rfl rfl rfl (inR_spec hc55).1 (inR_spec hc55).2 _) (And.intro (fun wS hw => run_load1 rfl rfl rfl (hw.elim fun qs hw => hw.atI 0 rfl hc55)) (And.intro (fun wS hw => by kernel_rfl) (And.intro (fun wS hw => run_idx rfl rfl rfl rfl rfl (inR_spec hc57).1 (inR_spec hc57).2 _) (And.intro (fun wS hw => run_load1 rfl rfl rfl (hw.elim fun qs hw => hw.atI 0 rfl hc57)) trivial)))))))))) (fun _ _ _ _ _ h => h) ⟨_, hS60⟩ (l' := [(30, .int .i64 (atI L11 (2 : Int))), (26, .int .i64 (atI L11 (1 : Int))), (22, .int .i64 (atI L11 (0 : Int))), (6, .slice (some ⟨g54, 0, none⟩) L11.length c22), (4, .pointer (some ⟨w.heap.size, 0, none⟩))]) (by kernel_rfl) ?_
          intro a62 hF61; clear hF51
          refine any_two 3 13 (by kernel_rfl) ?_ ?_
          · skip
            refine op_call 3 #[true, true, true, true, true, true, true, false, true, true, true, false, false, false, false] 52 #[.int .i64 (atI L11 (0 : Int))] hF61 rfl rfl rfl (by kernel_rfl) rfl (by kernel_rfl) (fun w => by kernel_rfl) (by kernel_rfl) ?_
            obtain ⟨x63, hx64, hm65⟩ := bind1E hm58; clear hm58
            refine (p_vNum hS60 hx64).mono ?_
            rintro _ w66 ⟨rfl, hS68⟩; clear hS60
            refine ⟨⟨_, hS68⟩, ?_⟩
            intro a67 hF69; clear hF61
            have hF70 : Fr 51 a67 [(23, .int .i64 (x63)), (30, .int .i64 (atI L11 (2 : Int))), (26, .int .i64 (atI L11 (1 : Int))), (22, .int .i64 (atI L11 (0 : Int))), (6, .slice (some ⟨g54, 0, none⟩) L11.length c22), (4, .pointer (some ⟨w.heap.size, 0, none⟩))] := hF69
            clear hF69
            refine any_two 7 13 (by kernel_rfl) ?_ ?_
            · skip
              refine op_call 7 #[true, true, true, true, true, true, true, true, true, true, true, false, false, false, false] 52 #[.int .i64 (atI L11 (1 : Int))] hF70 rfl rfl rfl (by kernel_rfl) rfl (by kernel_rfl) (fun w => by kernel_rfl) (by kernel_rfl) ?_
              obtain ⟨x71, hx72, hm73⟩ := bind1E hm65; clear hm65
              refine (p_vNum hS68 hx72).mono ?_
              rintro _ w74 ⟨rfl, hS76⟩; clear hS68
              refine ⟨⟨_, hS76⟩, ?_⟩
              intro a75 hF77; clear hF70
              have hF78 : Fr 51 a75 [(27, .int .i64 (x71)), (23, .int .i64 (x63)), (30, .int .i64 (atI L11 (2 : Int))), (26, .int .i64 (atI L11 (1 : Int))), (22, .int .i64 (atI L11 (0 : Int))), (6, .slice (some ⟨g54, 0, none⟩) L11.length c22), (4, .pointer (some ⟨w.heap.size, 0, none⟩))] := hF77
              clear hF77
              refine any_two 11 13 (by kernel_rfl) ?_ ?_
              · skip
                refine op_call 11 #[true, true, true, true, true, true, true, true, true, true, true, true, false, false, false] 52 #[.int .i64 (atI L11 (2 : Int))] hF78 rfl rfl rfl (by kernel_rfl) rfl (by kernel_rfl) (fun w => by kernel_rfl) (by kernel_rfl) ?_
                obtain ⟨x79, hx80, hm81⟩ := bind1E hm73; clear hm73
                refine (p_vNum hS76 hx80).mono ?_
                rintro _ w82 ⟨rfl, hS84⟩; clear hS76
                refine ⟨⟨_, hS84⟩, ?_⟩
                intro a83 hF85; clear hF78
                have hF86 : Fr 51 a83 [(31, .int .i64 (x79)), (27, .int .i64 (x71)), (23, .int .i64 (x63)), (30, .int .i64 (atI L11 (2 : Int))), (26, .int .i64 (atI L11 (1 : Int))), (22, .int .i64 (atI L11 (0 : Int))), (6, .slice (some ⟨g54, 0, none⟩) L11.length c22), (4, .pointer (some ⟨w.heap.size, 0, none⟩))] := hF85
                clear hF85
                refine any_many 1 [(12, some (.agg #[.int .i64 (x63), .int .i64 (x71), .int .i64 (x79), .int .i64 0, .int .i64 0, .int .i64 0, .int .i64 0, .int .i64 0, .int .i64 0, .int .i64 (-1)]))] [4, 6, 8, 32] #[true, true, true, true, true, true, true, true, true, true, true, true, true, false, false] (by rfl) hF86 (by kernel_rfl) (by kernel_rfl) (by exact (And.intro (fun wS hw => by kernel_rfl) trivial)) (fun _ _ _ _ _ h => h) ⟨_, hS84⟩ (l' := [(32, .agg #[.int .i64 (x63), .int .i64 (x71), .int .i64 (x79), .int .i64 0, .int .i64 0, .int .i64 0, .int .i64 0, .int .i64 0, .int .i64 0, .int .i64 (-1)]), (6, .slice (some ⟨g54, 0, none⟩) L11.length c22), (4, .pointer (some ⟨w.heap.size, 0, none⟩))]) (by kernel_rfl) ?_
                intro a88 hF87; clear hF86
                refine any_one 13 (by kernel_rfl) ?_
                have hS89 : St w0 F0 (BlkP (w82.heap.size) 43 #[.int .i64 0, .int .i64 0, .int .i64 0, .int .i64 0, .int .i64 0, .int .i64 0, .int .i64 0, .int .i64 0, .int .i64 0, .int .i64 0] :: RowP (.slice (some ⟨g54, 0, none⟩) L11.length c22) L11 :: HeapP b0 ab0 s0 :: BlkP (w.heap.size) 43 #[.int .i64 0, .int .i64 0, .int .i64 0, .int .i64 0, .int .i64 0, .int .i64 0, .int .i64 0, .int .i64 0, .int .i64 0, .int .i64 0] :: ps) (w82.alloc (.cells #[.int .i64 0, .int .i64 0, .int .i64 0, .int .i64 0, .int .i64 0, .int .i64 0, .int .i64 0, .int .i64 0, .int .i64 0, .int .i64 0] 43)) := St.new hS84 #[.int .i64 0, .int .i64 0, .int .i64 0, .int .i64 0, .int .i64 0, .int .i64 0, .int .i64 0, .int .i64 0, .int .i64 0, .int .i64 0] 43
                clear hS84
                refine op_step 13 #[true, true, true, true, true, true, true, true, true, true, true, true, true, true, false] (.pointer (some ⟨w82.heap.size, 0, none⟩)) (w82.alloc (.cells #[.int .i64 0, .int .i64 0, .int .i64 0, .int .i64 0, .int .i64 0, .int .i64 0, .int .i64 0, .int .i64 0, .int .i64 0, .int .i64 0] 43)) hF87 rfl (by kernel_rfl) rfl (by kernel_rfl) (by kernel_rfl) (l' := [(8, .pointer (some ⟨w82.heap.size, 0, none⟩)), (32, .agg #[.int .i64 (x63), .int .i64 (x71), .int .i64 (x79), .int .i64 0, .int .i64 0, .int .i64 0, .int .i64 0, .int .i64 0, .int .i64 0, .int .i64 (-1)]), (6, .slice (some ⟨g54, 0, none⟩) L11.length c22), (4, .pointer (some ⟨w.heap.size, 0, none⟩))]) (by kernel_rfl) ⟨_, St.ordP [BlkP (w82.heap.size) 43 #[.int .i64 0, .int .i64 0, .int .i64 0, .int .i64 0, .int .i64 0, .int .i64 0, .int .i64 0, .int .i64 0, .int .i64 0, .int .i64 0], RowP (.slice (some ⟨g54, 0, none⟩) L11.length c22) L11, HeapP b0 ab0 s0, BlkP (w.heap.size) 43 #[.int .i64 0, .int .i64 0, .int .i64 0, .int .i64 0, .int .i64 0, .int .i64 0, .int .i64 0, .int .i64 0, .int .i64 0, .int .i64 0]] ps hS89 [1, 0, 2, 3] [] (by kernel_rfl)⟩ (by kernel_rfl) ?_
                intro a91 hF90; clear hF87
                refine any_one 14 (by kernel_rfl) ?_
                refine op_store 14 #[true, true, true, true, true, true, true, true, true, true, true, true, true, true, true] (.agg #[.int .i64 (x63), .int .i64 (x71), .int .i64 (x79), .int .i64 0, .int .i64 0, .int .i64 0, .int .i64 0, .int .i64 0, .int .i64 0, .int .i64 (-1)]) #[.int .i64 (x63), .int .i64 (x71), .int .i64 (x79), .int .i64 0, .int .i64 0, .int .i64 0, .int .i64 0, .int .i64 0, .int .i64 0, .int .i64 (-1)] hF90 rfl (by kernel_rfl) rfl rfl rfl rfl (by kernel_rfl) hS89 (by kernel_rfl) (by kernel_rfl) (by kernel_rfl) (l' := [(8, .pointer (some ⟨w82.heap.size, 0, none⟩)), (32, .agg #[.int .i64 (x63), .int .i64 (x71), .int .i64 (x79), .int .i64 0, .int .i64 0, .int .i64 0, .int .i64 0, .int .i64 0, .int .i64 0, .int .i64 (-1)]), (6, .slice (some ⟨g54, 0, none⟩) L11.length c22), (4, .pointer (some ⟨w.heap.size, 0, none⟩))]) (by kernel_rfl) (by kernel_rfl) ?_
                intro w92 a93 hS94 hF95; clear hF90 hS89
                refine ⟨⟨_, St.ordP [BlkP (w82.heap.size) 43 #[.int .i64 (x63), .int .i64 (x71), .int .i64 (x79), .int .i64 0, .int .i64 0, .int .i64 0, .int .i64 0, .int .i64 0, .int .i64 0, .int .i64 (-1)], RowP (.slice (some ⟨g54, 0, none⟩) L11.length c22) L11, HeapP b0 ab0 s0, BlkP (w.heap.size) 43 #[.int .i64 0, .int .i64 0, .int .i64 0, .int .i64 0, .int .i64 0, .int .i64 0, .int .i64 0, .int .i64 0, .int .i64 0, .int .i64 0]] ps hS94 [1, 0, 2, 3] [] (by kernel_rfl)⟩, ?_⟩
                refine any_done (by kernel_rfl) ?_
                have hF96 : Fr 51 a93 [(8, .pointer (some ⟨w82.heap.size, 0, none⟩)), (6, .slice (some ⟨g54, 0, none⟩) L11.length c22), (4, .pointer (some ⟨w.heap.size, 0, none⟩))] := hF95.keep [4, 6, 8]
                clear hF95
                refine thenN ?_
                refine wp_seq ?_
                refine wp_seq ?_
                refine wp_region_lit ?_
                refine ev_runs 1 hF96 (l' := [(33, .int .i64 0), (8, .pointer (some ⟨w82.heap.size, 0, none⟩)), (6, .slice (some ⟨g54, 0, none⟩) L11.length c22), (4, .pointer (some ⟨w.heap.size, 0, none⟩))]) (w' := w92) (by kernel_rfl) ?_
                intro a98 hF97; clear hF96
                refine wpList_nil ?_
                refine thenN ?_
                refine wp_block ?_
                refine wp_loop_ghost (fun kI aI wI => ∃ (x99 : Int) (x100 : Int) (x101 : Int) (x102 : Int) (x103 : Int) (x104 : Int) (x105 : Int), Fr 51 aI [(33, .int .i64 (x105)), (8, .pointer (some ⟨w82.heap.size, 0, none⟩)), (6, .slice (some ⟨g54, 0, none⟩) L11.length c22), (4, .pointer (some ⟨w.heap.size, 0, none⟩))] ∧ St w0 F0 (BlkP (w82.heap.size) 43 #[.int .i64 (x63), .int .i64 (x71), .int .i64 (x79), .int .i64 (x99), .int .i64 (x100), .int .i64 (x101), .int .i64 (x102), .int .i64 (x103), .int .i64 (x104), .int .i64 (-1)] :: RowP (.slice (some ⟨g54, 0, none⟩) L11.length c22) L11 :: HeapP b0 ab0 s0 :: BlkP (w.heap.size) 43 #[.int .i64 0, .int .i64 0, .int .i64 0, .int .i64 0, .int .i64 0, .int .i64 0, .int .i64 0, .int .i64 0, .int .i64 0, .int .i64 0] :: ps) wI ∧ view_Gor.l1 s0 L11 x63 x71 x79 kI x99 x100 x101 x102 x103 x104 x105 = some (r0, r1, t0)) k ⟨0, 0, 0, 0, 0, 0, 0, hF97, hS94, hm81⟩ ?_
                rintro k106 a107 w108 ⟨x99, x100, x101, x102, x103, x104, x105, hF109, hS110, hm111⟩
                clear hF97 hS94 hm81
                cases k106 with
                | zero => cases hm111
                | succ k106 =>
                  have hm112 : view_Gor.l1b s0 L11 x63 x71 x79 (view_Gor.l1 s0 L11 x63 x71 x79 k106) x99 x100 x101 x102 x103 x104 x105 = some (r0, r1, t0) := hm111
                  clear hm111
                  unfold view_Gor.l1b at hm112
                  refine wp_seq ?_
                  refine wp_region_lit ?_
                  refine ev_runs 1 hF109 (l' := [(34, .bool (decide (x105 < 6))), (33, .int .i64 (x105)), (8, .pointer (some ⟨w82.heap.size, 0, none⟩)), (6, .slice (some ⟨g54, 0, none⟩) L11.length c22), (4, .pointer (some ⟨w.heap.size, 0, none⟩))]) (w' := w108) (by kernel_rfl) ?_
                  intro a114 hF113; clear hF109
                  refine wpList_nil ?_
                  refine thenN ?_
                  refine wp_seq ?_
                  cases hc115 : (decide (x105 < 6)) with
                  | true =>
                    rw [hc115] at hF113
                    rw [hc115] at hm112
                    have hm116 := ifT hm112; clear hm112
                    refine ev_condT hF113 rfl rfl ?_
                    refine wp_skip ?_
                    have hF117 : Fr 51 a114 [(33, .int .i64 (x105)), (8, .pointer (some ⟨w82.heap.size, 0, none⟩)), (6, .slice (some ⟨g54, 0, none⟩) L11.length c22), (4, .pointer (some ⟨w.heap.size, 0, none⟩))] := hF113.keep [4, 6, 8, 33]
                    clear hF113
                    refine thenN ?_
                    refine wp_seq ?_
                    refine wp_block ?_
                    refine wp_seq ?_
                    refine wp_region_lit ?_
                    refine ev_runs 2 hF117 (l' := [(9, .int .i64 (x105)), (35, .int .i64 (x105)), (33, .int .i64 (x105)), (8, .pointer (some ⟨w82.heap.size, 0, none⟩)), (6, .slice (some ⟨g54, 0, none⟩) L11.length c22), (4, .pointer (some ⟨w.heap.size, 0, none⟩))]) (w' := w108) (by kernel_rfl) ?_
                    intro a119 hF118; clear hF117
                    refine wpList_nil ?_
                    have hF120 : Fr 51 a119 [(9, .int .i64 (x105)), (33, .int .i64 (x105)), (8, .pointer (some ⟨w82.heap.size, 0, none⟩)), (6, .slice (some ⟨g54, 0, none⟩) L11.length c22), (4, .pointer (some ⟨w.heap.size, 0, none⟩))] := hF118.keep [4, 6, 8, 9, 33]
                    clear hF118
                    refine thenN ?_
                    refine wp_region_lit ?_
                    refine ev_runs 4 hF120 (l' := [(39, .int .i64 (IntKind.i64.wrap (3 + x105))), (38, .int .i64 (x105)), (37, .slice (some ⟨g54, 0, none⟩) L11.length c22), (36, .int .i64 (x105)), (9, .int .i64 (x105)), (33, .int .i64 (x105)), (8, .pointer (some ⟨w82.heap.size, 0, none⟩)), (6, .slice (some ⟨g54, 0, none⟩) L11.length c22), (4, .pointer (some ⟨w.heap.size, 0, none⟩))]) (w' := w108) (by kernel_rfl) ?_
                    intro a122 hF121; clear hF120
                    cases hc123 : (inR (IntKind.i64.wrap (3 + x105)) L11.length) with
                    | false => rw [hc123] at hm116; cases hm116
                    | true =>
                      rw [hc123] at hm116
                      have hm124 := ifT hm116; clear hm116
                      refine ev_one (.pointer (some ⟨g54, (IntKind.i64.wrap (3 + x105)).toNat, none⟩)) w108 hF121 (by kernel_rfl) rfl (by kernel_rfl) (run_idx rfl rfl rfl rfl rfl (inR_spec hc123).1 (inR_spec hc123).2 _) (l' := [(40, .pointer (some ⟨g54, (IntKind.i64.wrap (3 + x105)).toNat, none⟩)), (39, .int .i64 (IntKind.i64.wrap (3 + x105))), (38, .int .i64 (x105)), (37, .slice (some ⟨g54, 0, none⟩) L11.length c22), (36, .int .i64 (x105)), (9, .int .i64 (x105)), (33, .int .i64 (x105)), (8, .pointer (some ⟨w82.heap.size, 0, none⟩)), (6, .slice (some ⟨g54, 0, none⟩) L11.length c22), (4, .pointer (some ⟨w.heap.size, 0, none⟩))]) (by kernel_rfl) ?_
                      intro a126 hF125; clear hF121
                      refine ev_one (.int .i64 (atI L11 (IntKind.i64.wrap (3 + x105)))) w108 hF125 (by kernel_rfl) rfl (by kernel_rfl) (run_load1 rfl rfl rfl (hS110.atI 1 rfl hc123)) (l' := [(41, .int .i64 (atI L11 (IntKind.i64.wrap (3 + x105)))), (40, .pointer (some ⟨g54, (IntKind.i64.wrap (3 + x105)).toNat, none⟩)), (39, .int .i64 (IntKind.i64.wrap (3 + x105))), (38, .int .i64 (x105)), (37, .slice (some ⟨g54, 0, none⟩) L11.length c22), (36, .int .i64 (x105)), (9, .int .i64 (x105)), (33, .int .i64 (x105)), (8, .pointer (some ⟨w82.heap.size, 0, none⟩)), (6, .slice (some ⟨g54, 0, none⟩) L11.length c22), (4, .pointer (some ⟨w.heap.size, 0, none⟩))]) (by kernel_rfl) ?_
                      intro a128 hF127; clear hF125
                      refine ev_runs 1 hF127 (l' := [(42, .pointer (some ⟨w82.heap.size, 3, none⟩)), (41, .int .i64 (atI L11 (IntKind.i64.wrap (3 + x105)))), (40, .pointer (some ⟨g54, (IntKind.i64.wrap (3 + x105)).toNat, none⟩)), (39, .int .i64 (IntKind.i64.wrap (3 + x105))), (38, .int .i64 (x105)), (37, .slice (some ⟨g54, 0, none⟩) L11.length c22), (36, .int .i64 (x105)), (9, .int .i64 (x105)), (33, .int .i64 (x105)), (8, .pointer (some ⟨w82.heap.size, 0, none⟩)), (6, .slice (some ⟨g54, 0, none⟩) L11.length c22), (4, .pointer (some ⟨w.heap.size, 0, none⟩))]) (w' := w108) (by kernel_rfl) ?_
                      intro a130 hF129; clear hF127
                      cases hc131 : (x105 == 0) with
                      | true =>
                        rw [hc131] at hm124
                        have hm132 := ifT hm124; clear hm124
                        refine ev_one (.pointer (some ⟨w82.heap.size, 3, none⟩)) w108 hF129 (by kernel_rfl) rfl (by kernel_rfl) (run_idxA (q := 0) rfl rfl rfl rfl (congrArg (Value.int .i64) (eq_of_beq hc131)) (by decide) (by decide) (by kernel_rfl) _) (l' := [(43, .pointer (some ⟨w82.heap.size, 3, none⟩)), (42, .pointer (some ⟨w82.heap.size, 3, none⟩)), (41, .int .i64 (atI L11 (IntKind.i64.wrap (3 + x105)))), (40, .pointer (some ⟨g54, (IntKind.i64.wrap (3 + x105)).toNat, none⟩)), (39, .int .i64 (IntKind.i64.wrap (3 + x105))), (38, .int .i64 (x105)), (37, .slice (some ⟨g54, 0, none⟩) L11.length c22), (36, .int .i64 (x105)), (9, .int .i64 (x105)), (33, .int .i64 (x105)), (8, .pointer (some ⟨w82.heap.size, 0, none⟩)), (6, .slice (some ⟨g54, 0, none⟩) L11.length c22), (4, .pointer (some ⟨w.heap.size, 0, none⟩))]) (by kernel_rfl) ?_
                        intro a134 hF133; clear hF129
                        refine ev_store (.int .i64 (atI L11 (IntKind.i64.wrap (3 + x105)))) #[.int .i64 (x63), .int .i64 (x71), .int .i64 (x79), .int .i64 (atI L11 (IntKind.i64.wrap (3 + x105))), .int .i64 (x100), .int .i64 (x101), .int .i64 (x102), .int .i64 (x103), .int .i64 (x104), .int .i64 (-1)] hF133 (by kernel_rfl) rfl rfl rfl rfl (by kernel_rfl) hS110 (by kernel_rfl) (by kernel_rfl) (by kernel_rfl) (l' := [(43, .pointer (some ⟨w82.heap.size, 3, none⟩)), (42, .pointer (some ⟨w82.heap.size, 3, none⟩)), (41, .int .i64 (atI L11 (IntKind.i64.wrap (3 + x105)))), (40, .pointer (some ⟨g54, (IntKind.i64.wrap (3 + x105)).toNat, none⟩)), (39, .int .i64 (IntKind.i64.wrap (3 + x105))), (38, .int .i64 (x105)), (37, .slice (some ⟨g54, 0, none⟩) L11.length c22), (36, .int .i64 (x105)), (9, .int .i64 (x105)), (33, .int .i64 (x105)), (8, .pointer (some ⟨w82.heap.size, 0, none⟩)), (6, .slice (some ⟨g54, 0, none⟩) L11.length c22), (4, .pointer (some ⟨w.heap.size, 0, none⟩))]) (by kernel_rfl) ?_
                        intro w135 a136 hS137 hF138; clear hF133 hS110
                        refine wpList_nil ?_
                        have hF139 : Fr 51 a136 [(33, .int .i64 (x105)), (8, .pointer (some ⟨w82.heap.size, 0, none⟩)), (6, .slice (some ⟨g54, 0, none⟩) L11.length c22), (4, .pointer (some ⟨w.heap.size, 0, none⟩))] := hF138.keep [4, 6, 8, 33]
                        clear hF138
                        refine blockN ?_
                        refine thenN ?_
                        refine wp_region_lit ?_
                        refine ev_runs 2 hF139 (l' := [(33, .int .i64 (IntKind.i64.wrap (x105 + 1))), (44, .int .i64 (IntKind.i64.wrap (x105 + 1))), (8, .pointer (some ⟨w82.heap.size, 0, none⟩)), (6, .slice (some ⟨g54, 0, none⟩) L11.length c22), (4, .pointer (some ⟨w.heap.size, 0, none⟩))]) (w' := w135) (by kernel_rfl) ?_
                        intro a141 hF140; clear hF139
                        refine wpList_nil ?_
                        have hF142 : Fr 51 a141 [(33, .int .i64 (IntKind.i64.wrap (x105 + 1))), (8, .pointer (some ⟨w82.heap.size, 0, none⟩)), (6, .slice (some ⟨g54, 0, none⟩) L11.length c22), (4, .pointer (some ⟨w.heap.size, 0, none⟩))] := hF140.keep [4, 6, 8, 33]
                        clear hF140
                        exact thenN ⟨k106, Nat.lt_succ_self _, atI L11 (IntKind.i64.wrap (3 + x105)), x100, x101, x102, x103, x104, IntKind.i64.wrap (x105 + 1), hF142, hS137, hm132⟩
                      | false =>
                        rw [hc131] at hm124
                        have hm143 := ifF hm124; clear hm124
                        cases hc144 : (x105 == 1) with
                        | true =>
                          rw [hc144] at hm143
                          have hm145 := ifT hm143; clear hm143
                          refine ev_one (.pointer (some ⟨w82.heap.size, 4, none⟩)) w108 hF129 (by kernel_rfl) rfl (by kernel_rfl) (run_idxA (q := 1) rfl rfl rfl rfl (congrArg (Value.int .i64) (eq_of_beq hc144)) (by decide) (by decide) (by kernel_rfl) _) (l' := [(43, .pointer (some ⟨w82.heap.size, 4, none⟩)), (42, .pointer (some ⟨w82.heap.size, 3, none⟩)), (41, .int .i64 (atI L11 (IntKind.i64.wrap (3 + x105)))), (40, .pointer (some ⟨g54, (IntKind.i64.wrap (3 + x105)).toNat, none⟩)), (39, .int .i64 (IntKind.i64.wrap (3 + x105))), (38, .int .i64 (x105)), (37, .slice (some ⟨g54, 0, none⟩) L11.length c22), (36, .int .i64 (x105)), (9, .int .i64 (x105)), (33, .int .i64 (x105)), (8, .pointer (some ⟨w82.heap.size, 0, none⟩)), (6, .slice (some ⟨g54, 0, none⟩) L11.length c22), (4, .pointer (some ⟨w.heap.size, 0, none⟩))]) (by kernel_rfl) ?_
                          intro a147 hF146; clear hF129
                          refine ev_store (.int .i64 (atI L11 (IntKind.i64.wrap (3 + x105)))) #[.int .i64 (x63), .int .i64 (x71), .int .i64 (x79), .int .i64 (x99), .int .i64 (atI L11 (IntKind.i64.wrap (3 + x105))), .int .i64 (x101), .int .i64 (x102), .int .i64 (x103), .int .i64 (x104), .int .i64 (-1)] hF146 (by kernel_rfl) rfl rfl rfl rfl (by kernel_rfl) hS110 (by kernel_rfl) (by kernel_rfl) (by kernel_rfl) (l' := [(43, .pointer (some ⟨w82.heap.size, 4, none⟩)), (42, .pointer (some ⟨w82.heap.size, 3, none⟩)), (41, .int .i64 (atI L11 (IntKind.i64.wrap (3 + x105)))), (40, .pointer (some ⟨g54, (IntKind.i64.wrap (3 + x105)).toNat, none⟩)), (39, .int .i64 (IntKind.i64.wrap (3 + x105))), (38, .int .i64 (x105)), (37, .slice (some ⟨g54, 0, none⟩) L11.length c22), (36, .int .i64 (x105)), (9, .int .i64 (x105)), (33, .int .i64 (x105)), (8, .pointer (some ⟨w82.heap.size, 0, none⟩)), (6, .slice (some ⟨g54, 0, none⟩) L11.length c22), (4, .pointer (some ⟨w.heap.size, 0, none⟩))]) (by kernel_rfl) ?_
                          intro w148 a149 hS150 hF151; clear hF146 hS110
                          refine wpList_nil ?_
                          have hF152 : Fr 51 a149 [(33, .int .i64 (x105)), (8, .pointer (some ⟨w82.heap.size, 0, none⟩)), (6, .slice (some ⟨g54, 0, none⟩) L11.length c22), (4, .pointer (some ⟨w.heap.size, 0, none⟩))] := hF151.keep [4, 6, 8, 33]
                          clear hF151
                          refine blockN ?_
                          refine thenN ?_
                          refine wp_region_lit ?_
                          refine ev_runs 2 hF152 (l' := [(33, .int .i64 (IntKind.i64.wrap (x105 + 1))), (44, .int .i64 (IntKind.i64.wrap (x105 + 1))), (8, .pointer (some ⟨w82.heap.size, 0, none⟩)), (6, .slice (some ⟨g54, 0, none⟩) L11.length c22), (4, .pointer (some ⟨w.heap.size, 0, none⟩))]) (w' := w148) (by kernel_rfl) ?_
                          intro a154 hF153; clear hF152
                          refine wpList_nil ?_
                          have hF155 : Fr 51 a154 [(33, .int .i64 (IntKind.i64.wrap (x105 + 1))), (8, .pointer (some ⟨w82.heap.size, 0, none⟩)), (6, .slice (some ⟨g54, 0, none⟩) L11.length c22), (4, .pointer (some ⟨w.heap.size, 0, none⟩))] := hF153.keep [4, 6, 8, 33]
                          clear hF153
                          exact thenN ⟨k106, Nat.lt_succ_self _, x99, atI L11 (IntKind.i64.wrap (3 + x105)), x101, x102, x103, x104, IntKind.i64.wrap (x105 + 1), hF155, hS150, hm145⟩
                        | false =>
                          rw [hc144] at hm143
                          have hm156 := ifF hm143; clear hm143
                          cases hc157 : (x105 == 2) with
                          | true =>
                            rw [hc157] at hm156
                            have hm158 := ifT hm156; clear hm156
                            refine ev_one (.pointer (some ⟨w82.heap.size, 5, none⟩)) w108 hF129 (by kernel_rfl) rfl (by kernel_rfl) (run_idxA (q := 2) rfl rfl rfl rfl (congrArg (Value.int .i64) (eq_of_beq hc157)) (by decide) (by decide) (by kernel_rfl) _) (l' := [(43, .pointer (some ⟨w82.heap.size, 5, none⟩)), (42, .pointer (some ⟨w82.heap.size, 3, none⟩)), (41, .int .i64 (atI L11 (IntKind.i64.wrap (3 + x105)))), (40, .pointer (some ⟨g54, (IntKind.i64.wrap (3 + x105)).toNat, none⟩)), (39, .int .i64 (IntKind.i64.wrap (3 + x105))), (38, .int .i64 (x105)), (37, .slice (some ⟨g54, 0, none⟩) L11.length c22), (36, .int .i64 (x105)), (9, .int .i64 (x105)), (33, .int .i64 (x105)), (8, .pointer (some ⟨w82.heap.size, 0, none⟩)), (6, .slice (some ⟨g54, 0, none⟩) L11.length c22), (4, .pointer (some ⟨w.heap.size, 0, none⟩))]) (by kernel_rfl) ?_
                            intro a160 hF159; clear hF129
                            refine ev_store (.int .i64 (atI L11 (IntKind.i64.wrap (3 + x105)))) #[.int .i64 (x63), .int .i64 (x71), .int .i64 (x79), .int .i64 (x99), .int .i64 (x100), .int .i64 (atI L11 (IntKind.i64.wrap (3 + x105))), .int .i64 (x102), .int .i64 (x103), .int .i64 (x104), .int .i64 (-1)] hF159 (by kernel_rfl) rfl rfl rfl rfl (by kernel_rfl) hS110 (by kernel_rfl) (by kernel_rfl) (by kernel_rfl) (l' := [(43, .pointer (some ⟨w82.heap.size, 5, none⟩)), (42, .pointer (some ⟨w82.heap.size, 3, none⟩)), (41, .int .i64 (atI L11 (IntKind.i64.wrap (3 + x105)))), (40, .pointer (some ⟨g54, (IntKind.i64.wrap (3 + x105)).toNat, none⟩)), (39, .int .i64 (IntKind.i64.wrap (3 + x105))), (38, .int .i64 (x105)), (37, .slice (some ⟨g54, 0, none⟩) L11.length c22), (36, .int .i64 (x105)), (9, .int .i64 (x105)), (33, .int .i64 (x105)), (8, .pointer (some ⟨w82.heap.size, 0, none⟩)), (6, .slice (some ⟨g54, 0, none⟩) L11.length c22), (4, .pointer (some ⟨w.heap.size, 0, none⟩))]) (by kernel_rfl) ?_
                            intro w161 a162 hS163 hF164; clear hF159 hS110
                            refine wpList_nil ?_
                            have hF165 : Fr 51 a162 [(33, .int .i64 (x105)), (8, .pointer (some ⟨w82.heap.size, 0, none⟩)), (6, .slice (some ⟨g54, 0, none⟩) L11.length c22), (4, .pointer (some ⟨w.heap.size, 0, none⟩))] := hF164.keep [4, 6, 8, 33]
                            clear hF164
                            refine blockN ?_
                            refine thenN ?_
                            refine wp_region_lit ?_
                            refine ev_runs 2 hF165 (l' := [(33, .int .i64 (IntKind.i64.wrap (x105 + 1))), (44, .int .i64 (IntKind.i64.wrap (x105 + 1))), (8, .pointer (some ⟨w82.heap.size, 0, none⟩)), (6, .slice (some ⟨g54, 0, none⟩) L11.length c22), (4, .pointer (some ⟨w.heap.size, 0, none⟩))]) (w' := w161) (by kernel_rfl) ?_
                            intro a167 hF166; clear hF165
                            refine wpList_nil ?_
                            have hF168 : Fr 51 a167 [(33, .int .i64 (IntKind.i64.wrap (x105 + 1))), (8, .pointer (some ⟨w82.heap.size, 0, none⟩)), (6, .slice (some ⟨g54, 0, none⟩) L11.length c22), (4, .pointer (some ⟨w.heap.size, 0, none⟩))] := hF166.keep [4, 6, 8, 33]
                            clear hF166
                            exact thenN ⟨k106, Nat.lt_succ_self _, x99, x100, atI L11 (IntKind.i64.wrap (3 + x105)), x102, x103, x104, IntKind.i64.wrap (x105 + 1), hF168, hS163, hm158⟩
                          | false =>
                            rw [hc157] at hm156
                            have hm169 := ifF hm156; clear hm156
                            cases hc170 : (x105 == 3) with
                            | true =>
                              rw [hc170] at hm169
                              have hm171 := ifT hm169; clear hm169
                              refine ev_one (.pointer (some ⟨w82.heap.size, 6, none⟩)) w108 hF129 (by kernel_rfl) rfl (by kernel_rfl) (run_idxA (q := 3) rfl rfl rfl rfl (congrArg (Value.int .i64) (eq_of_beq hc170)) (by decide) (by decide) (by kernel_rfl) _) (l' := [(43, .pointer (some ⟨w82.heap.size, 6, none⟩)), (42, .pointer (some ⟨w82.heap.size, 3, none⟩)), (41, .int .i64 (atI L11 (IntKind.i64.wrap (3 + x105)))), (40, .pointer (some ⟨g54, (IntKind.i64.wrap (3 + x105)).toNat, none⟩)), (39, .int .i64 (IntKind.i64.wrap (3 + x105))), (38, .int .i64 (x105)), (37, .slice (some ⟨g54, 0, none⟩) L11.length c22), (36, .int .i64 (x105)), (9, .int .i64 (x105)), (33, .int .i64 (x105)), (8, .pointer (some ⟨w82.heap.size, 0, none⟩)), (6, .slice (some ⟨g54, 0, none⟩) L11.length c22), (4, .pointer (some ⟨w.heap.size, 0, none⟩))]) (by kernel_rfl) ?_
                              intro a173 hF172; clear hF129
                              refine ev_store (.int .i64 (atI L11 (IntKind.i64.wrap (3 + x105)))) #[.int .i64 (x63), .int .i64 (x71), .int .i64 (x79), .int .i64 (x99), .int .i64 (x100), .int .i64 (x101), .int .i64 (atI L11 (IntKind.i64.wrap (3 + x105))), .int .i64 (x103), .int .i64 (x104), .int .i64 (-1)] hF172 (by kernel_rfl) rfl rfl rfl rfl (by kernel_rfl) hS110 (by kernel_rfl) (by kernel_rfl) (by kernel_rfl) (l' := [(43, .pointer (some ⟨w82.heap.size, 6, none⟩)), (42, .pointer (some ⟨w82.heap.size, 3, none⟩)), (41, .int .i64 (atI L11 (IntKind.i64.wrap (3 + x105)))), (40, .pointer (some ⟨g54, (IntKind.i64.wrap (3 + x105)).toNat, none⟩)), (39, .int .i64 (IntKind.i64.wrap (3 + x105))), (38, .int .i64 (x105)), (37, .slice (some ⟨g54, 0, none⟩) L11.length c22), (36, .int .i64 (x105)), (9, .int .i64 (x105)), (33, .int .i64 (x105)), (8, .pointer (some ⟨w82.heap.size, 0, none⟩)), (6, .slice (some ⟨g54, 0, none⟩) L11.length c22), (4, .pointer (some ⟨w.heap.size, 0, none⟩))]) (by kernel_rfl) ?_
                              intro w174 a175 hS176 hF177; clear hF172 hS110
                              refine wpList_nil ?_
                              have hF178 : Fr 51 a175 [(33, .int .i64 (x105)), (8, .pointer (some ⟨w82.heap.size, 0, none⟩)), (6, .slice (some ⟨g54, 0, none⟩) L11.length c22), (4, .pointer (some ⟨w.heap.size, 0, none⟩))] := hF177.keep [4, 6, 8, 33]
                              clear hF177
                              refine blockN ?_
                              refine thenN ?_
                              refine wp_region_lit ?_
                              refine ev_runs 2 hF178 (l' := [(33, .int .i64 (IntKind.i64.wrap (x105 + 1))), (44, .int .i64 (IntKind.i64.wrap (x105 + 1))), (8, .pointer (some ⟨w82.heap.size, 0, none⟩)), (6, .slice (some ⟨g54, 0, none⟩) L11.length c22), (4, .pointer (some ⟨w.heap.size, 0, none⟩))]) (w' := w174) (by kernel_rfl) ?_
                              intro a180 hF179; clear hF178
                              refine wpList_nil ?_
                              have hF181 : Fr 51 a180 [(33, .int .i64 (IntKind.i64.wrap (x105 + 1))), (8, .pointer (some ⟨w82.heap.size, 0, none⟩)), (6, .slice (some ⟨g54, 0, none⟩) L11.length c22), (4, .pointer (some ⟨w.heap.size, 0, none⟩))] := hF179.keep [4, 6, 8, 33]
                              clear hF179
                              exact thenN ⟨k106, Nat.lt_succ_self _, x99, x100, x101, atI L11 (IntKind.i64.wrap (3 + x105)), x103, x104, IntKind.i64.wrap (x105 + 1), hF181, hS176, hm171⟩
                            | false =>
                              rw [hc170] at hm169
                              have hm182 := ifF hm169; clear hm169
                              cases hc183 : (x105 == 4) with
                              | true =>
                                rw [hc183] at hm182
                                have hm184 := ifT hm182; clear hm182
                                refine ev_one (.pointer (some ⟨w82.heap.size, 7, none⟩)) w108 hF129 (by kernel_rfl) rfl (by kernel_rfl) (run_idxA (q := 4) rfl rfl rfl rfl (congrArg (Value.int .i64) (eq_of_beq hc183)) (by decide) (by decide) (by kernel_rfl) _) (l' := [(43, .pointer (some ⟨w82.heap.size, 7, none⟩)), (42, .pointer (some ⟨w82.heap.size, 3, none⟩)), (41, .int .i64 (atI L11 (IntKind.i64.wrap (3 + x105)))), (40, .pointer (some ⟨g54, (IntKind.i64.wrap (3 + x105)).toNat, none⟩)), (39, .int .i64 (IntKind.i64.wrap (3 + x105))), (38, .int .i64 (x105)), (37, .slice (some ⟨g54, 0, none⟩) L11.length c22), (36, .int .i64 (x105)), (9, .int .i64 (x105)), (33, .int .i64 (x105)), (8, .pointer (some ⟨w82.heap.size, 0, none⟩)), (6, .slice (some ⟨g54, 0, none⟩) L11.length c22), (4, .pointer (some ⟨w.heap.size, 0, none⟩))]) (by kernel_rfl) ?_
                                intro a186 hF185; clear hF129
                                refine ev_store (.int .i64 (atI L11 (IntKind.i64.wrap (3 + x105)))) #[.int .i64 (x63), .int .i64 (x71), .int .i64 (x79), .int .i64 (x99), .int .i64 (x100), .int .i64 (x101), .int .i64 (x102), .int .i64 (atI L11 (IntKind.i64.wrap (3 + x105))), .int .i64 (x104), .int .i64 (-1)] hF185 (by kernel_rfl) rfl rfl rfl rfl (by kernel_rfl) hS110 (by kernel_rfl) (by kernel_rfl) (by kernel_rfl) (l' := [(43, .pointer (some ⟨w82.heap.size, 7, none⟩)), (42, .pointer (some ⟨w82.heap.size, 3, none⟩)), (41, .int .i64 (atI L11 (IntKind.i64.wrap (3 + x105)))), (40, .pointer (some ⟨g54, (IntKind.i64.wrap (3 + x105)).toNat, none⟩)), (39, .int .i64 (IntKind.i64.wrap (3 + x105))), (38, .int .i64 (x105)), (37, .slice (some ⟨g54, 0, none⟩) L11.length c22), (36, .int .i64 (x105)), (9, .int .i64 (x105)), (33, .int .i64 (x105)), (8, .pointer (some ⟨w82.heap.size, 0, none⟩)), (6, .slice (some ⟨g54, 0, none⟩) L11.length c22), (4, .pointer (some ⟨w.heap.size, 0, none⟩))]) (by kernel_rfl) ?_
                                intro w187 a188 hS189 hF190; clear hF185 hS110
                                refine wpList_nil ?_
                                have hF191 : Fr 51 a188 [(33, .int .i64 (x105)), (8, .pointer (some ⟨w82.heap.size, 0, none⟩)), (6, .slice (some ⟨g54, 0, none⟩) L11.length c22), (4, .pointer (some ⟨w.heap.size, 0, none⟩))] := hF190.keep [4, 6, 8, 33]
                                clear hF190
                                refine blockN ?_
                                refine thenN ?_
                                refine wp_region_lit ?_
                                refine ev_runs 2 hF191 (l' := [(33, .int .i64 (IntKind.i64.wrap (x105 + 1))), (44, .int .i64 (IntKind.i64.wrap (x105 + 1))), (8, .pointer (some ⟨w82.heap.size, 0, none⟩)), (6, .slice (some ⟨g54, 0, none⟩) L11.length c22), (4, .pointer (some ⟨w.heap.size, 0, none⟩))]) (w' := w187) (by kernel_rfl) ?_
                                intro a193 hF192; clear hF191
                                refine wpList_nil ?_
                                have hF194 : Fr 51 a193 [(33, .int .i64 (IntKind.i64.wrap (x105 + 1))), (8, .pointer (some ⟨w82.heap.size, 0, none⟩)), (6, .slice (some ⟨g54, 0, none⟩) L11.length c22), (4, .pointer (some ⟨w.heap.size, 0, none⟩))] := hF192.keep [4, 6, 8, 33]
                                clear hF192
                                exact thenN ⟨k106, Nat.lt_succ_self _, x99, x100, x101, x102, atI L11 (IntKind.i64.wrap (3 + x105)), x104, IntKind.i64.wrap (x105 + 1), hF194, hS189, hm184⟩
                              | false =>
                                rw [hc183] at hm182
                                have hm195 := ifF hm182; clear hm182
                                cases hc196 : (x105 == 5) with
                                | true =>
                                  rw [hc196] at hm195
                                  have hm197 := ifT hm195; clear hm195
                                  refine ev_one (.pointer (some ⟨w82.heap.size, 8, none⟩)) w108 hF129 (by kernel_rfl) rfl (by kernel_rfl) (run_idxA (q := 5) rfl rfl rfl rfl (congrArg (Value.int .i64) (eq_of_beq hc196)) (by decide) (by decide) (by kernel_rfl) _) (l' := [(43, .pointer (some ⟨w82.heap.size, 8, none⟩)), (42, .pointer (some ⟨w82.heap.size, 3, none⟩)), (41, .int .i64 (atI L11 (IntKind.i64.wrap (3 + x105)))), (40, .pointer (some ⟨g54, (IntKind.i64.wrap (3 + x105)).toNat, none⟩)), (39, .int .i64 (IntKind.i64.wrap (3 + x105))), (38, .int .i64 (x105)), (37, .slice (some ⟨g54, 0, none⟩) L11.length c22), (36, .int .i64 (x105)), (9, .int .i64 (x105)), (33, .int .i64 (x105)), (8, .pointer (some ⟨w82.heap.size, 0, none⟩)), (6, .slice (some ⟨g54, 0, none⟩) L11.length c22), (4, .pointer (some ⟨w.heap.size, 0, none⟩))]) (by kernel_rfl) ?_
                                  intro a199 hF198; clear hF129
                                  refine ev_store (.int .i64 (atI L11 (IntKind.i64.wrap (3 + x105)))) #[.int .i64 (x63), .int .i64 (x71), .int .i64 (x79), .int .i64 (x99), .int .i64 (x100), .int .i64 (x101), .int .i64 (x102), .int .i64 (x103), .int .i64 (atI L11 (IntKind.i64.wrap (3 + x105))), .int .i64 (-1)] hF198 (by kernel_rfl) rfl rfl rfl rfl (by kernel_rfl) hS110 (by kernel_rfl) (by kernel_rfl) (by kernel_rfl) (l' := [(43, .pointer (some ⟨w82.heap.size, 8, none⟩)), (42, .pointer (some ⟨w82.heap.size, 3, none⟩)), (41, .int .i64 (atI L11 (IntKind.i64.wrap (3 + x105)))), (40, .pointer (some ⟨g54, (IntKind.i64.wrap (3 + x105)).toNat, none⟩)), (39, .int .i64 (IntKind.i64.wrap (3 + x105))), (38, .int .i64 (x105)), (37, .slice (some ⟨g54, 0, none⟩) L11.length c22), (36, .int .i64 (x105)), (9, .int .i64 (x105)), (33, .int .i64 (x105)), (8, .pointer (some ⟨w82.heap.size, 0, none⟩)), (6, .slice (some ⟨g54, 0, none⟩) L11.length c22), (4, .pointer (some ⟨w.heap.size, 0, none⟩))]) (by kernel_rfl) ?_
                                  intro w200 a201 hS202 hF203; clear hF198 hS110
                                  refine wpList_nil ?_
                                  have hF204 : Fr 51 a201 [(33, .int .i64 (x105)), (8, .pointer (some ⟨w82.heap.size, 0, none⟩)), (6, .slice (some ⟨g54, 0, none⟩) L11.length c22), (4, .pointer (some ⟨w.heap.size, 0, none⟩))] := hF203.keep [4, 6, 8, 33]
                                  clear hF203
                                  refine blockN ?_
                                  refine thenN ?_
                                  refine wp_region_lit ?_
                                  refine ev_runs 2 hF204 (l' := [(33, .int .i64 (IntKind.i64.wrap (x105 + 1))), (44, .int .i64 (IntKind.i64.wrap (x105 + 1))), (8, .pointer (some ⟨w82.heap.size, 0, none⟩)), (6, .slice (some ⟨g54, 0, none⟩) L11.length c22), (4, .pointer (some ⟨w.heap.size, 0, none⟩))]) (w' := w200) (by kernel_rfl) ?_
                                  intro a206 hF205; clear hF204
                                  refine wpList_nil ?_
                                  have hF207 : Fr 51 a206 [(33, .int .i64 (IntKind.i64.wrap (x105 + 1))), (8, .pointer (some ⟨w82.heap.size, 0, none⟩)), (6, .slice (some ⟨g54, 0, none⟩) L11.length c22), (4, .pointer (some ⟨w.heap.size, 0, none⟩))] := hF205.keep [4, 6, 8, 33]
                                  clear hF205
                                  exact thenN ⟨k106, Nat.lt_succ_self _, x99, x100, x101, x102, x103, atI L11 (IntKind.i64.wrap (3 + x105)), IntKind.i64.wrap (x105 + 1), hF207, hS202, hm197⟩
                                | false =>
                                  rw [hc196] at hm195
                                  have hm208 := ifF hm195; clear hm195
                                  exact absurd hm208 (by simp)
                  | false =>
                    rw [hc115] at hF113
                    rw [hc115] at hm112
                    have hm209 := ifF hm112; clear hm112
                    refine ev_condF hF113 rfl rfl ?_
                    refine wp_exit ?_
                    refine thenE ?_
                    refine thenE ?_
                    refine blockE ?_
                    refine thenN ?_
                    refine wp_seq ?_
                    refine wp_region_lit ?_
                    refine ev_runs 1 hF113 (l' := [(45, .slice (some ⟨g54, 0, none⟩) L11.length c22), (34, .bool false), (33, .int .i64 (x105)), (8, .pointer (some ⟨w82.heap.size, 0, none⟩)), (6, .slice (some ⟨g54, 0, none⟩) L11.length c22), (4, .pointer (some ⟨w.heap.size, 0, none⟩))]) (w' := w108) (by kernel_rfl) ?_
                    intro a211 hF210; clear hF113
                    cases hc212 : (inR (9 : Int) L11.length) with
                    | false => rw [hc212] at hm209; cases hm209
                    | true =>
                      rw [hc212] at hm209
                      have hm213 := ifT hm209; clear hm209
                      refine ev_one (.pointer (some ⟨g54, (9 : Int).toNat, none⟩)) w108 hF210 (by kernel_rfl) rfl (by kernel_rfl) (run_idx rfl rfl rfl rfl rfl (inR_spec hc212).1 (inR_spec hc212).2 _) (l' := [(46, .pointer (some ⟨g54, (9 : Int).toNat, none⟩)), (45, .slice (some ⟨g54, 0, none⟩) L11.length c22), (34, .bool false), (33, .int .i64 (x105)), (8, .pointer (some ⟨w82.heap.size, 0, none⟩)), (6, .slice (some ⟨g54, 0, none⟩) L11.length c22), (4, .pointer (some ⟨w.heap.size, 0, none⟩))]) (by kernel_rfl) ?_
                      intro a215 hF214; clear hF210
                      refine ev_one (.int .i64 (atI L11 (9 : Int))) w108 hF214 (by kernel_rfl) rfl (by kernel_rfl) (run_load1 rfl rfl rfl (hS110.atI 1 rfl hc212)) (l' := [(47, .int .i64 (atI L11 (9 : Int))), (46, .pointer (some ⟨g54, (9 : Int).toNat, none⟩)), (45, .slice (some ⟨g54, 0, none⟩) L11.length c22), (34, .bool false), (33, .int .i64 (x105)), (8, .pointer (some ⟨w82.heap.size, 0, none⟩)), (6, .slice (some ⟨g54, 0, none⟩) L11.length c22), (4, .pointer (some ⟨w.heap.size, 0, none⟩))]) (by kernel_rfl) ?_
                      intro a217 hF216; clear hF214
                      refine ev_call 53 #[.int .i64 (atI L11 (9 : Int))] hF216 rfl rfl (by kernel_rfl) rfl (by kernel_rfl) (fun w => by kernel_rfl) ?_
                      obtain ⟨x218, hx219, hm220⟩ := bind1E hm213; clear hm213
                      refine (p_vAt hS110 hx219).mono ?_
                      rintro _ w221 ⟨rfl, hS223⟩ a222 hF224; clear hF216 hS110
                      have hF225 : Fr 51 a222 [(48, .int .i64 (x218)), (47, .int .i64 (atI L11 (9 : Int))), (46, .pointer (some ⟨g54, (9 : Int).toNat, none⟩)), (45, .slice (some ⟨g54, 0, none⟩) L11.length c22), (34, .bool false), (33, .int .i64 (x105)), (8, .pointer (some ⟨w82.heap.size, 0, none⟩)), (6, .slice (some ⟨g54, 0, none⟩) L11.length c22), (4, .pointer (some ⟨w.heap.size, 0, none⟩))] := hF224
                      clear hF224
                      refine ev_runs 1 hF225 (l' := [(49, .pointer (some ⟨w82.heap.size, 9, none⟩)), (48, .int .i64 (x218)), (47, .int .i64 (atI L11 (9 : Int))), (46, .pointer (some ⟨g54, (9 : Int).toNat, none⟩)), (45, .slice (some ⟨g54, 0, none⟩) L11.length c22), (34, .bool false), (33, .int .i64 (x105)), (8, .pointer (some ⟨w82.heap.size, 0, none⟩)), (6, .slice (some ⟨g54, 0, none⟩) L11.length c22), (4, .pointer (some ⟨w.heap.size, 0, none⟩))]) (w' := w221) (by kernel_rfl) ?_
                      intro a227 hF226; clear hF225
                      refine ev_store (.int .i64 (x218)) #[.int .i64 (x63), .int .i64 (x71), .int .i64 (x79), .int .i64 (x99), .int .i64 (x100), .int .i64 (x101), .int .i64 (x102), .int .i64 (x103), .int .i64 (x104), .int .i64 (x218)] hF226 (by kernel_rfl) rfl rfl rfl rfl (by kernel_rfl) hS223 (by kernel_rfl) (by kernel_rfl) (by kernel_rfl) (l' := [(49, .pointer (some ⟨w82.heap.size, 9, none⟩)), (48, .int .i64 (x218)), (47, .int .i64 (atI L11 (9 : Int))), (46, .pointer (some ⟨g54, (9 : Int).toNat, none⟩)), (45, .slice (some ⟨g54, 0, none⟩) L11.length c22), (34, .bool false), (33, .int .i64 (x105)), (8, .pointer (some ⟨w82.heap.size, 0, none⟩)), (6, .slice (some ⟨g54, 0, none⟩) L11.length c22), (4, .pointer (some ⟨w.heap.size, 0, none⟩))]) (by kernel_rfl) ?_
                      intro w228 a229 hS230 hF231; clear hF226 hS223
                      refine wpList_nil ?_
                      have hF232 : Fr 51 a229 [(8, .pointer (some ⟨w82.heap.size, 0, none⟩)), (4, .pointer (some ⟨w.heap.size, 0, none⟩))] := hF231.keep [4, 8]
                      clear hF231
                      have hS233 : St w0 F0 (BlkP (w82.heap.size) 43 #[.int .i64 (x63), .int .i64 (x71), .int .i64 (x79), .int .i64 (x99), .int .i64 (x100), .int .i64 (x101), .int .i64 (x102), .int .i64 (x103), .int .i64 (x104), .int .i64 (x218)] :: HeapP b0 ab0 s0 :: BlkP (w.heap.size) 43 #[.int .i64 0, .int .i64 0, .int .i64 0, .int .i64 0, .int .i64 0, .int .i64 0, .int .i64 0, .int .i64 0, .int .i64 0, .int .i64 0] :: ps) w228 := St.ordP [BlkP (w82.heap.size) 43 #[.int .i64 (x63), .int .i64 (x71), .int .i64 (x79), .int .i64 (x99), .int .i64 (x100), .int .i64 (x101), .int .i64 (x102), .int .i64 (x103), .int .i64 (x104), .int .i64 (x218)], RowP (.slice (some ⟨g54, 0, none⟩) L11.length c22) L11, HeapP b0 ab0 s0, BlkP (w.heap.size) 43 #[.int .i64 0, .int .i64 0, .int .i64 0, .int .i64 0, .int .i64 0, .int .i64 0, .int .i64 0, .int .i64 0, .int .i64 0, .int .i64 0]] ps hS230 [0, 2, 3] [1] (by kernel_rfl)
                      clear hS230
                      refine thenN ?_
                      refine wp_seq ?_
                      refine wp_region_lit ?_
                      refine ev_one (.agg #[.int .i64 (x63), .int .i64 (x71), .int .i64 (x79), .int .i64 (x99), .int .i64 (x100), .int .i64 (x101), .int .i64 (x102), .int .i64 (x103), .int .i64 (x104), .int .i64 (x218)]) w228 hF232 (by kernel_rfl) rfl (by kernel_rfl) (run_loadV rfl rfl (run_loadA (cs := [.int .i64 (x63), .int .i64 (x71), .int .i64 (x79), .int .i64 (x99), .int .i64 (x100), .int .i64 (x101), .int .i64 (x102), .int .i64 (x103), .int .i64 (x104), .int .i64 (x218)]) rfl rfl (by kernel_rfl) (blk_cells hS233 0 rfl rfl))) (l' := [(50, .agg #[.int .i64 (x63), .int .i64 (x71), .int .i64 (x79), .int .i64 (x99), .int .i64 (x100), .int .i64 (x101), .int .i64 (x102), .int .i64 (x103), .int .i64 (x104), .int .i64 (x218)]), (8, .pointer (some ⟨w82.heap.size, 0, none⟩)), (4, .pointer (some ⟨w.heap.size, 0, none⟩))]) (by kernel_rfl) ?_
                      intro a235 hF234; clear hF232
                      have hS236 : St w0 F0 (BlkP (w.heap.size) 43 #[.int .i64 0, .int .i64 0, .int .i64 0, .int .i64 0, .int .i64 0, .int .i64 0, .int .i64 0, .int .i64 0, .int .i64 0, .int .i64 0] :: BlkP (w82.heap.size) 43 #[.int .i64 (x63), .int .i64 (x71), .int .i64 (x79), .int .i64 (x99), .int .i64 (x100), .int .i64 (x101), .int .i64 (x102), .int .i64 (x103), .int .i64 (x104), .int .i64 (x218)] :: HeapP b0 ab0 s0 :: ps) w228 := St.ordP [BlkP (w82.heap.size) 43 #[.int .i64 (x63), .int .i64 (x71), .int .i64 (x79), .int .i64 (x99), .int .i64 (x100), .int .i64 (x101), .int .i64 (x102), .int .i64 (x103), .int .i64 (x104), .int .i64 (x218)], HeapP b0 ab0 s0, BlkP (w.heap.size) 43 #[.int .i64 0, .int .i64 0, .int .i64 0, .int .i64 0, .int .i64 0, .int .i64 0, .int .i64 0, .int .i64 0, .int .i64 0, .int .i64 0]] ps hS233 [2, 0, 1] [] (by kernel_rfl)
                      clear hS233
                      refine ev_store (.agg #[.int .i64 (x63), .int .i64 (x71), .int .i64 (x79), .int .i64 (x99), .int .i64 (x100), .int .i64 (x101), .int .i64 (x102), .int .i64 (x103), .int .i64 (x104), .int .i64 (x218)]) #[.int .i64 (x63), .int .i64 (x71), .int .i64 (x79), .int .i64 (x99), .int .i64 (x100), .int .i64 (x101), .int .i64 (x102), .int .i64 (x103), .int .i64 (x104), .int .i64 (x218)] hF234 (by kernel_rfl) rfl rfl rfl rfl (by kernel_rfl) hS236 (by kernel_rfl) (by kernel_rfl) (by kernel_rfl) (l' := [(50, .agg #[.int .i64 (x63), .int .i64 (x71), .int .i64 (x79), .int .i64 (x99), .int .i64 (x100), .int .i64 (x101), .int .i64 (x102), .int .i64 (x103), .int .i64 (x104), .int .i64 (x218)]), (8, .pointer (some ⟨w82.heap.size, 0, none⟩)), (4, .pointer (some ⟨w.heap.size, 0, none⟩))]) (by kernel_rfl) ?_
                      intro w237 a238 hS239 hF240; clear hF234 hS236
                      refine ev_runs 1 hF240 (l' := [(5, .int .i64 0), (50, .agg #[.int .i64 (x63), .int .i64 (x71), .int .i64 (x79), .int .i64 (x99), .int .i64 (x100), .int .i64 (x101), .int .i64 (x102), .int .i64 (x103), .int .i64 (x104), .int .i64 (x218)]), (8, .pointer (some ⟨w82.heap.size, 0, none⟩)), (4, .pointer (some ⟨w.heap.size, 0, none⟩))]) (w' := w237) (by kernel_rfl) ?_
                      intro a242 hF241; clear hF240
                      refine wpList_nil ?_
                      have hF243 : Fr 51 a242 [(5, .int .i64 0), (4, .pointer (some ⟨w.heap.size, 0, none⟩))] := hF241.keep [4, 5]
                      clear hF241
                      have hS244 : St w0 F0 (BlkP (w.heap.size) 43 #[.int .i64 (x63), .int .i64 (x71), .int .i64 (x79), .int .i64 (x99), .int .i64 (x100), .int .i64 (x101), .int .i64 (x102), .int .i64 (x103), .int .i64 (x104), .int .i64 (x218)] :: HeapP b0 ab0 s0 :: ps) w237 := St.ordP [BlkP (w.heap.size) 43 #[.int .i64 (x63), .int .i64 (x71), .int .i64 (x79), .int .i64 (x99), .int .i64 (x100), .int .i64 (x101), .int .i64 (x102), .int .i64 (x103), .int .i64 (x104), .int .i64 (x218)], BlkP (w82.heap.size) 43 #[.int .i64 (x63), .int .i64 (x71), .int .i64 (x79), .int .i64 (x99), .int .i64 (x100), .int .i64 (x101), .int .i64 (x102), .int .i64 (x103), .int .i64 (x104), .int .i64 (x218)], HeapP b0 ab0 s0] ps hS239 [0, 2] [1] (by kernel_rfl)
                      clear hS239
                      refine thenN ?_
                      refine wp_ret ?_
                      have hS245 : St w0 F0 (HeapP b0 ab0 s0 :: BlkP (w.heap.size) 43 #[.int .i64 (x63), .int .i64 (x71), .int .i64 (x79), .int .i64 (x99), .int .i64 (x100), .int .i64 (x101), .int .i64 (x102), .int .i64 (x103), .int .i64 (x104), .int .i64 (x218)] :: ps) w237 := St.ordP [BlkP (w.heap.size) 43 #[.int .i64 (x63), .int .i64 (x71), .int .i64 (x79), .int .i64 (x99), .int .i64 (x100), .int .i64 (x101), .int .i64 (x102), .int .i64 (x103), .int .i64 (x104), .int .i64 (x218)], HeapP b0 ab0 s0] ps hS244 [1, 0] [] (by kernel_rfl)
                      clear hS244
                      simp only [Option.some.injEq, Prod.mk.injEq] at hm220
                      obtain ⟨rfl, rfl, rfl⟩ := hm220
                      refine ev_retC hF243 _ [.agg #[.int .i64 (x63), .int .i64 (x71), .int .i64 (x79), .int .i64 (x99), .int .i64 (x100), .int .i64 (x101), .int .i64 (x102), .int .i64 (x103), .int .i64 (x104), .int .i64 (x218)], .int .i64 0] (.tuple #[.agg #[.int .i64 (x63), .int .i64 (x71), .int .i64 (x79), .int .i64 (x99), .int .i64 (x100), .int .i64 (x101), .int .i64 (x102), .int .i64 (x103), .int .i64 (x104), .int .i64 (x218)], .int .i64 0]) rfl ⟨⟨rfl, _, rfl, (run_loadA (cs := [.int .i64 (x63), .int .i64 (x71), .int .i64 (x79), .int .i64 (x99), .int .i64 (x100), .int .i64 (x101), .int .i64 (x102), .int .i64 (x103), .int .i64 (x104), .int .i64 (x218)]) rfl rfl (by kernel_rfl) (blk_cells hS245 1 rfl rfl))⟩, ⟨rfl, rfl⟩, trivial⟩ rfl ?_
                      have hS249 : St w0 F0 (HeapP b0 ab0 s0 :: ps) w237 := St.ordP [HeapP b0 ab0 s0, BlkP (w.heap.size) 43 #[.int .i64 (x63), .int .i64 (x71), .int .i64 (x79), .int .i64 (x99), .int .i64 (x100), .int .i64 (x101), .int .i64 (x102), .int .i64 (x103), .int .i64 (x104), .int .i64 (x218)]] ps hS245 [0] [1] (by kernel_rfl)
                      clear hS245
                      exact ⟨rfl, hS249⟩
              · skip
                have hS250 : St w0 F0 (BlkP (w74.heap.size) 43 #[.int .i64 0, .int .i64 0, .int .i64 0, .int .i64 0, .int .i64 0, .int .i64 0, .int .i64 0, .int .i64 0, .int .i64 0, .int .i64 0] :: RowP (.slice (some ⟨g54, 0, none⟩) L11.length c22) L11 :: HeapP b0 ab0 s0 :: BlkP (w.heap.size) 43 #[.int .i64 0, .int .i64 0, .int .i64 0, .int .i64 0, .int .i64 0, .int .i64 0, .int .i64 0, .int .i64 0, .int .i64 0, .int .i64 0] :: ps) (w74.alloc (.cells #[.int .i64 0, .int .i64 0, .int .i64 0, .int .i64 0, .int .i64 0, .int .i64 0, .int .i64 0, .int .i64 0, .int .i64 0, .int .i64 0] 43)) := St.new hS76 #[.int .i64 0, .int .i64 0, .int .i64 0, .int .i64 0, .int .i64 0, .int .i64 0, .int .i64 0, .int .i64 0, .int .i64 0, .int .i64 0] 43
                clear hS76
                refine op_step 13 #[true, true, true, true, true, true, true, true, true, true, true, false, false, true, false] (.pointer (some ⟨w74.heap.size, 0, none⟩)) (w74.alloc (.cells #[.int .i64 0, .int .i64 0, .int .i64 0, .int .i64 0, .int .i64 0, .int .i64 0, .int .i64 0, .int .i64 0, .int .i64 0, .int .i64 0] 43)) hF78 rfl (by kernel_rfl) rfl (by kernel_rfl) (by kernel_rfl) (l' := [(8, .pointer (some ⟨w74.heap.size, 0, none⟩)), (27, .int .i64 (x71)), (23, .int .i64 (x63)), (30, .int .i64 (atI L11 (2 : Int))), (26, .int .i64 (atI L11 (1 : Int))), (22, .int .i64 (atI L11 (0 : Int))), (6, .slice (some ⟨g54, 0, none⟩) L11.length c22), (4, .pointer (some ⟨w.heap.size, 0, none⟩))]) (by kernel_rfl) ⟨_, St.ordP [BlkP (w74.heap.size) 43 #[.int .i64 0, .int .i64 0, .int .i64 0, .int .i64 0, .int .i64 0, .int .i64 0, .int .i64 0, .int .i64 0, .int .i64 0, .int .i64 0], RowP (.slice (some ⟨g54, 0, none⟩) L11.length c22) L11, HeapP b0 ab0 s0, BlkP (w.heap.size) 43 #[.int .i64 0, .int .i64 0, .int .i64 0, .int .i64 0, .int .i64 0, .int .i64 0, .int .i64 0, .int .i64 0, .int .i64 0, .int .i64 0]] ps hS250 [1, 0, 2, 3] [] (by kernel_rfl)⟩ (by kernel_rfl) ?_
                intro a252 hF251; clear hF78
                refine any_call 11 #[true, true, true, true, true, true, true, true, true, true, true, true, false, true, false] 52 #[.int .i64 (atI L11 (2 : Int))] hF251 rfl (by kernel_rfl) rfl rfl (by kernel_rfl) rfl (by kernel_rfl) (fun w => by kernel_rfl) (by kernel_rfl) ?_
                obtain ⟨x253, hx254, hm255⟩ := bind1E hm73; clear hm73
                refine (p_vNum hS250 hx254).mono ?_
                rintro _ w256 ⟨rfl, hS258⟩; clear hS250
                refine ⟨⟨_, St.ordP [BlkP (w74.heap.size) 43 #[.int .i64 0, .int .i64 0, .int .i64 0, .int .i64 0, .int .i64 0, .int .i64 0, .int .i64 0, .int .i64 0, .int .i64 0, .int .i64 0], RowP (.slice (some ⟨g54, 0, none⟩) L11.length c22) L11, HeapP b0 ab0 s0, BlkP (w.heap.size) 43 #[.int .i64 0, .int .i64 0, .int .i64 0, .int .i64 0, .int .i64 0, .int .i64 0, .int .i64 0, .int .i64 0, .int .i64 0, .int .i64 0]] ps hS258 [1, 0, 2, 3] [] (by kernel_rfl)⟩, ?_⟩
                intro a257 hF259; clear hF251
                have hF260 : Fr 51 a257 [(31, .int .i64 (x253)), (8, .pointer (some ⟨w74.heap.size, 0, none⟩)), (27, .int .i64 (x71)), (23, .int .i64 (x63)), (30, .int .i64 (atI L11 (2 : Int))), (26, .int .i64 (atI L11 (1 : Int))), (22, .int .i64 (atI L11 (0 : Int))), (6, .slice (some ⟨g54, 0, none⟩) L11.length c22), (4, .pointer (some ⟨w.heap.size, 0, none⟩))] := hF259
                clear hF259
                refine any_many 1 [(12, some (.agg #[.int .i64 (x63), .int .i64 (x71), .int .i64 (x253), .int .i64 0, .int .i64 0, .int .i64 0, .int .i64 0, .int .i64 0, .int .i64 0, .int .i64 (-1)]))] [4, 6, 8, 32] #[true, true, true, true, true, true, true, true, true, true, true, true, true, true, false] (by rfl) hF260 (by kernel_rfl) (by kernel_rfl) (by exact (And.intro (fun wS hw => by kernel_rfl) trivial)) (fun _ _ _ _ _ h => h) ⟨_, St.ordP [BlkP (w74.heap.size) 43 #[.int .i64 0, .int .i64 0, .int .i64 0, .int .i64 0, .int .i64 0, .int .i64 0, .int .i64 0, .int .i64 0, .int .i64 0, .int .i64 0], RowP (.slice (some ⟨g54, 0, none⟩) L11.length c22) L11, HeapP b0 ab0 s0, BlkP (w.heap.size) 43 #[.int .i64 0, .int .i64 0, .int .i64 0, .int .i64 0, .int .i64 0, .int .i64 0, .int .i64 0, .int .i64 0, .int .i64 0, .int .i64 0]] ps hS258 [1, 0, 2, 3] [] (by kernel_rfl)⟩ (l' := [(32, .agg #[.int .i64 (x63), .int .i64 (x71), .int .i64 (x253), .int .i64 0, .int .i64 0, .int .i64 0, .int .i64 0, .int .i64 0, .int .i64 0, .int .i64 (-1)]), (8, .pointer (some ⟨w74.heap.size, 0, none⟩)), (6, .slice (some ⟨g54, 0, none⟩) L11.length c22), (4, .pointer (some ⟨w.heap.size, 0, none⟩))]) (by kernel_rfl) ?_
                intro a262 hF261; clear hF260
                refine any_one 14 (by kernel_rfl) ?_
                refine op_store 14 #[true, true, true, true, true, true, true, true, true, true, true, true, true, true, true] (.agg #[.int .i64 (x63), .int .i64 (x71), .int .i64 (x253), .int .i64 0, .int .i64 0, .int .i64 0, .int .i64 0, .int .i64 0, .int .i64 0, .int .i64 (-1)]) #[.int .i64 (x63), .int .i64 (x71), .int .i64 (x253), .int .i64 0, .int .i64 0, .int .i64 0, .int .i64 0, .int .i64 0, .int .i64 0, .int .i64 (-1)] hF261 rfl (by kernel_rfl) rfl rfl rfl rfl (by kernel_rfl) hS258 (by kernel_rfl) (by kernel_rfl) (by kernel_rfl) (l' := [(32, .agg #[.int .i64 (x63), .int .i64 (x71), .int .i64 (x253), .int .i64 0, .int .i64 0, .int .i64 0, .int .i64 0, .int .i64 0, .int .i64 0, .int .i64 (-1)]), (8, .pointer (some ⟨w74.heap.size, 0, none⟩)), (6, .slice (some ⟨g54, 0, none⟩) L11.length c22), (4, .pointer (some ⟨w.heap.size, 0, none⟩))]) (by kernel_rfl) (by kernel_rfl) ?_
                intro w263 a264 hS265 hF266; clear hF261 hS258
                refine ⟨⟨_, St.ordP [BlkP (w74.heap.size) 43 #[.int .i64 (x63), .int .i64 (x71), .int .i64 (x253), .int .i64 0, .int .i64 0, .int .i64 0, .int .i64 0, .int .i64 0, .int .i64 0, .int .i64 (-1)], RowP (.slice (some ⟨g54, 0, none⟩) L11.length c22) L11, HeapP b0 ab0 s0, BlkP (w.heap.size) 43 #[.int .i64 0, .int .i64 0, .int .i64 0, .int .i64 0, .int .i64 0, .int .i64 0, .int .i64 0, .int .i64 0, .int .i64 0, .int .i64 0]] ps hS265 [1, 0, 2, 3] [] (by kernel_rfl)⟩, ?_⟩
                refine any_done (by kernel_rfl) ?_
                have hF267 : Fr 51 a264 [(8, .pointer (some ⟨w74.heap.size, 0, none⟩)), (6, .slice (some ⟨g54, 0, none⟩) L11.length c22), (4, .pointer (some ⟨w.heap.size, 0, none⟩))] := hF266.keep [4, 6, 8]
                clear hF266
                refine thenN ?_
                refine wp_seq ?_
                refine wp_seq ?_
                refine wp_region_lit ?_
                refine ev_runs 1 hF267 (l' := [(33, .int .i64 0), (8, .pointer (some ⟨w74.heap.size, 0, none⟩)), (6, .slice (some ⟨g54, 0, none⟩) L11.length c22), (4, .pointer (some ⟨w.heap.size, 0, none⟩))]) (w' := w263) (by kernel_rfl) ?_
                intro a269 hF268; clear hF267
                refine wpList_nil ?_
                refine thenN ?_
                refine wp_block ?_
                refine wp_loop_ghost (fun kI aI wI => ∃ (x270 : Int) (x271 : Int) (x272 : Int) (x273 : Int) (x274 : Int) (x275 : Int) (x276 : Int), Fr 51 aI [(33, .int .i64 (x276)), (8, .pointer (some ⟨w74.heap.size, 0, none⟩)), (6, .slice (some ⟨g54, 0, none⟩) L11.length c22), (4, .pointer (some ⟨w.heap.size, 0, none⟩))] ∧ St w0 F0 (BlkP (w74.heap.size) 43 #[.int .i64 (x63), .int .i64 (x71), .int .i64 (x253), .int .i64 (x270), .int .i64 (x271), .int .i64 (x272), .int .i64 (x273), .int .i64 (x274), .int .i64 (x275), .int .i64 (-1)] :: RowP (.slice (some ⟨g54, 0, none⟩) L11.length c22) L11 :: HeapP b0 ab0 s0 :: BlkP (w.heap.size) 43 #[.int .i64 0, .int .i64 0, .int .i64 0, .int .i64 0, .int .i64 0, .int .i64 0, .int .i64 0, .int .i64 0, .int .i64 0, .int .i64 0] :: ps) wI ∧ view_Gor.l1 s0 L11 x63 x71 x253 kI x270 x271 x272 x273 x274 x275 x276 = some (r0, r1, t0)) k ⟨0, 0, 0, 0, 0, 0, 0, hF268, hS265, hm255⟩ ?_
                rintro k277 a278 w279 ⟨x270, x271, x272, x273, x274, x275, x276, hF280, hS281, hm282⟩
                clear hF268 hS265 hm255
                cases k277 with
                | zero => cases hm282
                | succ k277 =>
                  have hm283 : view_Gor.l1b s0 L11 x63 x71 x253 (view_Gor.l1 s0 L11 x63 x71 x253 k277) x270 x271 x272 x273 x274 x275 x276 = some (r0, r1, t0) := hm282
                  clear hm282
                  unfold view_Gor.l1b at hm283
                  refine wp_seq ?_
                  refine wp_region_lit ?_
                  refine ev_runs 1 hF280 (l' := [(34, .bool (decide (x276 < 6))), (33, .int .i64 (x276)), (8, .pointer (some ⟨w74.heap.size, 0, none⟩)), (6, .slice (some ⟨g54, 0, none⟩) L11.length c22), (4, .pointer (some ⟨w.heap.size, 0, none⟩))]) (w' := w279) (by kernel_rfl) ?_
                  intro a285 hF284; clear hF280
                  refine wpList_nil ?_
                  refine thenN ?_
                  refine wp_seq ?_
                  cases hc286 : (decide (x276 < 6)) with
                  | true =>
                    rw [hc286] at hF284
                    rw [hc286] at hm283
                    have hm287 := ifT hm283; clear hm283
                    refine ev_condT hF284 rfl rfl ?_
                    refine wp_skip ?_
                    have hF288 : Fr 51 a285 [(33, .int .i64 (x276)), (8, .pointer (some ⟨w74.heap.size, 0, none⟩)), (6, .slice (some ⟨g54, 0, none⟩) L11.length c22), (4, .pointer (some ⟨w.heap.size, 0, none⟩))] := hF284.keep [4, 6, 8, 33]
                    clear hF284
                    refine thenN ?_
                    refine wp_seq ?_
                    refine wp_block ?_
                    refine wp_seq ?_
                    refine wp_region_lit ?_
                    refine ev_runs 2 hF288 (l' := [(9, .int .i64 (x276)), (35, .int .i64 (x276)), (33, .int .i64 (x276)), (8, .pointer (some ⟨w74.heap.size, 0, none⟩)), (6, .slice (some ⟨g54, 0, none⟩) L11.length c22), (4, .pointer (some ⟨w.heap.size, 0, none⟩))]) (w' := w279) (by kernel_rfl) ?_
                    intro a290 hF289; clear hF288
                    refine wpList_nil ?_
                    have hF291 : Fr 51 a290 [(9, .int .i64 (x276)), (33, .int .i64 (x276)), (8, .pointer (some ⟨w74.heap.size, 0, none⟩)), (6, .slice (some ⟨g54, 0, none⟩) L11.length c22), (4, .pointer (some ⟨w.heap.size, 0, none⟩))] := hF289.keep [4, 6, 8, 9, 33]
                    clear hF289
                    refine thenN ?_
                    refine wp_region_lit ?_
                    refine ev_runs 4 hF291 (l' := [(39, .int .i64 (IntKind.i64.wrap (3 + x276))), (38, .int .i64 (x276)), (37, .slice (some ⟨g54, 0, none⟩) L11.length c22), (36, .int .i64 (x276)), (9, .int .i64 (x276)), (33, .int .i64 (x276)), (8, .pointer (some ⟨w74.heap.size, 0, none⟩)), (6, .slice (some ⟨g54, 0, none⟩) L11.length c22), (4, .pointer (some ⟨w.heap.size, 0, none⟩))]) (w' := w279) (by kernel_rfl) ?_
                    intro a293 hF292; clear hF291
                    cases hc294 : (inR (IntKind.i64.wrap (3 + x276)) L11.length) with
                    | false => rw [hc294] at hm287; cases hm287
                    | true =>
                      rw [hc294] at hm287
                      have hm295 := ifT hm287; clear hm287
                      refine ev_one (.pointer (some ⟨g54, (IntKind.i64.wrap (3 + x276)).toNat, none⟩)) w279 hF292 (by kernel_rfl) rfl (by kernel_rfl) (run_idx rfl rfl rfl rfl rfl (inR_spec hc294).1 (inR_spec hc294).2 _) (l' := [(40, .pointer (some ⟨g54, (IntKind.i64.wrap (3 + x276)).toNat, none⟩)), (39, .int .i64 (IntKind.i64.wrap (3 + x276))), (38, .int .i64 (x276)), (37, .slice (some ⟨g54, 0, none⟩) L11.length c22), (36, .int .i64 (x276)), (9, .int .i64 (x276)), (33, .int .i64 (x276)), (8, .pointer (some ⟨w74.heap.size, 0, none⟩)), (6, .slice (some ⟨g54, 0, none⟩) L11.length c22), (4, .pointer (some ⟨w.heap.size, 0, none⟩))]) (by kernel_rfl) ?_
                      intro a297 hF296; clear hF292
                      refine ev_one (.int .i64 (atI L11 (IntKind.i64.wrap (3 + x276)))) w279 hF296 (by kernel_rfl) rfl (by kernel_rfl) (run_load1 rfl rfl rfl (hS281.atI 1 rfl hc294)) (l' := [(41, .int .i64 (atI L11 (IntKind.i64.wrap (3 + x276)))), (40, .pointer (some ⟨g54, (IntKind.i64.wrap (3 + x276)).toNat, none⟩)), (39, .int .i64 (IntKind.i64.wrap (3 + x276))), (38, .int .i64 (x276)), (37, .slice (some ⟨g54, 0, none⟩) L11.length c22), (36, .int .i64 (x276)), (9, .int .i64 (x276)), (33, .int .i64 (x276)), (8, .pointer (some ⟨w74.heap.size, 0, none⟩)), (6, .slice (some ⟨g54, 0, none⟩) L11.length c22), (4, .pointer (some ⟨w.heap.size, 0, none⟩))]) (by kernel_rfl) ?_
                      intro a299 hF298; clear hF296
                      refine ev_runs 1 hF298 (l' := [(42, .pointer (some ⟨w74.heap.size, 3, none⟩)), (41, .int .i64 (atI L11 (IntKind.i64.wrap (3 + x276)))), (40, .pointer (some ⟨g54, (IntKind.i64.wrap (3 + x276)).toNat, none⟩)), (39, .int .i64 (IntKind.i64.wrap (3 + x276))), (38, .int .i64 (x276)), (37, .slice (some ⟨g54, 0, none⟩) L11.length c22), (36, .int .i64 (x276)), (9, .int .i64 (x276)), (33, .int .i64 (x276)), (8, .pointer (some ⟨w74.heap.size, 0, none⟩)), (6, .slice (some ⟨g54, 0, none⟩) L11.length c22), (4, .pointer (some ⟨w.heap.size, 0, none⟩))]) (w' := w279) (by kernel_rfl) ?_
                      intro a301 hF300; clear hF298
                      cases hc302 : (x276 == 0) with
                      | true =>
                        rw [hc302] at hm295
                        have hm303 := ifT hm295; clear hm295
                        refine ev_one (.pointer (some ⟨w74.heap.size, 3, none⟩)) w279 hF300 (by kernel_rfl) rfl (by kernel_rfl) (run_idxA (q := 0) rfl rfl rfl rfl (congrArg (Value.int .i64) (eq_of_beq hc302)) (by decide) (by decide) (by kernel_rfl) _) (l' := [(43, .pointer (some ⟨w74.heap.size, 3, none⟩)), (42, .pointer (some ⟨w74.heap.size, 3, none⟩)), (41, .int .i64 (atI L11 (IntKind.i64.wrap (3 + x276)))), (40, .pointer (some ⟨g54, (IntKind.i64.wrap (3 + x276)).toNat, none⟩)), (39, .int .i64 (IntKind.i64.wrap (3 + x276))), (38, .int .i64 (x276)), (37, .slice (some ⟨g54, 0, none⟩) L11.length c22), (36, .int .i64 (x276)), (9, .int .i64 (x276)), (33, .int .i64 (x276)), (8, .pointer (some ⟨w74.heap.size, 0, none⟩)), (6, .slice (some ⟨g54, 0, none⟩) L11.length c22), (4, .pointer (some ⟨w.heap.size, 0, none⟩))]) (by kernel_rfl) ?_
                        intro a305 hF304; clear hF300
                        refine ev_store (.int .i64 (atI L11 (IntKind.i64.wrap (3 + x276)))) #[.int .i64 (x63), .int .i64 (x71), .int .i64 (x253), .int .i64 (atI L11 (IntKind.i64.wrap (3 + x276))), .int .i64 (x271), .int .i64 (x272), .int .i64 (x273), .int .i64 (x274), .int .i64 (x275), .int .i64 (-1)] hF304 (by kernel_rfl) rfl rfl rfl rfl (by kernel_rfl) hS281 (by kernel_rfl) (by kernel_rfl) (by kernel_rfl) (l' := [(43, .pointer (some ⟨w74.heap.size, 3, none⟩)), (42, .pointer (some ⟨w74.heap.size, 3, none⟩)), (41, .int .i64 (atI L11 (IntKind.i64.wrap (3 + x276)))), (40, .pointer (some ⟨g54, (IntKind.i64.wrap (3 + x276)).toNat, none⟩)), (39, .int .i64 (IntKind.i64.wrap (3 + x276))), (38, .int .i64 (x276)), (37, .slice (some ⟨g54, 0, none⟩) L11.length c22), (36, .int .i64 (x276)), (9, .int .i64 (x276)), (33, .int .i64 (x276)), (8, .pointer (some ⟨w74.heap.size, 0, none⟩)), (6, .slice (some ⟨g54, 0, none⟩) L11.length c22), (4, .pointer (some ⟨w.heap.size, 0, none⟩))]) (by kernel_rfl) ?_
                        intro w306 a307 hS308 hF309; clear hF304 hS281
                        refine wpList_nil ?_
                        have hF310 : Fr 51 a307 [(33, .int .i64 (x276)), (8, .pointer (some ⟨w74.heap.size, 0, none⟩)), (6, .slice (some ⟨g54, 0, none⟩) L11.length c22), (4, .pointer (some ⟨w.heap.size, 0, none⟩))] := hF309.keep [4, 6, 8, 33]
                        clear hF309
                        refine blockN ?_
                        refine thenN ?_
                        refine wp_region_lit ?_
                        refine ev_runs 2 hF310 (l' := [(33, .int .i64 (IntKind.i64.wrap (x276 + 1))), (44, .int .i64 (IntKind.i64.wrap (x276 + 1))), (8, .pointer (some ⟨w74.heap.size, 0, none⟩)), (6, .slice (some ⟨g54, 0, none⟩) L11.length c22), (4, .pointer (some ⟨w.heap.size, 0, none⟩))]) (w' := w306) (by kernel_rfl) ?_
                        intro a312 hF311; clear hF310
                        refine wpList_nil ?_
                        have hF313 : Fr 51 a312 [(33, .int .i64 (IntKind.i64.wrap (x276 + 1))), (8, .pointer (some ⟨w74.heap.size, 0, none⟩)), (6, .slice (some ⟨g54, 0, none⟩) L11.length c22), (4, .pointer (some ⟨w.heap.size, 0, none⟩))] := hF311.keep [4, 6, 8, 33]
                        clear hF311
                        exact thenN ⟨k277, Nat.lt_succ_self _, atI L11 (IntKind.i64.wrap (3 + x276)), x271, x272, x273, x274, x275, IntKind.i64.wrap (x276 + 1), hF313, hS308, hm303⟩
                      | false =>
                        rw [hc302] at hm295
                        have hm314 := ifF hm295; clear hm295
                        cases hc315 : (x276 == 1) with
                        | true =>
                          rw [hc315] at hm314
                          have hm316 := ifT hm314; clear hm314
                          refine ev_one (.pointer (some ⟨w74.heap.size, 4, none⟩)) w279 hF300 (by kernel_rfl) rfl (by kernel_rfl) (run_idxA (q := 1) rfl rfl rfl rfl (congrArg (Value.int .i64) (eq_of_beq hc315)) (by decide) (by decide) (by kernel_rfl) _) (l' := [(43, .pointer (some ⟨w74.heap.size, 4, none⟩)), (42, .pointer (some ⟨w74.heap.size, 3, none⟩)), (41, .int .i64 (atI L11 (IntKind.i64.wrap (3 + x276)))), (40, .pointer (some ⟨g54, (IntKind.i64.wrap (3 + x276)).toNat, none⟩)), (39, .int .i64 (IntKind.i64.wrap (3 + x276))), (38, .int .i64 (x276)), (37, .slice (some ⟨g54, 0, none⟩) L11.length c22), (36, .int .i64 (x276)), (9, .int .i64 (x276)), (33, .int .i64 (x276)), (8, .pointer (some ⟨w74.heap.size, 0, none⟩)), (6, .slice (some ⟨g54, 0, none⟩) L11.length c22), (4, .pointer (some ⟨w.heap.size, 0, none⟩))]) (by kernel_rfl) ?_
                          intro a318 hF317; clear hF300
                          refine ev_store (.int .i64 (atI L11 (IntKind.i64.wrap (3 + x276)))) #[.int .i64 (x63), .int .i64 (x71), .int .i64 (x253), .int .i64 (x270), .int .i64 (atI L11 (IntKind.i64.wrap (3 + x276))), .int .i64 (x272), .int .i64 (x273), .int .i64 (x274), .int .i64 (x275), .int .i64 (-1)] hF317 (by kernel_rfl) rfl rfl rfl rfl (by kernel_rfl) hS281 (by kernel_rfl) (by kernel_rfl) (by kernel_rfl) (l' := [(43, .pointer (some ⟨w74.heap.size, 4, none⟩)), (42, .pointer (some ⟨w74.heap.size, 3, none⟩)), (41, .int .i64 (atI L11 (IntKind.i64.wrap (3 + x276)))), (40, .pointer (some ⟨g54, (IntKind.i64.wrap (3 + x276)).toNat, none⟩)), (39, .int .i64 (IntKind.i64.wrap (3 + x276))), (38, .int .i64 (x276)), (37, .slice (some ⟨g54, 0, none⟩) L11.length c22), (36, .int .i64 (x276)), (9, .int .i64 (x276)), (33, .int .i64 (x276)), (8, .pointer (some ⟨w74.heap.size, 0, none⟩)), (6, .slice (some ⟨g54, 0, none⟩) L11.length c22), (4, .pointer (some ⟨w.heap.size, 0, none⟩))]) (by kernel_rfl) ?_
                          intro w319 a320 hS321 hF322; clear hF317 hS281
                          refine wpList_nil ?_
                          have hF323 : Fr 51 a320 [(33, .int .i64 (x276)), (8, .pointer (some ⟨w74.heap.size, 0, none⟩)), (6, .slice (some ⟨g54, 0, none⟩) L11.length c22), (4, .pointer (some ⟨w.heap.size, 0, none⟩))] := hF322.keep [4, 6, 8, 33]
                          clear hF322
                          refine blockN ?_
                          refine thenN ?_
                          refine wp_region_lit ?_
                          refine ev_runs 2 hF323 (l' := [(33, .int .i64 (IntKind.i64.wrap (x276 + 1))), (44, .int .i64 (IntKind.i64.wrap (x276 + 1))), (8, .pointer (some ⟨w74.heap.size, 0, none⟩)), (6, .slice (some ⟨g54, 0, none⟩) L11.length c22), (4, .pointer (some ⟨w.heap.size, 0, none⟩))]) (w' := w319) (by kernel_rfl) ?_
                          intro a325 hF324; clear hF323
                          refine wpList_nil ?_
                          have hF326 : Fr 51 a325 [(33, .int .i64 (IntKind.i64.wrap (x276 + 1))), (8, .pointer (some ⟨w74.heap.size, 0, none⟩)), (6, .slice (some ⟨g54, 0, none⟩) L11.length c22), (4, .pointer (some ⟨w.heap.size, 0, none⟩))] := hF324.keep [4, 6, 8, 33]
                          clear hF324
                          exact thenN ⟨k277, Nat.lt_succ_self _, x270, atI L11 (IntKind.i64.wrap (3 + x276)), x272, x273, x274, x275, IntKind.i64.wrap (x276 + 1), hF326, hS321, hm316⟩
                        | false =>
                          rw [hc315] at hm314
                          have hm327 := ifF hm314; clear hm314
                          cases hc328 : (x276 == 2) with
                          | true =>
                            rw [hc328] at hm327
                            have hm329 := ifT hm327; clear hm327
                            refine ev_one (.pointer (some ⟨w74.heap.size, 5, none⟩)) w279 hF300 (by kernel_rfl) rfl (by kernel_rfl) (run_idxA (q := 2) rfl rfl rfl rfl (congrArg (Value.int .i64) (eq_of_beq hc328)) (by decide) (by decide) (by kernel_rfl) _) (l' := [(43, .pointer (some ⟨w74.heap.size, 5, none⟩)), (42, .pointer (some ⟨w74.heap.size, 3, none⟩)), (41, .int .i64 (atI L11 (IntKind.i64.wrap (3 + x276)))), (40, .pointer (some ⟨g54, (IntKind.i64.wrap (3 + x276)).toNat, none⟩)), (39, .int .i64 (IntKind.i64.wrap (3 + x276))), (38, .int .i64 (x276)), (37, .slice (some ⟨g54, 0, none⟩) L11.length c22), (36, .int .i64 (x276)), (9, .int .i64 (x276)), (33, .int .i64 (x276)), (8, .pointer (some ⟨w74.heap.size, 0, none⟩)), (6, .slice (some ⟨g54, 0, none⟩) L11.length c22), (4, .pointer (some ⟨w.heap.size, 0, none⟩))]) (by kernel_rfl) ?_
                            intro a331 hF330; clear hF300
                            refine ev_store (.int .i64 (atI L11 (IntKind.i64.wrap (3 + x276)))) #[.int .i64 (x63), .int .i64 (x71), .int .i64 (x253), .int .i64 (x270), .int .i64 (x271), .int .i64 (atI L11 (IntKind.i64.wrap (3 + x276))), .int .i64 (x273), .int .i64 (x274), .int .i64 (x275), .int .i64 (-1)] hF330 (by kernel_rfl) rfl rfl rfl rfl (by kernel_rfl) hS281 (by kernel_rfl) (by kernel_rfl) (by kernel_rfl) (l' := [(43, .pointer (some ⟨w74.heap.size, 5, none⟩)), (42, .pointer (some ⟨w74.heap.size, 3, none⟩)), (41, .int .i64 (atI L11 (IntKind.i64.wrap (3 + x276)))), (40, .pointer (some ⟨g54, (IntKind.i64.wrap (3 + x276)).toNat, none⟩)), (39, .int .i64 (IntKind.i64.wrap (3 + x276))), (38, .int .i64 (x276)), (37, .slice (some ⟨g54, 0, none⟩) L11.length c22), (36, .int .i64 (x276)), (9, .int .i64 (x276)), (33, .int .i64 (x276)), (8, .pointer (some ⟨w74.heap.size, 0, none⟩)), (6, .slice (some ⟨g54, 0, none⟩) L11.length c22), (4, .pointer (some ⟨w.heap.size, 0, none⟩))]) (by kernel_rfl) ?_
                            intro w332 a333 hS334 hF335; clear hF330 hS281
                            refine wpList_nil ?_
                            have hF336 : Fr 51 a333 [(33, .int .i64 (x276)), (8, .pointer (some ⟨w74.heap.size, 0, none⟩)), (6, .slice (some ⟨g54, 0, none⟩) L11.length c22), (4, .pointer (some ⟨w.heap.size, 0, none⟩))] := hF335.keep [4, 6, 8, 33]
                            clear hF335
                            refine blockN ?_
                            refine thenN ?_
                            refine wp_region_lit ?_
                            refine ev_runs 2 hF336 (l' := [(33, .int .i64 (IntKind.i64.wrap (x276 + 1))), (44, .int .i64 (IntKind.i64.wrap (x276 + 1))), (8, .pointer (some ⟨w74.heap.size, 0, none⟩)), (6, .slice (some ⟨g54, 0, none⟩) L11.length c22), (4, .pointer (some ⟨w.heap.size, 0, none⟩))]) (w' := w332) (by kernel_rfl) ?_
                            intro a338 hF337; clear hF336
                            refine wpList_nil ?_
                            have hF339 : Fr 51 a338 [(33, .int .i64 (IntKind.i64.wrap (x276 + 1))), (8, .pointer (some ⟨w74.heap.size, 0, none⟩)), (6, .slice (some ⟨g54, 0, none⟩) L11.length c22), (4, .pointer (some ⟨w.heap.size, 0, none⟩))] := hF337.keep [4, 6, 8, 33]
                            clear hF337
                            exact thenN ⟨k277, Nat.lt_succ_self _, x270, x271, atI L11 (IntKind.i64.wrap (3 + x276)), x273, x274, x275, IntKind.i64.wrap (x276 + 1), hF339, hS334, hm329⟩
                          | false =>
                            rw [hc328] at hm327
                            have hm340 := ifF hm327; clear hm327
                            cases hc341 : (x276 == 3) with
                            | true =>
                              rw [hc341] at hm340
                              have hm342 := ifT hm340; clear hm340
                              refine ev_one (.pointer (some ⟨w74.heap.size, 6, none⟩)) w279 hF300 (by kernel_rfl) rfl (by kernel_rfl) (run_idxA (q := 3) rfl rfl rfl rfl (congrArg (Value.int .i64) (eq_of_beq hc341)) (by decide) (by decide) (by kernel_rfl) _) (l' := [(43, .pointer (some ⟨w74.heap.size, 6, none⟩)), (42, .pointer (some ⟨w74.heap.size, 3, none⟩)), (41, .int .i64 (atI L11 (IntKind.i64.wrap (3 + x276)))), (40, .pointer (some ⟨g54, (IntKind.i64.wrap (3 + x276)).toNat, none⟩)), (39, .int .i64 (IntKind.i64.wrap (3 + x276))), (38, .int .i64 (x276)), (37, .slice (some ⟨g54, 0, none⟩) L11.length c22), (36, .int .i64 (x276)), (9, .int .i64 (x276)), (33, .int .i64 (x276)), (8, .pointer (some ⟨w74.heap.size, 0, none⟩)), (6, .slice (some ⟨g54, 0, none⟩) L11.length c22), (4, .pointer (some ⟨w.heap.size, 0, none⟩))]) (by kernel_rfl) ?_
                              intro a344 hF343; clear hF300
                              refine ev_store (.int .i64 (atI L11 (IntKind.i64.wrap (3 + x276)))) #[.int .i64 (x63), .int .i64 (x71), .int .i64 (x253), .int .i64 (x270), .int .i64 (x271), .int .i64 (x272), .int .i64 (atI L11 (IntKind.i64.wrap (3 + x276))), .int .i64 (x274), .int .i64 (x275), .int .i64 (-1)] hF343 (by kernel_rfl) rfl rfl rfl rfl (by kernel_rfl) hS281 (by kernel_rfl) (by kernel_rfl) (by kernel_rfl) (l' := [(43, .pointer (some ⟨w74.heap.size, 6, none⟩)), (42, .pointer (some ⟨w74.heap.size, 3, none⟩)), (41, .int .i64 (atI L11 (IntKind.i64.wrap (3 + x276)))), (40, .pointer (some ⟨g54, (IntKind.i64.wrap (3 + x276)).toNat, none⟩)), (39, .int .i64 (IntKind.i64.wrap (3 + x276))), (38, .int .i64 (x276)), (37, .slice (some ⟨g54, 0, none⟩) L11.length c22), (36, .int .i64 (x276)), (9, .int .i64 (x276)), (33, .int .i64 (x276)), (8, .pointer (some ⟨w74.heap.size, 0, none⟩)), (6, .slice (some ⟨g54, 0, none⟩) L11.length c22), (4, .pointer (some ⟨w.heap.size, 0, none⟩))]) (by kernel_rfl) ?_
                              intro w345 a346 hS347 hF348; clear hF343 hS281
                              refine wpList_nil ?_
                              have hF349 : Fr 51 a346 [(33, .int .i64 (x276)), (8, .pointer (some ⟨w74.heap.size, 0, none⟩)), (6, .slice (some ⟨g54, 0, none⟩) L11.length c22), (4, .pointer (some ⟨w.heap.size, 0, none⟩))] := hF348.keep [4, 6, 8, 33]
                              clear hF348
                              refine blockN ?_
                              refine thenN ?_
                              refine wp_region_lit ?_
                              refine ev_runs 2 hF349 (l' := [(33, .int .i64 (IntKind.i64.wrap (x276 + 1))), (44, .int .i64 (IntKind.i64.wrap (x276 + 1))), (8, .pointer (some ⟨w74.heap.size, 0, none⟩)), (6, .slice (some ⟨g54, 0, none⟩) L11.length c22), (4, .pointer (some ⟨w.heap.size, 0, none⟩))]) (w' := w345) (by kernel_rfl) ?_
                              intro a351 hF350; clear hF349
                              refine wpList_nil ?_
                              have hF352 : Fr 51 a351 [(33, .int .i64 (IntKind.i64.wrap (x276 + 1))), (8, .pointer (some ⟨w74.heap.size, 0, none⟩)), (6, .slice (some ⟨g54, 0, none⟩) L11.length c22), (4, .pointer (some ⟨w.heap.size, 0, none⟩))] := hF350.keep [4, 6, 8, 33]
                              clear hF350
                              exact thenN ⟨k277, Nat.lt_succ_self _, x270, x271, x272, atI L11 (IntKind.i64.wrap (3 + x276)), x274, x275, IntKind.i64.wrap (x276 + 1), hF352, hS347, hm342⟩
                            | false =>
                              rw [hc341] at hm340
                              have hm353 := ifF hm340; clear hm340
                              cases hc354 : (x276 == 4) with
                              | true =>
                                rw [hc354] at hm353
                                have hm355 := ifT hm353; clear hm353
                                refine ev_one (.pointer (some ⟨w74.heap.size, 7, none⟩)) w279 hF300 (by kernel_rfl) rfl (by kernel_rfl) (run_idxA (q := 4) rfl rfl rfl rfl (congrArg (Value.int .i64) (eq_of_beq hc354)) (by decide) (by decide) (by kernel_rfl) _) (l' := [(43, .pointer (some ⟨w74.heap.size, 7, none⟩)), (42, .pointer (some ⟨w74.heap.size, 3, none⟩)), (41, .int .i64 (atI L11 (IntKind.i64.wrap (3 + x276)))), (40, .pointer (some ⟨g54, (IntKind.i64.wrap (3 + x276)).toNat, none⟩)), (39, .int .i64 (IntKind.i64.wrap (3 + x276))), (38, .int .i64 (x276)), (37, .slice (some ⟨g54, 0, none⟩) L11.length c22), (36, .int .i64 (x276)), (9, .int .i64 (x276)), (33, .int .i64 (x276)), (8, .pointer (some ⟨w74.heap.size, 0, none⟩)), (6, .slice (some ⟨g54, 0, none⟩) L11.length c22), (4, .pointer (some ⟨w.heap.size, 0, none⟩))]) (by kernel_rfl) ?_
                                intro a357 hF356; clear hF300
                                refine ev_store (.int .i64 (atI L11 (IntKind.i64.wrap (3 + x276)))) #[.int .i64 (x63), .int .i64 (x71), .int .i64 (x253), .int .i64 (x270), .int .i64 (x271), .int .i64 (x272), .int .i64 (x273), .int .i64 (atI L11 (IntKind.i64.wrap (3 + x276))), .int .i64 (x275), .int .i64 (-1)] hF356 (by kernel_rfl) rfl rfl rfl rfl (by kernel_rfl) hS281 (by kernel_rfl) (by kernel_rfl) (by kernel_rfl) (l' := [(43, .pointer (some ⟨w74.heap.size, 7, none⟩)), (42, .pointer (some ⟨w74.heap.size, 3, none⟩)), (41, .int .i64 (atI L11 (IntKind.i64.wrap (3 + x276)))), (40, .pointer (some ⟨g54, (IntKind.i64.wrap (3 + x276)).toNat, none⟩)), (39, .int .i64 (IntKind.i64.wrap (3 + x276))), (38, .int .i64 (x276)), (37, .slice (some ⟨g54, 0, none⟩) L11.length c22), (36, .int .i64 (x276)), (9, .int .i64 (x276)), (33, .int .i64 (x276)), (8, .pointer (some ⟨w74.heap.size, 0, none⟩)), (6, .slice (some ⟨g54, 0, none⟩) L11.length c22), (4, .pointer (some ⟨w.heap.size, 0, none⟩))]) (by kernel_rfl) ?_
                                intro w358 a359 hS360 hF361; clear hF356 hS281
                                refine wpList_nil ?_
                                have hF362 : Fr 51 a359 [(33, .int .i64 (x276)), (8, .pointer (some ⟨w74.heap.size, 0, none⟩)), (6, .slice (some ⟨g54, 0, none⟩) L11.length c22), (4, .pointer (some ⟨w.heap.size, 0, none⟩))] := hF361.keep [4, 6, 8, 33]
                                clear hF361
                                refine blockN ?_
                                refine thenN ?_
                                refine wp_region_lit ?_
                                refine ev_runs 2 hF362 (l' := [(33, .int .i64 (IntKind.i64.wrap (x276 + 1))), (44, .int .i64 (IntKind.i64.wrap (x276 + 1))), (8, .pointer (some ⟨w74.heap.size, 0, none⟩)), (6, .slice (some ⟨g54, 0, none⟩) L11.length c22), (4, .pointer (some ⟨w.heap.size, 0, none⟩))]) (w' := w358) (by kernel_rfl) ?_
                                intro a364 hF363; clear hF362
                                refine wpList_nil ?_
                                have hF365 : Fr 51 a364 [(33, .int .i64 (IntKind.i64.wrap (x276 + 1))), (8, .pointer (some ⟨w74.heap.size, 0, none⟩)), (6, .slice (some ⟨g54, 0, none⟩) L11.length c22), (4, .pointer (some ⟨w.heap.size, 0, none⟩))] := hF363.keep [4, 6, 8, 33]
                                clear hF363
                                exact thenN ⟨k277, Nat.lt_succ_self _, x270, x271, x272, x273, atI L11 (IntKind.i64.wrap (3 + x276)), x275, IntKind.i64.wrap (x276 + 1), hF365, hS360, hm355⟩
                              | false =>
                                rw [hc354] at hm353
                                have hm366 := ifF hm353; clear hm353
                                cases hc367 : (x276 == 5) with
                                | true =>
                                  rw [hc367] at hm366
                                  have hm368 := ifT hm366; clear hm366
                                  refine ev_one (.pointer (some ⟨w74.heap.size, 8, none⟩)) w279 hF300 (by kernel_rfl) rfl (by kernel_rfl) (run_idxA (q := 5) rfl rfl rfl rfl (congrArg (Value.int .i64) (eq_of_beq hc367)) (by decide) (by decide) (by kernel_rfl) _) (l' := [(43, .pointer (some ⟨w74.heap.size, 8, none⟩)), (42, .pointer (some ⟨w74.heap.size, 3, none⟩)), (41, .int .i64 (atI L11 (IntKind.i64.wrap (3 + x276)))), (40, .pointer (some ⟨g54, (IntKind.i64.wrap (3 + x276)).toNat, none⟩)), (39, .int .i64 (IntKind.i64.wrap (3 + x276))), (38, .int .i64 (x276)), (37, .slice (some ⟨g54, 0, none⟩) L11.length c22), (36, .int .i64 (x276)), (9, .int .i64 (x276)), (33, .int .i64 (x276)), (8, .pointer (some ⟨w74.heap.size, 0, none⟩)), (6, .slice (some ⟨g54, 0, none⟩) L11.length c22), (4, .pointer (some ⟨w.heap.size, 0, none⟩))]) (by kernel_rfl) ?_
                                  intro a370 hF369; clear hF300
                                  refine ev_store (.int .i64 (atI L11 (IntKind.i64.wrap (3 + x276)))) #[.int .i64 (x63), .int .i64 (x71), .int .i64 (x253), .int .i64 (x270), .int .i64 (x271), .int .i64 (x272), .int .i64 (x273), .int .i64 (x274), .int .i64 (atI L11 (IntKind.i64.wrap (3 + x276))), .int .i64 (-1)] hF369 (by kernel_rfl) rfl rfl rfl rfl (by kernel_rfl) hS281 (by kernel_rfl) (by kernel_rfl) (by kernel_rfl) (l' := [(43, .pointer (some ⟨w74.heap.size, 8, none⟩)), (42, .pointer (some ⟨w74.heap.size, 3, none⟩)), (41, .int .i64 (atI L11 (IntKind.i64.wrap (3 + x276)))), (40, .pointer (some ⟨g54, (IntKind.i64.wrap (3 + x276)).toNat, none⟩)), (39, .int .i64 (IntKind.i64.wrap (3 + x276))), (38, .int .i64 (x276)), (37, .slice (some ⟨g54, 0, none⟩) L11.length c22), (36, .int .i64 (x276)), (9, .int .i64 (x276)), (33, .int .i64 (x276)), (8, .pointer (some ⟨w74.heap.size, 0, none⟩)), (6, .slice (some ⟨g54, 0, none⟩) L11.length c22), (4, .pointer (some ⟨w.heap.size, 0, none⟩))]) (by kernel_rfl) ?_
                                  intro w371 a372 hS373 hF374; clear hF369 hS281
                                  refine wpList_nil ?_
                                  have hF375 : Fr 51 a372 [(33, .int .i64 (x276)), (8, .pointer (some ⟨w74.heap.size, 0, none⟩)), (6, .slice (some ⟨g54, 0, none⟩) L11.length c22), (4, .pointer (some ⟨w.heap.size, 0, none⟩))] := hF374.keep [4, 6, 8, 33]
                                  clear hF374
                                  refine blockN ?_
                                  refine thenN ?_
                                  refine wp_region_lit ?_
                                  refine ev_runs 2 hF375 (l' := [(33, .int .i64 (IntKind.i64.wrap (x276 + 1))), (44, .int .i64 (IntKind.i64.wrap (x276 + 1))), (8, .pointer (some ⟨w74.heap.size, 0, none⟩)), (6, .slice (some ⟨g54, 0, none⟩) L11.length c22), (4, .pointer (some ⟨w.heap.size, 0, none⟩))]) (w' := w371) (by kernel_rfl) ?_
                                  intro a377 hF376; clear hF375
                                  refine wpList_nil ?_
                                  have hF378 : Fr 51 a377 [(33, .int .i64 (IntKind.i64.wrap (x276 + 1))), (8, .pointer (some ⟨w74.heap.size, 0, none⟩)), (6, .slice (some ⟨g54, 0, none⟩) L11.length c22), (4, .pointer (some ⟨w.heap.size, 0, none⟩))] := hF376.keep [4, 6, 8, 33]
                                  clear hF376
                                  exact thenN ⟨k277, Nat.lt_succ_self _, x270, x271, x272, x273, x274, atI L11 (IntKind.i64.wrap (3 + x276)), IntKind.i64.wrap (x276 + 1), hF378, hS373, hm368⟩
                                | false =>
                                  rw [hc367] at hm366
                                  have hm379 := ifF hm366; clear hm366
                                  exact absurd hm379 (by simp)
                  | false =>
                    rw [hc286] at hF284
                    rw [hc286] at hm283
                    have hm380 := ifF hm283; clear hm283
                    refine ev_condF hF284 rfl rfl ?_
                    refine wp_exit ?_
                    refine thenE ?_
                    refine thenE ?_
                    refine blockE ?_
                    refine thenN ?_
                    refine wp_seq ?_
                    refine wp_region_lit ?_
                    refine ev_runs 1 hF284 (l' := [(45, .slice (some ⟨g54, 0, none⟩) L11.length c22), (34, .bool false), (33, .int .i64 (x276)), (8, .pointer (some ⟨w74.heap.size, 0, none⟩)), (6, .slice (some ⟨g54, 0, none⟩) L11.length c22), (4, .pointer (some ⟨w.heap.size, 0, none⟩))]) (w' := w279) (by kernel_rfl) ?_
                    intro a382 hF381; clear hF284
                    cases hc383 : (inR (9 : Int) L11.length) with
                    | false => rw [hc383] at hm380; cases hm380
                    | true =>
                      rw [hc383] at hm380
                      have hm384 := ifT hm380; clear hm380
                      refine ev_one (.pointer (some ⟨g54, (9 : Int).toNat, none⟩)) w279 hF381 (by kernel_rfl) rfl (by kernel_rfl) (run_idx rfl rfl rfl rfl rfl (inR_spec hc383).1 (inR_spec hc383).2 _) (l' := [(46, .pointer (some ⟨g54, (9 : Int).toNat, none⟩)), (45, .slice (some ⟨g54, 0, none⟩) L11.length c22), (34, .bool false), (33, .int .i64 (x276)), (8, .pointer (some ⟨w74.heap.size, 0, none⟩)), (6, .slice (some ⟨g54, 0, none⟩) L11.length c22), (4, .pointer (some ⟨w.heap.size, 0, none⟩))]) (by kernel_rfl) ?_
                      intro a386 hF385; clear hF381
                      refine ev_one (.int .i64 (atI L11 (9 : Int))) w279 hF385 (by kernel_rfl) rfl (by kernel_rfl) (run_load1 rfl rfl rfl (hS281.atI 1 rfl hc383)) (l' := [(47, .int .i64 (atI L11 (9 : Int))), (46, .pointer (some ⟨g54, (9 : Int).toNat, none⟩)), (45, .slice (some ⟨g54, 0, none⟩) L11.length c22), (34, .bool false), (33, .int .i64 (x276)), (8, .pointer (some ⟨w74.heap.size, 0, none⟩)), (6, .slice (some ⟨g54, 0, none⟩) L11.length c22), (4, .pointer (some ⟨w.heap.size, 0, none⟩))]) (by kernel_rfl) ?_
                      intro a388 hF387; clear hF385
                      refine ev_call 53 #[.int .i64 (atI L11 (9 : Int))] hF387 rfl rfl (by kernel_rfl) rfl (by kernel_rfl) (fun w => by kernel_rfl) ?_
                      obtain ⟨x389, hx390, hm391⟩ := bind1E hm384; clear hm384
                      refine (p_vAt hS281 hx390).mono ?_
                      rintro _ w392 ⟨rfl, hS394⟩ a393 hF395; clear hF387 hS281
                      have hF396 : Fr 51 a393 [(48, .int .i64 (x389)), (47, .int .i64 (atI L11 (9 : Int))), (46, .pointer (some ⟨g54, (9 : Int).toNat, none⟩)), (45, .slice (some ⟨g54, 0, none⟩) L11.length c22), (34, .bool false), (33, .int .i64 (x276)), (8, .pointer (some ⟨w74.heap.size, 0, none⟩)), (6, .slice (some ⟨g54, 0, none⟩) L11.length c22), (4, .pointer (some ⟨w.heap.size, 0, none⟩))] := hF395
                      clear hF395
                      refine ev_runs 1 hF396 (l' := [(49, .pointer (some ⟨w74.heap.size, 9, none⟩)), (48, .int .i64 (x389)), (47, .int .i64 (atI L11 (9 : Int))), (46, .pointer (some ⟨g54, (9 : Int).toNat, none⟩)), (45, .slice (some ⟨g54, 0, none⟩) L11.length c22), (34, .bool false), (33, .int .i64 (x276)), (8, .pointer (some ⟨w74.heap.size, 0, none⟩)), (6, .slice (some ⟨g54, 0, none⟩) L11.length c22), (4, .pointer (some ⟨w.heap.size, 0, none⟩))]) (w' := w392) (by kernel_rfl) ?_
                      intro a398 hF397; clear hF396
                      refine ev_store (.int .i64 (x389)) #[.int .i64 (x63), .int .i64 (x71), .int .i64 (x253), .int .i64 (x270), .int .i64 (x271), .int .i64 (x272), .int .i64 (x273), .int .i64 (x274), .int .i64 (x275), .int .i64 (x389)] hF397 (by kernel_rfl) rfl rfl rfl rfl (by kernel_rfl) hS394 (by kernel_rfl) (by kernel_rfl) (by kernel_rfl) (l' := [(49, .pointer (some ⟨w74.heap.size, 9, none⟩)), (48, .int .i64 (x389)), (47, .int .i64 (atI L11 (9 : Int))), (46, .pointer (some ⟨g54, (9 : Int).toNat, none⟩)), (45, .slice (some ⟨g54, 0, none⟩) L11.length c22), (34, .bool false), (33, .int .i64 (x276)), (8, .pointer (some ⟨w74.heap.size, 0, none⟩)), (6, .slice (some ⟨g54, 0, none⟩) L11.length c22), (4, .pointer (some ⟨w.heap.size, 0, none⟩))]) (by kernel_rfl) ?_
                      intro w399 a400 hS401 hF402; clear hF397 hS394
                      refine wpList_nil ?_
                      have hF403 : Fr 51 a400 [(8, .pointer (some ⟨w74.heap.size, 0, none⟩)), (4, .pointer (some ⟨w.heap.size, 0, none⟩))] := hF402.keep [4, 8]
                      clear hF402
                      have hS404 : St w0 F0 (BlkP (w74.heap.size) 43 #[.int .i64 (x63), .int .i64 (x71), .int .i64 (x253), .int .i64 (x270), .int .i64 (x271), .int .i64 (x272), .int .i64 (x273), .int .i64 (x274), .int .i64 (x275), .int .i64 (x389)] :: HeapP b0 ab0 s0 :: BlkP (w.heap.size) 43 #[.int .i64 0, .int .i64 0, .int .i64 0, .int .i64 0, .int .i64 0, .int .i64 0, .int .i64 0, .int .i64 0, .int .i64 0, .int .i64 0] :: ps) w399 := St.ordP [BlkP (w74.heap.size) 43 #[.int .i64 (x63), .int .i64 (x71), .int .i64 (x253), .int .i64 (x270), .int .i64 (x271), .int .i64 (x272), .int .i64 (x273), .int .i64 (x274), .int .i64 (x275), .int .i64 (x389)], RowP (.slice (some ⟨g54, 0, none⟩) L11.length c22) L11, HeapP b0 ab0 s0, BlkP (w.heap.size) 43 #[.int .i64 0, .int .i64 0, .int .i64 0, .int .i64 0, .int .i64 0, .int .i64 0, .int .i64 0, .int .i64 0, .int .i64 0, .int .i64 0]] ps hS401 [0, 2, 3] [1] (by kernel_rfl)
                      clear hS401
                      refine thenN ?_
                      refine wp_seq ?_
                      refine wp_region_lit ?_
                      refine ev_one (.agg #[.int .i64 (x63), .int .i64 (x71), .int .i64 (x253), .int .i64 (x270), .int .i64 (x271), .int .i64 (x272), .int .i64 (x273), .int .i64 (x274), .int .i64 (x275), .int .i64 (x389)]) w399 hF403 (by kernel_rfl) rfl (by kernel_rfl) (run_loadV rfl rfl (run_loadA (cs := [.int .i64 (x63), .int .i64 (x71), .int .i64 (x253), .int .i64 (x270), .int .i64 (x271), .int .i64 (x272), .int .i64 (x273), .int .i64 (x274), .int .i64 (x275), .int .i64 (x389)]) rfl rfl (by kernel_rfl) (blk_cells hS404 0 rfl rfl))) (l' := [(50, .agg #[.int .i64 (x63), .int .i64 (x71), .int .i64 (x253), .int .i64 (x270), .int .i64 (x271), .int .i64 (x272), .int .i64 (x273), .int .i64 (x274), .int .i64 (x275), .int .i64 (x389)]), (8, .pointer (some ⟨w74.heap.size, 0, none⟩)), (4, .pointer (some ⟨w.heap.size, 0, none⟩))]) (by kernel_rfl) ?_
                      intro a406 hF405; clear hF403
                      have hS407 : St w0 F0 (BlkP (w.heap.size) 43 #[.int .i64 0, .int .i64 0, .int .i64 0, .int .i64 0, .int .i64 0, .int .i64 0, .int .i64 0, .int .i64 0, .int .i64 0, .int .i64 0] :: BlkP (w74.heap.size) 43 #[.int .i64 (x63), .int .i64 (x71), .int .i64 (x253), .int .i64 (x270), .int .i64 (x271), .int .i64 (x272), .int .i64 (x273), .int .i64 (x274), .int .i64 (x275), .int .i64 (x389)] :: HeapP b0 ab0 s0 :: ps) w399 := St.ordP [BlkP (w74.heap.size) 43 #[.int .i64 (x63), .int .i64 (x71), .int .i64 (x253), .int .i64 (x270), .int .i64 (x271), .int .i64 (x272), .int .i64 (x273), .int .i64 (x274), .int .i64 (x275), .int .i64 (x389)], HeapP b0 ab0 s0, BlkP (w.heap.size) 43 #[.int .i64 0, .int .i64 0, .int .i64 0, .int .i64 0, .int .i64 0, .int .i64 0, .int .i64 0, .int .i64 0, .int .i64 0, .int .i64 0]] ps hS404 [2, 0, 1] [] (by kernel_rfl)
                      clear hS404
                      refine ev_store (.agg #[.int .i64 (x63), .int .i64 (x71), .int .i64 (x253), .int .i64 (x270), .int .i64 (x271), .int .i64 (x272), .int .i64 (x273), .int .i64 (x274), .int .i64 (x275), .int .i64 (x389)]) #[.int .i64 (x63), .int .i64 (x71), .int .i64 (x253), .int .i64 (x270), .int .i64 (x271), .int .i64 (x272), .int .i64 (x273), .int .i64 (x274), .int .i64 (x275), .int .i64 (x389)] hF405 (by kernel_rfl) rfl rfl rfl rfl (by kernel_rfl) hS407 (by kernel_rfl) (by kernel_rfl) (by kernel_rfl) (l' := [(50, .agg #[.int .i64 (x63), .int .i64 (x71), .int .i64 (x253), .int .i64 (x270), .int .i64 (x271), .int .i64 (x272), .int .i64 (x273), .int .i64 (x274), .int .i64 (x275), .int .i64 (x389)]), (8, .pointer (some ⟨w74.heap.size, 0, none⟩)), (4, .pointer (some ⟨w.heap.size, 0, none⟩))]) (by kernel_rfl) ?_
                      intro w408 a409 hS410 hF411; clear hF405 hS407
                      refine ev_runs 1 hF411 (l' := [(5, .int .i64 0), (50, .agg #[.int .i64 (x63), .int .i64 (x71), .int .i64 (x253), .int .i64 (x270), .int .i64 (x271), .int .i64 (x272), .int .i64 (x273), .int .i64 (x274), .int .i64 (x275), .int .i64 (x389)]), (8, .pointer (some ⟨w74.heap.size, 0, none⟩)), (4, .pointer (some ⟨w.heap.size, 0, none⟩))]) (w' := w408) (by kernel_rfl) ?_
                      intro a413 hF412; clear hF411
                      refine wpList_nil ?_
                      have hF414 : Fr 51 a413 [(5, .int .i64 0), (4, .pointer (some ⟨w.heap.size, 0, none⟩))] := hF412.keep [4, 5]
                      clear hF412
                      have hS415 : St w0 F0 (BlkP (w.heap.size) 43 #[.int .i64 (x63), .int .i64 (x71), .int .i64 (x253), .int .i64 (x270), .int .i64 (x271), .int .i64 (x272), .int .i64 (x273), .int .i64 (x274), .int .i64 (x275), .int .i64 (x389)] :: HeapP b0 ab0 s0 :: ps) w408 := St.ordP [BlkP (w.heap.size) 43 #[.int .i64 (x63), .int .i64 (x71), .int .i64 (x253), .int .i64 (x270), .int .i64 (x271), .int .i64 (x272), .int .i64 (x273), .int .i64 (x274), .int .i64 (x275), .int .i64 (x389)], BlkP (w74.heap.size) 43 #[.int .i64 (x63), .int .i64 (x71), .int .i64 (x253), .int .i64 (x270), .int .i64 (x271), .int .i64 (x272), .int .i64 (x273), .int .i64 (x274), .int .i64 (x275), .int .i64 (x389)], HeapP b0 ab0 s0] ps hS410 [0, 2] [1] (by kernel_rfl)
                      clear hS410
                      refine thenN ?_
                      refine wp_ret ?_
                      have hS416 : St w0 F0 (HeapP b0 ab0 s0 :: BlkP (w.heap.size) 43 #[.int .i64 (x63), .int .i64 (x71), .int .i64 (x253), .int .i64 (x270), .int .i64 (x271), .int .i64 (x272), .int .i64 (x273), .int .i64 (x274), .int .i64 (x275), .int .i64 (x389)] :: ps) w408 := St.ordP [BlkP (w.heap.size) 43 #[.int .i64 (x63), .int .i64 (x71), .int .i64 (x253), .int .i64 (x270), .int .i64 (x271), .int .i64 (x272), .int .i64 (x273), .int .i64 (x274), .int .i64 (x275), .int .i64 (x389)], HeapP b0 ab0 s0] ps hS415 [1, 0] [] (by kernel_rfl)
                      clear hS415
                      simp only [Option.some.injEq, Prod.mk.injEq] at hm391
                      obtain ⟨rfl, rfl, rfl⟩ := hm391
                      refine ev_retC hF414 _ [.agg #[.int .i64 (x63), .int .i64 (x71), .int .i64 (x253), .int .i64 (x270), .int .i64 (x271), .int .i64 (x272), .int .i64 (x273), .int .i64 (x274), .int .i64 (x275), .int .i64 (x389)], .int .i64 0] (.tuple #[.agg #[.int .i64 (x63), .int .i64 (x71), .int .i64 (x253), .int .i64 (x270), .int .i64 (x271), .int .i64 (x272), .int .i64 (x273), .int .i64 (x274), .int .i64 (x275), .int .i64 (x389)], .int .i64 0]) rfl ⟨⟨rfl, _, rfl, (run_loadA (cs := [.int .i64 (x63), .int .i64 (x71), .int .i64 (x253), .int .i64 (x270), .int .i64 (x271), .int .i64 (x272), .int .i64 (x273), .int .i64 (x274), .int .i64 (x275), .int .i64 (x389)]) rfl rfl (by kernel_rfl) (blk_cells hS416 1 rfl rfl))⟩, ⟨rfl, rfl⟩, trivial⟩ rfl ?_
                      have hS420 : St w0 F0 (HeapP b0 ab0 s0 :: ps) w408 := St.ordP [HeapP b0 ab0 s0, BlkP (w.heap.size) 43 #[.int .i64 (x63), .int .i64 (x71), .int .i64 (x253), .int .i64 (x270), .int .i64 (x271), .int .i64 (x272), .int .i64 (x273), .int .i64 (x274), .int .i64 (x275), .int .i64 (x389)]] ps hS416 [0] [1] (by kernel_rfl)
                      clear hS416
                      exact ⟨rfl, hS420⟩
            · skip
              have hS421 : St w0 F0 (BlkP (w66.heap.size) 43 #[.int .i64 0, .int .i64 0, .int .i64 0, .int .i64 0, .int .i64 0, .int .i64 0, .int .i64 0, .int .i64 0, .int .i64 0, .int .i64 0] :: RowP (.slice (some ⟨g54, 0, none⟩) L11.length c22) L11 :: HeapP b0 ab0 s0 :: BlkP (w.heap.size) 43 #[.int .i64 0, .int .i64 0, .int .i64 0, .int .i64 0, .int .i64 0, .int .i64 0, .int .i64 0, .int .i64 0, .int .i64 0, .int .i64 0] :: ps) (w66.alloc (.cells #[.int .i64 0, .int .i64 0, .int .i64 0, .int .i64 0, .int .i64 0, .int .i64 0, .int .i64 0, .int .i64 0, .int .i64 0, .int .i64 0] 43)) := St.new hS68 #[.int .i64 0, .int .i64 0, .int .i64 0, .int .i64 0, .int .i64 0, .int .i64 0, .int .i64 0, .int .i64 0, .int .i64 0, .int .i64 0] 43
              clear hS68
              refine op_step 13 #[true, true, true, true, true, true, true, false, true, true, true, false, false, true, false] (.pointer (some ⟨w66.heap.size, 0, none⟩)) (w66.alloc (.cells #[.int .i64 0, .int .i64 0, .int .i64 0, .int .i64 0, .int .i64 0, .int .i64 0, .int .i64 0, .int .i64 0, .int .i64 0, .int .i64 0] 43)) hF70 rfl (by kernel_rfl) rfl (by kernel_rfl) (by kernel_rfl) (l' := [(8, .pointer (some ⟨w66.heap.size, 0, none⟩)), (23, .int .i64 (x63)), (30, .int .i64 (atI L11 (2 : Int))), (26, .int .i64 (atI L11 (1 : Int))), (22, .int .i64 (atI L11 (0 : Int))), (6, .slice (some ⟨g54, 0, none⟩) L11.length c22), (4, .pointer (some ⟨w.heap.size, 0, none⟩))]) (by kernel_rfl) ⟨_, St.ordP [BlkP (w66.heap.size) 43 #[.int .i64 0, .int .i64 0, .int .i64 0, .int .i64 0, .int .i64 0, .int .i64 0, .int .i64 0, .int .i64 0, .int .i64 0, .int .i64 0], RowP (.slice (some ⟨g54, 0, none⟩) L11.length c22) L11, HeapP b0 ab0 s0, BlkP (w.heap.size) 43 #[.int .i64 0, .int .i64 0, .int .i64 0, .int .i64 0, .int .i64 0, .int .i64 0, .int .i64 0, .int .i64 0, .int .i64 0, .int .i64 0]] ps hS421 [1, 0, 2, 3] [] (by kernel_rfl)⟩ (by kernel_rfl) ?_
              intro a423 hF422; clear hF70
              refine any_call 7 #[true, true, true, true, true, true, true, true, true, true, true, false, false, true, false] 52 #[.int .i64 (atI L11 (1 : Int))] hF422 rfl (by kernel_rfl) rfl rfl (by kernel_rfl) rfl (by kernel_rfl) (fun w => by kernel_rfl) (by kernel_rfl) ?_
              obtain ⟨x424, hx425, hm426⟩ := bind1E hm65; clear hm65
              refine (p_vNum hS421 hx425).mono ?_
              rintro _ w427 ⟨rfl, hS429⟩; clear hS421
              refine ⟨⟨_, St.ordP [BlkP (w66.heap.size) 43 #[.int .i64 0, .int .i64 0, .int .i64 0, .int .i64 0, .int .i64 0, .int .i64 0, .int .i64 0, .int .i64 0, .int .i64 0, .int .i64 0], RowP (.slice (some ⟨g54, 0, none⟩) L11.length c22) L11, HeapP b0 ab0 s0, BlkP (w.heap.size) 43 #[.int .i64 0, .int .i64 0, .int .i64 0, .int .i64 0, .int .i64 0, .int .i64 0, .int .i64 0, .int .i64 0, .int .i64 0, .int .i64 0]] ps hS429 [1, 0, 2, 3] [] (by kernel_rfl)⟩, ?_⟩
              intro a428 hF430; clear hF422
              have hF431 : Fr 51 a428 [(27, .int .i64 (x424)), (8, .pointer (some ⟨w66.heap.size, 0, none⟩)), (23, .int .i64 (x63)), (30, .int .i64 (atI L11 (2 : Int))), (26, .int .i64 (atI L11 (1 : Int))), (22, .int .i64 (atI L11 (0 : Int))), (6, .slice (some ⟨g54, 0, none⟩) L11.length c22), (4, .pointer (some ⟨w.heap.size, 0, none⟩))] := hF430
              clear hF430
              refine any_call 11 #[true, true, true, true, true, true, true, true, true, true, true, true, false, true, false] 52 #[.int .i64 (atI L11 (2 : Int))] hF431 rfl (by kernel_rfl) rfl rfl (by kernel_rfl) rfl (by kernel_rfl) (fun w => by kernel_rfl) (by kernel_rfl) ?_
              obtain ⟨x432, hx433, hm434⟩ := bind1E hm426; clear hm426
              refine (p_vNum hS429 hx433).mono ?_
              rintro _ w435 ⟨rfl, hS437⟩; clear hS429
              refine ⟨⟨_, St.ordP [BlkP (w66.heap.size) 43 #[.int .i64 0, .int .i64 0, .int .i64 0, .int .i64 0, .int .i64 0, .int .i64 0, .int .i64 0, .int .i64 0, .int .i64 0, .int .i64 0], RowP (.slice (some ⟨g54, 0, none⟩) L11.length c22) L11, HeapP b0 ab0 s0, BlkP (w.heap.size) 43 #[.int .i64 0, .int .i64 0, .int .i64 0, .int .i64 0, .int .i64 0, .int .i64 0, .int .i64 0, .int .i64 0, .int .i64 0, .int .i64 0]] ps hS437 [1, 0, 2, 3] [] (by kernel_rfl)⟩, ?_⟩
              intro a436 hF438; clear hF431
              have hF439 : Fr 51 a436 [(31, .int .i64 (x432)), (27, .int .i64 (x424)), (8, .pointer (some ⟨w66.heap.size, 0, none⟩)), (23, .int .i64 (x63)), (30, .int .i64 (atI L11 (2 : Int))), (26, .int .i64 (atI L11 (1 : Int))), (22, .int .i64 (atI L11 (0 : Int))), (6, .slice (some ⟨g54, 0, none⟩) L11.length c22), (4, .pointer (some ⟨w.heap.size, 0, none⟩))] := hF438
              clear hF438
              refine any_many 1 [(12, some (.agg #[.int .i64 (x63), .int .i64 (x424), .int .i64 (x432), .int .i64 0, .int .i64 0, .int .i64 0, .int .i64 0, .int .i64 0, .int .i64 0, .int .i64 (-1)]))] [4, 6, 8, 32] #[true, true, true, true, true, true, true, true, true, true, true, true, true, true, false] (by rfl) hF439 (by kernel_rfl) (by kernel_rfl) (by exact (And.intro (fun wS hw => by kernel_rfl) trivial)) (fun _ _ _ _ _ h => h) ⟨_, St.ordP [BlkP (w66.heap.size) 43 #[.int .i64 0, .int .i64 0, .int .i64 0, .int .i64 0, .int .i64 0, .int .i64 0, .int .i64 0, .int .i64 0, .int .i64 0, .int .i64 0], RowP (.slice (some ⟨g54, 0, none⟩) L11.length c22) L11, HeapP b0 ab0 s0, BlkP (w.heap.size) 43 #[.int .i64 0, .int .i64 0, .int .i64 0, .int .i64 0, .int .i64 0, .int .i64 0, .int .i64 0, .int .i64 0, .int .i64 0, .int .i64 0]] ps hS437 [1, 0, 2, 3] [] (by kernel_rfl)⟩ (l' := [(32, .agg #[.int .i64 (x63), .int .i64 (x424), .int .i64 (x432), .int .i64 0, .int .i64 0, .int .i64 0, .int .i64 0, .int .i64 0, .int .i64 0, .int .i64 (-1)]), (8, .pointer (some ⟨w66.heap.size, 0, none⟩)), (6, .slice (some ⟨g54, 0, none⟩) L11.length c22), (4, .pointer (some ⟨w.heap.size, 0, none⟩))]) (by kernel_rfl) ?_
              intro a441 hF440; clear hF439
              refine any_one 14 (by kernel_rfl) ?_
              refine op_store 14 #[true, true, true, true, true, true, true, true, true, true, true, true, true, true, true] (.agg #[.int .i64 (x63), .int .i64 (x424), .int .i64 (x432), .int .i64 0, .int .i64 0, .int .i64 0, .int .i64 0, .int .i64 0, .int .i64 0, .int .i64 (-1)]) #[.int .i64 (x63), .int .i64 (x424), .int .i64 (x432), .int .i64 0, .int .i64 0, .int .i64 0, .int .i64 0, .int .i64 0, .int .i64 0, .int .i64 (-1)] hF440 rfl (by kernel_rfl) rfl rfl rfl rfl (by kernel_rfl) hS437 (by kernel_rfl) (by kernel_rfl) (by kernel_rfl) (l' := [(32, .agg #[.int .i64 (x63), .int .i64 (x424), .int .i64 (x432), .int .i64 0, .int .i64 0, .int .i64 0, .int .i64 0, .int .i64 0, .int .i64 0, .int .i64 (-1)]), (8, .pointer (some ⟨w66.heap.size, 0, none⟩)), (6, .slice (some ⟨g54, 0, none⟩) L11.length c22), (4, .pointer (some ⟨w.heap.size, 0, none⟩))]) (by kernel_rfl) (by kernel_rfl) ?_
              intro w442 a443 hS444 hF445; clear hF440 hS437
              refine ⟨⟨_, St.ordP [BlkP (w66.heap.size) 43 #[.int .i64 (x63), .int .i64 (x424), .int .i64 (x432), .int .i64 0, .int .i64 0, .int .i64 0, .int .i64 0, .int .i64 0, .int .i64 0, .int .i64 (-1)], RowP (.slice (some ⟨g54, 0, none⟩) L11.length c22) L11, HeapP b0 ab0 s0, BlkP (w.heap.size) 43 #[.int .i64 0, .int .i64 0, .int .i64 0, .int .i64 0, .int .i64 0, .int .i64 0, .int .i64 0, .int .i64 0, .int .i64 0, .int .i64 0]] ps hS444 [1, 0, 2, 3] [] (by kernel_rfl)⟩, ?_⟩
              refine any_done (by kernel_rfl) ?_
              have hF446 : Fr 51 a443 [(8, .pointer (some ⟨w66.heap.size, 0, none⟩)), (6, .slice (some ⟨g54, 0, none⟩) L11.length c22), (4, .pointer (some ⟨w.heap.size, 0, none⟩))] := hF445.keep [4, 6, 8]
              clear hF445
              refine thenN ?_
              refine wp_seq ?_
              refine wp_seq ?_
              refine wp_region_lit ?_
              refine ev_runs 1 hF446 (l' := [(33, .int .i64 0), (8, .pointer (some ⟨w66.heap.size, 0, none⟩)), (6, .slice (some ⟨g54, 0, none⟩) L11.length c22), (4, .pointer (some ⟨w.heap.size, 0, none⟩))]) (w' := w442) (by kernel_rfl) ?_
              intro a448 hF447; clear hF446
              refine wpList_nil ?_
              refine thenN ?_
              refine wp_block ?_
              refine wp_loop_ghost (fun kI aI wI => ∃ (x449 : Int) (x450 : Int) (x451 : Int) (x452 : Int) (x453 : Int) (x454 : Int) (x455 : Int), Fr 51 aI [(33, .int .i64 (x455)), (8, .pointer (some ⟨w66.heap.size, 0, none⟩)), (6, .slice (some ⟨g54, 0, none⟩) L11.length c22), (4, .pointer (some ⟨w.heap.size, 0, none⟩))] ∧ St w0 F0 (BlkP (w66.heap.size) 43 #[.int .i64 (x63), .int .i64 (x424), .int .i64 (x432), .int .i64 (x449), .int .i64 (x450), .int .i64 (x451), .int .i64 (x452), .int .i64 (x453), .int .i64 (x454), .int .i64 (-1)] :: RowP (.slice (some ⟨g54, 0, none⟩) L11.length c22) L11 :: HeapP b0 ab0 s0 :: BlkP (w.heap.size) 43 #[.int .i64 0, .int .i64 0, .int .i64 0, .int .i64 0, .int .i64 0, .int .i64 0, .int .i64 0, .int .i64 0, .int .i64 0, .int .i64 0] :: ps) wI ∧ view_Gor.l1 s0 L11 x63 x424 x432 kI x449 x450 x451 x452 x453 x454 x455 = some (r0, r1, t0)) k ⟨0, 0, 0, 0, 0, 0, 0, hF447, hS444, hm434⟩ ?_
              rintro k456 a457 w458 ⟨x449, x450, x451, x452, x453, x454, x455, hF459, hS460, hm461⟩
              clear hF447 hS444 hm434
              cases k456 with
              | zero => cases hm461
              | succ k456 =>
                have hm462 : view_Gor.l1b s0 L11 x63 x424 x432 (view_Gor.l1 s0 L11 x63 x424 x432 k456) x449 x450 x451 x452 x453 x454 x455 = some (r0, r1, t0) := hm461
                clear hm461
                unfold view_Gor.l1b at hm462
                refine wp_seq ?_
                refine wp_region_lit ?_
                refine ev_runs 1 hF459 (l' := [(34, .bool (decide (x455 < 6))), (33, .int .i64 (x455)), (8, .pointer (some ⟨w66.heap.size, 0, none⟩)), (6, .slice (some ⟨g54, 0, none⟩) L11.length c22), (4, .pointer (some ⟨w.heap.size, 0, none⟩))]) (w' := w458) (by kernel_rfl) ?_
                intro a464 hF463; clear hF459
                refine wpList_nil ?_
                refine thenN ?_
                refine wp_seq ?_
                cases hc465 : (decide (x455 < 6)) with
                | true =>
                  rw [hc465] at hF463
                  rw [hc465] at hm462
                  have hm466 := ifT hm462; clear hm462
                  refine ev_condT hF463 rfl rfl ?_
                  refine wp_skip ?_
                  have hF467 : Fr 51 a464 [(33, .int .i64 (x455)), (8, .pointer (some ⟨w66.heap.size, 0, none⟩)), (6, .slice (some ⟨g54, 0, none⟩) L11.length c22), (4, .pointer (some ⟨w.heap.size, 0, none⟩))] := hF463.keep [4, 6, 8, 33]
                  clear hF463
                  refine thenN ?_
                  refine wp_seq ?_
                  refine wp_block ?_
                  refine wp_seq ?_
                  refine wp_region_lit ?_
                  refine ev_runs 2 hF467 (l' := [(9, .int .i64 (x455)), (35, .int .i64 (x455)), (33, .int .i64 (x455)), (8, .pointer (some ⟨w66.heap.size, 0, none⟩)), (6, .slice (some ⟨g54, 0, none⟩) L11.length c22), (4, .pointer (some ⟨w.heap.size, 0, none⟩))]) (w' := w458) (by kernel_rfl) ?_
                  intro a469 hF468; clear hF467
                  refine wpList_nil ?_
                  have hF470 : Fr 51 a469 [(9, .int .i64 (x455)), (33, .int .i64 (x455)), (8, .pointer (some ⟨w66.heap.size, 0, none⟩)), (6, .slice (some ⟨g54, 0, none⟩) L11.length c22), (4, .pointer (some ⟨w.heap.size, 0, none⟩))] := hF468.keep [4, 6, 8, 9, 33]
                  clear hF468
                  refine thenN ?_
                  refine wp_region_lit ?_
                  refine ev_runs 4 hF470 (l' := [(39, .int .i64 (IntKind.i64.wrap (3 + x455))), (38, .int .i64 (x455)), (37, .slice (some ⟨g54, 0, none⟩) L11.length c22), (36, .int .i64 (x455)), (9, .int .i64 (x455)), (33, .int .i64 (x455)), (8, .pointer (some ⟨w66.heap.size, 0, none⟩)), (6, .slice (some ⟨g54, 0, none⟩) L11.length c22), (4, .pointer (some ⟨w.heap.size, 0, none⟩))]) (w' := w458) (by kernel_rfl) ?_
                  intro a472 hF471; clear hF470
                  cases hc473 : (inR (IntKind.i64.wrap (3 + x455)) L11.length) with
                  | false => rw [hc473] at hm466; cases hm466
                  | true =>
                    rw [hc473] at hm466
                    have hm474 := ifT hm466; clear hm466
                    refine ev_one (.pointer (some ⟨g54, (IntKind.i64.wrap (3 + x455)).toNat, none⟩)) w458 hF471 (by kernel_rfl) rfl (by kernel_rfl) (run_idx rfl rfl rfl rfl rfl (inR_spec hc473).1 (inR_spec hc473).2 _) (l' := [(40, .pointer (some ⟨g54, (IntKind.i64.wrap (3 + x455)).toNat, none⟩)), (39, .int .i64 (IntKind.i64.wrap (3 + x455))), (38, .int .i64 (x455)), (37, .slice (some ⟨g54, 0, none⟩) L11.length c22), (36, .int .i64 (x455)), (9, .int .i64 (x455)), (33, .int .i64 (x455)), (8, .pointer (some ⟨w66.heap.size, 0, none⟩)), (6, .slice (some ⟨g54, 0, none⟩) L11.length c22), (4, .pointer (some ⟨w.heap.size, 0, none⟩))]) (by kernel_rfl) ?_
                    intro a476 hF475; clear hF471
                    refine ev_one (.int .i64 (atI L11 (IntKind.i64.wrap (3 + x455)))) w458 hF475 (by kernel_rfl) rfl (by kernel_rfl) (run_load1 rfl rfl rfl (hS460.atI 1 rfl hc473)) (l' := [(41, .int .i64 (atI L11 (IntKind.i64.wrap (3 + x455)))), (40, .pointer (some ⟨g54, (IntKind.i64.wrap (3 + x455)).toNat, none⟩)), (39, .int .i64 (IntKind.i64.wrap (3 + x455))), (38, .int .i64 (x455)), (37, .slice (some ⟨g54, 0, none⟩) L11.length c22), (36, .int .i64 (x455)), (9, .int .i64 (x455)), (33, .int .i64 (x455)), (8, .pointer (some ⟨w66.heap.size, 0, none⟩)), (6, .slice (some ⟨g54, 0, none⟩) L11.length c22), (4, .pointer (some ⟨w.heap.size, 0, none⟩))]) (by kernel_rfl) ?_
                    intro a478 hF477; clear hF475
                    refine ev_runs 1 hF477 (l' := [(42, .pointer (some ⟨w66.heap.size, 3, none⟩)), (41, .int .i64 (atI L11 (IntKind.i64.wrap (3 + x455)))), (40, .pointer (some ⟨g54, (IntKind.i64.wrap (3 + x455)).toNat, none⟩)), (39, .int .i64 (IntKind.i64.wrap (3 + x455))), (38, .int .i64 (x455)), (37, .slice (some ⟨g54, 0, none⟩) L11.length c22), (36, .int .i64 (x455)), (9, .int .i64 (x455)), (33, .int .i64 (x455)), (8, .pointer (some ⟨w66.heap.size, 0, none⟩)), (6, .slice (some ⟨g54, 0, none⟩) L11.length c22), (4, .pointer (some ⟨w.heap.size, 0, none⟩))]) (w' := w458) (by kernel_rfl) ?_
                    intro a480 hF479; clear hF477
                    cases hc481 : (x455 == 0) with
                    | true =>
                      rw [hc481] at hm474
                      have hm482 := ifT hm474; clear hm474
                      refine ev_one (.pointer (some ⟨w66.heap.size, 3, none⟩)) w458 hF479 (by kernel_rfl) rfl (by kernel_rfl) (run_idxA (q := 0) rfl rfl rfl rfl (congrArg (Value.int .i64) (eq_of_beq hc481)) (by decide) (by decide) (by kernel_rfl) _) (l' := [(43, .pointer (some ⟨w66.heap.size, 3, none⟩)), (42, .pointer (some ⟨w66.heap.size, 3, none⟩)), (41, .int .i64 (atI L11 (IntKind.i64.wrap (3 + x455)))), (40, .pointer (some ⟨g54, (IntKind.i64.wrap (3 + x455)).toNat, none⟩)), (39, .int .i64 (IntKind.i64.wrap (3 + x455))), (38, .int .i64 (x455)), (37, .slice (some ⟨g54, 0, none⟩) L11.length c22), (36, .int .i64 (x455)), (9, .int .i64 (x455)), (33, .int .i64 (x455)), (8, .pointer (some ⟨w66.heap.size, 0, none⟩)), (6, .slice (some ⟨g54, 0, none⟩) L11.length c22), (4, .pointer (some ⟨w.heap.size, 0, none⟩))]) (by kernel_rfl) ?_
                      intro a484 hF483; clear hF479
                      refine ev_store (.int .i64 (atI L11 (IntKind.i64.wrap (3 + x455)))) #[.int .i64 (x63), .int .i64 (x424), .int .i64 (x432), .int .i64 (atI L11 (IntKind.i64.wrap (3 + x455))), .int .i64 (x450), .int .i64 (x451), .int .i64 (x452), .int .i64 (x453), .int .i64 (x454), .int .i64 (-1)] hF483 (by kernel_rfl) rfl rfl rfl rfl (by kernel_rfl) hS460 (by kernel_rfl) (by kernel_rfl) (by kernel_rfl) (l' := [(43, .pointer (some ⟨w66.heap.size, 3, none⟩)), (42, .pointer (some ⟨w66.heap.size, 3, none⟩)), (41, .int .i64 (atI L11 (IntKind.i64.wrap (3 + x455)))), (40, .pointer (some ⟨g54, (IntKind.i64.wrap (3 + x455)).toNat, none⟩)), (39, .int .i64 (IntKind.i64.wrap (3 + x455))), (38, .int .i64 (x455)), (37, .slice (some ⟨g54, 0, none⟩) L11.length c22), (36, .int .i64 (x455)), (9, .int .i64 (x455)), (33, .int .i64 (x455)), (8, .pointer (some ⟨w66.heap.size, 0, none⟩)), (6, .slice (some ⟨g54, 0, none⟩) L11.length c22), (4, .pointer (some ⟨w.heap.size, 0, none⟩))]) (by kernel_rfl) ?_
                      intro w485 a486 hS487 hF488; clear hF483 hS460
                      refine wpList_nil ?_
                      have hF489 : Fr 51 a486 [(33, .int .i64 (x455)), (8, .pointer (some ⟨w66.heap.size, 0, none⟩)), (6, .slice (some ⟨g54, 0, none⟩) L11.length c22), (4, .pointer (some ⟨w.heap.size, 0, none⟩))] := hF488.keep [4, 6, 8, 33]
                      clear hF488
                      refine blockN ?_
                      refine thenN ?_
                      refine wp_region_lit ?_
                      refine ev_runs 2 hF489 (l' := [(33, .int .i64 (IntKind.i64.wrap (x455 + 1))), (44, .int .i64 (IntKind.i64.wrap (x455 + 1))), (8, .pointer (some ⟨w66.heap.size, 0, none⟩)), (6, .slice (some ⟨g54, 0, none⟩) L11.length c22), (4, .pointer (some ⟨w.heap.size, 0, none⟩))]) (w' := w485) (by kernel_rfl) ?_
                      intro a491 hF490; clear hF489
                      refine wpList_nil ?_
                      have hF492 : Fr 51 a491 [(33, .int .i64 (IntKind.i64.wrap (x455 + 1))), (8, .pointer (some ⟨w66.heap.size, 0, none⟩)), (6, .slice (some ⟨g54, 0, none⟩) L11.length c22), (4, .pointer (some ⟨w.heap.size, 0, none⟩))] := hF490.keep [4, 6, 8, 33]
                      clear hF490
                      exact thenN ⟨k456, Nat.lt_succ_self _, atI L11 (IntKind.i64.wrap (3 + x455)), x450, x451, x452, x453, x454, IntKind.i64.wrap (x455 + 1), hF492, hS487, hm482⟩
                    | false =>
                      rw [hc481] at hm474
                      have hm493 := ifF hm474; clear hm474
                      cases hc494 : (x455 == 1) with
                      | true =>
                        rw [hc494] at hm493
                        have hm495 := ifT hm493; clear hm493
                        refine ev_one (.pointer (some ⟨w66.heap.size, 4, none⟩)) w458 hF479 (by kernel_rfl) rfl (by kernel_rfl) (run_idxA (q := 1) rfl rfl rfl rfl (congrArg (Value.int .i64) (eq_of_beq hc494)) (by decide) (by decide) (by kernel_rfl) _) (l' := [(43, .pointer (some ⟨w66.heap.size, 4, none⟩)), (42, .pointer (some ⟨w66.heap.size, 3, none⟩)), (41, .int .i64 (atI L11 (IntKind.i64.wrap (3 + x455)))), (40, .pointer (some ⟨g54, (IntKind.i64.wrap (3 + x455)).toNat, none⟩)), (39, .int .i64 (IntKind.i64.wrap (3 + x455))), (38, .int .i64 (x455)), (37, .slice (some ⟨g54, 0, none⟩) L11.length c22), (36, .int .i64 (x455)), (9, .int .i64 (x455)), (33, .int .i64 (x455)), (8, .pointer (some ⟨w66.heap.size, 0, none⟩)), (6, .slice (some ⟨g54, 0, none⟩) L11.length c22), (4, .pointer (some ⟨w.heap.size, 0, none⟩))]) (by kernel_rfl) ?_
                        intro a497 hF496; clear hF479
                        refine ev_store (.int .i64 (atI L11 (IntKind.i64.wrap (3 + x455)))) #[.int .i64 (x63), .int .i64 (x424), .int .i64 (x432), .int .i64 (x449), .int .i64 (atI L11 (IntKind.i64.wrap (3 + x455))), .int .i64 (x451), .int .i64 (x452), .int .i64 (x453), .int .i64 (x454), .int .i64 (-1)] hF496 (by kernel_rfl) rfl rfl rfl rfl (by kernel_rfl) hS460 (by kernel_rfl) (by kernel_rfl) (by kernel_rfl) (l' := [(43, .pointer (some ⟨w66.heap.size, 4, none⟩)), (42, .pointer (some ⟨w66.heap.size, 3, none⟩)), (41, .int .i64 (atI L11 (IntKind.i64.wrap (3 + x455)))), (40, .pointer (some ⟨g54, (IntKind.i64.wrap (3 + x455)).toNat, none⟩)), (39, .int .i64 (IntKind.i64.wrap (3 + x455))), (38, .int .i64 (x455)), (37, .slice (some ⟨g54, 0, none⟩) L11.length c22), (36, .int .i64 (x455)), (9, .int .i64 (x455)), (33, .int .i64 (x455)), (8, .pointer (some ⟨w66.heap.size, 0, none⟩)), (6, .slice (some ⟨g54, 0, none⟩) L11.length c22), (4, .pointer (some ⟨w.heap.size, 0, none⟩))]) (by kernel_rfl) ?_
                        intro w498 a499 hS500 hF501; clear hF496 hS460
                        refine wpList_nil ?_
                        have hF502 : Fr 51 a499 [(33, .int .i64 (x455)), (8, .pointer (some ⟨w66.heap.size, 0, none⟩)), (6, .slice (some ⟨g54, 0, none⟩) L11.length c22), (4, .pointer (some ⟨w.heap.size, 0, none⟩))] := hF501.keep [4, 6, 8, 33]
                        clear hF501
                        refine blockN ?_
                        refine thenN ?_
                        refine wp_region_lit ?_
                        refine ev_runs 2 hF502 (l' := [(33, .int .i64 (IntKind.i64.wrap (x455 + 1))), (44, .int .i64 (IntKind.i64.wrap (x455 + 1))), (8, .pointer (some ⟨w66.heap.size, 0, none⟩)), (6, .slice (some ⟨g54, 0, none⟩) L11.length c22), (4, .pointer (some ⟨w.heap.size, 0, none⟩))]) (w' := w498) (by kernel_rfl) ?_
                        intro a504 hF503; clear hF502
                        refine wpList_nil ?_
                        have hF505 : Fr 51 a504 [(33, .int .i64 (IntKind.i64.wrap (x455 + 1))), (8, .pointer (some ⟨w66.heap.size, 0, none⟩)), (6, .slice (some ⟨g54, 0, none⟩) L11.length c22), (4, .pointer (some ⟨w.heap.size, 0, none⟩))] := hF503.keep [4, 6, 8, 33]
                        clear hF503
                        exact thenN ⟨k456, Nat.lt_succ_self _, x449, atI L11 (IntKind.i64.wrap (3 + x455)), x451, x452, x453, x454, IntKind.i64.wrap (x455 + 1), hF505, hS500, hm495⟩
                      | false =>
                        rw [hc494] at hm493
                        have hm506 := ifF hm493; clear hm493
                        cases hc507 : (x455 == 2) with
                        | true =>
                          rw [hc507] at hm506
                          have hm508 := ifT hm506; clear hm506
                          refine ev_one (.pointer (some ⟨w66.heap.size, 5, none⟩)) w458 hF479 (by kernel_rfl) rfl (by kernel_rfl) (run_idxA (q := 2) rfl rfl rfl rfl (congrArg (Value.int .i64) (eq_of_beq hc507)) (by decide) (by decide) (by kernel_rfl) _) (l' := [(43, .pointer (some ⟨w66.heap.size, 5, none⟩)), (42, .pointer (some ⟨w66.heap.size, 3, none⟩)), (41, .int .i64 (atI L11 (IntKind.i64.wrap (3 + x455)))), (40, .pointer (some ⟨g54, (IntKind.i64.wrap (3 + x455)).toNat, none⟩)), (39, .int .i64 (IntKind.i64.wrap (3 + x455))), (38, .int .i64 (x455)), (37, .slice (some ⟨g54, 0, none⟩) L11.length c22), (36, .int .i64 (x455)), (9, .int .i64 (x455)), (33, .int .i64 (x455)), (8, .pointer (some ⟨w66.heap.size, 0, none⟩)), (6, .slice (some ⟨g54, 0, none⟩) L11.length c22), (4, .pointer (some ⟨w.heap.size, 0, none⟩))]) (by kernel_rfl) ?_
                          intro a510 hF509; clear hF479
                          refine ev_store (.int .i64 (atI L11 (IntKind.i64.wrap (3 + x455)))) #[.int .i64 (x63), .int .i64 (x424), .int .i64 (x432), .int .i64 (x449), .int .i64 (x450), .int .i64 (atI L11 (IntKind.i64.wrap (3 + x455))), .int .i64 (x452), .int .i64 (x453), .int .i64 (x454), .int .i64 (-1)] hF509 (by kernel_rfl) rfl rfl rfl rfl (by kernel_rfl) hS460 (by kernel_rfl) (by kernel_rfl) (by kernel_rfl) (l' := [(43, .pointer (some ⟨w66.heap.size, 5, none⟩)), (42, .pointer (some ⟨w66.heap.size, 3, none⟩)), (41, .int .i64 (atI L11 (IntKind.i64.wrap (3 + x455)))), (40, .pointer (some ⟨g54, (IntKind.i64.wrap (3 + x455)).toNat, none⟩)), (39, .int .i64 (IntKind.i64.wrap (3 + x455))), (38, .int .i64 (x455)), (37, .slice (some ⟨g54, 0, none⟩) L11.length c22), (36, .int .i64 (x455)), (9, .int .i64 (x455)), (33, .int .i64 (x455)), (8, .pointer (some ⟨w66.heap.size, 0, none⟩)), (6, .slice (some ⟨g54, 0, none⟩) L11.length c22), (4, .pointer (some ⟨w.heap.size, 0, none⟩))]) (by kernel_rfl) ?_
                          intro w511 a512 hS513 hF514; clear hF509 hS460
                          refine wpList_nil ?_
                          have hF515 : Fr 51 a512 [(33, .int .i64 (x455)), (8, .pointer (some ⟨w66.heap.size, 0, none⟩)), (6, .slice (some ⟨g54, 0, none⟩) L11.length c22), (4, .pointer (some ⟨w.heap.size, 0, none⟩))] := hF514.keep [4, 6, 8, 33]
                          clear hF514
                          refine blockN ?_
                          refine thenN ?_
                          refine wp_region_lit ?_
                          refine ev_runs 2 hF515 (l' := [(33, .int .i64 (IntKind.i64.wrap (x455 + 1))), (44, .int .i64 (IntKind.i64.wrap (x455 + 1))), (8, .pointer (some ⟨w66.heap.size, 0, none⟩)), (6, .slice (some ⟨g54, 0, none⟩) L11.length c22), (4, .pointer (some ⟨w.heap.size, 0, none⟩))]) (w' := w511) (by kernel_rfl) ?_
                          intro a517 hF516; clear hF515
                          refine wpList_nil ?_
                          have hF518 : Fr 51 a517 [(33, .int .i64 (IntKind.i64.wrap (x455 + 1))), (8, .pointer (some ⟨w66.heap.size, 0, none⟩)), (6, .slice (some ⟨g54, 0, none⟩) L11.length c22), (4, .pointer (some ⟨w.heap.size, 0, none⟩))] := hF516.keep [4, 6, 8, 33]
                          clear hF516
                          exact thenN ⟨k456, Nat.lt_succ_self _, x449, x450, atI L11 (IntKind.i64.wrap (3 + x455)), x452, x453, x454, IntKind.i64.wrap (x455 + 1), hF518, hS513, hm508⟩
                        | false =>
                          rw [hc507] at hm506
                          have hm519 := ifF hm506; clear hm506
                          cases hc520 : (x455 == 3) with
                          | true =>
                            rw [hc520] at hm519
                            have hm521 := ifT hm519; clear hm519
                            refine ev_one (.pointer (some ⟨w66.heap.size, 6, none⟩)) w458 hF479 (by kernel_rfl) rfl (by kernel_rfl) (run_idxA (q := 3) rfl rfl rfl rfl (congrArg (Value.int .i64) (eq_of_beq hc520)) (by decide) (by decide) (by kernel_rfl) _) (l' := [(43, .pointer (some ⟨w66.heap.size, 6, none⟩)), (42, .pointer (some ⟨w66.heap.size, 3, none⟩)), (41, .int .i64 (atI L11 (IntKind.i64.wrap (3 + x455)))), (40, .pointer (some ⟨g54, (IntKind.i64.wrap (3 + x455)).toNat, none⟩)), (39, .int .i64 (IntKind.i64.wrap (3 + x455))), (38, .int .i64 (x455)), (37, .slice (some ⟨g54, 0, none⟩) L11.length c22), (36, .int .i64 (x455)), (9, .int .i64 (x455)), (33, .int .i64 (x455)), (8, .pointer (some ⟨w66.heap.size, 0, none⟩)), (6, .slice (some ⟨g54, 0, none⟩) L11.length c22), (4, .pointer (some ⟨w.heap.size, 0, none⟩))]) (by kernel_rfl) ?_
                            intro a523 hF522; clear hF479
                            refine ev_store (.int .i64 (atI L11 (IntKind.i64.wrap (3 + x455)))) #[.int .i64 (x63), .int .i64 (x424), .int .i64 (x432), .int .i64 (x449), .int .i64 (x450), .int .i64 (x451), .int .i64 (atI L11 (IntKind.i64.wrap (3 + x455))), .int .i64 (x453), .int .i64 (x454), .int .i64 (-1)] hF522 (by kernel_rfl) rfl rfl rfl rfl (by kernel_rfl) hS460 (by kernel_rfl) (by kernel_rfl) (by kernel_rfl) (l' := [(43, .pointer (some ⟨w66.heap.size, 6, none⟩)), (42, .pointer (some ⟨w66.heap.size, 3, none⟩)), (41, .int .i64 (atI L11 (IntKind.i64.wrap (3 + x455)))), (40, .pointer (some ⟨g54, (IntKind.i64.wrap (3 + x455)).toNat, none⟩)), (39, .int .i64 (IntKind.i64.wrap (3 + x455))), (38, .int .i64 (x455)), (37, .slice (some ⟨g54, 0, none⟩) L11.length c22), (36, .int .i64 (x455)), (9, .int .i64 (x455)), (33, .int .i64 (x455)), (8, .pointer (some ⟨w66.heap.size, 0, none⟩)), (6, .slice (some ⟨g54, 0, none⟩) L11.length c22), (4, .pointer (some ⟨w.heap.size, 0, none⟩))]) (by kernel_rfl) ?_
                            intro w524 a525 hS526 hF527; clear hF522 hS460
                            refine wpList_nil ?_
                            have hF528 : Fr 51 a525 [(33, .int .i64 (x455)), (8, .pointer (some ⟨w66.heap.size, 0, none⟩)), (6, .slice (some ⟨g54, 0, none⟩) L11.length c22), (4, .pointer (some ⟨w.heap.size, 0, none⟩))] := hF527.keep [4, 6, 8, 33]
                            clear hF527
                            refine blockN ?_
                            refine thenN ?_
                            refine wp_region_lit ?_
                            refine ev_runs 2 hF528 (l' := [(33, .int .i64 (IntKind.i64.wrap (x455 + 1))), (44, .int .i64 (IntKind.i64.wrap (x455 + 1))), (8, .pointer (some ⟨w66.heap.size, 0, none⟩)), (6, .slice (some ⟨g54, 0, none⟩) L11.length c22), (4, .pointer (some ⟨w.heap.size, 0, none⟩))]) (w' := w524) (by kernel_rfl) ?_
                            intro a530 hF529; clear hF528
                            refine wpList_nil ?_
                            have hF531 : Fr 51 a530 [(33, .int .i64 (IntKind.i64.wrap (x455 + 1))), (8, .pointer (some ⟨w66.heap.size, 0, none⟩)), (6, .slice (some ⟨g54, 0, none⟩) L11.length c22), (4, .pointer (some ⟨w.heap.size, 0, none⟩))] := hF529.keep [4, 6, 8, 33]
                            clear hF529
                            exact thenN ⟨k456, Nat.lt_succ_self _, x449, x450, x451, atI L11 (IntKind.i64.wrap (3 + x455)), x453, x454, IntKind.i64.wrap (x455 + 1), hF531, hS526, hm521⟩
                          | false =>
                            rw [hc520] at hm519
                            have hm532 := ifF hm519; clear hm519
                            cases hc533 : (x455 == 4) with
                            | true =>
                              rw [hc533] at hm532
                              have hm534 := ifT hm532; clear hm532
                              refine ev_one (.pointer (some ⟨w66.heap.size, 7, none⟩)) w458 hF479 (by kernel_rfl) rfl (by kernel_rfl) (run_idxA (q := 4) rfl rfl rfl rfl (congrArg (Value.int .i64) (eq_of_beq hc533)) (by decide) (by decide) (by kernel_rfl) _) (l' := [(43, .pointer (some ⟨w66.heap.size, 7, none⟩)), (42, .pointer (some ⟨w66.heap.size, 3, none⟩)), (41, .int .i64 (atI L11 (IntKind.i64.wrap (3 + x455)))), (40, .pointer (some ⟨g54, (IntKind.i64.wrap (3 + x455)).toNat, none⟩)), (39, .int .i64 (IntKind.i64.wrap (3 + x455))), (38, .int .i64 (x455)), (37, .slice (some ⟨g54, 0, none⟩) L11.length c22), (36, .int .i64 (x455)), (9, .int .i64 (x455)), (33, .int .i64 (x455)), (8, .pointer (some ⟨w66.heap.size, 0, none⟩)), (6, .slice (some ⟨g54, 0, none⟩) L11.length c22), (4, .pointer (some ⟨w.heap.size, 0, none⟩))]) (by kernel_rfl) ?_
                              intro a536 hF535; clear hF479
                              refine ev_store (.int .i64 (atI L11 (IntKind.i64.wrap (3 + x455)))) #[.int .i64 (x63), .int .i64 (x424), .int .i64 (x432), .int .i64 (x449), .int .i64 (x450), .int .i64 (x451), .int .i64 (x452), .int .i64 (atI L11 (IntKind.i64.wrap (3 + x455))), .int .i64 (x454), .int .i64 (-1)] hF535 (by kernel_rfl) rfl rfl rfl rfl (by kernel_rfl) hS460 (by kernel_rfl) (by kernel_rfl) (by kernel_rfl) (l' := [(43, .pointer (some ⟨w66.heap.size, 7, none⟩)), (42, .pointer (some ⟨w66.heap.size, 3, none⟩)), (41, .int .i64 (atI L11 (IntKind.i64.wrap (3 + x455)))), (40, .pointer (some ⟨g54, (IntKind.i64.wrap (3 + x455)).toNat, none⟩)), (39, .int .i64 (IntKind.i64.wrap (3 + x455))), (38, .int .i64 (x455)), (37, .slice (some ⟨g54, 0, none⟩) L11.length c22), (36, .int .i64 (x455)), (9, .int .i64 (x455)), (33, .int .i64 (x455)), (8, .pointer (some ⟨w66.heap.size, 0, none⟩)), (6, .slice (some ⟨g54, 0, none⟩) L11.length c22), (4, .pointer (some ⟨w.heap.size, 0, none⟩))]) (by kernel_rfl) ?_
                              intro w537 a538 hS539 hF540; clear hF535 hS460
                              refine wpList_nil ?_
                              have hF541 : Fr 51 a538 [(33, .int .i64 (x455)), (8, .pointer (some ⟨w66.heap.size, 0, none⟩)), (6, .slice (some ⟨g54, 0, none⟩) L11.length c22), (4, .pointer (some ⟨w.heap.size, 0, none⟩))] := hF540.keep [4, 6, 8, 33]
                              clear hF540
                              refine blockN ?_
                              refine thenN ?_
                              refine wp_region_lit ?_
                              refine ev_runs 2 hF541 (l' := [(33, .int .i64 (IntKind.i64.wrap (x455 + 1))), (44, .int .i64 (IntKind.i64.wrap (x455 + 1))), (8, .pointer (some ⟨w66.heap.size, 0, none⟩)), (6, .slice (some ⟨g54, 0, none⟩) L11.length c22), (4, .pointer (some ⟨w.heap.size, 0, none⟩))]) (w' := w537) (by kernel_rfl) ?_
                              intro a543 hF542; clear hF541
                              refine wpList_nil ?_
                              have hF544 : Fr 51 a543 [(33, .int .i64 (IntKind.i64.wrap (x455 + 1))), (8, .pointer (some ⟨w66.heap.size, 0, none⟩)), (6, .slice (some ⟨g54, 0, none⟩) L11.length c22), (4, .pointer (some ⟨w.heap.size, 0, none⟩))] := hF542.keep [4, 6, 8, 33]
                              clear hF542
                              exact thenN ⟨k456, Nat.lt_succ_self _, x449, x450, x451, x452, atI L11 (IntKind.i64.wrap (3 + x455)), x454, IntKind.i64.wrap (x455 + 1), hF544, hS539, hm534⟩
                            | false =>
                              rw [hc533] at hm532
                              have hm545 := ifF hm532; clear hm532
                              cases hc546 : (x455 == 5) with
                              | true =>
                                rw [hc546] at hm545
                                have hm547 := ifT hm545; clear hm545
                                refine ev_one (.pointer (some ⟨w66.heap.size, 8, none⟩)) w458 hF479 (by kernel_rfl) rfl (by kernel_rfl) (run_idxA (q := 5) rfl rfl rfl rfl (congrArg (Value.int .i64) (eq_of_beq hc546)) (by decide) (by decide) (by kernel_rfl) _) (l' := [(43, .pointer (some ⟨w66.heap.size, 8, none⟩)), (42, .pointer (some ⟨w66.heap.size, 3, none⟩)), (41, .int .i64 (atI L11 (IntKind.i64.wrap (3 + x455)))), (40, .pointer (some ⟨g54, (IntKind.i64.wrap (3 + x455)).toNat, none⟩)), (39, .int .i64 (IntKind.i64.wrap (3 + x455))), (38, .int .i64 (x455)), (37, .slice (some ⟨g54, 0, none⟩) L11.length c22), (36, .int .i64 (x455)), (9, .int .i64 (x455)), (33, .int .i64 (x455)), (8, .pointer (some ⟨w66.heap.size, 0, none⟩)), (6, .slice (some ⟨g54, 0, none⟩) L11.length c22), (4, .pointer (some ⟨w.heap.size, 0, none⟩))]) (by kernel_rfl) ?_
                                intro a549 hF548; clear hF479
                                refine ev_store (.int .i64 (atI L11 (IntKind.i64.wrap (3 + x455)))) #[.int .i64 (x63), .int .i64 (x424), .int .i64 (x432), .int .i64 (x449), .int .i64 (x450), .int .i64 (x451), .int .i64 (x452), .int .i64 (x453), .int .i64 (atI L11 (IntKind.i64.wrap (3 + x455))), .int .i64 (-1)] hF548 (by kernel_rfl) rfl rfl rfl rfl (by kernel_rfl) hS460 (by kernel_rfl) (by kernel_rfl) (by kernel_rfl) (l' := [(43, .pointer (some ⟨w66.heap.size, 8, none⟩)), (42, .pointer (some ⟨w66.heap.size, 3, none⟩)), (41, .int .i64 (atI L11 (IntKind.i64.wrap (3 + x455)))), (40, .pointer (some ⟨g54, (IntKind.i64.wrap (3 + x455)).toNat, none⟩)), (39, .int .i64 (IntKind.i64.wrap (3 + x455))), (38, .int .i64 (x455)), (37, .slice (some ⟨g54, 0, none⟩) L11.length c22), (36, .int .i64 (x455)), (9, .int .i64 (x455)), (33, .int .i64 (x455)), (8, .pointer (some ⟨w66.heap.size, 0, none⟩)), (6, .slice (some ⟨g54, 0, none⟩) L11.length c22), (4, .pointer (some ⟨w.heap.size, 0, none⟩))]) (by kernel_rfl) ?_
                                intro w550 a551 hS552 hF553; clear hF548 hS460
                                refine wpList_nil ?_
                                have hF554 : Fr 51 a551 [(33, .int .i64 (x455)), (8, .pointer (some ⟨w66.heap.size, 0, none⟩)), (6, .slice (some ⟨g54, 0, none⟩) L11.length c22), (4, .pointer (some ⟨w.heap.size, 0, none⟩))] := hF553.keep [4, 6, 8, 33]
                                clear hF553
                                refine blockN ?_
                                refine thenN ?_
                                refine wp_region_lit ?_
                                refine ev_runs 2 hF554 (l' := [(33, .int .i64 (IntKind.i64.wrap (x455 + 1))), (44, .int .i64 (IntKind.i64.wrap (x455 + 1))), (8, .pointer (some ⟨w66.heap.size, 0, none⟩)), (6, .slice (some ⟨g54, 0, none⟩) L11.length c22), (4, .pointer (some ⟨w.heap.size, 0, none⟩))]) (w' := w550) (by kernel_rfl) ?_
                                intro a556 hF555; clear hF554
                                refine wpList_nil ?_
                                have hF557 : Fr 51 a556 [(33, .int .i64 (IntKind.i64.wrap (x455 + 1))), (8, .pointer (some ⟨w66.heap.size, 0, none⟩)), (6, .slice (some ⟨g54, 0, none⟩) L11.length c22), (4, .pointer (some ⟨w.heap.size, 0, none⟩))] := hF555.keep [4, 6, 8, 33]
                                clear hF555
                                exact thenN ⟨k456, Nat.lt_succ_self _, x449, x450, x451, x452, x453, atI L11 (IntKind.i64.wrap (3 + x455)), IntKind.i64.wrap (x455 + 1), hF557, hS552, hm547⟩
                              | false =>
                                rw [hc546] at hm545
                                have hm558 := ifF hm545; clear hm545
                                exact absurd hm558 (by simp)
                | false =>
                  rw [hc465] at hF463
                  rw [hc465] at hm462
                  have hm559 := ifF hm462; clear hm462
                  refine ev_condF hF463 rfl rfl ?_
                  refine wp_exit ?_
                  refine thenE ?_
                  refine thenE ?_
                  refine blockE ?_
                  refine thenN ?_
                  refine wp_seq ?_
                  refine wp_region_lit ?_
                  refine ev_runs 1 hF463 (l' := [(45, .slice (some ⟨g54, 0, none⟩) L11.length c22), (34, .bool false), (33, .int .i64 (x455)), (8, .pointer (some ⟨w66.heap.size, 0, none⟩)), (6, .slice (some ⟨g54, 0, none⟩) L11.length c22), (4, .pointer (some ⟨w.heap.size, 0, none⟩))]) (w' := w458) (by kernel_rfl) ?_
                  intro a561 hF560; clear hF463
                  cases hc562 : (inR (9 : Int) L11.length) with
                  | false => rw [hc562] at hm559; cases hm559
                  | true =>
                    rw [hc562] at hm559
                    have hm563 := ifT hm559; clear hm559
                    refine ev_one (.pointer (some ⟨g54, (9 : Int).toNat, none⟩)) w458 hF560 (by kernel_rfl) rfl (by kernel_rfl) (run_idx rfl rfl rfl rfl rfl (inR_spec hc562).1 (inR_spec hc562).2 _) (l' := [(46, .pointer (some ⟨g54, (9 : Int).toNat, none⟩)), (45, .slice (some ⟨g54, 0, none⟩) L11.length c22), (34, .bool false), (33, .int .i64 (x455)), (8, .pointer (some ⟨w66.heap.size, 0, none⟩)), (6, .slice (some ⟨g54, 0, none⟩) L11.length c22), (4, .pointer (some ⟨w.heap.size, 0, none⟩))]) (by kernel_rfl) ?_
                    intro a565 hF564; clear hF560
                    refine ev_one (.int .i64 (atI L11 (9 : Int))) w458 hF564 (by kernel_rfl) rfl (by kernel_rfl) (run_load1 rfl rfl rfl (hS460.atI 1 rfl hc562)) (l' := [(47, .int .i64 (atI L11 (9 : Int))), (46, .pointer (some ⟨g54, (9 : Int).toNat, none⟩)), (45, .slice (some ⟨g54, 0, none⟩) L11.length c22), (34, .bool false), (33, .int .i64 (x455)), (8, .pointer (some ⟨w66.heap.size, 0, none⟩)), (6, .slice (some ⟨g54, 0, none⟩) L11.length c22), (4, .pointer (some ⟨w.heap.size, 0, none⟩))]) (by kernel_rfl) ?_
                    intro a567 hF566; clear hF564
                    refine ev_call 53 #[.int .i64 (atI L11 (9 : Int))] hF566 rfl rfl (by kernel_rfl) rfl (by kernel_rfl) (fun w => by kernel_rfl) ?_
                    obtain ⟨x568, hx569, hm570⟩ := bind1E hm563; clear hm563
                    refine (p_vAt hS460 hx569).mono ?_
                    rintro _ w571 ⟨rfl, hS573⟩ a572 hF574; clear hF566 hS460
                    have hF575 : Fr 51 a572 [(48, .int .i64 (x568)), (47, .int .i64 (atI L11 (9 : Int))), (46, .pointer (some ⟨g54, (9 : Int).toNat, none⟩)), (45, .slice (some ⟨g54, 0, none⟩) L11.length c22), (34, .bool false), (33, .int .i64 (x455)), (8, .pointer (some ⟨w66.heap.size, 0, none⟩)), (6, .slice (some ⟨g54, 0, none⟩) L11.length c22), (4, .pointer (some ⟨w.heap.size, 0, none⟩))] := hF574
                    clear hF574
                    refine ev_runs 1 hF575 (l' := [(49, .pointer (some ⟨w66.heap.size, 9, none⟩)), (48, .int .i64 (x568)), (47, .int .i64 (atI L11 (9 : Int))), (46, .pointer (some ⟨g54, (9 : Int).toNat, none⟩)), (45, .slice (some ⟨g54, 0, none⟩) L11.length c22), (34, .bool false), (33, .int .i64 (x455)), (8, .pointer (some ⟨w66.heap.size, 0, none⟩)), (6, .slice (some ⟨g54, 0, none⟩) L11.length c22), (4, .pointer (some ⟨w.heap.size, 0, none⟩))]) (w' := w571) (by kernel_rfl) ?_
                    intro a577 hF576; clear hF575
                    refine ev_store (.int .i64 (x568)) #[.int .i64 (x63), .int .i64 (x424), .int .i64 (x432), .int .i64 (x449), .int .i64 (x450), .int .i64 (x451), .int .i64 (x452), .int .i64 (x453), .int .i64 (x454), .int .i64 (x568)] hF576 (by kernel_rfl) rfl rfl rfl rfl (by kernel_rfl) hS573 (by kernel_rfl) (by kernel_rfl) (by kernel_rfl) (l' := [(49, .pointer (some ⟨w66.heap.size, 9, none⟩)), (48, .int .i64 (x568)), (47, .int .i64 (atI L11 (9 : Int))), (46, .pointer (some ⟨g54, (9 : Int).toNat, none⟩)), (45, .slice (some ⟨g54, 0, none⟩) L11.length c22), (34, .bool false), (33, .int .i64 (x455)), (8, .pointer (some ⟨w66.heap.size, 0, none⟩)), (6, .slice (some ⟨g54, 0, none⟩) L11.length c22), (4, .pointer (some ⟨w.heap.size, 0, none⟩))]) (by kernel_rfl) ?_
                    intro w578 a579 hS580 hF581; clear hF576 hS573
                    refine wpList_nil ?_
                    have hF582 : Fr 51 a579 [(8, .pointer (some ⟨w66.heap.size, 0, none⟩)), (4, .pointer (some ⟨w.heap.size, 0, none⟩))] := hF581.keep [4, 8]
                    clear hF581
                    have hS583 : St w0 F0 (BlkP (w66.heap.size) 43 #[.int .i64 (x63), .int .i64 (x424), .int .i64 (x432), .int .i64 (x449), .int .i64 (x450), .int .i64 (x451), .int .i64 (x452), .int .i64 (x453), .int .i64 (x454), .int .i64 (x568)] :: HeapP b0 ab0 s0 :: BlkP (w.heap.size) 43 #[.int .i64 0, .int .i64 0, .int .i64 0, .int .i64 0, .int .i64 0, .int .i64 0, .int .i64 0, .int .i64 0, .int .i64 0, .int .i64 0] :: ps) w578 := St.ordP [BlkP (w66.heap.size) 43 #[.int .i64 (x63), .int .i64 (x424), .int .i64 (x432), .int .i64 (x449), .int .i64 (x450), .int .i64 (x451), .int .i64 (x452), .int .i64 (x453), .int .i64 (x454), .int .i64 (x568)], RowP (.slice (some ⟨g54, 0, none⟩) L11.length c22) L11, HeapP b0 ab0 s0, BlkP (w.heap.size) 43 #[.int .i64 0, .int .i64 0, .int .i64 0, .int .i64 0, .int .i64 0, .int .i64 0, .int .i64 0, .int .i64 0, .int .i64 0, .int .i64 0]] ps hS580 [0, 2, 3] [1] (by kernel_rfl)
                    clear hS580
                    refine thenN ?_
                    refine wp_seq ?_
                    refine wp_region_lit ?_
                    refine ev_one (.agg #[.int .i64 (x63), .int .i64 (x424), .int .i64 (x432), .int .i64 (x449), .int .i64 (x450), .int .i64 (x451), .int .i64 (x452), .int .i64 (x453), .int .i64 (x454), .int .i64 (x568)]) w578 hF582 (by kernel_rfl) rfl (by kernel_rfl) (run_loadV rfl rfl (run_loadA (cs := [.int .i64 (x63), .int .i64 (x424), .int .i64 (x432), .int .i64 (x449), .int .i64 (x450), .int .i64 (x451), .int .i64 (x452), .int .i64 (x453), .int .i64 (x454), .int .i64 (x568)]) rfl rfl (by kernel_rfl) (blk_cells hS583 0 rfl rfl))) (l' := [(50, .agg #[.int .i64 (x63), .int .i64 (x424), .int .i64 (x432), .int .i64 (x449), .int .i64 (x450), .int .i64 (x451), .int .i64 (x452), .int .i64 (x453), .int .i64 (x454), .int .i64 (x568)]), (8, .pointer (some ⟨w66.heap.size, 0, none⟩)), (4, .pointer (some ⟨w.heap.size, 0, none⟩))]) (by kernel_rfl) ?_
                    intro a585 hF584; clear hF582
                    have hS586 : St w0 F0 (BlkP (w.heap.size) 43 #[.int .i64 0, .int .i64 0, .int .i64 0, .int .i64 0, .int .i64 0, .int .i64 0, .int .i64 0, .int .i64 0, .int .i64 0, .int .i64 0] :: BlkP (w66.heap.size) 43 #[.int .i64 (x63), .int .i64 (x424), .int .i64 (x432), .int .i64 (x449), .int .i64 (x450), .int .i64 (x451), .int .i64 (x452), .int .i64 (x453), .int .i64 (x454), .int .i64 (x568)] :: HeapP b0 ab0 s0 :: ps) w578 := St.ordP [BlkP (w66.heap.size) 43 #[.int .i64 (x63), .int .i64 (x424), .int .i64 (x432), .int .i64 (x449), .int .i64 (x450), .int .i64 (x451), .int .i64 (x452), .int .i64 (x453), .int .i64 (x454), .int .i64 (x568)], HeapP b0 ab0 s0, BlkP (w.heap.size) 43 #[.int .i64 0, .int .i64 0, .int .i64 0, .int .i64 0, .int .i64 0, .int .i64 0, .int .i64 0, .int .i64 0, .int .i64 0, .int .i64 0]] ps hS583 [2, 0, 1] [] (by kernel_rfl)
                    clear hS583
                    refine ev_store (.agg #[.int .i64 (x63), .int .i64 (x424), .int .i64 (x432), .int .i64 (x449), .int .i64 (x450), .int .i64 (x451), .int .i64 (x452), .int .i64 (x453), .int .i64 (x454), .int .i64 (x568)]) #[.int .i64 (x63), .int .i64 (x424), .int .i64 (x432), .int .i64 (x449), .int .i64 (x450), .int .i64 (x451), .int .i64 (x452), .int .i64 (x453), .int .i64 (x454), .int .i64 (x568)] hF584 (by kernel_rfl) rfl rfl rfl rfl (by kernel_rfl) hS586 (by kernel_rfl) (by kernel_rfl) (by kernel_rfl) (l' := [(50, .agg #[.int .i64 (x63), .int .i64 (x424), .int .i64 (x432), .int .i64 (x449), .int .i64 (x450), .int .i64 (x451), .int .i64 (x452), .int .i64 (x453), .int .i64 (x454), .int .i64 (x568)]), (8, .pointer (some ⟨w66.heap.size, 0, none⟩)), (4, .pointer (some ⟨w.heap.size, 0, none⟩))]) (by kernel_rfl) ?_
                    intro w587 a588 hS589 hF590; clear hF584 hS586
                    refine ev_runs 1 hF590 (l' := [(5, .int .i64 0), (50, .agg #[.int .i64 (x63), .int .i64 (x424), .int .i64 (x432), .int .i64 (x449), .int .i64 (x450), .int .i64 (x451), .int .i64 (x452), .int .i64 (x453), .int .i64 (x454), .int .i64 (x568)]), (8, .pointer (some ⟨w66.heap.size, 0, none⟩)), (4, .pointer (some ⟨w.heap.size, 0, none⟩))]) (w' := w587) (by kernel_rfl) ?_
                    intro a592 hF591; clear hF590
                    refine wpList_nil ?_
                    have hF593 : Fr 51 a592 [(5, .int .i64 0), (4, .pointer (some ⟨w.heap.size, 0, none⟩))] := hF591.keep [4, 5]
                    clear hF591
                    have hS594 : St w0 F0 (BlkP (w.heap.size) 43 #[.int .i64 (x63), .int .i64 (x424), .int .i64 (x432), .int .i64 (x449), .int .i64 (x450), .int .i64 (x451), .int .i64 (x452), .int .i64 (x453), .int .i64 (x454), .int .i64 (x568)] :: HeapP b0 ab0 s0 :: ps) w587 := St.ordP [BlkP (w.heap.size) 43 #[.int .i64 (x63), .int .i64 (x424), .int .i64 (x432), .int .i64 (x449), .int .i64 (x450), .int .i64 (x451), .int .i64 (x452), .int .i64 (x453), .int .i64 (x454), .int .i64 (x568)], BlkP (w66.heap.size) 43 #[.int .i64 (x63), .int .i64 (x424), .int .i64 (x432), .int .i64 (x449), .int .i64 (x450), .int .i64 (x451), .int .i64 (x452), .int .i64 (x453), .int .i64 (x454), .int .i64 (x568)], HeapP b0 ab0 s0] ps hS589 [0, 2] [1] (by kernel_rfl)
                    clear hS589
                    refine thenN ?_
                    refine wp_ret ?_
                    have hS595 : St w0 F0 (HeapP b0 ab0 s0 :: BlkP (w.heap.size) 43 #[.int .i64 (x63), .int .i64 (x424), .int .i64 (x432), .int .i64 (x449), .int .i64 (x450), .int .i64 (x451), .int .i64 (x452), .int .i64 (x453), .int .i64 (x454), .int .i64 (x568)] :: ps) w587 := St.ordP [BlkP (w.heap.size) 43 #[.int .i64 (x63), .int .i64 (x424), .int .i64 (x432), .int .i64 (x449), .int .i64 (x450), .int .i64 (x451), .int .i64 (x452), .int .i64 (x453), .int .i64 (x454), .int .i64 (x568)], HeapP b0 ab0 s0] ps hS594 [1, 0] [] (by kernel_rfl)
                    clear hS594
                    simp only [Option.some.injEq, Prod.mk.injEq] at hm570
                    obtain ⟨rfl, rfl, rfl⟩ := hm570
                    refine ev_retC hF593 _ [.agg #[.int .i64 (x63), .int .i64 (x424), .int .i64 (x432), .int .i64 (x449), .int .i64 (x450), .int .i64 (x451), .int .i64 (x452), .int .i64 (x453), .int .i64 (x454), .int .i64 (x568)], .int .i64 0] (.tuple #[.agg #[.int .i64 (x63), .int .i64 (x424), .int .i64 (x432), .int .i64 (x449), .int .i64 (x450), .int .i64 (x451), .int .i64 (x452), .int .i64 (x453), .int .i64 (x454), .int .i64 (x568)], .int .i64 0]) rfl ⟨⟨rfl, _, rfl, (run_loadA (cs := [.int .i64 (x63), .int .i64 (x424), .int .i64 (x432), .int .i64 (x449), .int .i64 (x450), .int .i64 (x451), .int .i64 (x452), .int .i64 (x453), .int .i64 (x454), .int .i64 (x568)]) rfl rfl (by kernel_rfl) (blk_cells hS595 1 rfl rfl))⟩, ⟨rfl, rfl⟩, trivial⟩ rfl ?_
                    have hS599 : St w0 F0 (HeapP b0 ab0 s0 :: ps) w587 := St.ordP [HeapP b0 ab0 s0, BlkP (w.heap.size) 43 #[.int .i64 (x63), .int .i64 (x424), .int .i64 (x432), .int .i64 (x449), .int .i64 (x450), .int .i64 (x451), .int .i64 (x452), .int .i64 (x453), .int .i64 (x454), .int .i64 (x568)]] ps hS595 [0] [1] (by kernel_rfl)
                    clear hS595
                    exact ⟨rfl, hS599⟩
          · skip
            have hS600 : St w0 F0 (BlkP ((w15.drew).heap.size) 43 #[.int .i64 0, .int .i64 0, .int .i64 0, .int .i64 0, .int .i64 0, .int .i64 0, .int .i64 0, .int .i64 0, .int .i64 0, .int .i64 0] :: RowP (.slice (some ⟨g54, 0, none⟩) L11.length c22) L11 :: HeapP b0 ab0 s0 :: BlkP (w.heap.size) 43 #[.int .i64 0, .int .i64 0, .int .i64 0, .int .i64 0, .int .i64 0, .int .i64 0, .int .i64 0, .int .i64 0, .int .i64 0, .int .i64 0] :: ps) ((w15.drew).alloc (.cells #[.int .i64 0, .int .i64 0, .int .i64 0, .int .i64 0, .int .i64 0, .int .i64 0, .int .i64 0, .int .i64 0, .int .i64 0, .int .i64 0] 43)) := St.new hS60 #[.int .i64 0, .int .i64 0, .int .i64 0, .int .i64 0, .int .i64 0, .int .i64 0, .int .i64 0, .int .i64 0, .int .i64 0, .int .i64 0] 43
            clear hS60
            refine op_step 13 #[true, true, true, false, true, true, true, false, true, true, true, false, false, true, false] (.pointer (some ⟨(w15.drew).heap.size, 0, none⟩)) ((w15.drew).alloc (.cells #[.int .i64 0, .int .i64 0, .int .i64 0, .int .i64 0, .int .i64 0, .int .i64 0, .int .i64 0, .int .i64 0, .int .i64 0, .int .i64 0] 43)) hF61 rfl (by kernel_rfl) rfl (by kernel_rfl) (by kernel_rfl) (l' := [(8, .pointer (some ⟨(w15.drew).heap.size, 0, none⟩)), (30, .int .i64 (atI L11 (2 : Int))), (26, .int .i64 (atI L11 (1 : Int))), (22, .int .i64 (atI L11 (0 : Int))), (6, .slice (some ⟨g54, 0, none⟩) L11.length c22), (4, .pointer (some ⟨w.heap.size, 0, none⟩))]) (by kernel_rfl) ⟨_, St.ordP [BlkP ((w15.drew).heap.size) 43 #[.int .i64 0, .int .i64 0, .int .i64 0, .int .i64 0, .int .i64 0, .int .i64 0, .int .i64 0, .int .i64 0, .int .i64 0, .int .i64 0], RowP (.slice (some ⟨g54, 0, none⟩) L11.length c22) L11, HeapP b0 ab0 s0, BlkP (w.heap.size) 43 #[.int .i64 0, .int .i64 0, .int .i64 0, .int .i64 0, .int .i64 0, .int .i64 0, .int .i64 0, .int .i64 0, .int .i64 0, .int .i64 0]] ps hS600 [1, 0, 2, 3] [] (by kernel_rfl)⟩ (by kernel_rfl) ?_
            intro a602 hF601; clear hF61
            refine any_call 3 #[true, true, true, true, true, true, true, false, true, true, true, false, false, true, false] 52 #[.int .i64 (atI L11 (0 : Int))] hF601 rfl (by kernel_rfl) rfl rfl (by kernel_rfl) rfl (by kernel_rfl) (fun w => by kernel_rfl) (by kernel_rfl) ?_
            obtain ⟨x603, hx604, hm605⟩ := bind1E hm58; clear hm58
            refine (p_vNum hS600 hx604).mono ?_
            rintro _ w606 ⟨rfl, hS608⟩; clear hS600
            refine ⟨⟨_, St.ordP [BlkP ((w15.drew).heap.size) 43 #[.int .i64 0, .int .i64 0, .int .i64 0, .int .i64 0, .int .i64 0, .int .i64 0, .int .i64 0, .int .i64 0, .int .i64 0, .int .i64 0], RowP (.slice (some ⟨g54, 0, none⟩) L11.length c22) L11, HeapP b0 ab0 s0, BlkP (w.heap.size) 43 #[.int .i64 0, .int .i64 0, .int .i64 0, .int .i64 0, .int .i64 0, .int .i64 0, .int .i64 0, .int .i64 0, .int .i64 0, .int .i64 0]] ps hS608 [1, 0, 2, 3] [] (by kernel_rfl)⟩, ?_⟩
            intro a607 hF609; clear hF601
            have hF610 : Fr 51 a607 [(23, .int .i64 (x603)), (8, .pointer (some ⟨(w15.drew).heap.size, 0, none⟩)), (30, .int .i64 (atI L11 (2 : Int))), (26, .int .i64 (atI L11 (1 : Int))), (22, .int .i64 (atI L11 (0 : Int))), (6, .slice (some ⟨g54, 0, none⟩) L11.length c22), (4, .pointer (some ⟨w.heap.size, 0, none⟩))] := hF609
            clear hF609
            refine any_call 7 #[true, true, true, true, true, true, true, true, true, true, true, false, false, true, false] 52 #[.int .i64 (atI L11 (1 : Int))] hF610 rfl (by kernel_rfl) rfl rfl (by kernel_rfl) rfl (by kernel_rfl) (fun w => by kernel_rfl) (by kernel_rfl) ?_
            obtain ⟨x611, hx612, hm613⟩ := bind1E hm605; clear hm605
            refine (p_vNum hS608 hx612).mono ?_
            rintro _ w614 ⟨rfl, hS616⟩; clear hS608
            refine ⟨⟨_, St.ordP [BlkP ((w15.drew).heap.size) 43 #[.int .i64 0, .int .i64 0, .int .i64 0, .int .i64 0, .int .i64 0, .int .i64 0, .int .i64 0, .int .i64 0, .int .i64 0, .int .i64 0], RowP (.slice (some ⟨g54, 0, none⟩) L11.length c22) L11, HeapP b0 ab0 s0, BlkP (w.heap.size) 43 #[.int .i64 0, .int .i64 0, .int .i64 0, .int .i64 0, .int .i64 0, .int .i64 0, .int .i64 0, .int .i64 0, .int .i64 0, .int .i64 0]] ps hS616 [1, 0, 2, 3] [] (by kernel_rfl)⟩, ?_⟩
            intro a615 hF617; clear hF610
            have hF618 : Fr 51 a615 [(27, .int .i64 (x611)), (23, .int .i64 (x603)), (8, .pointer (some ⟨(w15.drew).heap.size, 0, none⟩)), (30, .int .i64 (atI L11 (2 : Int))), (26, .int .i64 (atI L11 (1 : Int))), (22, .int .i64 (atI L11 (0 : Int))), (6, .slice (some ⟨g54, 0, none⟩) L11.length c22), (4, .pointer (some ⟨w.heap.size, 0, none⟩))] := hF617
            clear hF617
            refine any_call 11 #[true, true, true, true, true, true, true, true, true, true, true, true, false, true, false] 52 #[.int .i64 (atI L11 (2 : Int))] hF618 rfl (by kernel_rfl) rfl rfl (by kernel_rfl) rfl (by kernel_rfl) (fun w => by kernel_rfl) (by kernel_rfl) ?_
            obtain ⟨x619, hx620, hm621⟩ := bind1E hm613; clear hm613
            refine (p_vNum hS616 hx620).mono ?_
            rintro _ w622 ⟨rfl, hS624⟩; clear hS616
            refine ⟨⟨_, St.ordP [BlkP ((w15.drew).heap.size) 43 #[.int .i64 0, .int .i64 0, .int .i64 0, .int .i64 0, .int .i64 0, .int .i64 0, .int .i64 0, .int .i64 0, .int .i64 0, .int .i64 0], RowP (.slice (some ⟨g54, 0, none⟩) L11.length c22) L11, HeapP b0 ab0 s0, BlkP (w.heap.size) 43 #[.int .i64 0, .int .i64 0, .int .i64 0, .int .i64 0, .int .i64 0, .int .i64 0, .int .i64 0, .int .i64 0, .int .i64 0, .int .i64 0]] ps hS624 [1, 0, 2, 3] [] (by kernel_rfl)⟩, ?_⟩
            intro a623 hF625; clear hF618
            have hF626 : Fr 51 a623 [(31, .int .i64 (x619)), (27, .int .i64 (x611)), (23, .int .i64 (x603)), (8, .pointer (some ⟨(w15.drew).heap.size, 0, none⟩)), (30, .int .i64 (atI L11 (2 : Int))), (26, .int .i64 (atI L11 (1 : Int))), (22, .int .i64 (atI L11 (0 : Int))), (6, .slice (some ⟨g54, 0, none⟩) L11.length c22), (4, .pointer (some ⟨w.heap.size, 0, none⟩))] := hF625
            clear hF625
            refine any_many 1 [(12, some (.agg #[.int .i64 (x603), .int .i64 (x611), .int .i64 (x619), .int .i64 0, .int .i64 0, .int .i64 0, .int .i64 0, .int .i64 0, .int .i64 0, .int .i64 (-1)]))] [4, 6, 8, 32] #[true, true, true, true, true, true, true, true, true, true, true, true, true, true, false] (by rfl) hF626 (by kernel_rfl) (by kernel_rfl) (by exact (And.intro (fun wS hw => by kernel_rfl) trivial)) (fun _ _ _ _ _ h => h) ⟨_, St.ordP [BlkP ((w15.drew).heap.size) 43 #[.int .i64 0, .int .i64 0, .int .i64 0, .int .i64 0, .int .i64 0, .int .i64 0, .int .i64 0, .int .i64 0, .int .i64 0, .int .i64 0], RowP (.slice (some ⟨g54, 0, none⟩) L11.length c22) L11, HeapP b0 ab0 s0, BlkP (w.heap.size) 43 #[.int .i64 0, .int .i64 0, .int .i64 0, .int .i64 0, .int .i64 0, .int .i64 0, .int .i64 0, .int .i64 0, .int .i64 0, .int .i64 0]] ps hS624 [1, 0, 2, 3] [] (by kernel_rfl)⟩ (l' := [(32, .agg #[.int .i64 (x603), .int .i64 (x611), .int .i64 (x619), .int .i64 0, .int .i64 0, .int .i64 0, .int .i64 0, .int .i64 0, .int .i64 0, .int .i64 (-1)]), (8, .pointer (some ⟨(w15.drew).heap.size, 0, none⟩)), (6, .slice (some ⟨g54, 0, none⟩) L11.length c22), (4, .pointer (some ⟨w.heap.size, 0, none⟩))]) (by kernel_rfl) ?_
            intro a628 hF627; clear hF626
            refine any_one 14 (by kernel_rfl) ?_
            refine op_store 14 #[true, true, true, true, true, true, true, true, true, true, true, true, true, true, true] (.agg #[.int .i64 (x603), .int .i64 (x611), .int .i64 (x619), .int .i64 0, .int .i64 0, .int .i64 0, .int .i64 0, .int .i64 0, .int .i64 0, .int .i64 (-1)]) #[.int .i64 (x603), .int .i64 (x611), .int .i64 (x619), .int .i64 0, .int .i64 0, .int .i64 0, .int .i64 0, .int .i64 0, .int .i64 0, .int .i64 (-1)] hF627 rfl (by kernel_rfl) rfl rfl rfl rfl (by kernel_rfl) hS624 (by kernel_rfl) (by kernel_rfl) (by kernel_rfl) (l' := [(32, .agg #[.int .i64 (x603), .int .i64 (x611), .int .i64 (x619), .int .i64 0, .int .i64 0, .int .i64 0, .int .i64 0, .int .i64 0, .int .i64 0, .int .i64 (-1)]), (8, .pointer (some ⟨(w15.drew).heap.size, 0, none⟩)), (6, .slice (some ⟨g54, 0, none⟩) L11.length c22), (4, .pointer (some ⟨w.heap.size, 0, none⟩))]) (by kernel_rfl) (by kernel_rfl) ?_
            intro w629 a630 hS631 hF632; clear hF627 hS624
            refine ⟨⟨_, St.ordP [BlkP ((w15.drew).heap.size) 43 #[.int .i64 (x603), .int .i64 (x611), .int .i64 (x619), .int .i64 0, .int .i64 0, .int .i64 0, .int .i64 0, .int .i64 0, .int .i64 0, .int .i64 (-1)], RowP (.slice (some ⟨g54, 0, none⟩) L11.length c22) L11, HeapP b0 ab0 s0, BlkP (w.heap.size) 43 #[.int .i64 0, .int .i64 0, .int .i64 0, .int .i64 0, .int .i64 0, .int .i64 0, .int .i64 0, .int .i64 0, .int .i64 0, .int .i64 0]] ps hS631 [1, 0, 2, 3] [] (by kernel_rfl)⟩, ?_⟩
            refine any_done (by kernel_rfl) ?_
            have hF633 : Fr 51 a630 [(8, .pointer (some ⟨(w15.drew).heap.size, 0, none⟩)), (6, .slice (some ⟨g54, 0, none⟩) L11.length c22), (4, .pointer (some ⟨w.heap.size, 0, none⟩))] := hF632.keep [4, 6, 8]
            clear hF632
            refine thenN ?_
            refine wp_seq ?_
            refine wp_seq ?_
            refine wp_region_lit ?_
            refine ev_runs 1 hF633 (l' := [(33, .int .i64 0), (8, .pointer (some ⟨(w15.drew).heap.size, 0, none⟩)), (6, .slice (some ⟨g54, 0, none⟩) L11.length c22), (4, .pointer (some ⟨w.heap.size, 0, none⟩))]) (w' := w629) (by kernel_rfl) ?_
            intro a635 hF634; clear hF633
            refine wpList_nil ?_
            refine thenN ?_
            refine wp_block ?_
            refine wp_loop_ghost (fun kI aI wI => ∃ (x636 : Int) (x637 : Int) (x638 : Int) (x639 : Int) (x640 : Int) (x641 : Int) (x642 : Int), Fr 51 aI [(33, .int .i64 (x642)), (8, .pointer (some ⟨(w15.drew).heap.size, 0, none⟩)), (6, .slice (some ⟨g54, 0, none⟩) L11.length c22), (4, .pointer (some ⟨w.heap.size, 0, none⟩))] ∧ St w0 F0 (BlkP ((w15.drew).heap.size) 43 #[.int .i64 (x603), .int .i64 (x611), .int .i64 (x619), .int .i64 (x636), .int .i64 (x637), .int .i64 (x638), .int .i64 (x639), .int .i64 (x640), .int .i64 (x641), .int .i64 (-1)] :: RowP (.slice (some ⟨g54, 0, none⟩) L11.length c22) L11 :: HeapP b0 ab0 s0 :: BlkP (w.heap.size) 43 #[.int .i64 0, .int .i64 0, .int .i64 0, .int .i64 0, .int .i64 0, .int .i64 0, .int .i64 0, .int .i64 0, .int .i64 0, .int .i64 0] :: ps) wI ∧ view_Gor.l1 s0 L11 x603 x611 x619 kI x636 x637 x638 x639 x640 x641 x642 = some (r0, r1, t0)) k ⟨0, 0, 0, 0, 0, 0, 0, hF634, hS631, hm621⟩ ?_
            rintro k643 a644 w645 ⟨x636, x637, x638, x639, x640, x641, x642, hF646, hS647, hm648⟩
            clear hF634 hS631 hm621
            cases k643 with
            | zero => cases hm648
            | succ k643 =>
              have hm649 : view_Gor.l1b s0 L11 x603 x611 x619 (view_Gor.l1 s0 L11 x603 x611 x619 k643) x636 x637 x638 x639 x640 x641 x642 = some (r0, r1, t0) := hm648
              clear hm648
              unfold view_Gor.l1b at hm649
              refine wp_seq ?_
              refine wp_region_lit ?_
              refine ev_runs 1 hF646 (l' := [(34, .bool (decide (x642 < 6))), (33, .int .i64 (x642)), (8, .pointer (some ⟨(w15.drew).heap.size, 0, none⟩)), (6, .slice (some ⟨g54, 0, none⟩) L11.length c22), (4, .pointer (some ⟨w.heap.size, 0, none⟩))]) (w' := w645) (by kernel_rfl) ?_
              intro a651 hF650; clear hF646
              refine wpList_nil ?_
              refine thenN ?_
              refine wp_seq ?_
              cases hc652 : (decide (x642 < 6)) with
              | true =>
                rw [hc652] at hF650
                rw [hc652] at hm649
                have hm653 := ifT hm649; clear hm649
                refine ev_condT hF650 rfl rfl ?_
                refine wp_skip ?_
                have hF654 : Fr 51 a651 [(33, .int .i64 (x642)), (8, .pointer (some ⟨(w15.drew).heap.size, 0, none⟩)), (6, .slice (some ⟨g54, 0, none⟩) L11.length c22), (4, .pointer (some ⟨w.heap.size, 0, none⟩))] := hF650.keep [4, 6, 8, 33]
                clear hF650
                refine thenN ?_
                refine wp_seq ?_
                refine wp_block ?_
                refine wp_seq ?_
                refine wp_region_lit ?_
                refine ev_runs 2 hF654 (l' := [(9, .int .i64 (x642)), (35, .int .i64 (x642)), (33, .int .i64 (x642)), (8, .pointer (some ⟨(w15.drew).heap.size, 0, none⟩)), (6, .slice (some ⟨g54, 0, none⟩) L11.length c22), (4, .pointer (some ⟨w.heap.size, 0, none⟩))]) (w' := w645) (by kernel_rfl) ?_
                intro a656 hF655; clear hF654
                refine wpList_nil ?_
                have hF657 : Fr 51 a656 [(9, .int .i64 (x642)), (33, .int .i64 (x642)), (8, .pointer (some ⟨(w15.drew).heap.size, 0, none⟩)), (6, .slice (some ⟨g54, 0, none⟩) L11.length c22), (4, .pointer (some ⟨w.heap.size, 0, none⟩))] := hF655.keep [4, 6, 8, 9, 33]
                clear hF655
                refine thenN ?_
                refine wp_region_lit ?_
                refine ev_runs 4 hF657 (l' := [(39, .int .i64 (IntKind.i64.wrap (3 + x642))), (38, .int .i64 (x642)), (37, .slice (some ⟨g54, 0, none⟩) L11.length c22), (36, .int .i64 (x642)), (9, .int .i64 (x642)), (33, .int .i64 (x642)), (8, .pointer (some ⟨(w15.drew).heap.size, 0, none⟩)), (6, .slice (some ⟨g54, 0, none⟩) L11.length c22), (4, .pointer (some ⟨w.heap.size, 0, none⟩))]) (w' := w645) (by kernel_rfl) ?_
                intro a659 hF658; clear hF657
                cases hc660 : (inR (IntKind.i64.wrap (3 + x642)) L11.length) with
                | false => rw [hc660] at hm653; cases hm653
                | true =>
                  rw [hc660] at hm653
                  have hm661 := ifT hm653; clear hm653
                  refine ev_one (.pointer (some ⟨g54, (IntKind.i64.wrap (3 + x642)).toNat, none⟩)) w645 hF658 (by kernel_rfl) rfl (by kernel_rfl) (run_idx rfl rfl rfl rfl rfl (inR_spec hc660).1 (inR_spec hc660).2 _) (l' := [(40, .pointer (some ⟨g54, (IntKind.i64.wrap (3 + x642)).toNat, none⟩)), (39, .int .i64 (IntKind.i64.wrap (3 + x642))), (38, .int .i64 (x642)), (37, .slice (some ⟨g54, 0, none⟩) L11.length c22), (36, .int .i64 (x642)), (9, .int .i64 (x642)), (33, .int .i64 (x642)), (8, .pointer (some ⟨(w15.drew).heap.size, 0, none⟩)), (6, .slice (some ⟨g54, 0, none⟩) L11.length c22), (4, .pointer (some ⟨w.heap.size, 0, none⟩))]) (by kernel_rfl) ?_
                  intro a663 hF662; clear hF658
                  refine ev_one (.int .i64 (atI L11 (IntKind.i64.wrap (3 + x642)))) w645 hF662 (by kernel_rfl) rfl (by kernel_rfl) (run_load1 rfl rfl rfl (hS647.atI 1 rfl hc660)) (l' := [(41, .int .i64 (atI L11 (IntKind.i64.wrap (3 + x642)))), (40, .pointer (some ⟨g54, (IntKind.i64.wrap (3 + x642)).toNat, none⟩)), (39, .int .i64 (IntKind.i64.wrap (3 + x642))), (38, .int .i64 (x642)), (37, .slice (some ⟨g54, 0, none⟩) L11.length c22), (36, .int .i64 (x642)), (9, .int .i64 (x642)), (33, .int .i64 (x642)), (8, .pointer (some ⟨(w15.drew).heap.size, 0, none⟩)), (6, .slice (some ⟨g54, 0, none⟩) L11.length c22), (4, .pointer (some ⟨w.heap.size, 0, none⟩))]) (by kernel_rfl) ?_
                  intro a665 hF664; clear hF662
                  refine ev_runs 1 hF664 (l' := [(42, .pointer (some ⟨(w15.drew).heap.size, 3, none⟩)), (41, .int .i64 (atI L11 (IntKind.i64.wrap (3 + x642)))), (40, .pointer (some ⟨g54, (IntKind.i64.wrap (3 + x642)).toNat, none⟩)), (39, .int .i64 (IntKind.i64.wrap (3 + x642))), (38, .int .i64 (x642)), (37, .slice (some ⟨g54, 0, none⟩) L11.length c22), (36, .int .i64 (x642)), (9, .int .i64 (x642)), (33, .int .i64 (x642)), (8, .pointer (some ⟨(w15.drew).heap.size, 0, none⟩)), (6, .slice (some ⟨g54, 0, none⟩) L11.length c22), (4, .pointer (some ⟨w.heap.size, 0, none⟩))]) (w' := w645) (by kernel_rfl) ?_
                  intro a667 hF666; clear hF664
                  cases hc668 : (x642 == 0) with
                  | true =>
                    rw [hc668] at hm661
                    have hm669 := ifT hm661; clear hm661
                    refine ev_one (.pointer (some ⟨(w15.drew).heap.size, 3, none⟩)) w645 hF666 (by kernel_rfl) rfl (by kernel_rfl) (run_idxA (q := 0) rfl rfl rfl rfl (congrArg (Value.int .i64) (eq_of_beq hc668)) (by decide) (by decide) (by kernel_rfl) _) (l' := [(43, .pointer (some ⟨(w15.drew).heap.size, 3, none⟩)), (42, .pointer (some ⟨(w15.drew).heap.size, 3, none⟩)), (41, .int .i64 (atI L11 (IntKind.i64.wrap (3 + x642)))), (40, .pointer (some ⟨g54, (IntKind.i64.wrap (3 + x642)).toNat, none⟩)), (39, .int .i64 (IntKind.i64.wrap (3 + x642))), (38, .int .i64 (x642)), (37, .slice (some ⟨g54, 0, none⟩) L11.length c22), (36, .int .i64 (x642)), (9, .int .i64 (x642)), (33, .int .i64 (x642)), (8, .pointer (some ⟨(w15.drew).heap.size, 0, none⟩)), (6, .slice (some ⟨g54, 0, none⟩) L11.length c22), (4, .pointer (some ⟨w.heap.size, 0, none⟩))]) (by kernel_rfl) ?_
                    intro a671 hF670; clear hF666
                    refine ev_store (.int .i64 (atI L11 (IntKind.i64.wrap (3 + x642)))) #[.int .i64 (x603), .int .i64 (x611), .int .i64 (x619), .int .i64 (atI L11 (IntKind.i64.wrap (3 + x642))), .int .i64 (x637), .int .i64 (x638), .int .i64 (x639), .int .i64 (x640), .int .i64 (x641), .int .i64 (-1)] hF670 (by kernel_rfl) rfl rfl rfl rfl (by kernel_rfl) hS647 (by kernel_rfl) (by kernel_rfl) (by kernel_rfl) (l' := [(43, .pointer (some ⟨(w15.drew).heap.size, 3, none⟩)), (42, .pointer (some ⟨(w15.drew).heap.size, 3, none⟩)), (41, .int .i64 (atI L11 (IntKind.i64.wrap (3 + x642)))), (40, .pointer (some ⟨g54, (IntKind.i64.wrap (3 + x642)).toNat, none⟩)), (39, .int .i64 (IntKind.i64.wrap (3 + x642))), (38, .int .i64 (x642)), (37, .slice (some ⟨g54, 0, none⟩) L11.length c22), (36, .int .i64 (x642)), (9, .int .i64 (x642)), (33, .int .i64 (x642)), (8, .pointer (some ⟨(w15.drew).heap.size, 0, none⟩)), (6, .slice (some ⟨g54, 0, none⟩) L11.length c22), (4, .pointer (some ⟨w.heap.size, 0, none⟩))]) (by kernel_rfl) ?_
                    intro w672 a673 hS674 hF675; clear hF670 hS647
                    refine wpList_nil ?_
                    have hF676 : Fr 51 a673 [(33, .int .i64 (x642)), (8, .pointer (some ⟨(w15.drew).heap.size, 0, none⟩)), (6, .slice (some ⟨g54, 0, none⟩) L11.length c22), (4, .pointer (some ⟨w.heap.size, 0, none⟩))] := hF675.keep [4, 6, 8, 33]
                    clear hF675
                    refine blockN ?_
                    refine thenN ?_
                    refine wp_region_lit ?_
                    refine ev_runs 2 hF676 (l' := [(33, .int .i64 (IntKind.i64.wrap (x642 + 1))), (44, .int .i64 (IntKind.i64.wrap (x642 + 1))), (8, .pointer (some ⟨(w15.drew).heap.size, 0, none⟩)), (6, .slice (some ⟨g54, 0, none⟩) L11.length c22), (4, .pointer (some ⟨w.heap.size, 0, none⟩))]) (w' := w672) (by kernel_rfl) ?_
                    intro a678 hF677; clear hF676
                    refine wpList_nil ?_
                    have hF679 : Fr 51 a678 [(33, .int .i64 (IntKind.i64.wrap (x642 + 1))), (8, .pointer (some ⟨(w15.drew).heap.size, 0, none⟩)), (6, .slice (some ⟨g54, 0, none⟩) L11.length c22), (4, .pointer (some ⟨w.heap.size, 0, none⟩))] := hF677.keep [4, 6, 8, 33]
                    clear hF677
                    exact thenN ⟨k643, Nat.lt_succ_self _, atI L11 (IntKind.i64.wrap (3 + x642)), x637, x638, x639, x640, x641, IntKind.i64.wrap (x642 + 1), hF679, hS674, hm669⟩
                  | false =>
                    rw [hc668] at hm661
                    have hm680 := ifF hm661; clear hm661
                    cases hc681 : (x642 == 1) with
                    | true =>
                      rw [hc681] at hm680
                      have hm682 := ifT hm680; clear hm680
                      refine ev_one (.pointer (some ⟨(w15.drew).heap.size, 4, none⟩)) w645 hF666 (by kernel_rfl) rfl (by kernel_rfl) (run_idxA (q := 1) rfl rfl rfl rfl (congrArg (Value.int .i64) (eq_of_beq hc681)) (by decide) (by decide) (by kernel_rfl) _) (l' := [(43, .pointer (some ⟨(w15.drew).heap.size, 4, none⟩)), (42, .pointer (some ⟨(w15.drew).heap.size, 3, none⟩)), (41, .int .i64 (atI L11 (IntKind.i64.wrap (3 + x642)))), (40, .pointer (some ⟨g54, (IntKind.i64.wrap (3 + x642)).toNat, none⟩)), (39, .int .i64 (IntKind.i64.wrap (3 + x642))), (38, .int .i64 (x642)), (37, .slice (some ⟨g54, 0, none⟩) L11.length c22), (36, .int .i64 (x642)), (9, .int .i64 (x642)), (33, .int .i64 (x642)), (8, .pointer (some ⟨(w15.drew).heap.size, 0, none⟩)), (6, .slice (some ⟨g54, 0, none⟩) L11.length c22), (4, .pointer (some ⟨w.heap.size, 0, none⟩))]) (by kernel_rfl) ?_
                      intro a684 hF683; clear hF666
                      refine ev_store (.int .i64 (atI L11 (IntKind.i64.wrap (3 + x642)))) #[.int .i64 (x603), .int .i64 (x611), .int .i64 (x619), .int .i64 (x636), .int .i64 (atI L11 (IntKind.i64.wrap (3 + x642))), .int .i64 (x638), .int .i64 (x639), .int .i64 (x640), .int .i64 (x641), .int .i64 (-1)] hF683 (by kernel_rfl) rfl rfl rfl rfl (by kernel_rfl) hS647 (by kernel_rfl) (by kernel_rfl) (by kernel_rfl) (l' := [(43, .pointer (some ⟨(w15.drew).heap.size, 4, none⟩)), (42, .pointer (some ⟨(w15.drew).heap.size, 3, none⟩)), (41, .int .i64 (atI L11 (IntKind.i64.wrap (3 + x642)))), (40, .pointer (some ⟨g54, (IntKind.i64.wrap (3 + x642)).toNat, none⟩)), (39, .int .i64 (IntKind.i64.wrap (3 + x642))), (38, .int .i64 (x642)), (37, .slice (some ⟨g54, 0, none⟩) L11.length c22), (36, .int .i64 (x642)), (9, .int .i64 (x642)), (33, .int .i64 (x642)), (8, .pointer (some ⟨(w15.drew).heap.size, 0, none⟩)), (6, .slice (some ⟨g54, 0, none⟩) L11.length c22), (4, .pointer (some ⟨w.heap.size, 0, none⟩))]) (by kernel_rfl) ?_
                      intro w685 a686 hS687 hF688; clear hF683 hS647
                      refine wpList_nil ?_
                      have hF689 : Fr 51 a686 [(33, .int .i64 (x642)), (8, .pointer (some ⟨(w15.drew).heap.size, 0, none⟩)), (6, .slice (some ⟨g54, 0, none⟩) L11.length c22), (4, .pointer (some ⟨w.heap.size, 0, none⟩))] := hF688.keep [4, 6, 8, 33]
                      clear hF688
                      refine blockN ?_
                      refine thenN ?_
                      refine wp_region_lit ?_
                      refine ev_runs 2 hF689 (l' := [(33, .int .i64 (IntKind.i64.wrap (x642 + 1))), (44, .int .i64 (IntKind.i64.wrap (x642 + 1))), (8, .pointer (some ⟨(w15.drew).heap.size, 0, none⟩)), (6, .slice (some ⟨g54, 0, none⟩) L11.length c22), (4, .pointer (some ⟨w.heap.size, 0, none⟩))]) (w' := w685) (by kernel_rfl) ?_
                      intro a691 hF690; clear hF689
                      refine wpList_nil ?_
                      have hF692 : Fr 51 a691 [(33, .int .i64 (IntKind.i64.wrap (x642 + 1))), (8, .pointer (some ⟨(w15.drew).heap.size, 0, none⟩)), (6, .slice (some ⟨g54, 0, none⟩) L11.length c22), (4, .pointer (some ⟨w.heap.size, 0, none⟩))] := hF690.keep [4, 6, 8, 33]
                      clear hF690
                      exact thenN ⟨k643, Nat.lt_succ_self _, x636, atI L11 (IntKind.i64.wrap (3 + x642)), x638, x639, x640, x641, IntKind.i64.wrap (x642 + 1), hF692, hS687, hm682⟩
                    | false =>
                      rw [hc681] at hm680
                      have hm693 := ifF hm680; clear hm680
                      cases hc694 : (x642 == 2) with
                      | true =>
                        rw [hc694] at hm693
                        have hm695 := ifT hm693; clear hm693
                        refine ev_one (.pointer (some ⟨(w15.drew).heap.size, 5, none⟩)) w645 hF666 (by kernel_rfl) rfl (by kernel_rfl) (run_idxA (q := 2) rfl rfl rfl rfl (congrArg (Value.int .i64) (eq_of_beq hc694)) (by decide) (by decide) (by kernel_rfl) _) (l' := [(43, .pointer (some ⟨(w15.drew).heap.size, 5, none⟩)), (42, .pointer (some ⟨(w15.drew).heap.size, 3, none⟩)), (41, .int .i64 (atI L11 (IntKind.i64.wrap (3 + x642)))), (40, .pointer (some ⟨g54, (IntKind.i64.wrap (3 + x642)).toNat, none⟩)), (39, .int .i64 (IntKind.i64.wrap (3 + x642))), (38, .int .i64 (x642)), (37, .slice (some ⟨g54, 0, none⟩) L11.length c22), (36, .int .i64 (x642)), (9, .int .i64 (x642)), (33, .int .i64 (x642)), (8, .pointer (some ⟨(w15.drew).heap.size, 0, none⟩)), (6, .slice (some ⟨g54, 0, none⟩) L11.length c22), (4, .pointer (some ⟨w.heap.size, 0, none⟩))]) (by kernel_rfl) ?_
                        intro a697 hF696; clear hF666
                        refine ev_store (.int .i64 (atI L11 (IntKind.i64.wrap (3 + x642)))) #[.int .i64 (x603), .int .i64 (x611), .int .i64 (x619), .int .i64 (x636), .int .i64 (x637), .int .i64 (atI L11 (IntKind.i64.wrap (3 + x642))), .int .i64 (x639), .int .i64 (x640), .int .i64 (x641), .int .i64 (-1)] hF696 (by kernel_rfl) rfl rfl rfl rfl (by kernel_rfl) hS647 (by kernel_rfl) (by kernel_rfl) (by kernel_rfl) (l' := [(43, .pointer (some ⟨(w15.drew).heap.size, 5, none⟩)), (42, .pointer (some ⟨(w15.drew).heap.size, 3, none⟩)), (41, .int .i64 (atI L11 (IntKind.i64.wrap (3 + x642)))), (40, .pointer (some ⟨g54, (IntKind.i64.wrap (3 + x642)).toNat, none⟩)), (39, .int .i64 (IntKind.i64.wrap (3 + x642))), (38, .int .i64 (x642)), (37, .slice (some ⟨g54, 0, none⟩) L11.length c22), (36, .int .i64 (x642)), (9, .int .i64 (x642)), (33, .int .i64 (x642)), (8, .pointer (some ⟨(w15.drew).heap.size, 0, none⟩)), (6, .slice (some ⟨g54, 0, none⟩) L11.length c22), (4, .pointer (some ⟨w.heap.size, 0, none⟩))]) (by kernel_rfl) ?_
                        intro w698 a699 hS700 hF701; clear hF696 hS647
                        refine wpList_nil ?_
                        have hF702 : Fr 51 a699 [(33, .int .i64 (x642)), (8, .pointer (some ⟨(w15.drew).heap.size, 0, none⟩)), (6, .slice (some ⟨g54, 0, none⟩) L11.length c22), (4, .pointer (some ⟨w.heap.size, 0, none⟩))] := hF701.keep [4, 6, 8, 33]
                        clear hF701
                        refine blockN ?_
                        refine thenN ?_
                        refine wp_region_lit ?_
                        refine ev_runs 2 hF702 (l' := [(33, .int .i64 (IntKind.i64.wrap (x642 + 1))), (44, .int .i64 (IntKind.i64.wrap (x642 + 1))), (8, .pointer (some ⟨(w15.drew).heap.size, 0, none⟩)), (6, .slice (some ⟨g54, 0, none⟩) L11.length c22), (4, .pointer (some ⟨w.heap.size, 0, none⟩))]) (w' := w698) (by kernel_rfl) ?_
                        intro a704 hF703; clear hF702
                        refine wpList_nil ?_
                        have hF705 : Fr 51 a704 [(33, .int .i64 (IntKind.i64.wrap (x642 + 1))), (8, .pointer (some ⟨(w15.drew).heap.size, 0, none⟩)), (6, .slice (some ⟨g54, 0, none⟩) L11.length c22), (4, .pointer (some ⟨w.heap.size, 0, none⟩))] := hF703.keep [4, 6, 8, 33]
                        clear hF703
                        exact thenN ⟨k643, Nat.lt_succ_self _, x636, x637, atI L11 (IntKind.i64.wrap (3 + x642)), x639, x640, x641, IntKind.i64.wrap (x642 + 1), hF705, hS700, hm695⟩
                      | false =>
                        rw [hc694] at hm693
                        have hm706 := ifF hm693; clear hm693
                        cases hc707 : (x642 == 3) with
                        | true =>
                          rw [hc707] at hm706
                          have hm708 := ifT hm706; clear hm706
                          refine ev_one (.pointer (some ⟨(w15.drew).heap.size, 6, none⟩)) w645 hF666 (by kernel_rfl) rfl (by kernel_rfl) (run_idxA (q := 3) rfl rfl rfl rfl (congrArg (Value.int .i64) (eq_of_beq hc707)) (by decide) (by decide) (by kernel_rfl) _) (l' := [(43, .pointer (some ⟨(w15.drew).heap.size, 6, none⟩)), (42, .pointer (some ⟨(w15.drew).heap.size, 3, none⟩)), (41, .int .i64 (atI L11 (IntKind.i64.wrap (3 + x642)))), (40, .pointer (some ⟨g54, (IntKind.i64.wrap (3 + x642)).toNat, none⟩)), (39, .int .i64 (IntKind.i64.wrap (3 + x642))), (38, .int .i64 (x642)), (37, .slice (some ⟨g54, 0, none⟩) L11.length c22), (36, .int .i64 (x642)), (9, .int .i64 (x642)), (33, .int .i64 (x642)), (8, .pointer (some ⟨(w15.drew).heap.size, 0, none⟩)), (6, .slice (some ⟨g54, 0, none⟩) L11.length c22), (4, .pointer (some ⟨w.heap.size, 0, none⟩))]) (by kernel_rfl) ?_
                          intro a710 hF709; clear hF666
                          refine ev_store (.int .i64 (atI L11 (IntKind.i64.wrap (3 + x642)))) #[.int .i64 (x603), .int .i64 (x611), .int .i64 (x619), .int .i64 (x636), .int .i64 (x637), .int .i64 (x638), .int .i64 (atI L11 (IntKind.i64.wrap (3 + x642))), .int .i64 (x640), .int .i64 (x641), .int .i64 (-1)] hF709 (by kernel_rfl) rfl rfl rfl rfl (by kernel_rfl) hS647 (by kernel_rfl) (by kernel_rfl) (by kernel_rfl) (l' := [(43, .pointer (some ⟨(w15.drew).heap.size, 6, none⟩)), (42, .pointer (some ⟨(w15.drew).heap.size, 3, none⟩)), (41, .int .i64 (atI L11 (IntKind.i64.wrap (3 + x642)))), (40, .pointer (some ⟨g54, (IntKind.i64.wrap (3 + x642)).toNat, none⟩)), (39, .int .i64 (IntKind.i64.wrap (3 + x642))), (38, .int .i64 (x642)), (37, .slice (some ⟨g54, 0, none⟩) L11.length c22), (36, .int .i64 (x642)), (9, .int .i64 (x642)), (33, .int .i64 (x642)), (8, .pointer (some ⟨(w15.drew).heap.size, 0, none⟩)), (6, .slice (some ⟨g54, 0, none⟩) L11.length c22), (4, .pointer (some ⟨w.heap.size, 0, none⟩))]) (by kernel_rfl) ?_
                          intro w711 a712 hS713 hF714; clear hF709 hS647
                          refine wpList_nil ?_
                          have hF715 : Fr 51 a712 [(33, .int .i64 (x642)), (8, .pointer (some ⟨(w15.drew).heap.size, 0, none⟩)), (6, .slice (some ⟨g54, 0, none⟩) L11.length c22), (4, .pointer (some ⟨w.heap.size, 0, none⟩))] := hF714.keep [4, 6, 8, 33]
                          clear hF714
                          refine blockN ?_
                          refine thenN ?_
                          refine wp_region_lit ?_
                          refine ev_runs 2 hF715 (l' := [(33, .int .i64 (IntKind.i64.wrap (x642 + 1))), (44, .int .i64 (IntKind.i64.wrap (x642 + 1))), (8, .pointer (some ⟨(w15.drew).heap.size, 0, none⟩)), (6, .slice (some ⟨g54, 0, none⟩) L11.length c22), (4, .pointer (some ⟨w.heap.size, 0, none⟩))]) (w' := w711) (by kernel_rfl) ?_
                          intro a717 hF716; clear hF715
                          refine wpList_nil ?_
                          have hF718 : Fr 51 a717 [(33, .int .i64 (IntKind.i64.wrap (x642 + 1))), (8, .pointer (some ⟨(w15.drew).heap.size, 0, none⟩)), (6, .slice (some ⟨g54, 0, none⟩) L11.length c22), (4, .pointer (some ⟨w.heap.size, 0, none⟩))] := hF716.keep [4, 6, 8, 33]
                          clear hF716
                          exact thenN ⟨k643, Nat.lt_succ_self _, x636, x637, x638, atI L11 (IntKind.i64.wrap (3 + x642)), x640, x641, IntKind.i64.wrap (x642 + 1), hF718, hS713, hm708⟩
                        | false =>
                          rw [hc707] at hm706
                          have hm719 := ifF hm706; clear hm706
                          cases hc720 : (x642 == 4) with
                          | true =>
                            rw [hc720] at hm719
                            have hm721 := ifT hm719; clear hm719
                            refine ev_one (.pointer (some ⟨(w15.drew).heap.size, 7, none⟩)) w645 hF666 (by kernel_rfl) rfl (by kernel_rfl) (run_idxA (q := 4) rfl rfl rfl rfl (congrArg (Value.int .i64) (eq_of_beq hc720)) (by decide) (by decide) (by kernel_rfl) _) (l' := [(43, .pointer (some ⟨(w15.drew).heap.size, 7, none⟩)), (42, .pointer (some ⟨(w15.drew).heap.size, 3, none⟩)), (41, .int .i64 (atI L11 (IntKind.i64.wrap (3 + x642)))), (40, .pointer (some ⟨g54, (IntKind.i64.wrap (3 + x642)).toNat, none⟩)), (39, .int .i64 (IntKind.i64.wrap (3 + x642))), (38, .int .i64 (x642)), (37, .slice (some ⟨g54, 0, none⟩) L11.length c22), (36, .int .i64 (x642)), (9, .int .i64 (x642)), (33, .int .i64 (x642)), (8, .pointer (some ⟨(w15.drew).heap.size, 0, none⟩)), (6, .slice (some ⟨g54, 0, none⟩) L11.length c22), (4, .pointer (some ⟨w.heap.size, 0, none⟩))]) (by kernel_rfl) ?_
                            intro a723 hF722; clear hF666
                            refine ev_store (.int .i64 (atI L11 (IntKind.i64.wrap (3 + x642)))) #[.int .i64 (x603), .int .i64 (x611), .int .i64 (x619), .int .i64 (x636), .int .i64 (x637), .int .i64 (x638), .int .i64 (x639), .int .i64 (atI L11 (IntKind.i64.wrap (3 + x642))), .int .i64 (x641), .int .i64 (-1)] hF722 (by kernel_rfl) rfl rfl rfl rfl (by kernel_rfl) hS647 (by kernel_rfl) (by kernel_rfl) (by kernel_rfl) (l' := [(43, .pointer (some ⟨(w15.drew).heap.size, 7, none⟩)), (42, .pointer (some ⟨(w15.drew).heap.size, 3, none⟩)), (41, .int .i64 (atI L11 (IntKind.i64.wrap (3 + x642)))), (40, .pointer (some ⟨g54, (IntKind.i64.wrap (3 + x642)).toNat, none⟩)), (39, .int .i64 (IntKind.i64.wrap (3 + x642))), (38, .int .i64 (x642)), (37, .slice (some ⟨g54, 0, none⟩) L11.length c22), (36, .int .i64 (x642)), (9, .int .i64 (x642)), (33, .int .i64 (x642)), (8, .pointer (some ⟨(w15.drew).heap.size, 0, none⟩)), (6, .slice (some ⟨g54, 0, none⟩) L11.length c22), (4, .pointer (some ⟨w.heap.size, 0, none⟩))]) (by kernel_rfl) ?_
                            intro w724 a725 hS726 hF727; clear hF722 hS647
                            refine wpList_nil ?_
                            have hF728 : Fr 51 a725 [(33, .int .i64 (x642)), (8, .pointer (some ⟨(w15.drew).heap.size, 0, none⟩)), (6, .slice (some ⟨g54, 0, none⟩) L11.length c22), (4, .pointer (some ⟨w.heap.size, 0, none⟩))] := hF727.keep [4, 6, 8, 33]
                            clear hF727
                            refine blockN ?_
                            refine thenN ?_
                            refine wp_region_lit ?_
                            refine ev_runs 2 hF728 (l' := [(33, .int .i64 (IntKind.i64.wrap (x642 + 1))), (44, .int .i64 (IntKind.i64.wrap (x642 + 1))), (8, .pointer (some ⟨(w15.drew).heap.size, 0, none⟩)), (6, .slice (some ⟨g54, 0, none⟩) L11.length c22), (4, .pointer (some ⟨w.heap.size, 0, none⟩))]) (w' := w724) (by kernel_rfl) ?_
                            intro a730 hF729; clear hF728
                            refine wpList_nil ?_
                            have hF731 : Fr 51 a730 [(33, .int .i64 (IntKind.i64.wrap (x642 + 1))), (8, .pointer (some ⟨(w15.drew).heap.size, 0, none⟩)), (6, .slice (some ⟨g54, 0, none⟩) L11.length c22), (4, .pointer (some ⟨w.heap.size, 0, none⟩))] := hF729.keep [4, 6, 8, 33]
                            clear hF729
                            exact thenN ⟨k643, Nat.lt_succ_self _, x636, x637, x638, x639, atI L11 (IntKind.i64.wrap (3 + x642)), x641, IntKind.i64.wrap (x642 + 1), hF731, hS726, hm721⟩
                          | false =>
                            rw [hc720] at hm719
                            have hm732 := ifF hm719; clear hm719
                            cases hc733 : (x642 == 5) with
                            | true =>
                              rw [hc733] at hm732
                              have hm734 := ifT hm732; clear hm732
                              refine ev_one (.pointer (some ⟨(w15.drew).heap.size, 8, none⟩)) w645 hF666 (by kernel_rfl) rfl (by kernel_rfl) (run_idxA (q := 5) rfl rfl rfl rfl (congrArg (Value.int .i64) (eq_of_beq hc733)) (by decide) (by decide) (by kernel_rfl) _) (l' := [(43, .pointer (some ⟨(w15.drew).heap.size, 8, none⟩)), (42, .pointer (some ⟨(w15.drew).heap.size, 3, none⟩)), (41, .int .i64 (atI L11 (IntKind.i64.wrap (3 + x642)))), (40, .pointer (some ⟨g54, (IntKind.i64.wrap (3 + x642)).toNat, none⟩)), (39, .int .i64 (IntKind.i64.wrap (3 + x642))), (38, .int .i64 (x642)), (37, .slice (some ⟨g54, 0, none⟩) L11.length c22), (36, .int .i64 (x642)), (9, .int .i64 (x642)), (33, .int .i64 (x642)), (8, .pointer (some ⟨(w15.drew).heap.size, 0, none⟩)), (6, .slice (some ⟨g54, 0, none⟩) L11.length c22), (4, .pointer (some ⟨w.heap.size, 0, none⟩))]) (by kernel_rfl) ?_
                              intro a736 hF735; clear hF666
                              refine ev_store (.int .i64 (atI L11 (IntKind.i64.wrap (3 + x642)))) #[.int .i64 (x603), .int .i64 (x611), .int .i64 (x619), .int .i64 (x636), .int .i64 (x637), .int .i64 (x638), .int .i64 (x639), .int .i64 (x640), .int .i64 (atI L11 (IntKind.i64.wrap (3 + x642))), .int .i64 (-1)] hF735 (by kernel_rfl) rfl rfl rfl rfl (by kernel_rfl) hS647 (by kernel_rfl) (by kernel_rfl) (by kernel_rfl) (l' := [(43, .pointer (some ⟨(w15.drew).heap.size, 8, none⟩)), (42, .pointer (some ⟨(w15.drew).heap.size, 3, none⟩)), (41, .int .i64 (atI L11 (IntKind.i64.wrap (3 + x642)))), (40, .pointer (some ⟨g54, (IntKind.i64.wrap (3 + x642)).toNat, none⟩)), (39, .int .i64 (IntKind.i64.wrap (3 + x642))), (38, .int .i64 (x642)), (37, .slice (some ⟨g54, 0, none⟩) L11.length c22), (36, .int .i64 (x642)), (9, .int .i64 (x642)), (33, .int .i64 (x642)), (8, .pointer (some ⟨(w15.drew).heap.size, 0, none⟩)), (6, .slice (some ⟨g54, 0, none⟩) L11.length c22), (4, .pointer (some ⟨w.heap.size, 0, none⟩))]) (by kernel_rfl) ?_
                              intro w737 a738 hS739 hF740; clear hF735 hS647
                              refine wpList_nil ?_
                              have hF741 : Fr 51 a738 [(33, .int .i64 (x642)), (8, .pointer (some ⟨(w15.drew).heap.size, 0, none⟩)), (6, .slice (some ⟨g54, 0, none⟩) L11.length c22), (4, .pointer (some ⟨w.heap.size, 0, none⟩))] := hF740.keep [4, 6, 8, 33]
                              clear hF740
                              refine blockN ?_
                              refine thenN ?_
                              refine wp_region_lit ?_
                              refine ev_runs 2 hF741 (l' := [(33, .int .i64 (IntKind.i64.wrap (x642 + 1))), (44, .int .i64 (IntKind.i64.wrap (x642 + 1))), (8, .pointer (some ⟨(w15.drew).heap.size, 0, none⟩)), (6, .slice (some ⟨g54, 0, none⟩) L11.length c22), (4, .pointer (some ⟨w.heap.size, 0, none⟩))]) (w' := w737) (by kernel_rfl) ?_
                              intro a743 hF742; clear hF741
                              refine wpList_nil ?_
                              have hF744 : Fr 51 a743 [(33, .int .i64 (IntKind.i64.wrap (x642 + 1))), (8, .pointer (some ⟨(w15.drew).heap.size, 0, none⟩)), (6, .slice (some ⟨g54, 0, none⟩) L11.length c22), (4, .pointer (some ⟨w.heap.size, 0, none⟩))] := hF742.keep [4, 6, 8, 33]
                              clear hF742
                              exact thenN ⟨k643, Nat.lt_succ_self _, x636, x637, x638, x639, x640, atI L11 (IntKind.i64.wrap (3 + x642)), IntKind.i64.wrap (x642 + 1), hF744, hS739, hm734⟩
                            | false =>
                              rw [hc733] at hm732
                              have hm745 := ifF hm732; clear hm732
                              exact absurd hm745 (by simp)
              | false =>
                rw [hc652] at hF650
                rw [hc652] at hm649
                have hm746 := ifF hm649; clear hm649
                refine ev_condF hF650 rfl rfl ?_
                refine wp_exit ?_
                refine thenE ?_
                refine thenE ?_
                refine blockE ?_
                refine thenN ?_
                refine wp_seq ?_
                refine wp_region_lit ?_
                refine ev_runs 1 hF650 (l' := [(45, .slice (some ⟨g54, 0, none⟩) L11.length c22), (34, .bool false), (33, .int .i64 (x642)), (8, .pointer (some ⟨(w15.drew).heap.size, 0, none⟩)), (6, .slice (some ⟨g54, 0, none⟩) L11.length c22), (4, .pointer (some ⟨w.heap.size, 0, none⟩))]) (w' := w645) (by kernel_rfl) ?_
                intro a748 hF747; clear hF650
                cases hc749 : (inR (9 : Int) L11.length) with
                | false => rw [hc749] at hm746; cases hm746
                | true =>
                  rw [hc749] at hm746
                  have hm750 := ifT hm746; clear hm746
                  refine ev_one (.pointer (some ⟨g54, (9 : Int).toNat, none⟩)) w645 hF747 (by kernel_rfl) rfl (by kernel_rfl) (run_idx rfl rfl rfl rfl rfl (inR_spec hc749).1 (inR_spec hc749).2 _) (l' := [(46, .pointer (some ⟨g54, (9 : Int).toNat, none⟩)), (45, .slice (some ⟨g54, 0, none⟩) L11.length c22), (34, .bool false), (33, .int .i64 (x642)), (8, .pointer (some ⟨(w15.drew).heap.size, 0, none⟩)), (6, .slice (some ⟨g54, 0, none⟩) L11.length c22), (4, .pointer (some ⟨w.heap.size, 0, none⟩))]) (by kernel_rfl) ?_
                  intro a752 hF751; clear hF747
                  refine ev_one (.int .i64 (atI L11 (9 : Int))) w645 hF751 (by kernel_rfl) rfl (by kernel_rfl) (run_load1 rfl rfl rfl (hS647.atI 1 rfl hc749)) (l' := [(47, .int .i64 (atI L11 (9 : Int))), (46, .pointer (some ⟨g54, (9 : Int).toNat, none⟩)), (45, .slice (some ⟨g54, 0, none⟩) L11.length c22), (34, .bool false), (33, .int .i64 (x642)), (8, .pointer (some ⟨(w15.drew).heap.size, 0, none⟩)), (6, .slice (some ⟨g54, 0, none⟩) L11.length c22), (4, .pointer (some ⟨w.heap.size, 0, none⟩))]) (by kernel_rfl) ?_
                  intro a754 hF753; clear hF751
                  refine ev_call 53 #[.int .i64 (atI L11 (9 : Int))] hF753 rfl rfl (by kernel_rfl) rfl (by kernel_rfl) (fun w => by kernel_rfl) ?_
                  obtain ⟨x755, hx756, hm757⟩ := bind1E hm750; clear hm750
                  refine (p_vAt hS647 hx756).mono ?_
                  rintro _ w758 ⟨rfl, hS760⟩ a759 hF761; clear hF753 hS647
                  have hF762 : Fr 51 a759 [(48, .int .i64 (x755)), (47, .int .i64 (atI L11 (9 : Int))), (46, .pointer (some ⟨g54, (9 : Int).toNat, none⟩)), (45, .slice (some ⟨g54, 0, none⟩) L11.length c22), (34, .bool false), (33, .int .i64 (x642)), (8, .pointer (some ⟨(w15.drew).heap.size, 0, none⟩)), (6, .slice (some ⟨g54, 0, none⟩) L11.length c22), (4, .pointer (some ⟨w.heap.size, 0, none⟩))] := hF761
                  clear hF761
                  refine ev_runs 1 hF762 (l' := [(49, .pointer (some ⟨(w15.drew).heap.size, 9, none⟩)), (48, .int .i64 (x755)), (47, .int .i64 (atI L11 (9 : Int))), (46, .pointer (some ⟨g54, (9 : Int).toNat, none⟩)), (45, .slice (some ⟨g54, 0, none⟩) L11.length c22), (34, .bool false), (33, .int .i64 (x642)), (8, .pointer (some ⟨(w15.drew).heap.size, 0, none⟩)), (6, .slice (some ⟨g54, 0, none⟩) L11.length c22), (4, .pointer (some ⟨w.heap.size, 0, none⟩))]) (w' := w758) (by kernel_rfl) ?_
                  intro a764 hF763; clear hF762
                  refine ev_store (.int .i64 (x755)) #[.int .i64 (x603), .int .i64 (x611), .int .i64 (x619), .int .i64 (x636), .int .i64 (x637), .int .i64 (x638), .int .i64 (x639), .int .i64 (x640), .int .i64 (x641), .int .i64 (x755)] hF763 (by kernel_rfl) rfl rfl rfl rfl (by kernel_rfl) hS760 (by kernel_rfl) (by kernel_rfl) (by kernel_rfl) (l' := [(49, .pointer (some ⟨(w15.drew).heap.size, 9, none⟩)), (48, .int .i64 (x755)), (47, .int .i64 (atI L11 (9 : Int))), (46, .pointer (some ⟨g54, (9 : Int).toNat, none⟩)), (45, .slice (some ⟨g54, 0, none⟩) L11.length c22), (34, .bool false), (33, .int .i64 (x642)), (8, .pointer (some ⟨(w15.drew).heap.size, 0, none⟩)), (6, .slice (some ⟨g54, 0, none⟩) L11.length c22), (4, .pointer (some ⟨w.heap.size, 0, none⟩))]) (by kernel_rfl) ?_
                  intro w765 a766 hS767 hF768; clear hF763 hS760
                  refine wpList_nil ?_
                  have hF769 : Fr 51 a766 [(8, .pointer (some ⟨(w15.drew).heap.size, 0, none⟩)), (4, .pointer (some ⟨w.heap.size, 0, none⟩))] := hF768.keep [4, 8]
                  clear hF768
                  have hS770 : St w0 F0 (BlkP ((w15.drew).heap.size) 43 #[.int .i64 (x603), .int .i64 (x611), .int .i64 (x619), .int .i64 (x636), .int .i64 (x637), .int .i64 (x638), .int .i64 (x639), .int .i64 (x640), .int .i64 (x641), .int .i64 (x755)] :: HeapP b0 ab0 s0 :: BlkP (w.heap.size) 43 #[.int .i64 0, .int .i64 0, .int .i64 0, .int .i64 0, .int .i64 0, .int .i64 0, .int .i64 0, .int .i64 0, .int .i64 0, .int .i64 0] :: ps) w765 := St.ordP [BlkP ((w15.drew).heap.size) 43 #[.int .i64 (x603), .int .i64 (x611), .int .i64 (x619), .int .i64 (x636), .int .i64 (x637), .int .i64 (x638), .int .i64 (x639), .int .i64 (x640), .int .i64 (x641), .int .i64 (x755)], RowP (.slice (some ⟨g54, 0, none⟩) L11.length c22) L11, HeapP b0 ab0 s0, BlkP (w.heap.size) 43 #[.int .i64 0, .int .i64 0, .int .i64 0, .int .i64 0, .int .i64 0, .int .i64 0, .int .i64 0, .int .i64 0, .int .i64 0, .int .i64 0]] ps hS767 [0, 2, 3] [1] (by kernel_rfl)
                  clear hS767
                  refine thenN ?_
                  refine wp_seq ?_
                  refine wp_region_lit ?_
                  refine ev_one (.agg #[.int .i64 (x603), .int .i64 (x611), .int .i64 (x619), .int .i64 (x636), .int .i64 (x637), .int .i64 (x638), .int .i64 (x639), .int .i64 (x640), .int .i64 (x641), .int .i64 (x755)]) w765 hF769 (by kernel_rfl) rfl (by kernel_rfl) (run_loadV rfl rfl (run_loadA (cs := [.int .i64 (x603), .int .i64 (x611), .int .i64 (x619), .int .i64 (x636), .int .i64 (x637), .int .i64 (x638), .int .i64 (x639), .int .i64 (x640), .int .i64 (x641), .int .i64 (x755)]) rfl rfl (by kernel_rfl) (blk_cells hS770 0 rfl rfl))) (l' := [(50, .agg #[.int .i64 (x603), .int .i64 (x611), .int .i64 (x619), .int .i64 (x636), .int .i64 (x637), .int .i64 (x638), .int .i64 (x639), .int .i64 (x640), .int .i64 (x641), .int .i64 (x755)]), (8, .pointer (some ⟨(w15.drew).heap.size, 0, none⟩)), (4, .pointer (some ⟨w.heap.size, 0, none⟩))]) (by kernel_rfl) ?_
                  intro a772 hF771; clear hF769
                  have hS773 : St w0 F0 (BlkP (w.heap.size) 43 #[.int .i64 0, .int .i64 0, .int .i64 0, .int .i64 0, .int .i64 0, .int .i64 0, .int .i64 0, .int .i64 0, .int .i64 0, .int .i64 0] :: BlkP ((w15.drew).heap.size) 43 #[.int .i64 (x603), .int .i64 (x611), .int .i64 (x619), .int .i64 (x636), .int .i64 (x637), .int .i64 (x638), .int .i64 (x639), .int .i64 (x640), .int .i64 (x641), .int .i64 (x755)] :: HeapP b0 ab0 s0 :: ps) w765 := St.ordP [BlkP ((w15.drew).heap.size) 43 #[.int .i64 (x603), .int .i64 (x611), .int .i64 (x619), .int .i64 (x636), .int .i64 (x637), .int .i64 (x638), .int .i64 (x639), .int .i64 (x640), .int .i64 (x641), .int .i64 (x755)], HeapP b0 ab0 s0, BlkP (w.heap.size) 43 #[.int .i64 0, .int .i64 0, .int .i64 0, .int .i64 0, .int .i64 0, .int .i64 0, .int .i64 0, .int .i64 0, .int .i64 0, .int .i64 0]] ps hS770 [2, 0, 1] [] (by kernel_rfl)
                  clear hS770
                  refine ev_store (.agg #[.int .i64 (x603), .int .i64 (x611), .int .i64 (x619), .int .i64 (x636), .int .i64 (x637), .int .i64 (x638), .int .i64 (x639), .int .i64 (x640), .int .i64 (x641), .int .i64 (x755)]) #[.int .i64 (x603), .int .i64 (x611), .int .i64 (x619), .int .i64 (x636), .int .i64 (x637), .int .i64 (x638), .int .i64 (x639), .int .i64 (x640), .int .i64 (x641), .int .i64 (x755)] hF771 (by kernel_rfl) rfl rfl rfl rfl (by kernel_rfl) hS773 (by kernel_rfl) (by kernel_rfl) (by kernel_rfl) (l' := [(50, .agg #[.int .i64 (x603), .int .i64 (x611), .int .i64 (x619), .int .i64 (x636), .int .i64 (x637), .int .i64 (x638), .int .i64 (x639), .int .i64 (x640), .int .i64 (x641), .int .i64 (x755)]), (8, .pointer (some ⟨(w15.drew).heap.size, 0, none⟩)), (4, .pointer (some ⟨w.heap.size, 0, none⟩))]) (by kernel_rfl) ?_
                  intro w774 a775 hS776 hF777; clear hF771 hS773
                  refine ev_runs 1 hF777 (l' := [(5, .int .i64 0), (50, .agg #[.int .i64 (x603), .int .i64 (x611), .int .i64 (x619), .int .i64 (x636), .int .i64 (x637), .int .i64 (x638), .int .i64 (x639), .int .i64 (x640), .int .i64 (x641), .int .i64 (x755)]), (8, .pointer (some ⟨(w15.drew).heap.size, 0, none⟩)), (4, .pointer (some ⟨w.heap.size, 0, none⟩))]) (w' := w774) (by kernel_rfl) ?_
                  intro a779 hF778; clear hF777
                  refine wpList_nil ?_
                  have hF780 : Fr 51 a779 [(5, .int .i64 0), (4, .pointer (some ⟨w.heap.size, 0, none⟩))] := hF778.keep [4, 5]
                  clear hF778
                  have hS781 : St w0 F0 (BlkP (w.heap.size) 43 #[.int .i64 (x603), .int .i64 (x611), .int .i64 (x619), .int .i64 (x636), .int .i64 (x637), .int .i64 (x638), .int .i64 (x639), .int .i64 (x640), .int .i64 (x641), .int .i64 (x755)] :: HeapP b0 ab0 s0 :: ps) w774 := St.ordP [BlkP (w.heap.size) 43 #[.int .i64 (x603), .int .i64 (x611), .int .i64 (x619), .int .i64 (x636), .int .i64 (x637), .int .i64 (x638), .int .i64 (x639), .int .i64 (x640), .int .i64 (x641), .int .i64 (x755)], BlkP ((w15.drew).heap.size) 43 #[.int .i64 (x603), .int .i64 (x611), .int .i64 (x619), .int .i64 (x636), .int .i64 (x637), .int .i64 (x638), .int .i64 (x639), .int .i64 (x640), .int .i64 (x641), .int .i64 (x755)], HeapP b0 ab0 s0] ps hS776 [0, 2] [1] (by kernel_rfl)
                  clear hS776
                  refine thenN ?_
                  refine wp_ret ?_
                  have hS782 : St w0 F0 (HeapP b0 ab0 s0 :: BlkP (w.heap.size) 43 #[.int .i64 (x603), .int .i64 (x611), .int .i64 (x619), .int .i64 (x636), .int .i64 (x637), .int .i64 (x638), .int .i64 (x639), .int .i64 (x640), .int .i64 (x641), .int .i64 (x755)] :: ps) w774 := St.ordP [BlkP (w.heap.size) 43 #[.int .i64 (x603), .int .i64 (x611), .int .i64 (x619), .int .i64 (x636), .int .i64 (x637), .int .i64 (x638), .int .i64 (x639), .int .i64 (x640), .int .i64 (x641), .int .i64 (x755)], HeapP b0 ab0 s0] ps hS781 [1, 0] [] (by kernel_rfl)
                  clear hS781
                  simp only [Option.some.injEq, Prod.mk.injEq] at hm757
                  obtain ⟨rfl, rfl, rfl⟩ := hm757
                  refine ev_retC hF780 _ [.agg #[.int .i64 (x603), .int .i64 (x611), .int .i64 (x619), .int .i64 (x636), .int .i64 (x637), .int .i64 (x638), .int .i64 (x639), .int .i64 (x640), .int .i64 (x641), .int .i64 (x755)], .int .i64 0] (.tuple #[.agg #[.int .i64 (x603), .int .i64 (x611), .int .i64 (x619), .int .i64 (x636), .int .i64 (x637), .int .i64 (x638), .int .i64 (x639), .int .i64 (x640), .int .i64 (x641), .int .i64 (x755)], .int .i64 0]) rfl ⟨⟨rfl, _, rfl, (run_loadA (cs := [.int .i64 (x603), .int .i64 (x611), .int .i64 (x619), .int .i64 (x636), .int .i64 (x637), .int .i64 (x638), .int .i64 (x639), .int .i64 (x640), .int .i64 (x641), .int .i64 (x755)]) rfl rfl (by kernel_rfl) (blk_cells hS782 1 rfl rfl))⟩, ⟨rfl, rfl⟩, trivial⟩ rfl ?_
                  have hS786 : St w0 F0 (HeapP b0 ab0 s0 :: ps) w774 := St.ordP [HeapP b0 ab0 s0, BlkP (w.heap.size) 43 #[.int .i64 (x603), .int .i64 (x611), .int .i64 (x619), .int .i64 (x636), .int .i64 (x637), .int .i64 (x638), .int .i64 (x639), .int .i64 (x640), .int .i64 (x641), .int .i64 (x755)]] ps hS782 [0] [1] (by kernel_rfl)
                  clear hS782
                  exact ⟨rfl, hS786⟩

end Go.Proofs.Ytdnelekoplkkcaa
