/- GView -/
import Derived.Test.YtaihdiccmaincaaGreatKPrimV
import Derived.Test.YtaihdiccmaincaaGreatKGHelp
import Derived.Deep.LoopGhost
import Derived.KernelRfl
/- The walks of GView, printed by gen/walk.py. -/
namespace Go.Proofs.YtaihdiccmaincaaGreat
open Go.RowKit
set_option linter.unusedVariables false

def view_Gor.l1b (s0 : HSt) (L10 : List Int) (x58 : Int) (x65 : Int) (x72 : Int) (rec100 : Int → Int → Int → Int → Int → Int → Int → Option (Gr × Int × HSt)) (x91 : Int) (x92 : Int) (x93 : Int) (x94 : Int) (x95 : Int) (x96 : Int) (x97 : Int) : Option (Gr × Int × HSt) := (if (decide (x97 < 6)) then (if (inR (IntKind.i64.wrap (3 + x97)) L10.length) then (if (x97 == 0) then rec100 (atI L10 (IntKind.i64.wrap (3 + x97))) x92 x93 x94 x95 x96 (IntKind.i64.wrap (x97 + 1)) else (if (x97 == 1) then rec100 x91 (atI L10 (IntKind.i64.wrap (3 + x97))) x93 x94 x95 x96 (IntKind.i64.wrap (x97 + 1)) else (if (x97 == 2) then rec100 x91 x92 (atI L10 (IntKind.i64.wrap (3 + x97))) x94 x95 x96 (IntKind.i64.wrap (x97 + 1)) else (if (x97 == 3) then rec100 x91 x92 x93 (atI L10 (IntKind.i64.wrap (3 + x97))) x95 x96 (IntKind.i64.wrap (x97 + 1)) else (if (x97 == 4) then rec100 x91 x92 x93 x94 (atI L10 (IntKind.i64.wrap (3 + x97))) x96 (IntKind.i64.wrap (x97 + 1)) else (if (x97 == 5) then rec100 x91 x92 x93 x94 x95 (atI L10 (IntKind.i64.wrap (3 + x97))) (IntKind.i64.wrap (x97 + 1)) else none)))))) else none) else (if (inR (9 : Int) L10.length) then bind1 (pAt (atI L10 (9 : Int))) fun x203 => some ((⟨x58, x65, x72, x91, x92, x93, x94, x95, x96, x203⟩ : Gr), 0, s0) else none))
def view_Gor.l1 (s0 : HSt) (L10 : List Int) (x58 : Int) (x65 : Int) (x72 : Int) : Nat → Int → Int → Int → Int → Int → Int → Int → Option (Gr × Int × HSt)
  | 0 => fun _ _ _ _ _ _ _ => none
  | kI + 1 => view_Gor.l1b s0 L10 x58 x65 x72 (view_Gor.l1 s0 L10 x58 x65 x72 kI)
def view_Gor.m (k : Nat) (s0 : HSt) (i1 : Int) : Option (Gr × Int × HSt) := bind2 (pSeen4 i1 s0) fun L10 x11 => (if (x11 != 0) then some ((⟨0, 0, 0, 0, 0, 0, 0, 0, 0, 0⟩ : Gr), x11, s0) else (if (inR (0 : Int) L10.length) then (if (inR (1 : Int) L10.length) then (if (inR (2 : Int) L10.length) then bind1 (pNum (atI L10 (0 : Int))) fun x58 => bind1 (pNum (atI L10 (1 : Int))) fun x65 => bind1 (pNum (atI L10 (2 : Int))) fun x72 => view_Gor.l1 s0 L10 x58 x65 x72 k 0 0 0 0 0 0 0 else none) else none) else none))
set_option maxRecDepth 100000 in
set_option maxHeartbeats 1500000 in
theorem view_Gor.ok {w0 w : World} {F0 : List Nat} {ps : List Piece} {k : Nat} {b0 ab0 : Nat} {s0 : HSt} {i1 : Int} {r0 : Gr} {r1 : Int} {t0 : HSt} (hS : St w0 F0 (HeapP b0 ab0 s0 :: ps) w) (hm : view_Gor.m k s0 i1 = some (r0, r1, t0)) :
    Calls Tryz.prog 37 #[nP b0 0, nI i1] w fun e w' => e = .returned (.tuple #[.agg #[nI (r0.id), nI (r0.status), nI (r0.pc), nI (r0.a), nI (r0.b), nI (r0.c), nI (r0.d), nI (r0.e), nI (r0.f), nI (r0.sudogs)], .int .i64 r1]) ∧ St w0 F0 (HeapP b0 ab0 t0 :: ps) w' := by
 refine ev_enterL 51 [nP b0 0, nI i1] Tryz.func37 rfl rfl (by simp) ?_
 intro a hF
 have hF0 : Fr 51 a [(0, nP b0 0), (1, nI i1)] := hF; clear hF
 unfold view_Gor.m at hm
 refine wp_seq (wp_region_lit ?_)
 refine ev_runs 1 hF0 (l' := [(4, nP (w.heap.size) 0), (0, nP b0 0), (1, nI i1)]) (w' := w.alloc (.cells #[nI 0, nI 0, nI 0, nI 0, nI 0, nI 0, nI 0, nI 0, nI 0, nI 0] 70)) (by kernel_rfl) ?_
 intro a2 hF1; clear hF0
 have hS4 : St w0 F0 (BlkP (w.heap.size) 70 #[nI 0, nI 0, nI 0, nI 0, nI 0, nI 0, nI 0, nI 0, nI 0, nI 0] :: HeapP b0 ab0 s0 :: ps) (w.alloc (.cells #[nI 0, nI 0, nI 0, nI 0, nI 0, nI 0, nI 0, nI 0, nI 0, nI 0] 70)) := St.new hS #[nI 0, nI 0, nI 0, nI 0, nI 0, nI 0, nI 0, nI 0, nI 0, nI 0] 70
 refine ev_runK 1 hF1 [0, 1, 4] (l' := [(4, nP (w.heap.size) 0), (0, nP b0 0), (1, nI i1)]) (w' := w.alloc (.cells #[nI 0, nI 0, nI 0, nI 0, nI 0, nI 0, nI 0, nI 0, nI 0, nI 0] 70)) (by kernel_rfl) ?_
 intro a6 hF5; clear hF1
 refine wpList_nil (thenN (wp_seq (wp_region_lit ?_)))
 refine ev_runs 2 hF5 (l' := [(12, nI i1), (11, nP b0 0), (4, nP (w.heap.size) 0), (0, nP b0 0), (1, nI i1)]) (w' := w.alloc (.cells #[nI 0, nI 0, nI 0, nI 0, nI 0, nI 0, nI 0, nI 0, nI 0, nI 0] 70)) (by kernel_rfl) ?_
 intro a8 hF7; clear hF5
 have hS9 := hS4.pick1
 clear hS4
 refine ev_call 62 #[nP b0 0, nI i1, nI 4] hF7 rfl rfl (by kernel_rfl) rfl (by kernel_rfl) (fun w => by kernel_rfl) ?_
 obtain ⟨L10, x11, hx12, hm13⟩ := bind2E hm; clear hm
 refine (p_seen4 hS9 hx12).mono ?_
 rintro _ w14 ⟨z18, rfl, hS16⟩ a15 hF17; clear hF7 hS9
 obtain ⟨hl23, p20, c21, rfl, hp22⟩ := St.shape hS16 1 rfl
 refine ev_runK 5 hF17 [4, 6, 7] (l' := [(7, nI x11), (6, .slice p20 L10.length c21), (4, nP (w.heap.size) 0)]) (w' := w14) (by kernel_rfl) ?_
 intro a25 hF24; clear hF17
 refine wpList_nil (thenN (wp_seq (wp_seq (wp_region_lit ?_))))
 refine ev_runK 2 hF24 [4, 6, 7, 17] (l' := [(17, .bool (x11 != 0)), (7, nI x11), (6, .slice p20 L10.length c21), (4, nP (w.heap.size) 0)]) (w' := w14) (by kernel_rfl) ?_
 intro a27 hF26; clear hF24
 refine wpList_nil (thenN ?_)
 cases hc28 : (x11 != 0) with
 | true =>
  rw [hc28] at hF26
  rw [hc28] at hm13
  have hm29 := ifT hm13; clear hm13
  refine ev_condT hF26 rfl rfl ?_
  refine wp_seq (wp_region_lit ?_)
  refine ev_runs 2 hF26 (l' := [(19, nI x11), (18, .agg #[nI 0, nI 0, nI 0, nI 0, nI 0, nI 0, nI 0, nI 0, nI 0, nI 0]), (17, .bool true), (7, nI x11), (6, .slice p20 L10.length c21), (4, nP (w.heap.size) 0)]) (w' := w14) (by kernel_rfl) ?_
  intro a31 hF30; clear hF26
  have hS32 := hS16.pick2
  clear hS16
  refine ev_store (.agg #[nI 0, nI 0, nI 0, nI 0, nI 0, nI 0, nI 0, nI 0, nI 0, nI 0]) #[nI 0, nI 0, nI 0, nI 0, nI 0, nI 0, nI 0, nI 0, nI 0, nI 0] hF30 (by kernel_rfl) rfl rfl rfl rfl (by kernel_rfl) hS32 (by kernel_rfl) (by kernel_rfl) (by kernel_rfl) (l' := [(19, nI x11), (18, .agg #[nI 0, nI 0, nI 0, nI 0, nI 0, nI 0, nI 0, nI 0, nI 0, nI 0]), (17, .bool true), (7, nI x11), (6, .slice p20 L10.length c21), (4, nP (w.heap.size) 0)]) (by kernel_rfl) ?_
  intro w33 a34 hS35 hF36; clear hF30 hS32
  refine ev_runK 1 hF36 [4, 5] (l' := [(5, nI x11), (4, nP (w.heap.size) 0)]) (w' := w33) (by kernel_rfl) ?_
  intro a38 hF37; clear hF36
  refine wpList_nil ?_
  have hS39 := hS35.pick2.drop
  clear hS35
  refine thenN ?_
  refine wp_ret ?_
  refine thenR ?_
  have hS40 := hS39.pick1
  clear hS39
  simp only [Option.some.injEq, Prod.mk.injEq] at hm29
  obtain ⟨rfl, rfl, rfl⟩ := hm29
  refine ev_retC hF37 _ [.agg #[nI 0, nI 0, nI 0, nI 0, nI 0, nI 0, nI 0, nI 0, nI 0, nI 0], nI x11] (.tuple #[.agg #[nI 0, nI 0, nI 0, nI 0, nI 0, nI 0, nI 0, nI 0, nI 0, nI 0], nI x11]) rfl ⟨⟨rfl, _, rfl, (run_loadA (cs := [nI 0, nI 0, nI 0, nI 0, nI 0, nI 0, nI 0, nI 0, nI 0, nI 0]) rfl rfl (by kernel_rfl) (blk_cells hS40 1 rfl rfl))⟩, ⟨rfl, rfl⟩, trivial⟩ rfl ?_
  have hS44 := hS40.pick1.drop
  clear hS40
  exact ⟨rfl, hS44⟩
 | false =>
  rw [hc28] at hF26
  rw [hc28] at hm13
  have hm45 := ifF hm13; clear hm13
  refine ev_condF hF26 rfl rfl ?_
  refine wp_skip ?_
  have hF46 := hF26.keep [4, 6]
  clear hF26
  refine thenN (wp_seq ?_)
  -- draws
  obtain ⟨hc47, hm48⟩ := ifTE hm45; clear hm45
  obtain ⟨g49, rfl⟩ := hp22.resolve_left (by have := inR_spec hc47; omega)
  obtain ⟨hc50, hm51⟩ := ifTE hm48; clear hm48
  obtain ⟨hc52, hm53⟩ := ifTE hm51; clear hm51
  have hS54 := hS16.pick1
  clear hS16
  have hS55 := hS54.drew; clear hS54
  refine any_start (fun wS => ∃ qs, St w0 F0 (RowP (.slice (some ⟨g49, 0, none⟩) L10.length c21) L10 :: qs) wS) 15 #[false, false, false, false, false, false, false, false, false, false, false, false, false, false, false] (by kernel_rfl) (by kernel_rfl) (by kernel_rfl) ?_
  refine any_many 9 [(0, some (.slice (some ⟨g49, 0, none⟩) L10.length c21)), (1, some (nP g49 ((0 : Int).toNat))), (2, some (nI (atI L10 (0 : Int)))), (4, some (.slice (some ⟨g49, 0, none⟩) L10.length c21)), (5, some (nP g49 ((1 : Int).toNat))), (6, some (nI (atI L10 (1 : Int)))), (8, some (.slice (some ⟨g49, 0, none⟩) L10.length c21)), (9, some (nP g49 ((2 : Int).toNat))), (10, some (nI (atI L10 (2 : Int))))] [4, 6, 8, 22, 23, 26, 27, 30, 31, 32] #[true, true, true, false, true, true, true, false, true, true, true, false, false, false, false] (by rfl) hF46 (by kernel_rfl) (by kernel_rfl) (by exact (And.intro (fun wS hw => by kernel_rfl) (And.intro (fun wS hw => run_idx rfl rfl rfl rfl rfl (inR_spec hc47).1 (inR_spec hc47).2 _) (And.intro (fun wS hw => run_load1 rfl rfl rfl (hw.elim fun qs hw => hw.atI 0 rfl hc47)) (And.intro (fun wS hw => by kernel_rfl) (And.intro (fun wS hw => run_idx rfl rfl rfl rfl rfl (inR_spec hc50).1 (inR_spec hc50).2 _) (And.intro (fun wS hw => run_load1 rfl rfl rfl (hw.elim fun qs hw => hw.atI 0 rfl hc50)) (And.intro (fun wS hw => by kernel_rfl) (And.intro (fun wS hw => run_idx rfl rfl rfl rfl rfl (inR_spec hc52).1 (inR_spec hc52).2 _) (And.intro (fun wS hw => run_load1 rfl rfl rfl (hw.elim fun qs hw => hw.atI 0 rfl hc52)) trivial)))))))))) (fun _ _ _ _ _ h => h) ⟨_, hS55⟩ (l' := [(30, nI (atI L10 (2 : Int))), (26, nI (atI L10 (1 : Int))), (22, nI (atI L10 (0 : Int))), (6, .slice (some ⟨g49, 0, none⟩) L10.length c21), (4, nP (w.heap.size) 0)]) (by kernel_rfl) ?_
  intro a57 hF56; clear hF46
  refine any_two 3 13 (by kernel_rfl) ?_ ?_
  · skip
    refine op_call 3 #[true, true, true, true, true, true, true, false, true, true, true, false, false, false, false] 63 #[nI (atI L10 (0 : Int))] hF56 rfl rfl rfl (by kernel_rfl) rfl (by kernel_rfl) (fun w => by kernel_rfl) (by kernel_rfl) ?_
    obtain ⟨x58, hx59, hm60⟩ := bind1E hm53; clear hm53
    refine (p_vNum hS55 hx59).mono ?_
    rintro _ w61 ⟨rfl, hS63⟩; clear hS55
    refine ⟨⟨_, hS63⟩, ?_⟩
    intro a62 hF64; clear hF56
    refine any_two 7 13 (by kernel_rfl) ?_ ?_
    · skip
      refine op_call 7 #[true, true, true, true, true, true, true, true, true, true, true, false, false, false, false] 63 #[nI (atI L10 (1 : Int))] hF64 rfl rfl rfl (by kernel_rfl) rfl (by kernel_rfl) (fun w => by kernel_rfl) (by kernel_rfl) ?_
      obtain ⟨x65, hx66, hm67⟩ := bind1E hm60; clear hm60
      refine (p_vNum hS63 hx66).mono ?_
      rintro _ w68 ⟨rfl, hS70⟩; clear hS63
      refine ⟨⟨_, hS70⟩, ?_⟩
      intro a69 hF71; clear hF64
      refine any_two 11 13 (by kernel_rfl) ?_ ?_
      · skip
        refine op_call 11 #[true, true, true, true, true, true, true, true, true, true, true, true, false, false, false] 63 #[nI (atI L10 (2 : Int))] hF71 rfl rfl rfl (by kernel_rfl) rfl (by kernel_rfl) (fun w => by kernel_rfl) (by kernel_rfl) ?_
        obtain ⟨x72, hx73, hm74⟩ := bind1E hm67; clear hm67
        refine (p_vNum hS70 hx73).mono ?_
        rintro _ w75 ⟨rfl, hS77⟩; clear hS70
        refine ⟨⟨_, hS77⟩, ?_⟩
        intro a76 hF78; clear hF71
        refine any_many 1 [(12, some (.agg #[nI x58, nI x65, nI x72, nI 0, nI 0, nI 0, nI 0, nI 0, nI 0, nI (-1)]))] [4, 6, 8, 32] #[true, true, true, true, true, true, true, true, true, true, true, true, true, false, false] (by rfl) hF78 (by kernel_rfl) (by kernel_rfl) (by exact (And.intro (fun wS hw => by kernel_rfl) trivial)) (fun _ _ _ _ _ h => h) ⟨_, hS77⟩ (l' := [(32, .agg #[nI x58, nI x65, nI x72, nI 0, nI 0, nI 0, nI 0, nI 0, nI 0, nI (-1)]), (6, .slice (some ⟨g49, 0, none⟩) L10.length c21), (4, nP (w.heap.size) 0)]) (by kernel_rfl) ?_
        intro a80 hF79; clear hF78
        refine any_one 13 (by kernel_rfl) ?_
        have hS81 : St w0 F0 (BlkP (w75.heap.size) 70 #[nI 0, nI 0, nI 0, nI 0, nI 0, nI 0, nI 0, nI 0, nI 0, nI 0] :: RowP (.slice (some ⟨g49, 0, none⟩) L10.length c21) L10 :: HeapP b0 ab0 s0 :: BlkP (w.heap.size) 70 #[nI 0, nI 0, nI 0, nI 0, nI 0, nI 0, nI 0, nI 0, nI 0, nI 0] :: ps) (w75.alloc (.cells #[nI 0, nI 0, nI 0, nI 0, nI 0, nI 0, nI 0, nI 0, nI 0, nI 0] 70)) := St.new hS77 #[nI 0, nI 0, nI 0, nI 0, nI 0, nI 0, nI 0, nI 0, nI 0, nI 0] 70
        clear hS77
        refine op_step 13 #[true, true, true, true, true, true, true, true, true, true, true, true, true, true, false] (nP (w75.heap.size) 0) (w75.alloc (.cells #[nI 0, nI 0, nI 0, nI 0, nI 0, nI 0, nI 0, nI 0, nI 0, nI 0] 70)) hF79 rfl (by kernel_rfl) rfl (by kernel_rfl) (by kernel_rfl) (l' := [(8, nP (w75.heap.size) 0), (32, .agg #[nI x58, nI x65, nI x72, nI 0, nI 0, nI 0, nI 0, nI 0, nI 0, nI (-1)]), (6, .slice (some ⟨g49, 0, none⟩) L10.length c21), (4, nP (w.heap.size) 0)]) (by kernel_rfl) ⟨_, hS81.pick1⟩ (by kernel_rfl) ?_
        intro a83 hF82; clear hF79
        refine any_one 14 (by kernel_rfl) ?_
        refine op_store 14 #[true, true, true, true, true, true, true, true, true, true, true, true, true, true, true] (.agg #[nI x58, nI x65, nI x72, nI 0, nI 0, nI 0, nI 0, nI 0, nI 0, nI (-1)]) #[nI x58, nI x65, nI x72, nI 0, nI 0, nI 0, nI 0, nI 0, nI 0, nI (-1)] hF82 rfl (by kernel_rfl) rfl rfl rfl rfl (by kernel_rfl) hS81 (by kernel_rfl) (by kernel_rfl) (by kernel_rfl) (l' := [(8, nP (w75.heap.size) 0), (32, .agg #[nI x58, nI x65, nI x72, nI 0, nI 0, nI 0, nI 0, nI 0, nI 0, nI (-1)]), (6, .slice (some ⟨g49, 0, none⟩) L10.length c21), (4, nP (w.heap.size) 0)]) (by kernel_rfl) (by kernel_rfl) ?_
        intro w84 a85 hS86 hF87; clear hF82 hS81
        refine ⟨⟨_, hS86.pick1⟩, ?_⟩
        refine any_done (by kernel_rfl) ?_
        have hF88 := hF87.keep [4, 6, 8]
        clear hF87
        refine thenN (wp_seq (wp_seq (wp_region_lit ?_)))
        refine ev_runs 1 hF88 (l' := [(33, nI 0), (8, nP (w75.heap.size) 0), (6, .slice (some ⟨g49, 0, none⟩) L10.length c21), (4, nP (w.heap.size) 0)]) (w' := w84) (by kernel_rfl) ?_
        intro a90 hF89; clear hF88
        refine wpList_nil (thenN ?_)
        refine wp_block ?_
        refine wp_loop_ghost (fun kI aI wI => ∃ (x91 : Int) (x92 : Int) (x93 : Int) (x94 : Int) (x95 : Int) (x96 : Int) (x97 : Int), Fr 51 aI [(33, nI x97), (8, nP (w75.heap.size) 0), (6, .slice (some ⟨g49, 0, none⟩) L10.length c21), (4, nP (w.heap.size) 0)] ∧ St w0 F0 (BlkP (w75.heap.size) 70 #[nI x58, nI x65, nI x72, nI x91, nI x92, nI x93, nI x94, nI x95, nI x96, nI (-1)] :: RowP (.slice (some ⟨g49, 0, none⟩) L10.length c21) L10 :: HeapP b0 ab0 s0 :: BlkP (w.heap.size) 70 #[nI 0, nI 0, nI 0, nI 0, nI 0, nI 0, nI 0, nI 0, nI 0, nI 0] :: ps) wI ∧ view_Gor.l1 s0 L10 x58 x65 x72 kI x91 x92 x93 x94 x95 x96 x97 = some (r0, r1, t0)) k ⟨0, 0, 0, 0, 0, 0, 0, hF89, hS86, hm74⟩ ?_
        rintro k98 a99 w100 ⟨x91, x92, x93, x94, x95, x96, x97, hF101, hS102, hm103⟩
        clear hF89 hS86 hm74
        cases k98 with
        | zero => cases hm103
        | succ k98 =>
         have hm104 : view_Gor.l1b s0 L10 x58 x65 x72 (view_Gor.l1 s0 L10 x58 x65 x72 k98) x91 x92 x93 x94 x95 x96 x97 = some (r0, r1, t0) := hm103
         clear hm103
         unfold view_Gor.l1b at hm104
         refine wp_seq (wp_region_lit ?_)
         refine ev_runs 1 hF101 (l' := [(34, .bool (decide (x97 < 6))), (33, nI x97), (8, nP (w75.heap.size) 0), (6, .slice (some ⟨g49, 0, none⟩) L10.length c21), (4, nP (w.heap.size) 0)]) (w' := w100) (by kernel_rfl) ?_
         intro a106 hF105; clear hF101
         refine wpList_nil (thenN (wp_seq ?_))
         cases hc107 : (decide (x97 < 6)) with
         | true =>
          rw [hc107] at hF105
          rw [hc107] at hm104
          have hm108 := ifT hm104; clear hm104
          refine ev_condT hF105 rfl rfl ?_
          refine wp_skip ?_
          have hF109 := hF105.keep [4, 6, 8, 33]
          clear hF105
          refine thenN (wp_seq ?_)
          refine wp_block ?_
          refine wp_seq (wp_region_lit ?_)
          refine ev_runK 2 hF109 [4, 6, 8, 9, 33] (l' := [(9, nI x97), (33, nI x97), (8, nP (w75.heap.size) 0), (6, .slice (some ⟨g49, 0, none⟩) L10.length c21), (4, nP (w.heap.size) 0)]) (w' := w100) (by kernel_rfl) ?_
          intro a111 hF110; clear hF109
          refine wpList_nil (thenN (wp_region_lit ?_))
          refine ev_runs 4 hF110 (l' := [(39, nI (IntKind.i64.wrap (3 + x97))), (38, nI x97), (37, .slice (some ⟨g49, 0, none⟩) L10.length c21), (36, nI x97), (9, nI x97), (33, nI x97), (8, nP (w75.heap.size) 0), (6, .slice (some ⟨g49, 0, none⟩) L10.length c21), (4, nP (w.heap.size) 0)]) (w' := w100) (by kernel_rfl) ?_
          intro a113 hF112; clear hF110
          obtain ⟨hc114, hm115⟩ := ifTE hm108; clear hm108
          refine ev_one (nP g49 ((IntKind.i64.wrap (3 + x97)).toNat)) w100 hF112 (by kernel_rfl) rfl (by kernel_rfl) (run_idx rfl rfl rfl rfl rfl (inR_spec hc114).1 (inR_spec hc114).2 _) (l' := [(40, nP g49 ((IntKind.i64.wrap (3 + x97)).toNat)), (39, nI (IntKind.i64.wrap (3 + x97))), (38, nI x97), (37, .slice (some ⟨g49, 0, none⟩) L10.length c21), (36, nI x97), (9, nI x97), (33, nI x97), (8, nP (w75.heap.size) 0), (6, .slice (some ⟨g49, 0, none⟩) L10.length c21), (4, nP (w.heap.size) 0)]) (by kernel_rfl) ?_
          intro a117 hF116; clear hF112
          refine ev_one (nI (atI L10 (IntKind.i64.wrap (3 + x97)))) w100 hF116 (by kernel_rfl) rfl (by kernel_rfl) (run_load1 rfl rfl rfl (hS102.atI 1 rfl hc114)) (l' := [(41, nI (atI L10 (IntKind.i64.wrap (3 + x97)))), (40, nP g49 ((IntKind.i64.wrap (3 + x97)).toNat)), (39, nI (IntKind.i64.wrap (3 + x97))), (38, nI x97), (37, .slice (some ⟨g49, 0, none⟩) L10.length c21), (36, nI x97), (9, nI x97), (33, nI x97), (8, nP (w75.heap.size) 0), (6, .slice (some ⟨g49, 0, none⟩) L10.length c21), (4, nP (w.heap.size) 0)]) (by kernel_rfl) ?_
          intro a119 hF118; clear hF116
          refine ev_runs 1 hF118 (l' := [(42, nP (w75.heap.size) 3), (41, nI (atI L10 (IntKind.i64.wrap (3 + x97)))), (40, nP g49 ((IntKind.i64.wrap (3 + x97)).toNat)), (39, nI (IntKind.i64.wrap (3 + x97))), (38, nI x97), (37, .slice (some ⟨g49, 0, none⟩) L10.length c21), (36, nI x97), (9, nI x97), (33, nI x97), (8, nP (w75.heap.size) 0), (6, .slice (some ⟨g49, 0, none⟩) L10.length c21), (4, nP (w.heap.size) 0)]) (w' := w100) (by kernel_rfl) ?_
          intro a121 hF120; clear hF118
          cases hc122 : (x97 == 0) with
          | true =>
           rw [hc122] at hm115
           have hm123 := ifT hm115; clear hm115
           refine ev_one (nP (w75.heap.size) 3) w100 hF120 (by kernel_rfl) rfl (by kernel_rfl) (run_idxA (q := 0) rfl rfl rfl rfl (congrArg (Value.int .i64) (eq_of_beq hc122)) (by decide) (by decide) (by kernel_rfl) _) (l' := [(43, nP (w75.heap.size) 3), (42, nP (w75.heap.size) 3), (41, nI (atI L10 (IntKind.i64.wrap (3 + x97)))), (40, nP g49 ((IntKind.i64.wrap (3 + x97)).toNat)), (39, nI (IntKind.i64.wrap (3 + x97))), (38, nI x97), (37, .slice (some ⟨g49, 0, none⟩) L10.length c21), (36, nI x97), (9, nI x97), (33, nI x97), (8, nP (w75.heap.size) 0), (6, .slice (some ⟨g49, 0, none⟩) L10.length c21), (4, nP (w.heap.size) 0)]) (by kernel_rfl) ?_
           intro a125 hF124; clear hF120
           refine ev_store (nI (atI L10 (IntKind.i64.wrap (3 + x97)))) #[nI x58, nI x65, nI x72, nI (atI L10 (IntKind.i64.wrap (3 + x97))), nI x92, nI x93, nI x94, nI x95, nI x96, nI (-1)] hF124 (by kernel_rfl) rfl rfl rfl rfl (by kernel_rfl) hS102 (by kernel_rfl) (by kernel_rfl) (by kernel_rfl) (l' := [(43, nP (w75.heap.size) 3), (42, nP (w75.heap.size) 3), (41, nI (atI L10 (IntKind.i64.wrap (3 + x97)))), (40, nP g49 ((IntKind.i64.wrap (3 + x97)).toNat)), (39, nI (IntKind.i64.wrap (3 + x97))), (38, nI x97), (37, .slice (some ⟨g49, 0, none⟩) L10.length c21), (36, nI x97), (9, nI x97), (33, nI x97), (8, nP (w75.heap.size) 0), (6, .slice (some ⟨g49, 0, none⟩) L10.length c21), (4, nP (w.heap.size) 0)]) (by kernel_rfl) ?_
           intro w126 a127 hS128 hF129; clear hF124 hS102
           refine wpList_nil ?_
           have hF130 := hF129.keep [4, 6, 8, 33]
           clear hF129
           refine blockN ?_
           refine thenN (wp_region_lit ?_)
           refine ev_runK 2 hF130 [4, 6, 8, 33] (l' := [(33, nI (IntKind.i64.wrap (x97 + 1))), (8, nP (w75.heap.size) 0), (6, .slice (some ⟨g49, 0, none⟩) L10.length c21), (4, nP (w.heap.size) 0)]) (w' := w126) (by kernel_rfl) ?_
           intro a132 hF131; clear hF130
           refine wpList_nil ?_
           exact thenN ⟨k98, Nat.lt_succ_self _, atI L10 (IntKind.i64.wrap (3 + x97)), x92, x93, x94, x95, x96, IntKind.i64.wrap (x97 + 1), hF131, hS128, hm123⟩
          | false =>
           rw [hc122] at hm115
           have hm133 := ifF hm115; clear hm115
           cases hc134 : (x97 == 1) with
           | true =>
            rw [hc134] at hm133
            have hm135 := ifT hm133; clear hm133
            refine ev_one (nP (w75.heap.size) 4) w100 hF120 (by kernel_rfl) rfl (by kernel_rfl) (run_idxA (q := 1) rfl rfl rfl rfl (congrArg (Value.int .i64) (eq_of_beq hc134)) (by decide) (by decide) (by kernel_rfl) _) (l' := [(43, nP (w75.heap.size) 4), (42, nP (w75.heap.size) 3), (41, nI (atI L10 (IntKind.i64.wrap (3 + x97)))), (40, nP g49 ((IntKind.i64.wrap (3 + x97)).toNat)), (39, nI (IntKind.i64.wrap (3 + x97))), (38, nI x97), (37, .slice (some ⟨g49, 0, none⟩) L10.length c21), (36, nI x97), (9, nI x97), (33, nI x97), (8, nP (w75.heap.size) 0), (6, .slice (some ⟨g49, 0, none⟩) L10.length c21), (4, nP (w.heap.size) 0)]) (by kernel_rfl) ?_
            intro a137 hF136; clear hF120
            refine ev_store (nI (atI L10 (IntKind.i64.wrap (3 + x97)))) #[nI x58, nI x65, nI x72, nI x91, nI (atI L10 (IntKind.i64.wrap (3 + x97))), nI x93, nI x94, nI x95, nI x96, nI (-1)] hF136 (by kernel_rfl) rfl rfl rfl rfl (by kernel_rfl) hS102 (by kernel_rfl) (by kernel_rfl) (by kernel_rfl) (l' := [(43, nP (w75.heap.size) 4), (42, nP (w75.heap.size) 3), (41, nI (atI L10 (IntKind.i64.wrap (3 + x97)))), (40, nP g49 ((IntKind.i64.wrap (3 + x97)).toNat)), (39, nI (IntKind.i64.wrap (3 + x97))), (38, nI x97), (37, .slice (some ⟨g49, 0, none⟩) L10.length c21), (36, nI x97), (9, nI x97), (33, nI x97), (8, nP (w75.heap.size) 0), (6, .slice (some ⟨g49, 0, none⟩) L10.length c21), (4, nP (w.heap.size) 0)]) (by kernel_rfl) ?_
            intro w138 a139 hS140 hF141; clear hF136 hS102
            refine wpList_nil ?_
            have hF142 := hF141.keep [4, 6, 8, 33]
            clear hF141
            refine blockN ?_
            refine thenN (wp_region_lit ?_)
            refine ev_runK 2 hF142 [4, 6, 8, 33] (l' := [(33, nI (IntKind.i64.wrap (x97 + 1))), (8, nP (w75.heap.size) 0), (6, .slice (some ⟨g49, 0, none⟩) L10.length c21), (4, nP (w.heap.size) 0)]) (w' := w138) (by kernel_rfl) ?_
            intro a144 hF143; clear hF142
            refine wpList_nil ?_
            exact thenN ⟨k98, Nat.lt_succ_self _, x91, atI L10 (IntKind.i64.wrap (3 + x97)), x93, x94, x95, x96, IntKind.i64.wrap (x97 + 1), hF143, hS140, hm135⟩
           | false =>
            rw [hc134] at hm133
            have hm145 := ifF hm133; clear hm133
            cases hc146 : (x97 == 2) with
            | true =>
             rw [hc146] at hm145
             have hm147 := ifT hm145; clear hm145
             refine ev_one (nP (w75.heap.size) 5) w100 hF120 (by kernel_rfl) rfl (by kernel_rfl) (run_idxA (q := 2) rfl rfl rfl rfl (congrArg (Value.int .i64) (eq_of_beq hc146)) (by decide) (by decide) (by kernel_rfl) _) (l' := [(43, nP (w75.heap.size) 5), (42, nP (w75.heap.size) 3), (41, nI (atI L10 (IntKind.i64.wrap (3 + x97)))), (40, nP g49 ((IntKind.i64.wrap (3 + x97)).toNat)), (39, nI (IntKind.i64.wrap (3 + x97))), (38, nI x97), (37, .slice (some ⟨g49, 0, none⟩) L10.length c21), (36, nI x97), (9, nI x97), (33, nI x97), (8, nP (w75.heap.size) 0), (6, .slice (some ⟨g49, 0, none⟩) L10.length c21), (4, nP (w.heap.size) 0)]) (by kernel_rfl) ?_
             intro a149 hF148; clear hF120
             refine ev_store (nI (atI L10 (IntKind.i64.wrap (3 + x97)))) #[nI x58, nI x65, nI x72, nI x91, nI x92, nI (atI L10 (IntKind.i64.wrap (3 + x97))), nI x94, nI x95, nI x96, nI (-1)] hF148 (by kernel_rfl) rfl rfl rfl rfl (by kernel_rfl) hS102 (by kernel_rfl) (by kernel_rfl) (by kernel_rfl) (l' := [(43, nP (w75.heap.size) 5), (42, nP (w75.heap.size) 3), (41, nI (atI L10 (IntKind.i64.wrap (3 + x97)))), (40, nP g49 ((IntKind.i64.wrap (3 + x97)).toNat)), (39, nI (IntKind.i64.wrap (3 + x97))), (38, nI x97), (37, .slice (some ⟨g49, 0, none⟩) L10.length c21), (36, nI x97), (9, nI x97), (33, nI x97), (8, nP (w75.heap.size) 0), (6, .slice (some ⟨g49, 0, none⟩) L10.length c21), (4, nP (w.heap.size) 0)]) (by kernel_rfl) ?_
             intro w150 a151 hS152 hF153; clear hF148 hS102
             refine wpList_nil ?_
             have hF154 := hF153.keep [4, 6, 8, 33]
             clear hF153
             refine blockN ?_
             refine thenN (wp_region_lit ?_)
             refine ev_runK 2 hF154 [4, 6, 8, 33] (l' := [(33, nI (IntKind.i64.wrap (x97 + 1))), (8, nP (w75.heap.size) 0), (6, .slice (some ⟨g49, 0, none⟩) L10.length c21), (4, nP (w.heap.size) 0)]) (w' := w150) (by kernel_rfl) ?_
             intro a156 hF155; clear hF154
             refine wpList_nil ?_
             exact thenN ⟨k98, Nat.lt_succ_self _, x91, x92, atI L10 (IntKind.i64.wrap (3 + x97)), x94, x95, x96, IntKind.i64.wrap (x97 + 1), hF155, hS152, hm147⟩
            | false =>
             rw [hc146] at hm145
             have hm157 := ifF hm145; clear hm145
             cases hc158 : (x97 == 3) with
             | true =>
              rw [hc158] at hm157
              have hm159 := ifT hm157; clear hm157
              refine ev_one (nP (w75.heap.size) 6) w100 hF120 (by kernel_rfl) rfl (by kernel_rfl) (run_idxA (q := 3) rfl rfl rfl rfl (congrArg (Value.int .i64) (eq_of_beq hc158)) (by decide) (by decide) (by kernel_rfl) _) (l' := [(43, nP (w75.heap.size) 6), (42, nP (w75.heap.size) 3), (41, nI (atI L10 (IntKind.i64.wrap (3 + x97)))), (40, nP g49 ((IntKind.i64.wrap (3 + x97)).toNat)), (39, nI (IntKind.i64.wrap (3 + x97))), (38, nI x97), (37, .slice (some ⟨g49, 0, none⟩) L10.length c21), (36, nI x97), (9, nI x97), (33, nI x97), (8, nP (w75.heap.size) 0), (6, .slice (some ⟨g49, 0, none⟩) L10.length c21), (4, nP (w.heap.size) 0)]) (by kernel_rfl) ?_
              intro a161 hF160; clear hF120
              refine ev_store (nI (atI L10 (IntKind.i64.wrap (3 + x97)))) #[nI x58, nI x65, nI x72, nI x91, nI x92, nI x93, nI (atI L10 (IntKind.i64.wrap (3 + x97))), nI x95, nI x96, nI (-1)] hF160 (by kernel_rfl) rfl rfl rfl rfl (by kernel_rfl) hS102 (by kernel_rfl) (by kernel_rfl) (by kernel_rfl) (l' := [(43, nP (w75.heap.size) 6), (42, nP (w75.heap.size) 3), (41, nI (atI L10 (IntKind.i64.wrap (3 + x97)))), (40, nP g49 ((IntKind.i64.wrap (3 + x97)).toNat)), (39, nI (IntKind.i64.wrap (3 + x97))), (38, nI x97), (37, .slice (some ⟨g49, 0, none⟩) L10.length c21), (36, nI x97), (9, nI x97), (33, nI x97), (8, nP (w75.heap.size) 0), (6, .slice (some ⟨g49, 0, none⟩) L10.length c21), (4, nP (w.heap.size) 0)]) (by kernel_rfl) ?_
              intro w162 a163 hS164 hF165; clear hF160 hS102
              refine wpList_nil ?_
              have hF166 := hF165.keep [4, 6, 8, 33]
              clear hF165
              refine blockN ?_
              refine thenN (wp_region_lit ?_)
              refine ev_runK 2 hF166 [4, 6, 8, 33] (l' := [(33, nI (IntKind.i64.wrap (x97 + 1))), (8, nP (w75.heap.size) 0), (6, .slice (some ⟨g49, 0, none⟩) L10.length c21), (4, nP (w.heap.size) 0)]) (w' := w162) (by kernel_rfl) ?_
              intro a168 hF167; clear hF166
              refine wpList_nil ?_
              exact thenN ⟨k98, Nat.lt_succ_self _, x91, x92, x93, atI L10 (IntKind.i64.wrap (3 + x97)), x95, x96, IntKind.i64.wrap (x97 + 1), hF167, hS164, hm159⟩
             | false =>
              rw [hc158] at hm157
              have hm169 := ifF hm157; clear hm157
              cases hc170 : (x97 == 4) with
              | true =>
               rw [hc170] at hm169
               have hm171 := ifT hm169; clear hm169
               refine ev_one (nP (w75.heap.size) 7) w100 hF120 (by kernel_rfl) rfl (by kernel_rfl) (run_idxA (q := 4) rfl rfl rfl rfl (congrArg (Value.int .i64) (eq_of_beq hc170)) (by decide) (by decide) (by kernel_rfl) _) (l' := [(43, nP (w75.heap.size) 7), (42, nP (w75.heap.size) 3), (41, nI (atI L10 (IntKind.i64.wrap (3 + x97)))), (40, nP g49 ((IntKind.i64.wrap (3 + x97)).toNat)), (39, nI (IntKind.i64.wrap (3 + x97))), (38, nI x97), (37, .slice (some ⟨g49, 0, none⟩) L10.length c21), (36, nI x97), (9, nI x97), (33, nI x97), (8, nP (w75.heap.size) 0), (6, .slice (some ⟨g49, 0, none⟩) L10.length c21), (4, nP (w.heap.size) 0)]) (by kernel_rfl) ?_
               intro a173 hF172; clear hF120
               refine ev_store (nI (atI L10 (IntKind.i64.wrap (3 + x97)))) #[nI x58, nI x65, nI x72, nI x91, nI x92, nI x93, nI x94, nI (atI L10 (IntKind.i64.wrap (3 + x97))), nI x96, nI (-1)] hF172 (by kernel_rfl) rfl rfl rfl rfl (by kernel_rfl) hS102 (by kernel_rfl) (by kernel_rfl) (by kernel_rfl) (l' := [(43, nP (w75.heap.size) 7), (42, nP (w75.heap.size) 3), (41, nI (atI L10 (IntKind.i64.wrap (3 + x97)))), (40, nP g49 ((IntKind.i64.wrap (3 + x97)).toNat)), (39, nI (IntKind.i64.wrap (3 + x97))), (38, nI x97), (37, .slice (some ⟨g49, 0, none⟩) L10.length c21), (36, nI x97), (9, nI x97), (33, nI x97), (8, nP (w75.heap.size) 0), (6, .slice (some ⟨g49, 0, none⟩) L10.length c21), (4, nP (w.heap.size) 0)]) (by kernel_rfl) ?_
               intro w174 a175 hS176 hF177; clear hF172 hS102
               refine wpList_nil ?_
               have hF178 := hF177.keep [4, 6, 8, 33]
               clear hF177
               refine blockN ?_
               refine thenN (wp_region_lit ?_)
               refine ev_runK 2 hF178 [4, 6, 8, 33] (l' := [(33, nI (IntKind.i64.wrap (x97 + 1))), (8, nP (w75.heap.size) 0), (6, .slice (some ⟨g49, 0, none⟩) L10.length c21), (4, nP (w.heap.size) 0)]) (w' := w174) (by kernel_rfl) ?_
               intro a180 hF179; clear hF178
               refine wpList_nil ?_
               exact thenN ⟨k98, Nat.lt_succ_self _, x91, x92, x93, x94, atI L10 (IntKind.i64.wrap (3 + x97)), x96, IntKind.i64.wrap (x97 + 1), hF179, hS176, hm171⟩
              | false =>
               rw [hc170] at hm169
               have hm181 := ifF hm169; clear hm169
               cases hc182 : (x97 == 5) with
               | true =>
                rw [hc182] at hm181
                have hm183 := ifT hm181; clear hm181
                refine ev_one (nP (w75.heap.size) 8) w100 hF120 (by kernel_rfl) rfl (by kernel_rfl) (run_idxA (q := 5) rfl rfl rfl rfl (congrArg (Value.int .i64) (eq_of_beq hc182)) (by decide) (by decide) (by kernel_rfl) _) (l' := [(43, nP (w75.heap.size) 8), (42, nP (w75.heap.size) 3), (41, nI (atI L10 (IntKind.i64.wrap (3 + x97)))), (40, nP g49 ((IntKind.i64.wrap (3 + x97)).toNat)), (39, nI (IntKind.i64.wrap (3 + x97))), (38, nI x97), (37, .slice (some ⟨g49, 0, none⟩) L10.length c21), (36, nI x97), (9, nI x97), (33, nI x97), (8, nP (w75.heap.size) 0), (6, .slice (some ⟨g49, 0, none⟩) L10.length c21), (4, nP (w.heap.size) 0)]) (by kernel_rfl) ?_
                intro a185 hF184; clear hF120
                refine ev_store (nI (atI L10 (IntKind.i64.wrap (3 + x97)))) #[nI x58, nI x65, nI x72, nI x91, nI x92, nI x93, nI x94, nI x95, nI (atI L10 (IntKind.i64.wrap (3 + x97))), nI (-1)] hF184 (by kernel_rfl) rfl rfl rfl rfl (by kernel_rfl) hS102 (by kernel_rfl) (by kernel_rfl) (by kernel_rfl) (l' := [(43, nP (w75.heap.size) 8), (42, nP (w75.heap.size) 3), (41, nI (atI L10 (IntKind.i64.wrap (3 + x97)))), (40, nP g49 ((IntKind.i64.wrap (3 + x97)).toNat)), (39, nI (IntKind.i64.wrap (3 + x97))), (38, nI x97), (37, .slice (some ⟨g49, 0, none⟩) L10.length c21), (36, nI x97), (9, nI x97), (33, nI x97), (8, nP (w75.heap.size) 0), (6, .slice (some ⟨g49, 0, none⟩) L10.length c21), (4, nP (w.heap.size) 0)]) (by kernel_rfl) ?_
                intro w186 a187 hS188 hF189; clear hF184 hS102
                refine wpList_nil ?_
                have hF190 := hF189.keep [4, 6, 8, 33]
                clear hF189
                refine blockN ?_
                refine thenN (wp_region_lit ?_)
                refine ev_runK 2 hF190 [4, 6, 8, 33] (l' := [(33, nI (IntKind.i64.wrap (x97 + 1))), (8, nP (w75.heap.size) 0), (6, .slice (some ⟨g49, 0, none⟩) L10.length c21), (4, nP (w.heap.size) 0)]) (w' := w186) (by kernel_rfl) ?_
                intro a192 hF191; clear hF190
                refine wpList_nil ?_
                exact thenN ⟨k98, Nat.lt_succ_self _, x91, x92, x93, x94, x95, atI L10 (IntKind.i64.wrap (3 + x97)), IntKind.i64.wrap (x97 + 1), hF191, hS188, hm183⟩
               | false =>
                rw [hc182] at hm181
                have hm193 := ifF hm181; clear hm181
                exact absurd hm193 (by simp)
         | false =>
          rw [hc107] at hF105
          rw [hc107] at hm104
          have hm194 := ifF hm104; clear hm104
          refine ev_condF hF105 rfl rfl ?_
          refine wp_exit ?_
          refine thenE ?_
          refine thenE ?_
          refine blockE ?_
          refine thenN (wp_seq (wp_region_lit ?_))
          refine ev_runs 1 hF105 (l' := [(45, .slice (some ⟨g49, 0, none⟩) L10.length c21), (34, .bool false), (33, nI x97), (8, nP (w75.heap.size) 0), (6, .slice (some ⟨g49, 0, none⟩) L10.length c21), (4, nP (w.heap.size) 0)]) (w' := w100) (by kernel_rfl) ?_
          intro a196 hF195; clear hF105
          obtain ⟨hc197, hm198⟩ := ifTE hm194; clear hm194
          refine ev_one (nP g49 ((9 : Int).toNat)) w100 hF195 (by kernel_rfl) rfl (by kernel_rfl) (run_idx rfl rfl rfl rfl rfl (inR_spec hc197).1 (inR_spec hc197).2 _) (l' := [(46, nP g49 ((9 : Int).toNat)), (45, .slice (some ⟨g49, 0, none⟩) L10.length c21), (34, .bool false), (33, nI x97), (8, nP (w75.heap.size) 0), (6, .slice (some ⟨g49, 0, none⟩) L10.length c21), (4, nP (w.heap.size) 0)]) (by kernel_rfl) ?_
          intro a200 hF199; clear hF195
          refine ev_one (nI (atI L10 (9 : Int))) w100 hF199 (by kernel_rfl) rfl (by kernel_rfl) (run_load1 rfl rfl rfl (hS102.atI 1 rfl hc197)) (l' := [(47, nI (atI L10 (9 : Int))), (46, nP g49 ((9 : Int).toNat)), (45, .slice (some ⟨g49, 0, none⟩) L10.length c21), (34, .bool false), (33, nI x97), (8, nP (w75.heap.size) 0), (6, .slice (some ⟨g49, 0, none⟩) L10.length c21), (4, nP (w.heap.size) 0)]) (by kernel_rfl) ?_
          intro a202 hF201; clear hF199
          refine ev_call 64 #[nI (atI L10 (9 : Int))] hF201 rfl rfl (by kernel_rfl) rfl (by kernel_rfl) (fun w => by kernel_rfl) ?_
          obtain ⟨x203, hx204, hm205⟩ := bind1E hm198; clear hm198
          refine (p_vAt hS102 hx204).mono ?_
          rintro _ w206 ⟨rfl, hS208⟩ a207 hF209; clear hF201 hS102
          refine ev_runs 1 hF209 (l' := [(49, nP (w75.heap.size) 9), (48, nI x203), (47, nI (atI L10 (9 : Int))), (46, nP g49 ((9 : Int).toNat)), (45, .slice (some ⟨g49, 0, none⟩) L10.length c21), (34, .bool false), (33, nI x97), (8, nP (w75.heap.size) 0), (6, .slice (some ⟨g49, 0, none⟩) L10.length c21), (4, nP (w.heap.size) 0)]) (w' := w206) (by kernel_rfl) ?_
          intro a211 hF210; clear hF209
          refine ev_store (nI x203) #[nI x58, nI x65, nI x72, nI x91, nI x92, nI x93, nI x94, nI x95, nI x96, nI x203] hF210 (by kernel_rfl) rfl rfl rfl rfl (by kernel_rfl) hS208 (by kernel_rfl) (by kernel_rfl) (by kernel_rfl) (l' := [(49, nP (w75.heap.size) 9), (48, nI x203), (47, nI (atI L10 (9 : Int))), (46, nP g49 ((9 : Int).toNat)), (45, .slice (some ⟨g49, 0, none⟩) L10.length c21), (34, .bool false), (33, nI x97), (8, nP (w75.heap.size) 0), (6, .slice (some ⟨g49, 0, none⟩) L10.length c21), (4, nP (w.heap.size) 0)]) (by kernel_rfl) ?_
          intro w212 a213 hS214 hF215; clear hF210 hS208
          refine wpList_nil ?_
          have hF216 := hF215.keep [4, 8]
          clear hF215
          have hS217 := hS214.pick1.drop
          clear hS214
          refine thenN (wp_seq (wp_region_lit ?_))
          refine ev_one (.agg #[nI x58, nI x65, nI x72, nI x91, nI x92, nI x93, nI x94, nI x95, nI x96, nI x203]) w212 hF216 (by kernel_rfl) rfl (by kernel_rfl) (run_loadV rfl rfl (run_loadA (cs := [nI x58, nI x65, nI x72, nI x91, nI x92, nI x93, nI x94, nI x95, nI x96, nI x203]) rfl rfl (by kernel_rfl) (blk_cells hS217 0 rfl rfl))) (l' := [(50, .agg #[nI x58, nI x65, nI x72, nI x91, nI x92, nI x93, nI x94, nI x95, nI x96, nI x203]), (8, nP (w75.heap.size) 0), (4, nP (w.heap.size) 0)]) (by kernel_rfl) ?_
          intro a219 hF218; clear hF216
          have hS220 := hS217.pick2
          clear hS217
          refine ev_store (.agg #[nI x58, nI x65, nI x72, nI x91, nI x92, nI x93, nI x94, nI x95, nI x96, nI x203]) #[nI x58, nI x65, nI x72, nI x91, nI x92, nI x93, nI x94, nI x95, nI x96, nI x203] hF218 (by kernel_rfl) rfl rfl rfl rfl (by kernel_rfl) hS220 (by kernel_rfl) (by kernel_rfl) (by kernel_rfl) (l' := [(50, .agg #[nI x58, nI x65, nI x72, nI x91, nI x92, nI x93, nI x94, nI x95, nI x96, nI x203]), (8, nP (w75.heap.size) 0), (4, nP (w.heap.size) 0)]) (by kernel_rfl) ?_
          intro w221 a222 hS223 hF224; clear hF218 hS220
          refine ev_runK 1 hF224 [4, 5] (l' := [(5, nI 0), (4, nP (w.heap.size) 0)]) (w' := w221) (by kernel_rfl) ?_
          intro a226 hF225; clear hF224
          refine wpList_nil ?_
          have hS227 := hS223.pick1.drop
          clear hS223
          refine thenN ?_
          refine wp_ret ?_
          have hS228 := hS227.pick1
          clear hS227
          simp only [Option.some.injEq, Prod.mk.injEq] at hm205
          obtain ⟨rfl, rfl, rfl⟩ := hm205
          refine ev_retC hF225 _ [.agg #[nI x58, nI x65, nI x72, nI x91, nI x92, nI x93, nI x94, nI x95, nI x96, nI x203], nI 0] (.tuple #[.agg #[nI x58, nI x65, nI x72, nI x91, nI x92, nI x93, nI x94, nI x95, nI x96, nI x203], nI 0]) rfl ⟨⟨rfl, _, rfl, (run_loadA (cs := [nI x58, nI x65, nI x72, nI x91, nI x92, nI x93, nI x94, nI x95, nI x96, nI x203]) rfl rfl (by kernel_rfl) (blk_cells hS228 1 rfl rfl))⟩, ⟨rfl, rfl⟩, trivial⟩ rfl ?_
          have hS232 := hS228.pick1.drop
          clear hS228
          exact ⟨rfl, hS232⟩
      · skip
        have hS233 : St w0 F0 (BlkP (w68.heap.size) 70 #[nI 0, nI 0, nI 0, nI 0, nI 0, nI 0, nI 0, nI 0, nI 0, nI 0] :: RowP (.slice (some ⟨g49, 0, none⟩) L10.length c21) L10 :: HeapP b0 ab0 s0 :: BlkP (w.heap.size) 70 #[nI 0, nI 0, nI 0, nI 0, nI 0, nI 0, nI 0, nI 0, nI 0, nI 0] :: ps) (w68.alloc (.cells #[nI 0, nI 0, nI 0, nI 0, nI 0, nI 0, nI 0, nI 0, nI 0, nI 0] 70)) := St.new hS70 #[nI 0, nI 0, nI 0, nI 0, nI 0, nI 0, nI 0, nI 0, nI 0, nI 0] 70
        clear hS70
        refine op_step 13 #[true, true, true, true, true, true, true, true, true, true, true, false, false, true, false] (nP (w68.heap.size) 0) (w68.alloc (.cells #[nI 0, nI 0, nI 0, nI 0, nI 0, nI 0, nI 0, nI 0, nI 0, nI 0] 70)) hF71 rfl (by kernel_rfl) rfl (by kernel_rfl) (by kernel_rfl) (l' := [(8, nP (w68.heap.size) 0), (27, nI x65), (23, nI x58), (30, nI (atI L10 (2 : Int))), (26, nI (atI L10 (1 : Int))), (22, nI (atI L10 (0 : Int))), (6, .slice (some ⟨g49, 0, none⟩) L10.length c21), (4, nP (w.heap.size) 0)]) (by kernel_rfl) ⟨_, hS233.pick1⟩ (by kernel_rfl) ?_
        intro a235 hF234; clear hF71
        refine any_call 11 #[true, true, true, true, true, true, true, true, true, true, true, true, false, true, false] 63 #[nI (atI L10 (2 : Int))] hF234 rfl (by kernel_rfl) rfl rfl (by kernel_rfl) rfl (by kernel_rfl) (fun w => by kernel_rfl) (by kernel_rfl) ?_
        obtain ⟨x236, hx237, hm238⟩ := bind1E hm67; clear hm67
        refine (p_vNum hS233 hx237).mono ?_
        rintro _ w239 ⟨rfl, hS241⟩; clear hS233
        refine ⟨⟨_, hS241.pick1⟩, ?_⟩
        intro a240 hF242; clear hF234
        refine any_many 1 [(12, some (.agg #[nI x58, nI x65, nI x236, nI 0, nI 0, nI 0, nI 0, nI 0, nI 0, nI (-1)]))] [4, 6, 8, 32] #[true, true, true, true, true, true, true, true, true, true, true, true, true, true, false] (by rfl) hF242 (by kernel_rfl) (by kernel_rfl) (by exact (And.intro (fun wS hw => by kernel_rfl) trivial)) (fun _ _ _ _ _ h => h) ⟨_, hS241.pick1⟩ (l' := [(32, .agg #[nI x58, nI x65, nI x236, nI 0, nI 0, nI 0, nI 0, nI 0, nI 0, nI (-1)]), (8, nP (w68.heap.size) 0), (6, .slice (some ⟨g49, 0, none⟩) L10.length c21), (4, nP (w.heap.size) 0)]) (by kernel_rfl) ?_
        intro a244 hF243; clear hF242
        refine any_one 14 (by kernel_rfl) ?_
        refine op_store 14 #[true, true, true, true, true, true, true, true, true, true, true, true, true, true, true] (.agg #[nI x58, nI x65, nI x236, nI 0, nI 0, nI 0, nI 0, nI 0, nI 0, nI (-1)]) #[nI x58, nI x65, nI x236, nI 0, nI 0, nI 0, nI 0, nI 0, nI 0, nI (-1)] hF243 rfl (by kernel_rfl) rfl rfl rfl rfl (by kernel_rfl) hS241 (by kernel_rfl) (by kernel_rfl) (by kernel_rfl) (l' := [(32, .agg #[nI x58, nI x65, nI x236, nI 0, nI 0, nI 0, nI 0, nI 0, nI 0, nI (-1)]), (8, nP (w68.heap.size) 0), (6, .slice (some ⟨g49, 0, none⟩) L10.length c21), (4, nP (w.heap.size) 0)]) (by kernel_rfl) (by kernel_rfl) ?_
        intro w245 a246 hS247 hF248; clear hF243 hS241
        refine ⟨⟨_, hS247.pick1⟩, ?_⟩
        refine any_done (by kernel_rfl) ?_
        have hF249 := hF248.keep [4, 6, 8]
        clear hF248
        refine thenN (wp_seq (wp_seq (wp_region_lit ?_)))
        refine ev_runs 1 hF249 (l' := [(33, nI 0), (8, nP (w68.heap.size) 0), (6, .slice (some ⟨g49, 0, none⟩) L10.length c21), (4, nP (w.heap.size) 0)]) (w' := w245) (by kernel_rfl) ?_
        intro a251 hF250; clear hF249
        refine wpList_nil (thenN ?_)
        refine wp_block ?_
        refine wp_loop_ghost (fun kI aI wI => ∃ (x252 : Int) (x253 : Int) (x254 : Int) (x255 : Int) (x256 : Int) (x257 : Int) (x258 : Int), Fr 51 aI [(33, nI x258), (8, nP (w68.heap.size) 0), (6, .slice (some ⟨g49, 0, none⟩) L10.length c21), (4, nP (w.heap.size) 0)] ∧ St w0 F0 (BlkP (w68.heap.size) 70 #[nI x58, nI x65, nI x236, nI x252, nI x253, nI x254, nI x255, nI x256, nI x257, nI (-1)] :: RowP (.slice (some ⟨g49, 0, none⟩) L10.length c21) L10 :: HeapP b0 ab0 s0 :: BlkP (w.heap.size) 70 #[nI 0, nI 0, nI 0, nI 0, nI 0, nI 0, nI 0, nI 0, nI 0, nI 0] :: ps) wI ∧ view_Gor.l1 s0 L10 x58 x65 x236 kI x252 x253 x254 x255 x256 x257 x258 = some (r0, r1, t0)) k ⟨0, 0, 0, 0, 0, 0, 0, hF250, hS247, hm238⟩ ?_
        rintro k259 a260 w261 ⟨x252, x253, x254, x255, x256, x257, x258, hF262, hS263, hm264⟩
        clear hF250 hS247 hm238
        cases k259 with
        | zero => cases hm264
        | succ k259 =>
         have hm265 : view_Gor.l1b s0 L10 x58 x65 x236 (view_Gor.l1 s0 L10 x58 x65 x236 k259) x252 x253 x254 x255 x256 x257 x258 = some (r0, r1, t0) := hm264
         clear hm264
         unfold view_Gor.l1b at hm265
         refine wp_seq (wp_region_lit ?_)
         refine ev_runs 1 hF262 (l' := [(34, .bool (decide (x258 < 6))), (33, nI x258), (8, nP (w68.heap.size) 0), (6, .slice (some ⟨g49, 0, none⟩) L10.length c21), (4, nP (w.heap.size) 0)]) (w' := w261) (by kernel_rfl) ?_
         intro a267 hF266; clear hF262
         refine wpList_nil (thenN (wp_seq ?_))
         cases hc268 : (decide (x258 < 6)) with
         | true =>
          rw [hc268] at hF266
          rw [hc268] at hm265
          have hm269 := ifT hm265; clear hm265
          refine ev_condT hF266 rfl rfl ?_
          refine wp_skip ?_
          have hF270 := hF266.keep [4, 6, 8, 33]
          clear hF266
          refine thenN (wp_seq ?_)
          refine wp_block ?_
          refine wp_seq (wp_region_lit ?_)
          refine ev_runK 2 hF270 [4, 6, 8, 9, 33] (l' := [(9, nI x258), (33, nI x258), (8, nP (w68.heap.size) 0), (6, .slice (some ⟨g49, 0, none⟩) L10.length c21), (4, nP (w.heap.size) 0)]) (w' := w261) (by kernel_rfl) ?_
          intro a272 hF271; clear hF270
          refine wpList_nil (thenN (wp_region_lit ?_))
          refine ev_runs 4 hF271 (l' := [(39, nI (IntKind.i64.wrap (3 + x258))), (38, nI x258), (37, .slice (some ⟨g49, 0, none⟩) L10.length c21), (36, nI x258), (9, nI x258), (33, nI x258), (8, nP (w68.heap.size) 0), (6, .slice (some ⟨g49, 0, none⟩) L10.length c21), (4, nP (w.heap.size) 0)]) (w' := w261) (by kernel_rfl) ?_
          intro a274 hF273; clear hF271
          obtain ⟨hc275, hm276⟩ := ifTE hm269; clear hm269
          refine ev_one (nP g49 ((IntKind.i64.wrap (3 + x258)).toNat)) w261 hF273 (by kernel_rfl) rfl (by kernel_rfl) (run_idx rfl rfl rfl rfl rfl (inR_spec hc275).1 (inR_spec hc275).2 _) (l' := [(40, nP g49 ((IntKind.i64.wrap (3 + x258)).toNat)), (39, nI (IntKind.i64.wrap (3 + x258))), (38, nI x258), (37, .slice (some ⟨g49, 0, none⟩) L10.length c21), (36, nI x258), (9, nI x258), (33, nI x258), (8, nP (w68.heap.size) 0), (6, .slice (some ⟨g49, 0, none⟩) L10.length c21), (4, nP (w.heap.size) 0)]) (by kernel_rfl) ?_
          intro a278 hF277; clear hF273
          refine ev_one (nI (atI L10 (IntKind.i64.wrap (3 + x258)))) w261 hF277 (by kernel_rfl) rfl (by kernel_rfl) (run_load1 rfl rfl rfl (hS263.atI 1 rfl hc275)) (l' := [(41, nI (atI L10 (IntKind.i64.wrap (3 + x258)))), (40, nP g49 ((IntKind.i64.wrap (3 + x258)).toNat)), (39, nI (IntKind.i64.wrap (3 + x258))), (38, nI x258), (37, .slice (some ⟨g49, 0, none⟩) L10.length c21), (36, nI x258), (9, nI x258), (33, nI x258), (8, nP (w68.heap.size) 0), (6, .slice (some ⟨g49, 0, none⟩) L10.length c21), (4, nP (w.heap.size) 0)]) (by kernel_rfl) ?_
          intro a280 hF279; clear hF277
          refine ev_runs 1 hF279 (l' := [(42, nP (w68.heap.size) 3), (41, nI (atI L10 (IntKind.i64.wrap (3 + x258)))), (40, nP g49 ((IntKind.i64.wrap (3 + x258)).toNat)), (39, nI (IntKind.i64.wrap (3 + x258))), (38, nI x258), (37, .slice (some ⟨g49, 0, none⟩) L10.length c21), (36, nI x258), (9, nI x258), (33, nI x258), (8, nP (w68.heap.size) 0), (6, .slice (some ⟨g49, 0, none⟩) L10.length c21), (4, nP (w.heap.size) 0)]) (w' := w261) (by kernel_rfl) ?_
          intro a282 hF281; clear hF279
          cases hc283 : (x258 == 0) with
          | true =>
           rw [hc283] at hm276
           have hm284 := ifT hm276; clear hm276
           refine ev_one (nP (w68.heap.size) 3) w261 hF281 (by kernel_rfl) rfl (by kernel_rfl) (run_idxA (q := 0) rfl rfl rfl rfl (congrArg (Value.int .i64) (eq_of_beq hc283)) (by decide) (by decide) (by kernel_rfl) _) (l' := [(43, nP (w68.heap.size) 3), (42, nP (w68.heap.size) 3), (41, nI (atI L10 (IntKind.i64.wrap (3 + x258)))), (40, nP g49 ((IntKind.i64.wrap (3 + x258)).toNat)), (39, nI (IntKind.i64.wrap (3 + x258))), (38, nI x258), (37, .slice (some ⟨g49, 0, none⟩) L10.length c21), (36, nI x258), (9, nI x258), (33, nI x258), (8, nP (w68.heap.size) 0), (6, .slice (some ⟨g49, 0, none⟩) L10.length c21), (4, nP (w.heap.size) 0)]) (by kernel_rfl) ?_
           intro a286 hF285; clear hF281
           refine ev_store (nI (atI L10 (IntKind.i64.wrap (3 + x258)))) #[nI x58, nI x65, nI x236, nI (atI L10 (IntKind.i64.wrap (3 + x258))), nI x253, nI x254, nI x255, nI x256, nI x257, nI (-1)] hF285 (by kernel_rfl) rfl rfl rfl rfl (by kernel_rfl) hS263 (by kernel_rfl) (by kernel_rfl) (by kernel_rfl) (l' := [(43, nP (w68.heap.size) 3), (42, nP (w68.heap.size) 3), (41, nI (atI L10 (IntKind.i64.wrap (3 + x258)))), (40, nP g49 ((IntKind.i64.wrap (3 + x258)).toNat)), (39, nI (IntKind.i64.wrap (3 + x258))), (38, nI x258), (37, .slice (some ⟨g49, 0, none⟩) L10.length c21), (36, nI x258), (9, nI x258), (33, nI x258), (8, nP (w68.heap.size) 0), (6, .slice (some ⟨g49, 0, none⟩) L10.length c21), (4, nP (w.heap.size) 0)]) (by kernel_rfl) ?_
           intro w287 a288 hS289 hF290; clear hF285 hS263
           refine wpList_nil ?_
           have hF291 := hF290.keep [4, 6, 8, 33]
           clear hF290
           refine blockN ?_
           refine thenN (wp_region_lit ?_)
           refine ev_runK 2 hF291 [4, 6, 8, 33] (l' := [(33, nI (IntKind.i64.wrap (x258 + 1))), (8, nP (w68.heap.size) 0), (6, .slice (some ⟨g49, 0, none⟩) L10.length c21), (4, nP (w.heap.size) 0)]) (w' := w287) (by kernel_rfl) ?_
           intro a293 hF292; clear hF291
           refine wpList_nil ?_
           exact thenN ⟨k259, Nat.lt_succ_self _, atI L10 (IntKind.i64.wrap (3 + x258)), x253, x254, x255, x256, x257, IntKind.i64.wrap (x258 + 1), hF292, hS289, hm284⟩
          | false =>
           rw [hc283] at hm276
           have hm294 := ifF hm276; clear hm276
           cases hc295 : (x258 == 1) with
           | true =>
            rw [hc295] at hm294
            have hm296 := ifT hm294; clear hm294
            refine ev_one (nP (w68.heap.size) 4) w261 hF281 (by kernel_rfl) rfl (by kernel_rfl) (run_idxA (q := 1) rfl rfl rfl rfl (congrArg (Value.int .i64) (eq_of_beq hc295)) (by decide) (by decide) (by kernel_rfl) _) (l' := [(43, nP (w68.heap.size) 4), (42, nP (w68.heap.size) 3), (41, nI (atI L10 (IntKind.i64.wrap (3 + x258)))), (40, nP g49 ((IntKind.i64.wrap (3 + x258)).toNat)), (39, nI (IntKind.i64.wrap (3 + x258))), (38, nI x258), (37, .slice (some ⟨g49, 0, none⟩) L10.length c21), (36, nI x258), (9, nI x258), (33, nI x258), (8, nP (w68.heap.size) 0), (6, .slice (some ⟨g49, 0, none⟩) L10.length c21), (4, nP (w.heap.size) 0)]) (by kernel_rfl) ?_
            intro a298 hF297; clear hF281
            refine ev_store (nI (atI L10 (IntKind.i64.wrap (3 + x258)))) #[nI x58, nI x65, nI x236, nI x252, nI (atI L10 (IntKind.i64.wrap (3 + x258))), nI x254, nI x255, nI x256, nI x257, nI (-1)] hF297 (by kernel_rfl) rfl rfl rfl rfl (by kernel_rfl) hS263 (by kernel_rfl) (by kernel_rfl) (by kernel_rfl) (l' := [(43, nP (w68.heap.size) 4), (42, nP (w68.heap.size) 3), (41, nI (atI L10 (IntKind.i64.wrap (3 + x258)))), (40, nP g49 ((IntKind.i64.wrap (3 + x258)).toNat)), (39, nI (IntKind.i64.wrap (3 + x258))), (38, nI x258), (37, .slice (some ⟨g49, 0, none⟩) L10.length c21), (36, nI x258), (9, nI x258), (33, nI x258), (8, nP (w68.heap.size) 0), (6, .slice (some ⟨g49, 0, none⟩) L10.length c21), (4, nP (w.heap.size) 0)]) (by kernel_rfl) ?_
            intro w299 a300 hS301 hF302; clear hF297 hS263
            refine wpList_nil ?_
            have hF303 := hF302.keep [4, 6, 8, 33]
            clear hF302
            refine blockN ?_
            refine thenN (wp_region_lit ?_)
            refine ev_runK 2 hF303 [4, 6, 8, 33] (l' := [(33, nI (IntKind.i64.wrap (x258 + 1))), (8, nP (w68.heap.size) 0), (6, .slice (some ⟨g49, 0, none⟩) L10.length c21), (4, nP (w.heap.size) 0)]) (w' := w299) (by kernel_rfl) ?_
            intro a305 hF304; clear hF303
            refine wpList_nil ?_
            exact thenN ⟨k259, Nat.lt_succ_self _, x252, atI L10 (IntKind.i64.wrap (3 + x258)), x254, x255, x256, x257, IntKind.i64.wrap (x258 + 1), hF304, hS301, hm296⟩
           | false =>
            rw [hc295] at hm294
            have hm306 := ifF hm294; clear hm294
            cases hc307 : (x258 == 2) with
            | true =>
             rw [hc307] at hm306
             have hm308 := ifT hm306; clear hm306
             refine ev_one (nP (w68.heap.size) 5) w261 hF281 (by kernel_rfl) rfl (by kernel_rfl) (run_idxA (q := 2) rfl rfl rfl rfl (congrArg (Value.int .i64) (eq_of_beq hc307)) (by decide) (by decide) (by kernel_rfl) _) (l' := [(43, nP (w68.heap.size) 5), (42, nP (w68.heap.size) 3), (41, nI (atI L10 (IntKind.i64.wrap (3 + x258)))), (40, nP g49 ((IntKind.i64.wrap (3 + x258)).toNat)), (39, nI (IntKind.i64.wrap (3 + x258))), (38, nI x258), (37, .slice (some ⟨g49, 0, none⟩) L10.length c21), (36, nI x258), (9, nI x258), (33, nI x258), (8, nP (w68.heap.size) 0), (6, .slice (some ⟨g49, 0, none⟩) L10.length c21), (4, nP (w.heap.size) 0)]) (by kernel_rfl) ?_
             intro a310 hF309; clear hF281
             refine ev_store (nI (atI L10 (IntKind.i64.wrap (3 + x258)))) #[nI x58, nI x65, nI x236, nI x252, nI x253, nI (atI L10 (IntKind.i64.wrap (3 + x258))), nI x255, nI x256, nI x257, nI (-1)] hF309 (by kernel_rfl) rfl rfl rfl rfl (by kernel_rfl) hS263 (by kernel_rfl) (by kernel_rfl) (by kernel_rfl) (l' := [(43, nP (w68.heap.size) 5), (42, nP (w68.heap.size) 3), (41, nI (atI L10 (IntKind.i64.wrap (3 + x258)))), (40, nP g49 ((IntKind.i64.wrap (3 + x258)).toNat)), (39, nI (IntKind.i64.wrap (3 + x258))), (38, nI x258), (37, .slice (some ⟨g49, 0, none⟩) L10.length c21), (36, nI x258), (9, nI x258), (33, nI x258), (8, nP (w68.heap.size) 0), (6, .slice (some ⟨g49, 0, none⟩) L10.length c21), (4, nP (w.heap.size) 0)]) (by kernel_rfl) ?_
             intro w311 a312 hS313 hF314; clear hF309 hS263
             refine wpList_nil ?_
             have hF315 := hF314.keep [4, 6, 8, 33]
             clear hF314
             refine blockN ?_
             refine thenN (wp_region_lit ?_)
             refine ev_runK 2 hF315 [4, 6, 8, 33] (l' := [(33, nI (IntKind.i64.wrap (x258 + 1))), (8, nP (w68.heap.size) 0), (6, .slice (some ⟨g49, 0, none⟩) L10.length c21), (4, nP (w.heap.size) 0)]) (w' := w311) (by kernel_rfl) ?_
             intro a317 hF316; clear hF315
             refine wpList_nil ?_
             exact thenN ⟨k259, Nat.lt_succ_self _, x252, x253, atI L10 (IntKind.i64.wrap (3 + x258)), x255, x256, x257, IntKind.i64.wrap (x258 + 1), hF316, hS313, hm308⟩
            | false =>
             rw [hc307] at hm306
             have hm318 := ifF hm306; clear hm306
             cases hc319 : (x258 == 3) with
             | true =>
              rw [hc319] at hm318
              have hm320 := ifT hm318; clear hm318
              refine ev_one (nP (w68.heap.size) 6) w261 hF281 (by kernel_rfl) rfl (by kernel_rfl) (run_idxA (q := 3) rfl rfl rfl rfl (congrArg (Value.int .i64) (eq_of_beq hc319)) (by decide) (by decide) (by kernel_rfl) _) (l' := [(43, nP (w68.heap.size) 6), (42, nP (w68.heap.size) 3), (41, nI (atI L10 (IntKind.i64.wrap (3 + x258)))), (40, nP g49 ((IntKind.i64.wrap (3 + x258)).toNat)), (39, nI (IntKind.i64.wrap (3 + x258))), (38, nI x258), (37, .slice (some ⟨g49, 0, none⟩) L10.length c21), (36, nI x258), (9, nI x258), (33, nI x258), (8, nP (w68.heap.size) 0), (6, .slice (some ⟨g49, 0, none⟩) L10.length c21), (4, nP (w.heap.size) 0)]) (by kernel_rfl) ?_
              intro a322 hF321; clear hF281
              refine ev_store (nI (atI L10 (IntKind.i64.wrap (3 + x258)))) #[nI x58, nI x65, nI x236, nI x252, nI x253, nI x254, nI (atI L10 (IntKind.i64.wrap (3 + x258))), nI x256, nI x257, nI (-1)] hF321 (by kernel_rfl) rfl rfl rfl rfl (by kernel_rfl) hS263 (by kernel_rfl) (by kernel_rfl) (by kernel_rfl) (l' := [(43, nP (w68.heap.size) 6), (42, nP (w68.heap.size) 3), (41, nI (atI L10 (IntKind.i64.wrap (3 + x258)))), (40, nP g49 ((IntKind.i64.wrap (3 + x258)).toNat)), (39, nI (IntKind.i64.wrap (3 + x258))), (38, nI x258), (37, .slice (some ⟨g49, 0, none⟩) L10.length c21), (36, nI x258), (9, nI x258), (33, nI x258), (8, nP (w68.heap.size) 0), (6, .slice (some ⟨g49, 0, none⟩) L10.length c21), (4, nP (w.heap.size) 0)]) (by kernel_rfl) ?_
              intro w323 a324 hS325 hF326; clear hF321 hS263
              refine wpList_nil ?_
              have hF327 := hF326.keep [4, 6, 8, 33]
              clear hF326
              refine blockN ?_
              refine thenN (wp_region_lit ?_)
              refine ev_runK 2 hF327 [4, 6, 8, 33] (l' := [(33, nI (IntKind.i64.wrap (x258 + 1))), (8, nP (w68.heap.size) 0), (6, .slice (some ⟨g49, 0, none⟩) L10.length c21), (4, nP (w.heap.size) 0)]) (w' := w323) (by kernel_rfl) ?_
              intro a329 hF328; clear hF327
              refine wpList_nil ?_
              exact thenN ⟨k259, Nat.lt_succ_self _, x252, x253, x254, atI L10 (IntKind.i64.wrap (3 + x258)), x256, x257, IntKind.i64.wrap (x258 + 1), hF328, hS325, hm320⟩
             | false =>
              rw [hc319] at hm318
              have hm330 := ifF hm318; clear hm318
              cases hc331 : (x258 == 4) with
              | true =>
               rw [hc331] at hm330
               have hm332 := ifT hm330; clear hm330
               refine ev_one (nP (w68.heap.size) 7) w261 hF281 (by kernel_rfl) rfl (by kernel_rfl) (run_idxA (q := 4) rfl rfl rfl rfl (congrArg (Value.int .i64) (eq_of_beq hc331)) (by decide) (by decide) (by kernel_rfl) _) (l' := [(43, nP (w68.heap.size) 7), (42, nP (w68.heap.size) 3), (41, nI (atI L10 (IntKind.i64.wrap (3 + x258)))), (40, nP g49 ((IntKind.i64.wrap (3 + x258)).toNat)), (39, nI (IntKind.i64.wrap (3 + x258))), (38, nI x258), (37, .slice (some ⟨g49, 0, none⟩) L10.length c21), (36, nI x258), (9, nI x258), (33, nI x258), (8, nP (w68.heap.size) 0), (6, .slice (some ⟨g49, 0, none⟩) L10.length c21), (4, nP (w.heap.size) 0)]) (by kernel_rfl) ?_
               intro a334 hF333; clear hF281
               refine ev_store (nI (atI L10 (IntKind.i64.wrap (3 + x258)))) #[nI x58, nI x65, nI x236, nI x252, nI x253, nI x254, nI x255, nI (atI L10 (IntKind.i64.wrap (3 + x258))), nI x257, nI (-1)] hF333 (by kernel_rfl) rfl rfl rfl rfl (by kernel_rfl) hS263 (by kernel_rfl) (by kernel_rfl) (by kernel_rfl) (l' := [(43, nP (w68.heap.size) 7), (42, nP (w68.heap.size) 3), (41, nI (atI L10 (IntKind.i64.wrap (3 + x258)))), (40, nP g49 ((IntKind.i64.wrap (3 + x258)).toNat)), (39, nI (IntKind.i64.wrap (3 + x258))), (38, nI x258), (37, .slice (some ⟨g49, 0, none⟩) L10.length c21), (36, nI x258), (9, nI x258), (33, nI x258), (8, nP (w68.heap.size) 0), (6, .slice (some ⟨g49, 0, none⟩) L10.length c21), (4, nP (w.heap.size) 0)]) (by kernel_rfl) ?_
               intro w335 a336 hS337 hF338; clear hF333 hS263
               refine wpList_nil ?_
               have hF339 := hF338.keep [4, 6, 8, 33]
               clear hF338
               refine blockN ?_
               refine thenN (wp_region_lit ?_)
               refine ev_runK 2 hF339 [4, 6, 8, 33] (l' := [(33, nI (IntKind.i64.wrap (x258 + 1))), (8, nP (w68.heap.size) 0), (6, .slice (some ⟨g49, 0, none⟩) L10.length c21), (4, nP (w.heap.size) 0)]) (w' := w335) (by kernel_rfl) ?_
               intro a341 hF340; clear hF339
               refine wpList_nil ?_
               exact thenN ⟨k259, Nat.lt_succ_self _, x252, x253, x254, x255, atI L10 (IntKind.i64.wrap (3 + x258)), x257, IntKind.i64.wrap (x258 + 1), hF340, hS337, hm332⟩
              | false =>
               rw [hc331] at hm330
               have hm342 := ifF hm330; clear hm330
               cases hc343 : (x258 == 5) with
               | true =>
                rw [hc343] at hm342
                have hm344 := ifT hm342; clear hm342
                refine ev_one (nP (w68.heap.size) 8) w261 hF281 (by kernel_rfl) rfl (by kernel_rfl) (run_idxA (q := 5) rfl rfl rfl rfl (congrArg (Value.int .i64) (eq_of_beq hc343)) (by decide) (by decide) (by kernel_rfl) _) (l' := [(43, nP (w68.heap.size) 8), (42, nP (w68.heap.size) 3), (41, nI (atI L10 (IntKind.i64.wrap (3 + x258)))), (40, nP g49 ((IntKind.i64.wrap (3 + x258)).toNat)), (39, nI (IntKind.i64.wrap (3 + x258))), (38, nI x258), (37, .slice (some ⟨g49, 0, none⟩) L10.length c21), (36, nI x258), (9, nI x258), (33, nI x258), (8, nP (w68.heap.size) 0), (6, .slice (some ⟨g49, 0, none⟩) L10.length c21), (4, nP (w.heap.size) 0)]) (by kernel_rfl) ?_
                intro a346 hF345; clear hF281
                refine ev_store (nI (atI L10 (IntKind.i64.wrap (3 + x258)))) #[nI x58, nI x65, nI x236, nI x252, nI x253, nI x254, nI x255, nI x256, nI (atI L10 (IntKind.i64.wrap (3 + x258))), nI (-1)] hF345 (by kernel_rfl) rfl rfl rfl rfl (by kernel_rfl) hS263 (by kernel_rfl) (by kernel_rfl) (by kernel_rfl) (l' := [(43, nP (w68.heap.size) 8), (42, nP (w68.heap.size) 3), (41, nI (atI L10 (IntKind.i64.wrap (3 + x258)))), (40, nP g49 ((IntKind.i64.wrap (3 + x258)).toNat)), (39, nI (IntKind.i64.wrap (3 + x258))), (38, nI x258), (37, .slice (some ⟨g49, 0, none⟩) L10.length c21), (36, nI x258), (9, nI x258), (33, nI x258), (8, nP (w68.heap.size) 0), (6, .slice (some ⟨g49, 0, none⟩) L10.length c21), (4, nP (w.heap.size) 0)]) (by kernel_rfl) ?_
                intro w347 a348 hS349 hF350; clear hF345 hS263
                refine wpList_nil ?_
                have hF351 := hF350.keep [4, 6, 8, 33]
                clear hF350
                refine blockN ?_
                refine thenN (wp_region_lit ?_)
                refine ev_runK 2 hF351 [4, 6, 8, 33] (l' := [(33, nI (IntKind.i64.wrap (x258 + 1))), (8, nP (w68.heap.size) 0), (6, .slice (some ⟨g49, 0, none⟩) L10.length c21), (4, nP (w.heap.size) 0)]) (w' := w347) (by kernel_rfl) ?_
                intro a353 hF352; clear hF351
                refine wpList_nil ?_
                exact thenN ⟨k259, Nat.lt_succ_self _, x252, x253, x254, x255, x256, atI L10 (IntKind.i64.wrap (3 + x258)), IntKind.i64.wrap (x258 + 1), hF352, hS349, hm344⟩
               | false =>
                rw [hc343] at hm342
                have hm354 := ifF hm342; clear hm342
                exact absurd hm354 (by simp)
         | false =>
          rw [hc268] at hF266
          rw [hc268] at hm265
          have hm355 := ifF hm265; clear hm265
          refine ev_condF hF266 rfl rfl ?_
          refine wp_exit ?_
          refine thenE ?_
          refine thenE ?_
          refine blockE ?_
          refine thenN (wp_seq (wp_region_lit ?_))
          refine ev_runs 1 hF266 (l' := [(45, .slice (some ⟨g49, 0, none⟩) L10.length c21), (34, .bool false), (33, nI x258), (8, nP (w68.heap.size) 0), (6, .slice (some ⟨g49, 0, none⟩) L10.length c21), (4, nP (w.heap.size) 0)]) (w' := w261) (by kernel_rfl) ?_
          intro a357 hF356; clear hF266
          obtain ⟨hc358, hm359⟩ := ifTE hm355; clear hm355
          refine ev_one (nP g49 ((9 : Int).toNat)) w261 hF356 (by kernel_rfl) rfl (by kernel_rfl) (run_idx rfl rfl rfl rfl rfl (inR_spec hc358).1 (inR_spec hc358).2 _) (l' := [(46, nP g49 ((9 : Int).toNat)), (45, .slice (some ⟨g49, 0, none⟩) L10.length c21), (34, .bool false), (33, nI x258), (8, nP (w68.heap.size) 0), (6, .slice (some ⟨g49, 0, none⟩) L10.length c21), (4, nP (w.heap.size) 0)]) (by kernel_rfl) ?_
          intro a361 hF360; clear hF356
          refine ev_one (nI (atI L10 (9 : Int))) w261 hF360 (by kernel_rfl) rfl (by kernel_rfl) (run_load1 rfl rfl rfl (hS263.atI 1 rfl hc358)) (l' := [(47, nI (atI L10 (9 : Int))), (46, nP g49 ((9 : Int).toNat)), (45, .slice (some ⟨g49, 0, none⟩) L10.length c21), (34, .bool false), (33, nI x258), (8, nP (w68.heap.size) 0), (6, .slice (some ⟨g49, 0, none⟩) L10.length c21), (4, nP (w.heap.size) 0)]) (by kernel_rfl) ?_
          intro a363 hF362; clear hF360
          refine ev_call 64 #[nI (atI L10 (9 : Int))] hF362 rfl rfl (by kernel_rfl) rfl (by kernel_rfl) (fun w => by kernel_rfl) ?_
          obtain ⟨x364, hx365, hm366⟩ := bind1E hm359; clear hm359
          refine (p_vAt hS263 hx365).mono ?_
          rintro _ w367 ⟨rfl, hS369⟩ a368 hF370; clear hF362 hS263
          refine ev_runs 1 hF370 (l' := [(49, nP (w68.heap.size) 9), (48, nI x364), (47, nI (atI L10 (9 : Int))), (46, nP g49 ((9 : Int).toNat)), (45, .slice (some ⟨g49, 0, none⟩) L10.length c21), (34, .bool false), (33, nI x258), (8, nP (w68.heap.size) 0), (6, .slice (some ⟨g49, 0, none⟩) L10.length c21), (4, nP (w.heap.size) 0)]) (w' := w367) (by kernel_rfl) ?_
          intro a372 hF371; clear hF370
          refine ev_store (nI x364) #[nI x58, nI x65, nI x236, nI x252, nI x253, nI x254, nI x255, nI x256, nI x257, nI x364] hF371 (by kernel_rfl) rfl rfl rfl rfl (by kernel_rfl) hS369 (by kernel_rfl) (by kernel_rfl) (by kernel_rfl) (l' := [(49, nP (w68.heap.size) 9), (48, nI x364), (47, nI (atI L10 (9 : Int))), (46, nP g49 ((9 : Int).toNat)), (45, .slice (some ⟨g49, 0, none⟩) L10.length c21), (34, .bool false), (33, nI x258), (8, nP (w68.heap.size) 0), (6, .slice (some ⟨g49, 0, none⟩) L10.length c21), (4, nP (w.heap.size) 0)]) (by kernel_rfl) ?_
          intro w373 a374 hS375 hF376; clear hF371 hS369
          refine wpList_nil ?_
          have hF377 := hF376.keep [4, 8]
          clear hF376
          have hS378 := hS375.pick1.drop
          clear hS375
          refine thenN (wp_seq (wp_region_lit ?_))
          refine ev_one (.agg #[nI x58, nI x65, nI x236, nI x252, nI x253, nI x254, nI x255, nI x256, nI x257, nI x364]) w373 hF377 (by kernel_rfl) rfl (by kernel_rfl) (run_loadV rfl rfl (run_loadA (cs := [nI x58, nI x65, nI x236, nI x252, nI x253, nI x254, nI x255, nI x256, nI x257, nI x364]) rfl rfl (by kernel_rfl) (blk_cells hS378 0 rfl rfl))) (l' := [(50, .agg #[nI x58, nI x65, nI x236, nI x252, nI x253, nI x254, nI x255, nI x256, nI x257, nI x364]), (8, nP (w68.heap.size) 0), (4, nP (w.heap.size) 0)]) (by kernel_rfl) ?_
          intro a380 hF379; clear hF377
          have hS381 := hS378.pick2
          clear hS378
          refine ev_store (.agg #[nI x58, nI x65, nI x236, nI x252, nI x253, nI x254, nI x255, nI x256, nI x257, nI x364]) #[nI x58, nI x65, nI x236, nI x252, nI x253, nI x254, nI x255, nI x256, nI x257, nI x364] hF379 (by kernel_rfl) rfl rfl rfl rfl (by kernel_rfl) hS381 (by kernel_rfl) (by kernel_rfl) (by kernel_rfl) (l' := [(50, .agg #[nI x58, nI x65, nI x236, nI x252, nI x253, nI x254, nI x255, nI x256, nI x257, nI x364]), (8, nP (w68.heap.size) 0), (4, nP (w.heap.size) 0)]) (by kernel_rfl) ?_
          intro w382 a383 hS384 hF385; clear hF379 hS381
          refine ev_runK 1 hF385 [4, 5] (l' := [(5, nI 0), (4, nP (w.heap.size) 0)]) (w' := w382) (by kernel_rfl) ?_
          intro a387 hF386; clear hF385
          refine wpList_nil ?_
          have hS388 := hS384.pick1.drop
          clear hS384
          refine thenN ?_
          refine wp_ret ?_
          have hS389 := hS388.pick1
          clear hS388
          simp only [Option.some.injEq, Prod.mk.injEq] at hm366
          obtain ⟨rfl, rfl, rfl⟩ := hm366
          refine ev_retC hF386 _ [.agg #[nI x58, nI x65, nI x236, nI x252, nI x253, nI x254, nI x255, nI x256, nI x257, nI x364], nI 0] (.tuple #[.agg #[nI x58, nI x65, nI x236, nI x252, nI x253, nI x254, nI x255, nI x256, nI x257, nI x364], nI 0]) rfl ⟨⟨rfl, _, rfl, (run_loadA (cs := [nI x58, nI x65, nI x236, nI x252, nI x253, nI x254, nI x255, nI x256, nI x257, nI x364]) rfl rfl (by kernel_rfl) (blk_cells hS389 1 rfl rfl))⟩, ⟨rfl, rfl⟩, trivial⟩ rfl ?_
          have hS393 := hS389.pick1.drop
          clear hS389
          exact ⟨rfl, hS393⟩
    · skip
      have hS394 : St w0 F0 (BlkP (w61.heap.size) 70 #[nI 0, nI 0, nI 0, nI 0, nI 0, nI 0, nI 0, nI 0, nI 0, nI 0] :: RowP (.slice (some ⟨g49, 0, none⟩) L10.length c21) L10 :: HeapP b0 ab0 s0 :: BlkP (w.heap.size) 70 #[nI 0, nI 0, nI 0, nI 0, nI 0, nI 0, nI 0, nI 0, nI 0, nI 0] :: ps) (w61.alloc (.cells #[nI 0, nI 0, nI 0, nI 0, nI 0, nI 0, nI 0, nI 0, nI 0, nI 0] 70)) := St.new hS63 #[nI 0, nI 0, nI 0, nI 0, nI 0, nI 0, nI 0, nI 0, nI 0, nI 0] 70
      clear hS63
      refine op_step 13 #[true, true, true, true, true, true, true, false, true, true, true, false, false, true, false] (nP (w61.heap.size) 0) (w61.alloc (.cells #[nI 0, nI 0, nI 0, nI 0, nI 0, nI 0, nI 0, nI 0, nI 0, nI 0] 70)) hF64 rfl (by kernel_rfl) rfl (by kernel_rfl) (by kernel_rfl) (l' := [(8, nP (w61.heap.size) 0), (23, nI x58), (30, nI (atI L10 (2 : Int))), (26, nI (atI L10 (1 : Int))), (22, nI (atI L10 (0 : Int))), (6, .slice (some ⟨g49, 0, none⟩) L10.length c21), (4, nP (w.heap.size) 0)]) (by kernel_rfl) ⟨_, hS394.pick1⟩ (by kernel_rfl) ?_
      intro a396 hF395; clear hF64
      refine any_call 7 #[true, true, true, true, true, true, true, true, true, true, true, false, false, true, false] 63 #[nI (atI L10 (1 : Int))] hF395 rfl (by kernel_rfl) rfl rfl (by kernel_rfl) rfl (by kernel_rfl) (fun w => by kernel_rfl) (by kernel_rfl) ?_
      obtain ⟨x397, hx398, hm399⟩ := bind1E hm60; clear hm60
      refine (p_vNum hS394 hx398).mono ?_
      rintro _ w400 ⟨rfl, hS402⟩; clear hS394
      refine ⟨⟨_, hS402.pick1⟩, ?_⟩
      intro a401 hF403; clear hF395
      refine any_call 11 #[true, true, true, true, true, true, true, true, true, true, true, true, false, true, false] 63 #[nI (atI L10 (2 : Int))] hF403 rfl (by kernel_rfl) rfl rfl (by kernel_rfl) rfl (by kernel_rfl) (fun w => by kernel_rfl) (by kernel_rfl) ?_
      obtain ⟨x404, hx405, hm406⟩ := bind1E hm399; clear hm399
      refine (p_vNum hS402 hx405).mono ?_
      rintro _ w407 ⟨rfl, hS409⟩; clear hS402
      refine ⟨⟨_, hS409.pick1⟩, ?_⟩
      intro a408 hF410; clear hF403
      refine any_many 1 [(12, some (.agg #[nI x58, nI x397, nI x404, nI 0, nI 0, nI 0, nI 0, nI 0, nI 0, nI (-1)]))] [4, 6, 8, 32] #[true, true, true, true, true, true, true, true, true, true, true, true, true, true, false] (by rfl) hF410 (by kernel_rfl) (by kernel_rfl) (by exact (And.intro (fun wS hw => by kernel_rfl) trivial)) (fun _ _ _ _ _ h => h) ⟨_, hS409.pick1⟩ (l' := [(32, .agg #[nI x58, nI x397, nI x404, nI 0, nI 0, nI 0, nI 0, nI 0, nI 0, nI (-1)]), (8, nP (w61.heap.size) 0), (6, .slice (some ⟨g49, 0, none⟩) L10.length c21), (4, nP (w.heap.size) 0)]) (by kernel_rfl) ?_
      intro a412 hF411; clear hF410
      refine any_one 14 (by kernel_rfl) ?_
      refine op_store 14 #[true, true, true, true, true, true, true, true, true, true, true, true, true, true, true] (.agg #[nI x58, nI x397, nI x404, nI 0, nI 0, nI 0, nI 0, nI 0, nI 0, nI (-1)]) #[nI x58, nI x397, nI x404, nI 0, nI 0, nI 0, nI 0, nI 0, nI 0, nI (-1)] hF411 rfl (by kernel_rfl) rfl rfl rfl rfl (by kernel_rfl) hS409 (by kernel_rfl) (by kernel_rfl) (by kernel_rfl) (l' := [(32, .agg #[nI x58, nI x397, nI x404, nI 0, nI 0, nI 0, nI 0, nI 0, nI 0, nI (-1)]), (8, nP (w61.heap.size) 0), (6, .slice (some ⟨g49, 0, none⟩) L10.length c21), (4, nP (w.heap.size) 0)]) (by kernel_rfl) (by kernel_rfl) ?_
      intro w413 a414 hS415 hF416; clear hF411 hS409
      refine ⟨⟨_, hS415.pick1⟩, ?_⟩
      refine any_done (by kernel_rfl) ?_
      have hF417 := hF416.keep [4, 6, 8]
      clear hF416
      refine thenN (wp_seq (wp_seq (wp_region_lit ?_)))
      refine ev_runs 1 hF417 (l' := [(33, nI 0), (8, nP (w61.heap.size) 0), (6, .slice (some ⟨g49, 0, none⟩) L10.length c21), (4, nP (w.heap.size) 0)]) (w' := w413) (by kernel_rfl) ?_
      intro a419 hF418; clear hF417
      refine wpList_nil (thenN ?_)
      refine wp_block ?_
      refine wp_loop_ghost (fun kI aI wI => ∃ (x420 : Int) (x421 : Int) (x422 : Int) (x423 : Int) (x424 : Int) (x425 : Int) (x426 : Int), Fr 51 aI [(33, nI x426), (8, nP (w61.heap.size) 0), (6, .slice (some ⟨g49, 0, none⟩) L10.length c21), (4, nP (w.heap.size) 0)] ∧ St w0 F0 (BlkP (w61.heap.size) 70 #[nI x58, nI x397, nI x404, nI x420, nI x421, nI x422, nI x423, nI x424, nI x425, nI (-1)] :: RowP (.slice (some ⟨g49, 0, none⟩) L10.length c21) L10 :: HeapP b0 ab0 s0 :: BlkP (w.heap.size) 70 #[nI 0, nI 0, nI 0, nI 0, nI 0, nI 0, nI 0, nI 0, nI 0, nI 0] :: ps) wI ∧ view_Gor.l1 s0 L10 x58 x397 x404 kI x420 x421 x422 x423 x424 x425 x426 = some (r0, r1, t0)) k ⟨0, 0, 0, 0, 0, 0, 0, hF418, hS415, hm406⟩ ?_
      rintro k427 a428 w429 ⟨x420, x421, x422, x423, x424, x425, x426, hF430, hS431, hm432⟩
      clear hF418 hS415 hm406
      cases k427 with
      | zero => cases hm432
      | succ k427 =>
       have hm433 : view_Gor.l1b s0 L10 x58 x397 x404 (view_Gor.l1 s0 L10 x58 x397 x404 k427) x420 x421 x422 x423 x424 x425 x426 = some (r0, r1, t0) := hm432
       clear hm432
       unfold view_Gor.l1b at hm433
       refine wp_seq (wp_region_lit ?_)
       refine ev_runs 1 hF430 (l' := [(34, .bool (decide (x426 < 6))), (33, nI x426), (8, nP (w61.heap.size) 0), (6, .slice (some ⟨g49, 0, none⟩) L10.length c21), (4, nP (w.heap.size) 0)]) (w' := w429) (by kernel_rfl) ?_
       intro a435 hF434; clear hF430
       refine wpList_nil (thenN (wp_seq ?_))
       cases hc436 : (decide (x426 < 6)) with
       | true =>
        rw [hc436] at hF434
        rw [hc436] at hm433
        have hm437 := ifT hm433; clear hm433
        refine ev_condT hF434 rfl rfl ?_
        refine wp_skip ?_
        have hF438 := hF434.keep [4, 6, 8, 33]
        clear hF434
        refine thenN (wp_seq ?_)
        refine wp_block ?_
        refine wp_seq (wp_region_lit ?_)
        refine ev_runK 2 hF438 [4, 6, 8, 9, 33] (l' := [(9, nI x426), (33, nI x426), (8, nP (w61.heap.size) 0), (6, .slice (some ⟨g49, 0, none⟩) L10.length c21), (4, nP (w.heap.size) 0)]) (w' := w429) (by kernel_rfl) ?_
        intro a440 hF439; clear hF438
        refine wpList_nil (thenN (wp_region_lit ?_))
        refine ev_runs 4 hF439 (l' := [(39, nI (IntKind.i64.wrap (3 + x426))), (38, nI x426), (37, .slice (some ⟨g49, 0, none⟩) L10.length c21), (36, nI x426), (9, nI x426), (33, nI x426), (8, nP (w61.heap.size) 0), (6, .slice (some ⟨g49, 0, none⟩) L10.length c21), (4, nP (w.heap.size) 0)]) (w' := w429) (by kernel_rfl) ?_
        intro a442 hF441; clear hF439
        obtain ⟨hc443, hm444⟩ := ifTE hm437; clear hm437
        refine ev_one (nP g49 ((IntKind.i64.wrap (3 + x426)).toNat)) w429 hF441 (by kernel_rfl) rfl (by kernel_rfl) (run_idx rfl rfl rfl rfl rfl (inR_spec hc443).1 (inR_spec hc443).2 _) (l' := [(40, nP g49 ((IntKind.i64.wrap (3 + x426)).toNat)), (39, nI (IntKind.i64.wrap (3 + x426))), (38, nI x426), (37, .slice (some ⟨g49, 0, none⟩) L10.length c21), (36, nI x426), (9, nI x426), (33, nI x426), (8, nP (w61.heap.size) 0), (6, .slice (some ⟨g49, 0, none⟩) L10.length c21), (4, nP (w.heap.size) 0)]) (by kernel_rfl) ?_
        intro a446 hF445; clear hF441
        refine ev_one (nI (atI L10 (IntKind.i64.wrap (3 + x426)))) w429 hF445 (by kernel_rfl) rfl (by kernel_rfl) (run_load1 rfl rfl rfl (hS431.atI 1 rfl hc443)) (l' := [(41, nI (atI L10 (IntKind.i64.wrap (3 + x426)))), (40, nP g49 ((IntKind.i64.wrap (3 + x426)).toNat)), (39, nI (IntKind.i64.wrap (3 + x426))), (38, nI x426), (37, .slice (some ⟨g49, 0, none⟩) L10.length c21), (36, nI x426), (9, nI x426), (33, nI x426), (8, nP (w61.heap.size) 0), (6, .slice (some ⟨g49, 0, none⟩) L10.length c21), (4, nP (w.heap.size) 0)]) (by kernel_rfl) ?_
        intro a448 hF447; clear hF445
        refine ev_runs 1 hF447 (l' := [(42, nP (w61.heap.size) 3), (41, nI (atI L10 (IntKind.i64.wrap (3 + x426)))), (40, nP g49 ((IntKind.i64.wrap (3 + x426)).toNat)), (39, nI (IntKind.i64.wrap (3 + x426))), (38, nI x426), (37, .slice (some ⟨g49, 0, none⟩) L10.length c21), (36, nI x426), (9, nI x426), (33, nI x426), (8, nP (w61.heap.size) 0), (6, .slice (some ⟨g49, 0, none⟩) L10.length c21), (4, nP (w.heap.size) 0)]) (w' := w429) (by kernel_rfl) ?_
        intro a450 hF449; clear hF447
        cases hc451 : (x426 == 0) with
        | true =>
         rw [hc451] at hm444
         have hm452 := ifT hm444; clear hm444
         refine ev_one (nP (w61.heap.size) 3) w429 hF449 (by kernel_rfl) rfl (by kernel_rfl) (run_idxA (q := 0) rfl rfl rfl rfl (congrArg (Value.int .i64) (eq_of_beq hc451)) (by decide) (by decide) (by kernel_rfl) _) (l' := [(43, nP (w61.heap.size) 3), (42, nP (w61.heap.size) 3), (41, nI (atI L10 (IntKind.i64.wrap (3 + x426)))), (40, nP g49 ((IntKind.i64.wrap (3 + x426)).toNat)), (39, nI (IntKind.i64.wrap (3 + x426))), (38, nI x426), (37, .slice (some ⟨g49, 0, none⟩) L10.length c21), (36, nI x426), (9, nI x426), (33, nI x426), (8, nP (w61.heap.size) 0), (6, .slice (some ⟨g49, 0, none⟩) L10.length c21), (4, nP (w.heap.size) 0)]) (by kernel_rfl) ?_
         intro a454 hF453; clear hF449
         refine ev_store (nI (atI L10 (IntKind.i64.wrap (3 + x426)))) #[nI x58, nI x397, nI x404, nI (atI L10 (IntKind.i64.wrap (3 + x426))), nI x421, nI x422, nI x423, nI x424, nI x425, nI (-1)] hF453 (by kernel_rfl) rfl rfl rfl rfl (by kernel_rfl) hS431 (by kernel_rfl) (by kernel_rfl) (by kernel_rfl) (l' := [(43, nP (w61.heap.size) 3), (42, nP (w61.heap.size) 3), (41, nI (atI L10 (IntKind.i64.wrap (3 + x426)))), (40, nP g49 ((IntKind.i64.wrap (3 + x426)).toNat)), (39, nI (IntKind.i64.wrap (3 + x426))), (38, nI x426), (37, .slice (some ⟨g49, 0, none⟩) L10.length c21), (36, nI x426), (9, nI x426), (33, nI x426), (8, nP (w61.heap.size) 0), (6, .slice (some ⟨g49, 0, none⟩) L10.length c21), (4, nP (w.heap.size) 0)]) (by kernel_rfl) ?_
         intro w455 a456 hS457 hF458; clear hF453 hS431
         refine wpList_nil ?_
         have hF459 := hF458.keep [4, 6, 8, 33]
         clear hF458
         refine blockN ?_
         refine thenN (wp_region_lit ?_)
         refine ev_runK 2 hF459 [4, 6, 8, 33] (l' := [(33, nI (IntKind.i64.wrap (x426 + 1))), (8, nP (w61.heap.size) 0), (6, .slice (some ⟨g49, 0, none⟩) L10.length c21), (4, nP (w.heap.size) 0)]) (w' := w455) (by kernel_rfl) ?_
         intro a461 hF460; clear hF459
         refine wpList_nil ?_
         exact thenN ⟨k427, Nat.lt_succ_self _, atI L10 (IntKind.i64.wrap (3 + x426)), x421, x422, x423, x424, x425, IntKind.i64.wrap (x426 + 1), hF460, hS457, hm452⟩
        | false =>
         rw [hc451] at hm444
         have hm462 := ifF hm444; clear hm444
         cases hc463 : (x426 == 1) with
         | true =>
          rw [hc463] at hm462
          have hm464 := ifT hm462; clear hm462
          refine ev_one (nP (w61.heap.size) 4) w429 hF449 (by kernel_rfl) rfl (by kernel_rfl) (run_idxA (q := 1) rfl rfl rfl rfl (congrArg (Value.int .i64) (eq_of_beq hc463)) (by decide) (by decide) (by kernel_rfl) _) (l' := [(43, nP (w61.heap.size) 4), (42, nP (w61.heap.size) 3), (41, nI (atI L10 (IntKind.i64.wrap (3 + x426)))), (40, nP g49 ((IntKind.i64.wrap (3 + x426)).toNat)), (39, nI (IntKind.i64.wrap (3 + x426))), (38, nI x426), (37, .slice (some ⟨g49, 0, none⟩) L10.length c21), (36, nI x426), (9, nI x426), (33, nI x426), (8, nP (w61.heap.size) 0), (6, .slice (some ⟨g49, 0, none⟩) L10.length c21), (4, nP (w.heap.size) 0)]) (by kernel_rfl) ?_
          intro a466 hF465; clear hF449
          refine ev_store (nI (atI L10 (IntKind.i64.wrap (3 + x426)))) #[nI x58, nI x397, nI x404, nI x420, nI (atI L10 (IntKind.i64.wrap (3 + x426))), nI x422, nI x423, nI x424, nI x425, nI (-1)] hF465 (by kernel_rfl) rfl rfl rfl rfl (by kernel_rfl) hS431 (by kernel_rfl) (by kernel_rfl) (by kernel_rfl) (l' := [(43, nP (w61.heap.size) 4), (42, nP (w61.heap.size) 3), (41, nI (atI L10 (IntKind.i64.wrap (3 + x426)))), (40, nP g49 ((IntKind.i64.wrap (3 + x426)).toNat)), (39, nI (IntKind.i64.wrap (3 + x426))), (38, nI x426), (37, .slice (some ⟨g49, 0, none⟩) L10.length c21), (36, nI x426), (9, nI x426), (33, nI x426), (8, nP (w61.heap.size) 0), (6, .slice (some ⟨g49, 0, none⟩) L10.length c21), (4, nP (w.heap.size) 0)]) (by kernel_rfl) ?_
          intro w467 a468 hS469 hF470; clear hF465 hS431
          refine wpList_nil ?_
          have hF471 := hF470.keep [4, 6, 8, 33]
          clear hF470
          refine blockN ?_
          refine thenN (wp_region_lit ?_)
          refine ev_runK 2 hF471 [4, 6, 8, 33] (l' := [(33, nI (IntKind.i64.wrap (x426 + 1))), (8, nP (w61.heap.size) 0), (6, .slice (some ⟨g49, 0, none⟩) L10.length c21), (4, nP (w.heap.size) 0)]) (w' := w467) (by kernel_rfl) ?_
          intro a473 hF472; clear hF471
          refine wpList_nil ?_
          exact thenN ⟨k427, Nat.lt_succ_self _, x420, atI L10 (IntKind.i64.wrap (3 + x426)), x422, x423, x424, x425, IntKind.i64.wrap (x426 + 1), hF472, hS469, hm464⟩
         | false =>
          rw [hc463] at hm462
          have hm474 := ifF hm462; clear hm462
          cases hc475 : (x426 == 2) with
          | true =>
           rw [hc475] at hm474
           have hm476 := ifT hm474; clear hm474
           refine ev_one (nP (w61.heap.size) 5) w429 hF449 (by kernel_rfl) rfl (by kernel_rfl) (run_idxA (q := 2) rfl rfl rfl rfl (congrArg (Value.int .i64) (eq_of_beq hc475)) (by decide) (by decide) (by kernel_rfl) _) (l' := [(43, nP (w61.heap.size) 5), (42, nP (w61.heap.size) 3), (41, nI (atI L10 (IntKind.i64.wrap (3 + x426)))), (40, nP g49 ((IntKind.i64.wrap (3 + x426)).toNat)), (39, nI (IntKind.i64.wrap (3 + x426))), (38, nI x426), (37, .slice (some ⟨g49, 0, none⟩) L10.length c21), (36, nI x426), (9, nI x426), (33, nI x426), (8, nP (w61.heap.size) 0), (6, .slice (some ⟨g49, 0, none⟩) L10.length c21), (4, nP (w.heap.size) 0)]) (by kernel_rfl) ?_
           intro a478 hF477; clear hF449
           refine ev_store (nI (atI L10 (IntKind.i64.wrap (3 + x426)))) #[nI x58, nI x397, nI x404, nI x420, nI x421, nI (atI L10 (IntKind.i64.wrap (3 + x426))), nI x423, nI x424, nI x425, nI (-1)] hF477 (by kernel_rfl) rfl rfl rfl rfl (by kernel_rfl) hS431 (by kernel_rfl) (by kernel_rfl) (by kernel_rfl) (l' := [(43, nP (w61.heap.size) 5), (42, nP (w61.heap.size) 3), (41, nI (atI L10 (IntKind.i64.wrap (3 + x426)))), (40, nP g49 ((IntKind.i64.wrap (3 + x426)).toNat)), (39, nI (IntKind.i64.wrap (3 + x426))), (38, nI x426), (37, .slice (some ⟨g49, 0, none⟩) L10.length c21), (36, nI x426), (9, nI x426), (33, nI x426), (8, nP (w61.heap.size) 0), (6, .slice (some ⟨g49, 0, none⟩) L10.length c21), (4, nP (w.heap.size) 0)]) (by kernel_rfl) ?_
           intro w479 a480 hS481 hF482; clear hF477 hS431
           refine wpList_nil ?_
           have hF483 := hF482.keep [4, 6, 8, 33]
           clear hF482
           refine blockN ?_
           refine thenN (wp_region_lit ?_)
           refine ev_runK 2 hF483 [4, 6, 8, 33] (l' := [(33, nI (IntKind.i64.wrap (x426 + 1))), (8, nP (w61.heap.size) 0), (6, .slice (some ⟨g49, 0, none⟩) L10.length c21), (4, nP (w.heap.size) 0)]) (w' := w479) (by kernel_rfl) ?_
           intro a485 hF484; clear hF483
           refine wpList_nil ?_
           exact thenN ⟨k427, Nat.lt_succ_self _, x420, x421, atI L10 (IntKind.i64.wrap (3 + x426)), x423, x424, x425, IntKind.i64.wrap (x426 + 1), hF484, hS481, hm476⟩
          | false =>
           rw [hc475] at hm474
           have hm486 := ifF hm474; clear hm474
           cases hc487 : (x426 == 3) with
           | true =>
            rw [hc487] at hm486
            have hm488 := ifT hm486; clear hm486
            refine ev_one (nP (w61.heap.size) 6) w429 hF449 (by kernel_rfl) rfl (by kernel_rfl) (run_idxA (q := 3) rfl rfl rfl rfl (congrArg (Value.int .i64) (eq_of_beq hc487)) (by decide) (by decide) (by kernel_rfl) _) (l' := [(43, nP (w61.heap.size) 6), (42, nP (w61.heap.size) 3), (41, nI (atI L10 (IntKind.i64.wrap (3 + x426)))), (40, nP g49 ((IntKind.i64.wrap (3 + x426)).toNat)), (39, nI (IntKind.i64.wrap (3 + x426))), (38, nI x426), (37, .slice (some ⟨g49, 0, none⟩) L10.length c21), (36, nI x426), (9, nI x426), (33, nI x426), (8, nP (w61.heap.size) 0), (6, .slice (some ⟨g49, 0, none⟩) L10.length c21), (4, nP (w.heap.size) 0)]) (by kernel_rfl) ?_
            intro a490 hF489; clear hF449
            refine ev_store (nI (atI L10 (IntKind.i64.wrap (3 + x426)))) #[nI x58, nI x397, nI x404, nI x420, nI x421, nI x422, nI (atI L10 (IntKind.i64.wrap (3 + x426))), nI x424, nI x425, nI (-1)] hF489 (by kernel_rfl) rfl rfl rfl rfl (by kernel_rfl) hS431 (by kernel_rfl) (by kernel_rfl) (by kernel_rfl) (l' := [(43, nP (w61.heap.size) 6), (42, nP (w61.heap.size) 3), (41, nI (atI L10 (IntKind.i64.wrap (3 + x426)))), (40, nP g49 ((IntKind.i64.wrap (3 + x426)).toNat)), (39, nI (IntKind.i64.wrap (3 + x426))), (38, nI x426), (37, .slice (some ⟨g49, 0, none⟩) L10.length c21), (36, nI x426), (9, nI x426), (33, nI x426), (8, nP (w61.heap.size) 0), (6, .slice (some ⟨g49, 0, none⟩) L10.length c21), (4, nP (w.heap.size) 0)]) (by kernel_rfl) ?_
            intro w491 a492 hS493 hF494; clear hF489 hS431
            refine wpList_nil ?_
            have hF495 := hF494.keep [4, 6, 8, 33]
            clear hF494
            refine blockN ?_
            refine thenN (wp_region_lit ?_)
            refine ev_runK 2 hF495 [4, 6, 8, 33] (l' := [(33, nI (IntKind.i64.wrap (x426 + 1))), (8, nP (w61.heap.size) 0), (6, .slice (some ⟨g49, 0, none⟩) L10.length c21), (4, nP (w.heap.size) 0)]) (w' := w491) (by kernel_rfl) ?_
            intro a497 hF496; clear hF495
            refine wpList_nil ?_
            exact thenN ⟨k427, Nat.lt_succ_self _, x420, x421, x422, atI L10 (IntKind.i64.wrap (3 + x426)), x424, x425, IntKind.i64.wrap (x426 + 1), hF496, hS493, hm488⟩
           | false =>
            rw [hc487] at hm486
            have hm498 := ifF hm486; clear hm486
            cases hc499 : (x426 == 4) with
            | true =>
             rw [hc499] at hm498
             have hm500 := ifT hm498; clear hm498
             refine ev_one (nP (w61.heap.size) 7) w429 hF449 (by kernel_rfl) rfl (by kernel_rfl) (run_idxA (q := 4) rfl rfl rfl rfl (congrArg (Value.int .i64) (eq_of_beq hc499)) (by decide) (by decide) (by kernel_rfl) _) (l' := [(43, nP (w61.heap.size) 7), (42, nP (w61.heap.size) 3), (41, nI (atI L10 (IntKind.i64.wrap (3 + x426)))), (40, nP g49 ((IntKind.i64.wrap (3 + x426)).toNat)), (39, nI (IntKind.i64.wrap (3 + x426))), (38, nI x426), (37, .slice (some ⟨g49, 0, none⟩) L10.length c21), (36, nI x426), (9, nI x426), (33, nI x426), (8, nP (w61.heap.size) 0), (6, .slice (some ⟨g49, 0, none⟩) L10.length c21), (4, nP (w.heap.size) 0)]) (by kernel_rfl) ?_
             intro a502 hF501; clear hF449
             refine ev_store (nI (atI L10 (IntKind.i64.wrap (3 + x426)))) #[nI x58, nI x397, nI x404, nI x420, nI x421, nI x422, nI x423, nI (atI L10 (IntKind.i64.wrap (3 + x426))), nI x425, nI (-1)] hF501 (by kernel_rfl) rfl rfl rfl rfl (by kernel_rfl) hS431 (by kernel_rfl) (by kernel_rfl) (by kernel_rfl) (l' := [(43, nP (w61.heap.size) 7), (42, nP (w61.heap.size) 3), (41, nI (atI L10 (IntKind.i64.wrap (3 + x426)))), (40, nP g49 ((IntKind.i64.wrap (3 + x426)).toNat)), (39, nI (IntKind.i64.wrap (3 + x426))), (38, nI x426), (37, .slice (some ⟨g49, 0, none⟩) L10.length c21), (36, nI x426), (9, nI x426), (33, nI x426), (8, nP (w61.heap.size) 0), (6, .slice (some ⟨g49, 0, none⟩) L10.length c21), (4, nP (w.heap.size) 0)]) (by kernel_rfl) ?_
             intro w503 a504 hS505 hF506; clear hF501 hS431
             refine wpList_nil ?_
             have hF507 := hF506.keep [4, 6, 8, 33]
             clear hF506
             refine blockN ?_
             refine thenN (wp_region_lit ?_)
             refine ev_runK 2 hF507 [4, 6, 8, 33] (l' := [(33, nI (IntKind.i64.wrap (x426 + 1))), (8, nP (w61.heap.size) 0), (6, .slice (some ⟨g49, 0, none⟩) L10.length c21), (4, nP (w.heap.size) 0)]) (w' := w503) (by kernel_rfl) ?_
             intro a509 hF508; clear hF507
             refine wpList_nil ?_
             exact thenN ⟨k427, Nat.lt_succ_self _, x420, x421, x422, x423, atI L10 (IntKind.i64.wrap (3 + x426)), x425, IntKind.i64.wrap (x426 + 1), hF508, hS505, hm500⟩
            | false =>
             rw [hc499] at hm498
             have hm510 := ifF hm498; clear hm498
             cases hc511 : (x426 == 5) with
             | true =>
              rw [hc511] at hm510
              have hm512 := ifT hm510; clear hm510
              refine ev_one (nP (w61.heap.size) 8) w429 hF449 (by kernel_rfl) rfl (by kernel_rfl) (run_idxA (q := 5) rfl rfl rfl rfl (congrArg (Value.int .i64) (eq_of_beq hc511)) (by decide) (by decide) (by kernel_rfl) _) (l' := [(43, nP (w61.heap.size) 8), (42, nP (w61.heap.size) 3), (41, nI (atI L10 (IntKind.i64.wrap (3 + x426)))), (40, nP g49 ((IntKind.i64.wrap (3 + x426)).toNat)), (39, nI (IntKind.i64.wrap (3 + x426))), (38, nI x426), (37, .slice (some ⟨g49, 0, none⟩) L10.length c21), (36, nI x426), (9, nI x426), (33, nI x426), (8, nP (w61.heap.size) 0), (6, .slice (some ⟨g49, 0, none⟩) L10.length c21), (4, nP (w.heap.size) 0)]) (by kernel_rfl) ?_
              intro a514 hF513; clear hF449
              refine ev_store (nI (atI L10 (IntKind.i64.wrap (3 + x426)))) #[nI x58, nI x397, nI x404, nI x420, nI x421, nI x422, nI x423, nI x424, nI (atI L10 (IntKind.i64.wrap (3 + x426))), nI (-1)] hF513 (by kernel_rfl) rfl rfl rfl rfl (by kernel_rfl) hS431 (by kernel_rfl) (by kernel_rfl) (by kernel_rfl) (l' := [(43, nP (w61.heap.size) 8), (42, nP (w61.heap.size) 3), (41, nI (atI L10 (IntKind.i64.wrap (3 + x426)))), (40, nP g49 ((IntKind.i64.wrap (3 + x426)).toNat)), (39, nI (IntKind.i64.wrap (3 + x426))), (38, nI x426), (37, .slice (some ⟨g49, 0, none⟩) L10.length c21), (36, nI x426), (9, nI x426), (33, nI x426), (8, nP (w61.heap.size) 0), (6, .slice (some ⟨g49, 0, none⟩) L10.length c21), (4, nP (w.heap.size) 0)]) (by kernel_rfl) ?_
              intro w515 a516 hS517 hF518; clear hF513 hS431
              refine wpList_nil ?_
              have hF519 := hF518.keep [4, 6, 8, 33]
              clear hF518
              refine blockN ?_
              refine thenN (wp_region_lit ?_)
              refine ev_runK 2 hF519 [4, 6, 8, 33] (l' := [(33, nI (IntKind.i64.wrap (x426 + 1))), (8, nP (w61.heap.size) 0), (6, .slice (some ⟨g49, 0, none⟩) L10.length c21), (4, nP (w.heap.size) 0)]) (w' := w515) (by kernel_rfl) ?_
              intro a521 hF520; clear hF519
              refine wpList_nil ?_
              exact thenN ⟨k427, Nat.lt_succ_self _, x420, x421, x422, x423, x424, atI L10 (IntKind.i64.wrap (3 + x426)), IntKind.i64.wrap (x426 + 1), hF520, hS517, hm512⟩
             | false =>
              rw [hc511] at hm510
              have hm522 := ifF hm510; clear hm510
              exact absurd hm522 (by simp)
       | false =>
        rw [hc436] at hF434
        rw [hc436] at hm433
        have hm523 := ifF hm433; clear hm433
        refine ev_condF hF434 rfl rfl ?_
        refine wp_exit ?_
        refine thenE ?_
        refine thenE ?_
        refine blockE ?_
        refine thenN (wp_seq (wp_region_lit ?_))
        refine ev_runs 1 hF434 (l' := [(45, .slice (some ⟨g49, 0, none⟩) L10.length c21), (34, .bool false), (33, nI x426), (8, nP (w61.heap.size) 0), (6, .slice (some ⟨g49, 0, none⟩) L10.length c21), (4, nP (w.heap.size) 0)]) (w' := w429) (by kernel_rfl) ?_
        intro a525 hF524; clear hF434
        obtain ⟨hc526, hm527⟩ := ifTE hm523; clear hm523
        refine ev_one (nP g49 ((9 : Int).toNat)) w429 hF524 (by kernel_rfl) rfl (by kernel_rfl) (run_idx rfl rfl rfl rfl rfl (inR_spec hc526).1 (inR_spec hc526).2 _) (l' := [(46, nP g49 ((9 : Int).toNat)), (45, .slice (some ⟨g49, 0, none⟩) L10.length c21), (34, .bool false), (33, nI x426), (8, nP (w61.heap.size) 0), (6, .slice (some ⟨g49, 0, none⟩) L10.length c21), (4, nP (w.heap.size) 0)]) (by kernel_rfl) ?_
        intro a529 hF528; clear hF524
        refine ev_one (nI (atI L10 (9 : Int))) w429 hF528 (by kernel_rfl) rfl (by kernel_rfl) (run_load1 rfl rfl rfl (hS431.atI 1 rfl hc526)) (l' := [(47, nI (atI L10 (9 : Int))), (46, nP g49 ((9 : Int).toNat)), (45, .slice (some ⟨g49, 0, none⟩) L10.length c21), (34, .bool false), (33, nI x426), (8, nP (w61.heap.size) 0), (6, .slice (some ⟨g49, 0, none⟩) L10.length c21), (4, nP (w.heap.size) 0)]) (by kernel_rfl) ?_
        intro a531 hF530; clear hF528
        refine ev_call 64 #[nI (atI L10 (9 : Int))] hF530 rfl rfl (by kernel_rfl) rfl (by kernel_rfl) (fun w => by kernel_rfl) ?_
        obtain ⟨x532, hx533, hm534⟩ := bind1E hm527; clear hm527
        refine (p_vAt hS431 hx533).mono ?_
        rintro _ w535 ⟨rfl, hS537⟩ a536 hF538; clear hF530 hS431
        refine ev_runs 1 hF538 (l' := [(49, nP (w61.heap.size) 9), (48, nI x532), (47, nI (atI L10 (9 : Int))), (46, nP g49 ((9 : Int).toNat)), (45, .slice (some ⟨g49, 0, none⟩) L10.length c21), (34, .bool false), (33, nI x426), (8, nP (w61.heap.size) 0), (6, .slice (some ⟨g49, 0, none⟩) L10.length c21), (4, nP (w.heap.size) 0)]) (w' := w535) (by kernel_rfl) ?_
        intro a540 hF539; clear hF538
        refine ev_store (nI x532) #[nI x58, nI x397, nI x404, nI x420, nI x421, nI x422, nI x423, nI x424, nI x425, nI x532] hF539 (by kernel_rfl) rfl rfl rfl rfl (by kernel_rfl) hS537 (by kernel_rfl) (by kernel_rfl) (by kernel_rfl) (l' := [(49, nP (w61.heap.size) 9), (48, nI x532), (47, nI (atI L10 (9 : Int))), (46, nP g49 ((9 : Int).toNat)), (45, .slice (some ⟨g49, 0, none⟩) L10.length c21), (34, .bool false), (33, nI x426), (8, nP (w61.heap.size) 0), (6, .slice (some ⟨g49, 0, none⟩) L10.length c21), (4, nP (w.heap.size) 0)]) (by kernel_rfl) ?_
        intro w541 a542 hS543 hF544; clear hF539 hS537
        refine wpList_nil ?_
        have hF545 := hF544.keep [4, 8]
        clear hF544
        have hS546 := hS543.pick1.drop
        clear hS543
        refine thenN (wp_seq (wp_region_lit ?_))
        refine ev_one (.agg #[nI x58, nI x397, nI x404, nI x420, nI x421, nI x422, nI x423, nI x424, nI x425, nI x532]) w541 hF545 (by kernel_rfl) rfl (by kernel_rfl) (run_loadV rfl rfl (run_loadA (cs := [nI x58, nI x397, nI x404, nI x420, nI x421, nI x422, nI x423, nI x424, nI x425, nI x532]) rfl rfl (by kernel_rfl) (blk_cells hS546 0 rfl rfl))) (l' := [(50, .agg #[nI x58, nI x397, nI x404, nI x420, nI x421, nI x422, nI x423, nI x424, nI x425, nI x532]), (8, nP (w61.heap.size) 0), (4, nP (w.heap.size) 0)]) (by kernel_rfl) ?_
        intro a548 hF547; clear hF545
        have hS549 := hS546.pick2
        clear hS546
        refine ev_store (.agg #[nI x58, nI x397, nI x404, nI x420, nI x421, nI x422, nI x423, nI x424, nI x425, nI x532]) #[nI x58, nI x397, nI x404, nI x420, nI x421, nI x422, nI x423, nI x424, nI x425, nI x532] hF547 (by kernel_rfl) rfl rfl rfl rfl (by kernel_rfl) hS549 (by kernel_rfl) (by kernel_rfl) (by kernel_rfl) (l' := [(50, .agg #[nI x58, nI x397, nI x404, nI x420, nI x421, nI x422, nI x423, nI x424, nI x425, nI x532]), (8, nP (w61.heap.size) 0), (4, nP (w.heap.size) 0)]) (by kernel_rfl) ?_
        intro w550 a551 hS552 hF553; clear hF547 hS549
        refine ev_runK 1 hF553 [4, 5] (l' := [(5, nI 0), (4, nP (w.heap.size) 0)]) (w' := w550) (by kernel_rfl) ?_
        intro a555 hF554; clear hF553
        refine wpList_nil ?_
        have hS556 := hS552.pick1.drop
        clear hS552
        refine thenN ?_
        refine wp_ret ?_
        have hS557 := hS556.pick1
        clear hS556
        simp only [Option.some.injEq, Prod.mk.injEq] at hm534
        obtain ⟨rfl, rfl, rfl⟩ := hm534
        refine ev_retC hF554 _ [.agg #[nI x58, nI x397, nI x404, nI x420, nI x421, nI x422, nI x423, nI x424, nI x425, nI x532], nI 0] (.tuple #[.agg #[nI x58, nI x397, nI x404, nI x420, nI x421, nI x422, nI x423, nI x424, nI x425, nI x532], nI 0]) rfl ⟨⟨rfl, _, rfl, (run_loadA (cs := [nI x58, nI x397, nI x404, nI x420, nI x421, nI x422, nI x423, nI x424, nI x425, nI x532]) rfl rfl (by kernel_rfl) (blk_cells hS557 1 rfl rfl))⟩, ⟨rfl, rfl⟩, trivial⟩ rfl ?_
        have hS561 := hS557.pick1.drop
        clear hS557
        exact ⟨rfl, hS561⟩
  · skip
    have hS562 : St w0 F0 (BlkP ((w14.drew).heap.size) 70 #[nI 0, nI 0, nI 0, nI 0, nI 0, nI 0, nI 0, nI 0, nI 0, nI 0] :: RowP (.slice (some ⟨g49, 0, none⟩) L10.length c21) L10 :: HeapP b0 ab0 s0 :: BlkP (w.heap.size) 70 #[nI 0, nI 0, nI 0, nI 0, nI 0, nI 0, nI 0, nI 0, nI 0, nI 0] :: ps) ((w14.drew).alloc (.cells #[nI 0, nI 0, nI 0, nI 0, nI 0, nI 0, nI 0, nI 0, nI 0, nI 0] 70)) := St.new hS55 #[nI 0, nI 0, nI 0, nI 0, nI 0, nI 0, nI 0, nI 0, nI 0, nI 0] 70
    clear hS55
    refine op_step 13 #[true, true, true, false, true, true, true, false, true, true, true, false, false, true, false] (nP ((w14.drew).heap.size) 0) ((w14.drew).alloc (.cells #[nI 0, nI 0, nI 0, nI 0, nI 0, nI 0, nI 0, nI 0, nI 0, nI 0] 70)) hF56 rfl (by kernel_rfl) rfl (by kernel_rfl) (by kernel_rfl) (l' := [(8, nP ((w14.drew).heap.size) 0), (30, nI (atI L10 (2 : Int))), (26, nI (atI L10 (1 : Int))), (22, nI (atI L10 (0 : Int))), (6, .slice (some ⟨g49, 0, none⟩) L10.length c21), (4, nP (w.heap.size) 0)]) (by kernel_rfl) ⟨_, hS562.pick1⟩ (by kernel_rfl) ?_
    intro a564 hF563; clear hF56
    refine any_call 3 #[true, true, true, true, true, true, true, false, true, true, true, false, false, true, false] 63 #[nI (atI L10 (0 : Int))] hF563 rfl (by kernel_rfl) rfl rfl (by kernel_rfl) rfl (by kernel_rfl) (fun w => by kernel_rfl) (by kernel_rfl) ?_
    obtain ⟨x565, hx566, hm567⟩ := bind1E hm53; clear hm53
    refine (p_vNum hS562 hx566).mono ?_
    rintro _ w568 ⟨rfl, hS570⟩; clear hS562
    refine ⟨⟨_, hS570.pick1⟩, ?_⟩
    intro a569 hF571; clear hF563
    refine any_call 7 #[true, true, true, true, true, true, true, true, true, true, true, false, false, true, false] 63 #[nI (atI L10 (1 : Int))] hF571 rfl (by kernel_rfl) rfl rfl (by kernel_rfl) rfl (by kernel_rfl) (fun w => by kernel_rfl) (by kernel_rfl) ?_
    obtain ⟨x572, hx573, hm574⟩ := bind1E hm567; clear hm567
    refine (p_vNum hS570 hx573).mono ?_
    rintro _ w575 ⟨rfl, hS577⟩; clear hS570
    refine ⟨⟨_, hS577.pick1⟩, ?_⟩
    intro a576 hF578; clear hF571
    refine any_call 11 #[true, true, true, true, true, true, true, true, true, true, true, true, false, true, false] 63 #[nI (atI L10 (2 : Int))] hF578 rfl (by kernel_rfl) rfl rfl (by kernel_rfl) rfl (by kernel_rfl) (fun w => by kernel_rfl) (by kernel_rfl) ?_
    obtain ⟨x579, hx580, hm581⟩ := bind1E hm574; clear hm574
    refine (p_vNum hS577 hx580).mono ?_
    rintro _ w582 ⟨rfl, hS584⟩; clear hS577
    refine ⟨⟨_, hS584.pick1⟩, ?_⟩
    intro a583 hF585; clear hF578
    refine any_many 1 [(12, some (.agg #[nI x565, nI x572, nI x579, nI 0, nI 0, nI 0, nI 0, nI 0, nI 0, nI (-1)]))] [4, 6, 8, 32] #[true, true, true, true, true, true, true, true, true, true, true, true, true, true, false] (by rfl) hF585 (by kernel_rfl) (by kernel_rfl) (by exact (And.intro (fun wS hw => by kernel_rfl) trivial)) (fun _ _ _ _ _ h => h) ⟨_, hS584.pick1⟩ (l' := [(32, .agg #[nI x565, nI x572, nI x579, nI 0, nI 0, nI 0, nI 0, nI 0, nI 0, nI (-1)]), (8, nP ((w14.drew).heap.size) 0), (6, .slice (some ⟨g49, 0, none⟩) L10.length c21), (4, nP (w.heap.size) 0)]) (by kernel_rfl) ?_
    intro a587 hF586; clear hF585
    refine any_one 14 (by kernel_rfl) ?_
    refine op_store 14 #[true, true, true, true, true, true, true, true, true, true, true, true, true, true, true] (.agg #[nI x565, nI x572, nI x579, nI 0, nI 0, nI 0, nI 0, nI 0, nI 0, nI (-1)]) #[nI x565, nI x572, nI x579, nI 0, nI 0, nI 0, nI 0, nI 0, nI 0, nI (-1)] hF586 rfl (by kernel_rfl) rfl rfl rfl rfl (by kernel_rfl) hS584 (by kernel_rfl) (by kernel_rfl) (by kernel_rfl) (l' := [(32, .agg #[nI x565, nI x572, nI x579, nI 0, nI 0, nI 0, nI 0, nI 0, nI 0, nI (-1)]), (8, nP ((w14.drew).heap.size) 0), (6, .slice (some ⟨g49, 0, none⟩) L10.length c21), (4, nP (w.heap.size) 0)]) (by kernel_rfl) (by kernel_rfl) ?_
    intro w588 a589 hS590 hF591; clear hF586 hS584
    refine ⟨⟨_, hS590.pick1⟩, ?_⟩
    refine any_done (by kernel_rfl) ?_
    have hF592 := hF591.keep [4, 6, 8]
    clear hF591
    refine thenN (wp_seq (wp_seq (wp_region_lit ?_)))
    refine ev_runs 1 hF592 (l' := [(33, nI 0), (8, nP ((w14.drew).heap.size) 0), (6, .slice (some ⟨g49, 0, none⟩) L10.length c21), (4, nP (w.heap.size) 0)]) (w' := w588) (by kernel_rfl) ?_
    intro a594 hF593; clear hF592
    refine wpList_nil (thenN ?_)
    refine wp_block ?_
    refine wp_loop_ghost (fun kI aI wI => ∃ (x595 : Int) (x596 : Int) (x597 : Int) (x598 : Int) (x599 : Int) (x600 : Int) (x601 : Int), Fr 51 aI [(33, nI x601), (8, nP ((w14.drew).heap.size) 0), (6, .slice (some ⟨g49, 0, none⟩) L10.length c21), (4, nP (w.heap.size) 0)] ∧ St w0 F0 (BlkP ((w14.drew).heap.size) 70 #[nI x565, nI x572, nI x579, nI x595, nI x596, nI x597, nI x598, nI x599, nI x600, nI (-1)] :: RowP (.slice (some ⟨g49, 0, none⟩) L10.length c21) L10 :: HeapP b0 ab0 s0 :: BlkP (w.heap.size) 70 #[nI 0, nI 0, nI 0, nI 0, nI 0, nI 0, nI 0, nI 0, nI 0, nI 0] :: ps) wI ∧ view_Gor.l1 s0 L10 x565 x572 x579 kI x595 x596 x597 x598 x599 x600 x601 = some (r0, r1, t0)) k ⟨0, 0, 0, 0, 0, 0, 0, hF593, hS590, hm581⟩ ?_
    rintro k602 a603 w604 ⟨x595, x596, x597, x598, x599, x600, x601, hF605, hS606, hm607⟩
    clear hF593 hS590 hm581
    cases k602 with
    | zero => cases hm607
    | succ k602 =>
     have hm608 : view_Gor.l1b s0 L10 x565 x572 x579 (view_Gor.l1 s0 L10 x565 x572 x579 k602) x595 x596 x597 x598 x599 x600 x601 = some (r0, r1, t0) := hm607
     clear hm607
     unfold view_Gor.l1b at hm608
     refine wp_seq (wp_region_lit ?_)
     refine ev_runs 1 hF605 (l' := [(34, .bool (decide (x601 < 6))), (33, nI x601), (8, nP ((w14.drew).heap.size) 0), (6, .slice (some ⟨g49, 0, none⟩) L10.length c21), (4, nP (w.heap.size) 0)]) (w' := w604) (by kernel_rfl) ?_
     intro a610 hF609; clear hF605
     refine wpList_nil (thenN (wp_seq ?_))
     cases hc611 : (decide (x601 < 6)) with
     | true =>
      rw [hc611] at hF609
      rw [hc611] at hm608
      have hm612 := ifT hm608; clear hm608
      refine ev_condT hF609 rfl rfl ?_
      refine wp_skip ?_
      have hF613 := hF609.keep [4, 6, 8, 33]
      clear hF609
      refine thenN (wp_seq ?_)
      refine wp_block ?_
      refine wp_seq (wp_region_lit ?_)
      refine ev_runK 2 hF613 [4, 6, 8, 9, 33] (l' := [(9, nI x601), (33, nI x601), (8, nP ((w14.drew).heap.size) 0), (6, .slice (some ⟨g49, 0, none⟩) L10.length c21), (4, nP (w.heap.size) 0)]) (w' := w604) (by kernel_rfl) ?_
      intro a615 hF614; clear hF613
      refine wpList_nil (thenN (wp_region_lit ?_))
      refine ev_runs 4 hF614 (l' := [(39, nI (IntKind.i64.wrap (3 + x601))), (38, nI x601), (37, .slice (some ⟨g49, 0, none⟩) L10.length c21), (36, nI x601), (9, nI x601), (33, nI x601), (8, nP ((w14.drew).heap.size) 0), (6, .slice (some ⟨g49, 0, none⟩) L10.length c21), (4, nP (w.heap.size) 0)]) (w' := w604) (by kernel_rfl) ?_
      intro a617 hF616; clear hF614
      obtain ⟨hc618, hm619⟩ := ifTE hm612; clear hm612
      refine ev_one (nP g49 ((IntKind.i64.wrap (3 + x601)).toNat)) w604 hF616 (by kernel_rfl) rfl (by kernel_rfl) (run_idx rfl rfl rfl rfl rfl (inR_spec hc618).1 (inR_spec hc618).2 _) (l' := [(40, nP g49 ((IntKind.i64.wrap (3 + x601)).toNat)), (39, nI (IntKind.i64.wrap (3 + x601))), (38, nI x601), (37, .slice (some ⟨g49, 0, none⟩) L10.length c21), (36, nI x601), (9, nI x601), (33, nI x601), (8, nP ((w14.drew).heap.size) 0), (6, .slice (some ⟨g49, 0, none⟩) L10.length c21), (4, nP (w.heap.size) 0)]) (by kernel_rfl) ?_
      intro a621 hF620; clear hF616
      refine ev_one (nI (atI L10 (IntKind.i64.wrap (3 + x601)))) w604 hF620 (by kernel_rfl) rfl (by kernel_rfl) (run_load1 rfl rfl rfl (hS606.atI 1 rfl hc618)) (l' := [(41, nI (atI L10 (IntKind.i64.wrap (3 + x601)))), (40, nP g49 ((IntKind.i64.wrap (3 + x601)).toNat)), (39, nI (IntKind.i64.wrap (3 + x601))), (38, nI x601), (37, .slice (some ⟨g49, 0, none⟩) L10.length c21), (36, nI x601), (9, nI x601), (33, nI x601), (8, nP ((w14.drew).heap.size) 0), (6, .slice (some ⟨g49, 0, none⟩) L10.length c21), (4, nP (w.heap.size) 0)]) (by kernel_rfl) ?_
      intro a623 hF622; clear hF620
      refine ev_runs 1 hF622 (l' := [(42, nP ((w14.drew).heap.size) 3), (41, nI (atI L10 (IntKind.i64.wrap (3 + x601)))), (40, nP g49 ((IntKind.i64.wrap (3 + x601)).toNat)), (39, nI (IntKind.i64.wrap (3 + x601))), (38, nI x601), (37, .slice (some ⟨g49, 0, none⟩) L10.length c21), (36, nI x601), (9, nI x601), (33, nI x601), (8, nP ((w14.drew).heap.size) 0), (6, .slice (some ⟨g49, 0, none⟩) L10.length c21), (4, nP (w.heap.size) 0)]) (w' := w604) (by kernel_rfl) ?_
      intro a625 hF624; clear hF622
      cases hc626 : (x601 == 0) with
      | true =>
       rw [hc626] at hm619
       have hm627 := ifT hm619; clear hm619
       refine ev_one (nP ((w14.drew).heap.size) 3) w604 hF624 (by kernel_rfl) rfl (by kernel_rfl) (run_idxA (q := 0) rfl rfl rfl rfl (congrArg (Value.int .i64) (eq_of_beq hc626)) (by decide) (by decide) (by kernel_rfl) _) (l' := [(43, nP ((w14.drew).heap.size) 3), (42, nP ((w14.drew).heap.size) 3), (41, nI (atI L10 (IntKind.i64.wrap (3 + x601)))), (40, nP g49 ((IntKind.i64.wrap (3 + x601)).toNat)), (39, nI (IntKind.i64.wrap (3 + x601))), (38, nI x601), (37, .slice (some ⟨g49, 0, none⟩) L10.length c21), (36, nI x601), (9, nI x601), (33, nI x601), (8, nP ((w14.drew).heap.size) 0), (6, .slice (some ⟨g49, 0, none⟩) L10.length c21), (4, nP (w.heap.size) 0)]) (by kernel_rfl) ?_
       intro a629 hF628; clear hF624
       refine ev_store (nI (atI L10 (IntKind.i64.wrap (3 + x601)))) #[nI x565, nI x572, nI x579, nI (atI L10 (IntKind.i64.wrap (3 + x601))), nI x596, nI x597, nI x598, nI x599, nI x600, nI (-1)] hF628 (by kernel_rfl) rfl rfl rfl rfl (by kernel_rfl) hS606 (by kernel_rfl) (by kernel_rfl) (by kernel_rfl) (l' := [(43, nP ((w14.drew).heap.size) 3), (42, nP ((w14.drew).heap.size) 3), (41, nI (atI L10 (IntKind.i64.wrap (3 + x601)))), (40, nP g49 ((IntKind.i64.wrap (3 + x601)).toNat)), (39, nI (IntKind.i64.wrap (3 + x601))), (38, nI x601), (37, .slice (some ⟨g49, 0, none⟩) L10.length c21), (36, nI x601), (9, nI x601), (33, nI x601), (8, nP ((w14.drew).heap.size) 0), (6, .slice (some ⟨g49, 0, none⟩) L10.length c21), (4, nP (w.heap.size) 0)]) (by kernel_rfl) ?_
       intro w630 a631 hS632 hF633; clear hF628 hS606
       refine wpList_nil ?_
       have hF634 := hF633.keep [4, 6, 8, 33]
       clear hF633
       refine blockN ?_
       refine thenN (wp_region_lit ?_)
       refine ev_runK 2 hF634 [4, 6, 8, 33] (l' := [(33, nI (IntKind.i64.wrap (x601 + 1))), (8, nP ((w14.drew).heap.size) 0), (6, .slice (some ⟨g49, 0, none⟩) L10.length c21), (4, nP (w.heap.size) 0)]) (w' := w630) (by kernel_rfl) ?_
       intro a636 hF635; clear hF634
       refine wpList_nil ?_
       exact thenN ⟨k602, Nat.lt_succ_self _, atI L10 (IntKind.i64.wrap (3 + x601)), x596, x597, x598, x599, x600, IntKind.i64.wrap (x601 + 1), hF635, hS632, hm627⟩
      | false =>
       rw [hc626] at hm619
       have hm637 := ifF hm619; clear hm619
       cases hc638 : (x601 == 1) with
       | true =>
        rw [hc638] at hm637
        have hm639 := ifT hm637; clear hm637
        refine ev_one (nP ((w14.drew).heap.size) 4) w604 hF624 (by kernel_rfl) rfl (by kernel_rfl) (run_idxA (q := 1) rfl rfl rfl rfl (congrArg (Value.int .i64) (eq_of_beq hc638)) (by decide) (by decide) (by kernel_rfl) _) (l' := [(43, nP ((w14.drew).heap.size) 4), (42, nP ((w14.drew).heap.size) 3), (41, nI (atI L10 (IntKind.i64.wrap (3 + x601)))), (40, nP g49 ((IntKind.i64.wrap (3 + x601)).toNat)), (39, nI (IntKind.i64.wrap (3 + x601))), (38, nI x601), (37, .slice (some ⟨g49, 0, none⟩) L10.length c21), (36, nI x601), (9, nI x601), (33, nI x601), (8, nP ((w14.drew).heap.size) 0), (6, .slice (some ⟨g49, 0, none⟩) L10.length c21), (4, nP (w.heap.size) 0)]) (by kernel_rfl) ?_
        intro a641 hF640; clear hF624
        refine ev_store (nI (atI L10 (IntKind.i64.wrap (3 + x601)))) #[nI x565, nI x572, nI x579, nI x595, nI (atI L10 (IntKind.i64.wrap (3 + x601))), nI x597, nI x598, nI x599, nI x600, nI (-1)] hF640 (by kernel_rfl) rfl rfl rfl rfl (by kernel_rfl) hS606 (by kernel_rfl) (by kernel_rfl) (by kernel_rfl) (l' := [(43, nP ((w14.drew).heap.size) 4), (42, nP ((w14.drew).heap.size) 3), (41, nI (atI L10 (IntKind.i64.wrap (3 + x601)))), (40, nP g49 ((IntKind.i64.wrap (3 + x601)).toNat)), (39, nI (IntKind.i64.wrap (3 + x601))), (38, nI x601), (37, .slice (some ⟨g49, 0, none⟩) L10.length c21), (36, nI x601), (9, nI x601), (33, nI x601), (8, nP ((w14.drew).heap.size) 0), (6, .slice (some ⟨g49, 0, none⟩) L10.length c21), (4, nP (w.heap.size) 0)]) (by kernel_rfl) ?_
        intro w642 a643 hS644 hF645; clear hF640 hS606
        refine wpList_nil ?_
        have hF646 := hF645.keep [4, 6, 8, 33]
        clear hF645
        refine blockN ?_
        refine thenN (wp_region_lit ?_)
        refine ev_runK 2 hF646 [4, 6, 8, 33] (l' := [(33, nI (IntKind.i64.wrap (x601 + 1))), (8, nP ((w14.drew).heap.size) 0), (6, .slice (some ⟨g49, 0, none⟩) L10.length c21), (4, nP (w.heap.size) 0)]) (w' := w642) (by kernel_rfl) ?_
        intro a648 hF647; clear hF646
        refine wpList_nil ?_
        exact thenN ⟨k602, Nat.lt_succ_self _, x595, atI L10 (IntKind.i64.wrap (3 + x601)), x597, x598, x599, x600, IntKind.i64.wrap (x601 + 1), hF647, hS644, hm639⟩
       | false =>
        rw [hc638] at hm637
        have hm649 := ifF hm637; clear hm637
        cases hc650 : (x601 == 2) with
        | true =>
         rw [hc650] at hm649
         have hm651 := ifT hm649; clear hm649
         refine ev_one (nP ((w14.drew).heap.size) 5) w604 hF624 (by kernel_rfl) rfl (by kernel_rfl) (run_idxA (q := 2) rfl rfl rfl rfl (congrArg (Value.int .i64) (eq_of_beq hc650)) (by decide) (by decide) (by kernel_rfl) _) (l' := [(43, nP ((w14.drew).heap.size) 5), (42, nP ((w14.drew).heap.size) 3), (41, nI (atI L10 (IntKind.i64.wrap (3 + x601)))), (40, nP g49 ((IntKind.i64.wrap (3 + x601)).toNat)), (39, nI (IntKind.i64.wrap (3 + x601))), (38, nI x601), (37, .slice (some ⟨g49, 0, none⟩) L10.length c21), (36, nI x601), (9, nI x601), (33, nI x601), (8, nP ((w14.drew).heap.size) 0), (6, .slice (some ⟨g49, 0, none⟩) L10.length c21), (4, nP (w.heap.size) 0)]) (by kernel_rfl) ?_
         intro a653 hF652; clear hF624
         refine ev_store (nI (atI L10 (IntKind.i64.wrap (3 + x601)))) #[nI x565, nI x572, nI x579, nI x595, nI x596, nI (atI L10 (IntKind.i64.wrap (3 + x601))), nI x598, nI x599, nI x600, nI (-1)] hF652 (by kernel_rfl) rfl rfl rfl rfl (by kernel_rfl) hS606 (by kernel_rfl) (by kernel_rfl) (by kernel_rfl) (l' := [(43, nP ((w14.drew).heap.size) 5), (42, nP ((w14.drew).heap.size) 3), (41, nI (atI L10 (IntKind.i64.wrap (3 + x601)))), (40, nP g49 ((IntKind.i64.wrap (3 + x601)).toNat)), (39, nI (IntKind.i64.wrap (3 + x601))), (38, nI x601), (37, .slice (some ⟨g49, 0, none⟩) L10.length c21), (36, nI x601), (9, nI x601), (33, nI x601), (8, nP ((w14.drew).heap.size) 0), (6, .slice (some ⟨g49, 0, none⟩) L10.length c21), (4, nP (w.heap.size) 0)]) (by kernel_rfl) ?_
         intro w654 a655 hS656 hF657; clear hF652 hS606
         refine wpList_nil ?_
         have hF658 := hF657.keep [4, 6, 8, 33]
         clear hF657
         refine blockN ?_
         refine thenN (wp_region_lit ?_)
         refine ev_runK 2 hF658 [4, 6, 8, 33] (l' := [(33, nI (IntKind.i64.wrap (x601 + 1))), (8, nP ((w14.drew).heap.size) 0), (6, .slice (some ⟨g49, 0, none⟩) L10.length c21), (4, nP (w.heap.size) 0)]) (w' := w654) (by kernel_rfl) ?_
         intro a660 hF659; clear hF658
         refine wpList_nil ?_
         exact thenN ⟨k602, Nat.lt_succ_self _, x595, x596, atI L10 (IntKind.i64.wrap (3 + x601)), x598, x599, x600, IntKind.i64.wrap (x601 + 1), hF659, hS656, hm651⟩
        | false =>
         rw [hc650] at hm649
         have hm661 := ifF hm649; clear hm649
         cases hc662 : (x601 == 3) with
         | true =>
          rw [hc662] at hm661
          have hm663 := ifT hm661; clear hm661
          refine ev_one (nP ((w14.drew).heap.size) 6) w604 hF624 (by kernel_rfl) rfl (by kernel_rfl) (run_idxA (q := 3) rfl rfl rfl rfl (congrArg (Value.int .i64) (eq_of_beq hc662)) (by decide) (by decide) (by kernel_rfl) _) (l' := [(43, nP ((w14.drew).heap.size) 6), (42, nP ((w14.drew).heap.size) 3), (41, nI (atI L10 (IntKind.i64.wrap (3 + x601)))), (40, nP g49 ((IntKind.i64.wrap (3 + x601)).toNat)), (39, nI (IntKind.i64.wrap (3 + x601))), (38, nI x601), (37, .slice (some ⟨g49, 0, none⟩) L10.length c21), (36, nI x601), (9, nI x601), (33, nI x601), (8, nP ((w14.drew).heap.size) 0), (6, .slice (some ⟨g49, 0, none⟩) L10.length c21), (4, nP (w.heap.size) 0)]) (by kernel_rfl) ?_
          intro a665 hF664; clear hF624
          refine ev_store (nI (atI L10 (IntKind.i64.wrap (3 + x601)))) #[nI x565, nI x572, nI x579, nI x595, nI x596, nI x597, nI (atI L10 (IntKind.i64.wrap (3 + x601))), nI x599, nI x600, nI (-1)] hF664 (by kernel_rfl) rfl rfl rfl rfl (by kernel_rfl) hS606 (by kernel_rfl) (by kernel_rfl) (by kernel_rfl) (l' := [(43, nP ((w14.drew).heap.size) 6), (42, nP ((w14.drew).heap.size) 3), (41, nI (atI L10 (IntKind.i64.wrap (3 + x601)))), (40, nP g49 ((IntKind.i64.wrap (3 + x601)).toNat)), (39, nI (IntKind.i64.wrap (3 + x601))), (38, nI x601), (37, .slice (some ⟨g49, 0, none⟩) L10.length c21), (36, nI x601), (9, nI x601), (33, nI x601), (8, nP ((w14.drew).heap.size) 0), (6, .slice (some ⟨g49, 0, none⟩) L10.length c21), (4, nP (w.heap.size) 0)]) (by kernel_rfl) ?_
          intro w666 a667 hS668 hF669; clear hF664 hS606
          refine wpList_nil ?_
          have hF670 := hF669.keep [4, 6, 8, 33]
          clear hF669
          refine blockN ?_
          refine thenN (wp_region_lit ?_)
          refine ev_runK 2 hF670 [4, 6, 8, 33] (l' := [(33, nI (IntKind.i64.wrap (x601 + 1))), (8, nP ((w14.drew).heap.size) 0), (6, .slice (some ⟨g49, 0, none⟩) L10.length c21), (4, nP (w.heap.size) 0)]) (w' := w666) (by kernel_rfl) ?_
          intro a672 hF671; clear hF670
          refine wpList_nil ?_
          exact thenN ⟨k602, Nat.lt_succ_self _, x595, x596, x597, atI L10 (IntKind.i64.wrap (3 + x601)), x599, x600, IntKind.i64.wrap (x601 + 1), hF671, hS668, hm663⟩
         | false =>
          rw [hc662] at hm661
          have hm673 := ifF hm661; clear hm661
          cases hc674 : (x601 == 4) with
          | true =>
           rw [hc674] at hm673
           have hm675 := ifT hm673; clear hm673
           refine ev_one (nP ((w14.drew).heap.size) 7) w604 hF624 (by kernel_rfl) rfl (by kernel_rfl) (run_idxA (q := 4) rfl rfl rfl rfl (congrArg (Value.int .i64) (eq_of_beq hc674)) (by decide) (by decide) (by kernel_rfl) _) (l' := [(43, nP ((w14.drew).heap.size) 7), (42, nP ((w14.drew).heap.size) 3), (41, nI (atI L10 (IntKind.i64.wrap (3 + x601)))), (40, nP g49 ((IntKind.i64.wrap (3 + x601)).toNat)), (39, nI (IntKind.i64.wrap (3 + x601))), (38, nI x601), (37, .slice (some ⟨g49, 0, none⟩) L10.length c21), (36, nI x601), (9, nI x601), (33, nI x601), (8, nP ((w14.drew).heap.size) 0), (6, .slice (some ⟨g49, 0, none⟩) L10.length c21), (4, nP (w.heap.size) 0)]) (by kernel_rfl) ?_
           intro a677 hF676; clear hF624
           refine ev_store (nI (atI L10 (IntKind.i64.wrap (3 + x601)))) #[nI x565, nI x572, nI x579, nI x595, nI x596, nI x597, nI x598, nI (atI L10 (IntKind.i64.wrap (3 + x601))), nI x600, nI (-1)] hF676 (by kernel_rfl) rfl rfl rfl rfl (by kernel_rfl) hS606 (by kernel_rfl) (by kernel_rfl) (by kernel_rfl) (l' := [(43, nP ((w14.drew).heap.size) 7), (42, nP ((w14.drew).heap.size) 3), (41, nI (atI L10 (IntKind.i64.wrap (3 + x601)))), (40, nP g49 ((IntKind.i64.wrap (3 + x601)).toNat)), (39, nI (IntKind.i64.wrap (3 + x601))), (38, nI x601), (37, .slice (some ⟨g49, 0, none⟩) L10.length c21), (36, nI x601), (9, nI x601), (33, nI x601), (8, nP ((w14.drew).heap.size) 0), (6, .slice (some ⟨g49, 0, none⟩) L10.length c21), (4, nP (w.heap.size) 0)]) (by kernel_rfl) ?_
           intro w678 a679 hS680 hF681; clear hF676 hS606
           refine wpList_nil ?_
           have hF682 := hF681.keep [4, 6, 8, 33]
           clear hF681
           refine blockN ?_
           refine thenN (wp_region_lit ?_)
           refine ev_runK 2 hF682 [4, 6, 8, 33] (l' := [(33, nI (IntKind.i64.wrap (x601 + 1))), (8, nP ((w14.drew).heap.size) 0), (6, .slice (some ⟨g49, 0, none⟩) L10.length c21), (4, nP (w.heap.size) 0)]) (w' := w678) (by kernel_rfl) ?_
           intro a684 hF683; clear hF682
           refine wpList_nil ?_
           exact thenN ⟨k602, Nat.lt_succ_self _, x595, x596, x597, x598, atI L10 (IntKind.i64.wrap (3 + x601)), x600, IntKind.i64.wrap (x601 + 1), hF683, hS680, hm675⟩
          | false =>
           rw [hc674] at hm673
           have hm685 := ifF hm673; clear hm673
           cases hc686 : (x601 == 5) with
           | true =>
            rw [hc686] at hm685
            have hm687 := ifT hm685; clear hm685
            refine ev_one (nP ((w14.drew).heap.size) 8) w604 hF624 (by kernel_rfl) rfl (by kernel_rfl) (run_idxA (q := 5) rfl rfl rfl rfl (congrArg (Value.int .i64) (eq_of_beq hc686)) (by decide) (by decide) (by kernel_rfl) _) (l' := [(43, nP ((w14.drew).heap.size) 8), (42, nP ((w14.drew).heap.size) 3), (41, nI (atI L10 (IntKind.i64.wrap (3 + x601)))), (40, nP g49 ((IntKind.i64.wrap (3 + x601)).toNat)), (39, nI (IntKind.i64.wrap (3 + x601))), (38, nI x601), (37, .slice (some ⟨g49, 0, none⟩) L10.length c21), (36, nI x601), (9, nI x601), (33, nI x601), (8, nP ((w14.drew).heap.size) 0), (6, .slice (some ⟨g49, 0, none⟩) L10.length c21), (4, nP (w.heap.size) 0)]) (by kernel_rfl) ?_
            intro a689 hF688; clear hF624
            refine ev_store (nI (atI L10 (IntKind.i64.wrap (3 + x601)))) #[nI x565, nI x572, nI x579, nI x595, nI x596, nI x597, nI x598, nI x599, nI (atI L10 (IntKind.i64.wrap (3 + x601))), nI (-1)] hF688 (by kernel_rfl) rfl rfl rfl rfl (by kernel_rfl) hS606 (by kernel_rfl) (by kernel_rfl) (by kernel_rfl) (l' := [(43, nP ((w14.drew).heap.size) 8), (42, nP ((w14.drew).heap.size) 3), (41, nI (atI L10 (IntKind.i64.wrap (3 + x601)))), (40, nP g49 ((IntKind.i64.wrap (3 + x601)).toNat)), (39, nI (IntKind.i64.wrap (3 + x601))), (38, nI x601), (37, .slice (some ⟨g49, 0, none⟩) L10.length c21), (36, nI x601), (9, nI x601), (33, nI x601), (8, nP ((w14.drew).heap.size) 0), (6, .slice (some ⟨g49, 0, none⟩) L10.length c21), (4, nP (w.heap.size) 0)]) (by kernel_rfl) ?_
            intro w690 a691 hS692 hF693; clear hF688 hS606
            refine wpList_nil ?_
            have hF694 := hF693.keep [4, 6, 8, 33]
            clear hF693
            refine blockN ?_
            refine thenN (wp_region_lit ?_)
            refine ev_runK 2 hF694 [4, 6, 8, 33] (l' := [(33, nI (IntKind.i64.wrap (x601 + 1))), (8, nP ((w14.drew).heap.size) 0), (6, .slice (some ⟨g49, 0, none⟩) L10.length c21), (4, nP (w.heap.size) 0)]) (w' := w690) (by kernel_rfl) ?_
            intro a696 hF695; clear hF694
            refine wpList_nil ?_
            exact thenN ⟨k602, Nat.lt_succ_self _, x595, x596, x597, x598, x599, atI L10 (IntKind.i64.wrap (3 + x601)), IntKind.i64.wrap (x601 + 1), hF695, hS692, hm687⟩
           | false =>
            rw [hc686] at hm685
            have hm697 := ifF hm685; clear hm685
            exact absurd hm697 (by simp)
     | false =>
      rw [hc611] at hF609
      rw [hc611] at hm608
      have hm698 := ifF hm608; clear hm608
      refine ev_condF hF609 rfl rfl ?_
      refine wp_exit ?_
      refine thenE ?_
      refine thenE ?_
      refine blockE ?_
      refine thenN (wp_seq (wp_region_lit ?_))
      refine ev_runs 1 hF609 (l' := [(45, .slice (some ⟨g49, 0, none⟩) L10.length c21), (34, .bool false), (33, nI x601), (8, nP ((w14.drew).heap.size) 0), (6, .slice (some ⟨g49, 0, none⟩) L10.length c21), (4, nP (w.heap.size) 0)]) (w' := w604) (by kernel_rfl) ?_
      intro a700 hF699; clear hF609
      obtain ⟨hc701, hm702⟩ := ifTE hm698; clear hm698
      refine ev_one (nP g49 ((9 : Int).toNat)) w604 hF699 (by kernel_rfl) rfl (by kernel_rfl) (run_idx rfl rfl rfl rfl rfl (inR_spec hc701).1 (inR_spec hc701).2 _) (l' := [(46, nP g49 ((9 : Int).toNat)), (45, .slice (some ⟨g49, 0, none⟩) L10.length c21), (34, .bool false), (33, nI x601), (8, nP ((w14.drew).heap.size) 0), (6, .slice (some ⟨g49, 0, none⟩) L10.length c21), (4, nP (w.heap.size) 0)]) (by kernel_rfl) ?_
      intro a704 hF703; clear hF699
      refine ev_one (nI (atI L10 (9 : Int))) w604 hF703 (by kernel_rfl) rfl (by kernel_rfl) (run_load1 rfl rfl rfl (hS606.atI 1 rfl hc701)) (l' := [(47, nI (atI L10 (9 : Int))), (46, nP g49 ((9 : Int).toNat)), (45, .slice (some ⟨g49, 0, none⟩) L10.length c21), (34, .bool false), (33, nI x601), (8, nP ((w14.drew).heap.size) 0), (6, .slice (some ⟨g49, 0, none⟩) L10.length c21), (4, nP (w.heap.size) 0)]) (by kernel_rfl) ?_
      intro a706 hF705; clear hF703
      refine ev_call 64 #[nI (atI L10 (9 : Int))] hF705 rfl rfl (by kernel_rfl) rfl (by kernel_rfl) (fun w => by kernel_rfl) ?_
      obtain ⟨x707, hx708, hm709⟩ := bind1E hm702; clear hm702
      refine (p_vAt hS606 hx708).mono ?_
      rintro _ w710 ⟨rfl, hS712⟩ a711 hF713; clear hF705 hS606
      refine ev_runs 1 hF713 (l' := [(49, nP ((w14.drew).heap.size) 9), (48, nI x707), (47, nI (atI L10 (9 : Int))), (46, nP g49 ((9 : Int).toNat)), (45, .slice (some ⟨g49, 0, none⟩) L10.length c21), (34, .bool false), (33, nI x601), (8, nP ((w14.drew).heap.size) 0), (6, .slice (some ⟨g49, 0, none⟩) L10.length c21), (4, nP (w.heap.size) 0)]) (w' := w710) (by kernel_rfl) ?_
      intro a715 hF714; clear hF713
      refine ev_store (nI x707) #[nI x565, nI x572, nI x579, nI x595, nI x596, nI x597, nI x598, nI x599, nI x600, nI x707] hF714 (by kernel_rfl) rfl rfl rfl rfl (by kernel_rfl) hS712 (by kernel_rfl) (by kernel_rfl) (by kernel_rfl) (l' := [(49, nP ((w14.drew).heap.size) 9), (48, nI x707), (47, nI (atI L10 (9 : Int))), (46, nP g49 ((9 : Int).toNat)), (45, .slice (some ⟨g49, 0, none⟩) L10.length c21), (34, .bool false), (33, nI x601), (8, nP ((w14.drew).heap.size) 0), (6, .slice (some ⟨g49, 0, none⟩) L10.length c21), (4, nP (w.heap.size) 0)]) (by kernel_rfl) ?_
      intro w716 a717 hS718 hF719; clear hF714 hS712
      refine wpList_nil ?_
      have hF720 := hF719.keep [4, 8]
      clear hF719
      have hS721 := hS718.pick1.drop
      clear hS718
      refine thenN (wp_seq (wp_region_lit ?_))
      refine ev_one (.agg #[nI x565, nI x572, nI x579, nI x595, nI x596, nI x597, nI x598, nI x599, nI x600, nI x707]) w716 hF720 (by kernel_rfl) rfl (by kernel_rfl) (run_loadV rfl rfl (run_loadA (cs := [nI x565, nI x572, nI x579, nI x595, nI x596, nI x597, nI x598, nI x599, nI x600, nI x707]) rfl rfl (by kernel_rfl) (blk_cells hS721 0 rfl rfl))) (l' := [(50, .agg #[nI x565, nI x572, nI x579, nI x595, nI x596, nI x597, nI x598, nI x599, nI x600, nI x707]), (8, nP ((w14.drew).heap.size) 0), (4, nP (w.heap.size) 0)]) (by kernel_rfl) ?_
      intro a723 hF722; clear hF720
      have hS724 := hS721.pick2
      clear hS721
      refine ev_store (.agg #[nI x565, nI x572, nI x579, nI x595, nI x596, nI x597, nI x598, nI x599, nI x600, nI x707]) #[nI x565, nI x572, nI x579, nI x595, nI x596, nI x597, nI x598, nI x599, nI x600, nI x707] hF722 (by kernel_rfl) rfl rfl rfl rfl (by kernel_rfl) hS724 (by kernel_rfl) (by kernel_rfl) (by kernel_rfl) (l' := [(50, .agg #[nI x565, nI x572, nI x579, nI x595, nI x596, nI x597, nI x598, nI x599, nI x600, nI x707]), (8, nP ((w14.drew).heap.size) 0), (4, nP (w.heap.size) 0)]) (by kernel_rfl) ?_
      intro w725 a726 hS727 hF728; clear hF722 hS724
      refine ev_runK 1 hF728 [4, 5] (l' := [(5, nI 0), (4, nP (w.heap.size) 0)]) (w' := w725) (by kernel_rfl) ?_
      intro a730 hF729; clear hF728
      refine wpList_nil ?_
      have hS731 := hS727.pick1.drop
      clear hS727
      refine thenN ?_
      refine wp_ret ?_
      have hS732 := hS731.pick1
      clear hS731
      simp only [Option.some.injEq, Prod.mk.injEq] at hm709
      obtain ⟨rfl, rfl, rfl⟩ := hm709
      refine ev_retC hF729 _ [.agg #[nI x565, nI x572, nI x579, nI x595, nI x596, nI x597, nI x598, nI x599, nI x600, nI x707], nI 0] (.tuple #[.agg #[nI x565, nI x572, nI x579, nI x595, nI x596, nI x597, nI x598, nI x599, nI x600, nI x707], nI 0]) rfl ⟨⟨rfl, _, rfl, (run_loadA (cs := [nI x565, nI x572, nI x579, nI x595, nI x596, nI x597, nI x598, nI x599, nI x600, nI x707]) rfl rfl (by kernel_rfl) (blk_cells hS732 1 rfl rfl))⟩, ⟨rfl, rfl⟩, trivial⟩ rfl ?_
      have hS736 := hS732.pick1.drop
      clear hS732
      exact ⟨rfl, hS736⟩

end Go.Proofs.YtaihdiccmaincaaGreat
