/- GRef11 -/
import Derived.Test.YtaihdiccmaincaaGreatKPrimV
import Derived.Test.YtaihdiccmaincaaGreatKGHelp
import Derived.Deep.LoopGhost
import Derived.KernelRfl
/- The walks of GRef11, printed by gen/walk.py. -/
namespace Go.Proofs.YtaihdiccmaincaaGreat
open Go.RowKit
set_option linter.unusedVariables false

def ref11_ptr.m (k : Nat) (i0 : Int) : Option (Int) := (if (decide (i0 < 0)) then some (wrap64 (0 * 2)) else some (wrap64 (wrap64 (i0 * 2) + 1)))
set_option maxRecDepth 100000 in
set_option maxHeartbeats 1500000 in
theorem ref11_ptr.ok {w0 w : World} {F0 : List Nat} {ps : List Piece} {k : Nat} {i0 : Int} {r0 : Int} (hS : St w0 F0 (ps) w) (hm : ref11_ptr.m k i0 = some r0) :
    Calls Tryz.prog 105 #[nI i0] w fun e w' => e = .returned (.int .i64 r0) ∧ St w0 F0 (ps) w' := by
 refine ev_enterL 8 [nI i0] Tryz.func105 rfl rfl (by simp) ?_
 intro a hF
 have hF0 : Fr 8 a [(0, nI i0)] := hF; clear hF
 unfold ref11_ptr.m at hm
 refine wp_seq (wp_region_lit ?_)
 refine ev_runK 1 hF0 [0] (l' := [(0, nI i0)]) (w' := w) (by kernel_rfl) ?_
 intro a2 hF1; clear hF0
 refine wpList_nil (thenN (wp_seq (wp_seq (wp_region_lit ?_))))
 refine ev_runK 2 hF1 [0, 4] (l' := [(4, .bool (decide (i0 < 0))), (0, nI i0)]) (w' := w) (by kernel_rfl) ?_
 intro a4 hF3; clear hF1
 refine wpList_nil (thenN ?_)
 cases hc5 : (decide (i0 < 0)) with
 | true =>
  rw [hc5] at hF3
  have hm6 := ifYes hc5 hm; clear hm
  refine ev_condT hF3 rfl rfl ?_
  refine wp_seq (wp_region_lit ?_)
  refine ev_call 104 #[nI 0] hF3 rfl rfl (by kernel_rfl) rfl (by kernel_rfl) (fun w => by kernel_rfl) ?_
  refine (p_rInt hS).mono ?_
  rintro _ w7 ⟨rfl, hS9⟩ a8 hF10; clear hF3 hS
  refine ev_runK 1 hF10 [2] (l' := [(2, nI (wrap64 (0 * 2)))]) (w' := w7) (by kernel_rfl) ?_
  intro a12 hF11; clear hF10
  refine wpList_nil (thenN ?_)
  refine wp_ret ?_
  refine thenR ?_
  obtain rfl := Option.some.inj hm6
  refine ev_ret hF11 [2] (nI (wrap64 (0 * 2))) rfl rfl rfl ?_
  exact ⟨rfl, hS9⟩
 | false =>
  rw [hc5] at hF3
  have hm14 := ifNot hc5 hm; clear hm
  refine ev_condF hF3 rfl rfl ?_
  refine wp_skip ?_
  have hF15 := hF3.keep [0]
  clear hF3
  refine thenN (wp_seq (wp_region_lit ?_))
  refine ev_runs 1 hF15 (l' := [(6, nI i0), (0, nI i0)]) (w' := w) (by kernel_rfl) ?_
  intro a17 hF16; clear hF15
  refine ev_call 143 #[nI i0] hF16 rfl rfl (by kernel_rfl) rfl (by kernel_rfl) (fun w => by kernel_rfl) ?_
  refine (p_rPtr hS).mono ?_
  rintro _ w18 ⟨rfl, hS20⟩ a19 hF21; clear hF16 hS
  refine ev_runK 1 hF21 [2] (l' := [(2, nI (wrap64 (wrap64 (i0 * 2) + 1)))]) (w' := w18) (by kernel_rfl) ?_
  intro a23 hF22; clear hF21
  refine wpList_nil (thenN ?_)
  refine wp_ret ?_
  obtain rfl := Option.some.inj hm14
  refine ev_ret hF22 [2] (nI (wrap64 (wrap64 (i0 * 2) + 1))) rfl rfl rfl ?_
  exact ⟨rfl, hS20⟩

def ref11_number.m (k : Nat) (i0 : Int) : Option (Int) := bind1 (pNum i0) fun x5 => some (x5)
set_option maxRecDepth 100000 in
set_option maxHeartbeats 1500000 in
theorem ref11_number.ok {w0 w : World} {F0 : List Nat} {ps : List Piece} {k : Nat} {i0 : Int} {r0 : Int} (hS : St w0 F0 (ps) w) (hm : ref11_number.m k i0 = some r0) :
    Calls Tryz.prog 114 #[nI i0] w fun e w' => e = .returned (.int .i64 r0) ∧ St w0 F0 (ps) w' := by
 refine ev_enterL 5 [nI i0] Tryz.func114 rfl rfl (by simp) ?_
 intro a hF
 have hF0 : Fr 5 a [(0, nI i0)] := hF; clear hF
 unfold ref11_number.m at hm
 refine wp_seq (wp_region_lit ?_)
 refine ev_runK 1 hF0 [0] (l' := [(0, nI i0)]) (w' := w) (by kernel_rfl) ?_
 intro a2 hF1; clear hF0
 refine wpList_nil (thenN (wp_seq (wp_region_lit ?_)))
 refine ev_runs 1 hF1 (l' := [(3, nI i0), (0, nI i0)]) (w' := w) (by kernel_rfl) ?_
 intro a4 hF3; clear hF1
 refine ev_call 146 #[nI i0] hF3 rfl rfl (by kernel_rfl) rfl (by kernel_rfl) (fun w => by kernel_rfl) ?_
 obtain ⟨x5, hx6, hm7⟩ := bind1E hm; clear hm
 refine (p_rNum hS hx6).mono ?_
 rintro _ w8 ⟨rfl, hS10⟩ a9 hF11; clear hF3 hS
 refine ev_runK 1 hF11 [2] (l' := [(2, nI x5)]) (w' := w8) (by kernel_rfl) ?_
 intro a13 hF12; clear hF11
 refine wpList_nil (thenN ?_)
 refine wp_ret ?_
 obtain rfl := Option.some.inj hm7
 refine ev_ret hF12 [2] (nI x5) rfl rfl rfl ?_
 exact ⟨rfl, hS10⟩

def ref11_place.m (k : Nat) (i0 : Int) : Option (Int) := bind1 (pAt i0) fun x5 => some (x5)
set_option maxRecDepth 100000 in
set_option maxHeartbeats 1500000 in
theorem ref11_place.ok {w0 w : World} {F0 : List Nat} {ps : List Piece} {k : Nat} {i0 : Int} {r0 : Int} (hS : St w0 F0 (ps) w) (hm : ref11_place.m k i0 = some r0) :
    Calls Tryz.prog 115 #[nI i0] w fun e w' => e = .returned (.int .i64 r0) ∧ St w0 F0 (ps) w' := by
 refine ev_enterL 5 [nI i0] Tryz.func115 rfl rfl (by simp) ?_
 intro a hF
 have hF0 : Fr 5 a [(0, nI i0)] := hF; clear hF
 unfold ref11_place.m at hm
 refine wp_seq (wp_region_lit ?_)
 refine ev_runK 1 hF0 [0] (l' := [(0, nI i0)]) (w' := w) (by kernel_rfl) ?_
 intro a2 hF1; clear hF0
 refine wpList_nil (thenN (wp_seq (wp_region_lit ?_)))
 refine ev_runs 1 hF1 (l' := [(3, nI i0), (0, nI i0)]) (w' := w) (by kernel_rfl) ?_
 intro a4 hF3; clear hF1
 refine ev_call 130 #[nI i0] hF3 rfl rfl (by kernel_rfl) rfl (by kernel_rfl) (fun w => by kernel_rfl) ?_
 obtain ⟨x5, hx6, hm7⟩ := bind1E hm; clear hm
 refine (p_rAt hS hx6).mono ?_
 rintro _ w8 ⟨rfl, hS10⟩ a9 hF11; clear hF3 hS
 refine ev_runK 1 hF11 [2] (l' := [(2, nI x5)]) (w' := w8) (by kernel_rfl) ?_
 intro a13 hF12; clear hF11
 refine wpList_nil (thenN ?_)
 refine wp_ret ?_
 obtain rfl := Option.some.inj hm7
 refine ev_ret hF12 [2] (nI x5) rfl rfl rfl ?_
 exact ⟨rfl, hS10⟩

def ref11_words.l2b (s0 : HSt) (i1 : Int) (i2 : Int) (rec45 : List Int → Int → Option (List Int × Int × HSt)) (L40 : List Int) (x42 : Int) : Option (List Int × Int × HSt) := (if (decide (x42 < (rNeed i2 0))) then bind2 (pLoad i1 x42 s0) fun x66 x67 => bind1 (pushM L40 x66) fun L79 => rec45 L79 (IntKind.i64.wrap (x42 + 1)) else some (L40, 0, s0))
def ref11_words.l2 (s0 : HSt) (i1 : Int) (i2 : Int) : Nat → List Int → Int → Option (List Int × Int × HSt)
  | 0 => fun _ _ => none
  | kI + 1 => ref11_words.l2b s0 i1 i2 (ref11_words.l2 s0 i1 i2 kI)
def ref11_words.j1 (s0 : HSt) (i1 : Int) (i2 : Int) (k : Nat) (y14 : Bool) : Option (List Int × Int × HSt) := (if (y14) then some ([], 10, s0) else ref11_words.l2 s0 i1 i2 k [] 0)
def ref11_words.m (k : Nat) (s0 : HSt) (i1 : Int) (i2 : Int) : Option (List Int × Int × HSt) := (if ((aKind s0.a.c i1) != i2) then ref11_words.j1 s0 i1 i2 k true else ref11_words.j1 s0 i1 i2 k ((aLen s0.a.c i1) != (rNeed i2 0)))
set_option maxRecDepth 100000 in
set_option maxHeartbeats 1500000 in
theorem ref11_words.ok {w0 w : World} {F0 : List Nat} {ps : List Piece} {k : Nat} {b0 ab0 sb0 g0 cb0 : Nat} {s0 : HSt} {i1 : Int} {i2 : Int} {r0 : List Int} {r1 : Int} {t0 : HSt} (hS : St w0 F0 (RHeapP b0 ab0 sb0 g0 cb0 s0 :: ps) w) (hm : ref11_words.m k s0 i1 i2 = some (r0, r1, t0)) :
    Calls Tryz.prog 113 #[nP b0 0, nI i1, nI i2] w fun e w' => ∃ vr0, e = .returned (.tuple #[vr0, .int .i64 r1]) ∧ St w0 F0 (RHeapP b0 ab0 sb0 g0 cb0 t0 :: RowP vr0 r0 :: ps) w' := by
 refine ev_enterL 57 [nP b0 0, nI i1, nI i2] Tryz.func113 rfl rfl (by simp) ?_
 intro a hF
 have hF0 : Fr 57 a [(0, nP b0 0), (1, nI i1), (2, nI i2)] := hF; clear hF
 unfold ref11_words.m at hm
 refine wp_seq (wp_region_lit ?_)
 have hS2 : St w0 F0 (RowP (.slice none 0 0) [] :: RHeapP b0 ab0 sb0 g0 cb0 s0 :: ps) w := St.nil hS
 refine ev_runK 2 hF0 [0, 1, 2] (l' := [(0, nP b0 0), (1, nI i1), (2, nI i2)]) (w' := w) (by kernel_rfl) ?_
 intro a4 hF3; clear hF0
 refine wpList_nil ?_
 have hS5 := hS2.drop
 clear hS2
 refine thenN (wp_seq (wp_region_lit ?_))
 refine ev_runs 1 hF3 (l' := [(15, nI i2), (0, nP b0 0), (1, nI i1), (2, nI i2)]) (w' := w) (by kernel_rfl) ?_
 intro a7 hF6; clear hF3
 refine ev_call 145 #[nI i2, nI 0] hF6 rfl rfl (by kernel_rfl) rfl (by kernel_rfl) (fun w => by kernel_rfl) ?_
 refine (q_Need hS5).mono ?_
 rintro _ w8 ⟨rfl, hS10⟩ a9 hF11; clear hF6 hS5
 refine ev_runK 5 hF11 [0, 1, 2, 8] (l' := [(8, nI (rNeed i2 0)), (0, nP b0 0), (1, nI i1), (2, nI i2)]) (w' := w8) (by kernel_rfl) ?_
 intro a13 hF12; clear hF11
 refine wpList_nil (thenN (wp_seq (wp_seq ?_)))
 refine joinQ (fun aI wI => ∃ (y14 : Bool), Fr 57 aI [(36, .bool (y14)), (8, nI (rNeed i2 0)), (0, nP b0 0), (1, nI i1)] ∧ St w0 F0 (RHeapP b0 ab0 sb0 g0 cb0 s0 :: ps) wI ∧ ref11_words.j1 s0 i1 i2 k y14 = some (r0, r1, t0)) ?_ ?_
 rotate_left
 · rintro a16 w17 ⟨y14, hF18, hS19, hm20⟩
   clear hF12 hS10 hm
   unfold ref11_words.j1 at hm20
   refine thenN ?_
   cases hc22 : (y14) with
   | true =>
    rw [hc22] at hF18
    have hm23 := ifYes hc22 hm20; clear hm20
    refine ev_condT hF18 rfl rfl ?_
    refine wp_seq (wp_region_lit ?_)
    have hS25 : St w0 F0 (RowP (.slice none 0 0) [] :: RHeapP b0 ab0 sb0 g0 cb0 s0 :: ps) w17 := St.nil hS19
    clear hS19
    refine ev_runK 2 hF18 [6, 7] (l' := [(7, nI 10), (6, .slice none 0 0)]) (w' := w17) (by kernel_rfl) ?_
    intro a27 hF26; clear hF18
    refine wpList_nil (thenN ?_)
    refine wp_ret ?_
    refine thenR ?_
    have hS28 := hS25.pick1
    clear hS25
    simp only [Option.some.injEq, Prod.mk.injEq] at hm23
    obtain ⟨rfl, rfl, rfl⟩ := hm23
    refine ev_ret hF26 [6, 7] (.tuple #[.slice none 0 0, nI 10]) rfl rfl rfl ?_
    exact ⟨_, rfl, hS28⟩
   | false =>
    rw [hc22] at hF18
    have hm32 := ifNot hc22 hm20; clear hm20
    refine ev_condF hF18 rfl rfl ?_
    refine wp_skip ?_
    have hF33 := hF18.keep [0, 1, 8]
    clear hF18
    refine thenN (wp_seq (wp_region_lit ?_))
    have hS35 : St w0 F0 (RowP (.slice none 0 0) [] :: RHeapP b0 ab0 sb0 g0 cb0 s0 :: ps) w17 := St.nil hS19
    clear hS19
    refine ev_runs 1 hF33 (l' := [(10, .slice none 0 0), (8, nI (rNeed i2 0)), (0, nP b0 0), (1, nI i1)]) (w' := w17) (by kernel_rfl) ?_
    intro a37 hF36; clear hF33
    refine wpList_nil (thenN (wp_seq (wp_seq (wp_region_lit ?_))))
    refine ev_runs 1 hF36 (l' := [(11, nI 0), (10, .slice none 0 0), (8, nI (rNeed i2 0)), (0, nP b0 0), (1, nI i1)]) (w' := w17) (by kernel_rfl) ?_
    intro a39 hF38; clear hF36
    refine wpList_nil (thenN ?_)
    refine wp_block ?_
    refine wp_loop_ghost (fun kI aI wI => ∃ (v41 : Value) (L40 : List Int) (x42 : Int), Fr 57 aI [(11, nI x42), (10, v41), (8, nI (rNeed i2 0)), (0, nP b0 0), (1, nI i1)] ∧ St w0 F0 (RowP (v41) L40 :: RHeapP b0 ab0 sb0 g0 cb0 s0 :: ps) wI ∧ ref11_words.l2 s0 i1 i2 kI L40 x42 = some (r0, r1, t0)) k ⟨.slice none 0 0, [], 0, hF38, hS35, hm32⟩ ?_
    rintro k43 a44 w45 ⟨v41, L40, x42, hF46, hS47, hm48⟩
    clear hF38 hS35 hm32
    cases k43 with
    | zero => cases hm48
    | succ k43 =>
     have hm49 : ref11_words.l2b s0 i1 i2 (ref11_words.l2 s0 i1 i2 k43) L40 x42 = some (r0, r1, t0) := hm48
     clear hm48
     unfold ref11_words.l2b at hm49
     obtain ⟨hl53, p50, c51, rfl, hp52⟩ := St.shape hS47 0 rfl
     refine wp_seq (wp_seq (wp_region_lit ?_))
     refine ev_runK 3 hF46 [0, 1, 8, 10, 11, 39] (l' := [(39, .bool (decide (x42 < (rNeed i2 0)))), (11, nI x42), (10, .slice p50 L40.length c51), (8, nI (rNeed i2 0)), (0, nP b0 0), (1, nI i1)]) (w' := w45) (by kernel_rfl) ?_
     intro a55 hF54; clear hF46
     refine wpList_nil (thenN ?_)
     cases hc56 : (decide (x42 < (rNeed i2 0))) with
     | true =>
      rw [hc56] at hF54
      have hm57 := ifYes hc56 hm49; clear hm49
      refine ev_condT hF54 rfl rfl ?_
      refine wp_skip ?_
      have hF58 := hF54.keep [0, 1, 8, 10, 11]
      clear hF54
      refine thenN (wp_seq ?_)
      refine wp_block ?_
      refine wp_seq (wp_region_lit ?_)
      refine ev_runs 3 hF58 (l' := [(45, nP b0 0), (44, nP b0 0), (43, nP b0 0), (11, nI x42), (10, .slice p50 L40.length c51), (8, nI (rNeed i2 0)), (0, nP b0 0), (1, nI i1)]) (w' := w45) (by kernel_rfl) ?_
      intro a60 hF59; clear hF58
      refine ev_one (nP ab0 0) w45 hF59 (by kernel_rfl) rfl (by kernel_rfl) (run_loadV rfl rfl (run_loadS rfl rfl (St.rhsee (k := 1) hS47 rfl).1)) (l' := [(46, nP ab0 0), (45, nP b0 0), (44, nP b0 0), (43, nP b0 0), (11, nI x42), (10, .slice p50 L40.length c51), (8, nI (rNeed i2 0)), (0, nP b0 0), (1, nI i1)]) (by kernel_rfl) ?_
      intro a62 hF61; clear hF59
      refine ev_runs 2 hF61 (l' := [(48, nI x42), (47, nI i1), (46, nP ab0 0), (45, nP b0 0), (44, nP b0 0), (43, nP b0 0), (11, nI x42), (10, .slice p50 L40.length c51), (8, nI (rNeed i2 0)), (0, nP b0 0), (1, nI i1)]) (w' := w45) (by kernel_rfl) ?_
      intro a64 hF63; clear hF61
      have hS65 := hS47.pick1
      clear hS47
      refine ev_call 90 #[nP ab0 0, nI i1, nI x42] hF63 rfl rfl (by kernel_rfl) rfl (by kernel_rfl) (fun w => by kernel_rfl) ?_
      obtain ⟨x66, x67, hx68, hm69⟩ := bind2E hm57; clear hm57
      refine (q_Load hS65 hx68).mono ?_
      rintro _ w70 ⟨rfl, hS72⟩ a71 hF73; clear hF63 hS65
      refine ev_runK 5 hF73 [0, 1, 8, 10, 11, 12] (l' := [(12, nI x66), (11, nI x42), (10, .slice p50 L40.length c51), (8, nI (rNeed i2 0)), (0, nP b0 0), (1, nI i1)]) (w' := w70) (by kernel_rfl) ?_
      intro a75 hF74; clear hF73
      refine wpList_nil (thenN (wp_region_lit ?_))
      refine ev_runs 3 hF74 (l' := [(54, .slice (some ⟨w70.heap.size, 0, none⟩) 1 1), (53, nI x66), (52, .slice p50 L40.length c51), (12, nI x66), (11, nI x42), (10, .slice p50 L40.length c51), (8, nI (rNeed i2 0)), (0, nP b0 0), (1, nI i1)]) (w' := w70.alloc (.cells #[nI x66] 3)) (by kernel_rfl) ?_
      intro a77 hF76; clear hF74
      have hS78 := hS72.pick1
      clear hS72
      obtain ⟨L79, hx80, hm81⟩ := bind1E hm69; clear hm69
      refine ev_push 55 (.tmp 52) (.tmp 54) hF76 rfl rfl rfl rfl rfl rfl rfl rfl hS78 hx80 ?_
      intro g82 c83 w84 a85 hS86 hF87; clear hF76 hS78
      refine ev_runK 1 hF87 [0, 1, 8, 10, 11] (l' := [(10, .slice (some ⟨g82, 0, none⟩) L79.length c83), (11, nI x42), (8, nI (rNeed i2 0)), (0, nP b0 0), (1, nI i1)]) (w' := w84) (by kernel_rfl) ?_
      intro a89 hF88; clear hF87
      refine wpList_nil ?_
      refine blockN ?_
      refine thenN (wp_region_lit ?_)
      refine ev_runK 3 hF88 [0, 1, 8, 10, 11] (l' := [(11, nI (IntKind.i64.wrap (x42 + 1))), (10, .slice (some ⟨g82, 0, none⟩) L79.length c83), (8, nI (rNeed i2 0)), (0, nP b0 0), (1, nI i1)]) (w' := w84) (by kernel_rfl) ?_
      intro a91 hF90; clear hF88
      refine wpList_nil ?_
      exact thenN ⟨k43, Nat.lt_succ_self _, .slice (some ⟨g82, 0, none⟩) L79.length c83, L79, IntKind.i64.wrap (x42 + 1), hF90, hS86, hm81⟩
     | false =>
      rw [hc56] at hF54
      have hm92 := ifNot hc56 hm49; clear hm49
      refine ev_condF hF54 rfl rfl ?_
      refine wp_exit ?_
      refine thenE ?_
      refine thenE ?_
      refine blockE ?_
      refine thenN (wp_seq (wp_region_lit ?_))
      refine ev_runK 3 hF54 [6, 7] (l' := [(7, nI 0), (6, .slice p50 L40.length c51)]) (w' := w45) (by kernel_rfl) ?_
      intro a94 hF93; clear hF54
      refine wpList_nil (thenN ?_)
      refine wp_ret ?_
      have hS95 := hS47.pick1
      clear hS47
      simp only [Option.some.injEq, Prod.mk.injEq] at hm92
      obtain ⟨rfl, rfl, rfl⟩ := hm92
      refine ev_ret hF93 [6, 7] (.tuple #[.slice p50 L40.length c51, nI 0]) rfl rfl rfl ?_
      exact ⟨_, rfl, hS95⟩
 · skip
   refine wp_region_lit ?_
   refine ev_runs 3 hF12 (l' := [(21, nP b0 0), (20, nP b0 0), (19, nP b0 0), (8, nI (rNeed i2 0)), (0, nP b0 0), (1, nI i1), (2, nI i2)]) (w' := w8) (by kernel_rfl) ?_
   intro a100 hF99; clear hF12
   refine ev_one (nP ab0 0) w8 hF99 (by kernel_rfl) rfl (by kernel_rfl) (run_loadV rfl rfl (run_loadS rfl rfl (St.rhsee (k := 0) hS10 rfl).1)) (l' := [(22, nP ab0 0), (21, nP b0 0), (20, nP b0 0), (19, nP b0 0), (8, nI (rNeed i2 0)), (0, nP b0 0), (1, nI i1), (2, nI i2)]) (by kernel_rfl) ?_
   intro a102 hF101; clear hF99
   refine ev_runs 1 hF101 (l' := [(23, nI i1), (22, nP ab0 0), (21, nP b0 0), (20, nP b0 0), (19, nP b0 0), (8, nI (rNeed i2 0)), (0, nP b0 0), (1, nI i1), (2, nI i2)]) (w' := w8) (by kernel_rfl) ?_
   intro a104 hF103; clear hF101
   refine ev_call 126 #[nP ab0 0, nI i1] hF103 rfl rfl (by kernel_rfl) rfl (by kernel_rfl) (fun w => by kernel_rfl) ?_
   refine (q_Kind hS10).mono ?_
   rintro _ w105 ⟨rfl, hS107⟩ a106 hF108; clear hF103 hS10
   refine ev_runs 3 hF108 (l' := [(27, .bool ((aKind s0.a.c i1) != i2)), (26, .bool ((aKind s0.a.c i1) != i2)), (25, nI i2), (24, nI (aKind s0.a.c i1)), (23, nI i1), (22, nP ab0 0), (21, nP b0 0), (20, nP b0 0), (19, nP b0 0), (8, nI (rNeed i2 0)), (0, nP b0 0), (1, nI i1), (2, nI i2)]) (w' := w105) (by kernel_rfl) ?_
   intro a110 hF109; clear hF108
   cases hc111 : ((aKind s0.a.c i1) != i2) with
   | true =>
    rw [hc111] at hF109
    have hm112 := ifYes hc111 hm; clear hm
    refine ev_runK 9 hF109 [0, 1, 8, 36] (l' := [(36, .bool true), (8, nI (rNeed i2 0)), (0, nP b0 0), (1, nI i1)]) (w' := w105) (by kernel_rfl) ?_
    intro a114 hF113; clear hF109
    refine wpList_nil ?_
    exact thenN ⟨true, hF113, hS107, hm112⟩
   | false =>
    rw [hc111] at hF109
    have hm115 := ifNot hc111 hm; clear hm
    refine ev_runs 3 hF109 (l' := [(30, nP b0 0), (29, nP b0 0), (28, nP b0 0), (27, .bool false), (26, .bool false), (25, nI i2), (24, nI (aKind s0.a.c i1)), (23, nI i1), (22, nP ab0 0), (21, nP b0 0), (20, nP b0 0), (19, nP b0 0), (8, nI (rNeed i2 0)), (0, nP b0 0), (1, nI i1), (2, nI i2)]) (w' := w105) (by kernel_rfl) ?_
    intro a117 hF116; clear hF109
    refine ev_one (nP ab0 0) w105 hF116 (by kernel_rfl) rfl (by kernel_rfl) (run_loadV rfl rfl (run_loadS rfl rfl (St.rhsee (k := 0) hS107 rfl).1)) (l' := [(31, nP ab0 0), (30, nP b0 0), (29, nP b0 0), (28, nP b0 0), (27, .bool false), (26, .bool false), (25, nI i2), (24, nI (aKind s0.a.c i1)), (23, nI i1), (22, nP ab0 0), (21, nP b0 0), (20, nP b0 0), (19, nP b0 0), (8, nI (rNeed i2 0)), (0, nP b0 0), (1, nI i1), (2, nI i2)]) (by kernel_rfl) ?_
    intro a119 hF118; clear hF116
    refine ev_runs 1 hF118 (l' := [(32, nI i1), (31, nP ab0 0), (30, nP b0 0), (29, nP b0 0), (28, nP b0 0), (27, .bool false), (26, .bool false), (25, nI i2), (24, nI (aKind s0.a.c i1)), (23, nI i1), (22, nP ab0 0), (21, nP b0 0), (20, nP b0 0), (19, nP b0 0), (8, nI (rNeed i2 0)), (0, nP b0 0), (1, nI i1), (2, nI i2)]) (w' := w105) (by kernel_rfl) ?_
    intro a121 hF120; clear hF118
    refine ev_call 100 #[nP ab0 0, nI i1] hF120 rfl rfl (by kernel_rfl) rfl (by kernel_rfl) (fun w => by kernel_rfl) ?_
    refine (q_Len hS107).mono ?_
    rintro _ w122 ⟨rfl, hS124⟩ a123 hF125; clear hF120 hS107
    refine ev_runK 3 hF125 [0, 1, 8, 36] (l' := [(36, .bool ((aLen s0.a.c i1) != (rNeed i2 0))), (8, nI (rNeed i2 0)), (0, nP b0 0), (1, nI i1)]) (w' := w122) (by kernel_rfl) ?_
    intro a127 hF126; clear hF125
    refine wpList_nil ?_
    exact thenN ⟨(aLen s0.a.c i1) != (rNeed i2 0), hF126, hS124, hm115⟩

def ref11_put.j7 (x29 : Int) (rec33 : HSt → Int → Int → Option (Int × HSt)) (s59 : HSt) (x60 : Int) : Option (Int × HSt) := rec33 s59 (IntKind.i64.wrap (x29 + 1)) x60
def ref11_put.j6 (i1 : Int) (L3 : List Int) (L9 : List Int) (s28 : HSt) (x29 : Int) (x30 : Int) (rec33 : HSt → Int → Int → Option (Int × HSt)) (y38 : Bool) : Option (Int × HSt) := (if (y38) then (if (inR x29 L9.length) then (if (inR x29 L3.length) then (if ((atI L9 x29) != (atI L3 x29)) then bind2 (pStore i1 x29 (atI L3 x29) s28) fun x80 s81 => ref11_put.j7 x29 rec33 s81 x80 else ref11_put.j7 x29 rec33 s28 x30) else none) else none) else some (x30, s28))
def ref11_put.l5b (i1 : Int) (L3 : List Int) (L9 : List Int) (rec33 : HSt → Int → Int → Option (Int × HSt)) (s28 : HSt) (x29 : Int) (x30 : Int) : Option (Int × HSt) := (if (decide (x29 < (L9.length : Int))) then ref11_put.j6 i1 L3 L9 s28 x29 x30 rec33 (x30 == 0) else ref11_put.j6 i1 L3 L9 s28 x29 x30 rec33 false)
def ref11_put.l5 (i1 : Int) (L3 : List Int) (L9 : List Int) : Nat → HSt → Int → Int → Option (Int × HSt)
  | 0 => fun _ _ _ => none
  | kI + 1 => ref11_put.l5b i1 L3 L9 (ref11_put.l5 i1 L3 L9 kI)
def ref11_put.m (k : Nat) (s0 : HSt) (i1 : Int) (i2 : Int) (L3 : List Int) : Option (Int × HSt) := bind3 (ref11_words.m k s0 i1 i2) fun L9 x10 s11 => ref11_put.l5 i1 L3 L9 k s11 0 x10
set_option maxRecDepth 100000 in
set_option maxHeartbeats 1500000 in
theorem ref11_put.ok {w0 w : World} {F0 : List Nat} {ps : List Piece} {k : Nat} {b0 ab0 sb0 g0 cb0 : Nat} {s0 : HSt} {i1 : Int} {i2 : Int} {v3 : Value} {L3 : List Int} {r0 : Int} {t0 : HSt} (hS : St w0 F0 (RHeapP b0 ab0 sb0 g0 cb0 s0 :: RowP (v3) L3 :: ps) w) (hm : ref11_put.m k s0 i1 i2 L3 = some (r0, t0)) :
    Calls Tryz.prog 103 #[nP b0 0, nI i1, nI i2, v3] w fun e w' => e = .returned (.int .i64 r0) ∧ St w0 F0 (RHeapP b0 ab0 sb0 g0 cb0 t0 :: RowP (v3) L3 :: ps) w' := by
 refine ev_enterL 47 [nP b0 0, nI i1, nI i2, v3] Tryz.func103 rfl rfl (by simp) ?_
 intro a hF
 have hF0 : Fr 47 a [(0, nP b0 0), (1, nI i1), (2, nI i2), (3, v3)] := hF; clear hF
 unfold ref11_put.m at hm
 obtain ⟨hl4, p1, c2, rfl, hp3⟩ := St.shape hS 1 rfl
 refine wp_seq (wp_region_lit ?_)
 refine ev_runK 1 hF0 [0, 1, 2, 3] (l' := [(0, nP b0 0), (1, nI i1), (2, nI i2), (3, .slice p1 L3.length c2)]) (w' := w) (by kernel_rfl) ?_
 intro a6 hF5; clear hF0
 refine wpList_nil (thenN (wp_seq (wp_region_lit ?_)))
 refine ev_runs 3 hF5 (l' := [(15, nI i2), (14, nI i1), (13, nP b0 0), (0, nP b0 0), (1, nI i1), (2, nI i2), (3, .slice p1 L3.length c2)]) (w' := w) (by kernel_rfl) ?_
 intro a8 hF7; clear hF5
 refine ev_call 113 #[nP b0 0, nI i1, nI i2] hF7 rfl rfl (by kernel_rfl) rfl (by kernel_rfl) (fun w => by kernel_rfl) ?_
 obtain ⟨L9, x10, s11, hx12, hm13⟩ := bind3E hm; clear hm
 refine (ref11_words.ok hS hx12).mono ?_
 rintro _ w14 ⟨z18, rfl, hS16⟩ a15 hF17; clear hF7 hS
 obtain ⟨hl23, p20, c21, rfl, hp22⟩ := St.shape hS16 1 rfl
 refine ev_runK 5 hF17 [0, 1, 3, 9, 10] (l' := [(10, nI x10), (9, .slice p20 L9.length c21), (0, nP b0 0), (1, nI i1), (3, .slice p1 L3.length c2)]) (w' := w14) (by kernel_rfl) ?_
 intro a25 hF24; clear hF17
 refine wpList_nil (thenN (wp_seq (wp_seq (wp_region_lit ?_))))
 refine ev_runs 1 hF24 (l' := [(11, nI 0), (10, nI x10), (9, .slice p20 L9.length c21), (0, nP b0 0), (1, nI i1), (3, .slice p1 L3.length c2)]) (w' := w14) (by kernel_rfl) ?_
 intro a27 hF26; clear hF24
 refine wpList_nil (thenN ?_)
 refine wp_block ?_
 refine wp_loop_ghost (fun kI aI wI => ∃ (s28 : HSt) (x29 : Int) (x30 : Int), Fr 47 aI [(11, nI x29), (10, nI x30), (9, .slice p20 L9.length c21), (0, nP b0 0), (1, nI i1), (3, .slice p1 L3.length c2)] ∧ St w0 F0 (RHeapP b0 ab0 sb0 g0 cb0 s28 :: RowP (.slice p20 L9.length c21) L9 :: RowP (.slice p1 L3.length c2) L3 :: ps) wI ∧ ref11_put.l5 i1 L3 L9 kI s28 x29 x30 = some (r0, t0)) k ⟨s11, 0, x10, hF26, hS16, hm13⟩ ?_
 rintro k31 a32 w33 ⟨s28, x29, x30, hF34, hS35, hm36⟩
 clear hF26 hS16 hm13
 cases k31 with
 | zero => cases hm36
 | succ k31 =>
  have hm37 : ref11_put.l5b i1 L3 L9 (ref11_put.l5 i1 L3 L9 k31) s28 x29 x30 = some (r0, t0) := hm36
  clear hm36
  unfold ref11_put.l5b at hm37
  refine wp_seq (wp_seq ?_)
  refine joinQ (fun aI wI => ∃ (y38 : Bool), Fr 47 aI [(26, .bool (y38)), (11, nI x29), (10, nI x30), (9, .slice p20 L9.length c21), (0, nP b0 0), (1, nI i1), (3, .slice p1 L3.length c2)] ∧ St w0 F0 (RHeapP b0 ab0 sb0 g0 cb0 s28 :: RowP (.slice p20 L9.length c21) L9 :: RowP (.slice p1 L3.length c2) L3 :: ps) wI ∧ ref11_put.j6 i1 L3 L9 s28 x29 x30 (ref11_put.l5 i1 L3 L9 k31) y38 = some (r0, t0)) ?_ ?_
  rotate_left
  · rintro a40 w41 ⟨y38, hF42, hS43, hm44⟩
    clear hF34 hS35 hm37
    unfold ref11_put.j6 at hm44
    refine thenN ?_
    cases hc46 : (y38) with
    | true =>
     rw [hc46] at hF42
     have hm47 := ifYes hc46 hm44; clear hm44
     refine ev_condT hF42 rfl rfl ?_
     refine wp_skip ?_
     have hF48 := hF42.keep [0, 1, 3, 9, 10, 11]
     clear hF42
     refine thenN (wp_seq ?_)
     refine wp_block ?_
     refine wp_seq ?_
     -- draws
     obtain ⟨hc49, hm50⟩ := ifTE hm47; clear hm47
     obtain ⟨g51, rfl⟩ := hp22.resolve_left (by have := inR_spec hc49; omega)
     obtain ⟨hc52, hm53⟩ := ifTE hm50; clear hm50
     obtain ⟨g54, rfl⟩ := hp3.resolve_left (by have := inR_spec hc52; omega)
     have hS55 := hS43.pick2.pick2
     clear hS43
     have hS56 := hS55.drew; clear hS55
     refine any_start (fun wS => ∃ qs, St w0 F0 (RowP (.slice (some ⟨g51, 0, none⟩) L9.length c21) L9 :: RowP (.slice (some ⟨g54, 0, none⟩) L3.length c2) L3 :: qs) wS) 9 #[false, false, false, false, false, false, false, false, false] (by kernel_rfl) (by kernel_rfl) (by kernel_rfl) ?_
     refine any_many 9 [(0, some (.slice (some ⟨g51, 0, none⟩) L9.length c21)), (1, some (nI x29)), (2, some (nP g51 (x29.toNat))), (3, some (nI (atI L9 x29))), (4, some (.slice (some ⟨g54, 0, none⟩) L3.length c2)), (5, some (nI x29)), (6, some (nP g54 (x29.toNat))), (7, some (nI (atI L3 x29))), (8, some (.bool ((atI L9 x29) != (atI L3 x29))))] [0, 1, 3, 9, 10, 11, 37] #[true, true, true, true, true, true, true, true, true] (by rfl) hF48 (by kernel_rfl) (by kernel_rfl) (by exact (And.intro (fun wS hw => by kernel_rfl) (And.intro (fun wS hw => by kernel_rfl) (And.intro (fun wS hw => run_idx rfl rfl rfl rfl rfl (inR_spec hc49).1 (inR_spec hc49).2 _) (And.intro (fun wS hw => run_load1 rfl rfl rfl (hw.elim fun qs hw => hw.atI 0 rfl hc49)) (And.intro (fun wS hw => by kernel_rfl) (And.intro (fun wS hw => by kernel_rfl) (And.intro (fun wS hw => run_idx rfl rfl rfl rfl rfl (inR_spec hc52).1 (inR_spec hc52).2 _) (And.intro (fun wS hw => run_load1 rfl rfl rfl (hw.elim fun qs hw => hw.atI 1 rfl hc52)) (And.intro (fun wS hw => by kernel_rfl) trivial)))))))))) (fun _ _ _ _ _ h => h) ⟨_, hS56⟩ (l' := [(37, .bool ((atI L9 x29) != (atI L3 x29))), (11, nI x29), (10, nI x30), (9, .slice (some ⟨g51, 0, none⟩) L9.length c21), (0, nP b0 0), (1, nI i1), (3, .slice (some ⟨g54, 0, none⟩) L3.length c2)]) (by kernel_rfl) ?_
     intro a58 hF57; clear hF48
     refine any_done (by kernel_rfl) ?_
     refine thenN ?_
     refine joinQ (fun aI wI => ∃ (s59 : HSt) (x60 : Int), Fr 47 aI [(11, nI x29), (10, nI x60), (9, .slice (some ⟨g51, 0, none⟩) L9.length c21), (0, nP b0 0), (1, nI i1), (3, .slice (some ⟨g54, 0, none⟩) L3.length c2)] ∧ St w0 F0 (RowP (.slice (some ⟨g51, 0, none⟩) L9.length c21) L9 :: RowP (.slice (some ⟨g54, 0, none⟩) L3.length c2) L3 :: RHeapP b0 ab0 sb0 g0 cb0 s59 :: ps) wI ∧ ref11_put.j7 x29 (ref11_put.l5 i1 L3 L9 k31) s59 x60 = some (r0, t0)) ?_ ?_
     rotate_left
     · rintro a62 w63 ⟨s59, x60, hF64, hS65, hm66⟩
       clear hF57 hS56 hm53
       unfold ref11_put.j7 at hm66
       refine blockN ?_
       refine thenN (wp_region_lit ?_)
       refine ev_runK 3 hF64 [0, 1, 3, 9, 10, 11] (l' := [(11, nI (IntKind.i64.wrap (x29 + 1))), (10, nI x60), (9, .slice (some ⟨g51, 0, none⟩) L9.length c21), (0, nP b0 0), (1, nI i1), (3, .slice (some ⟨g54, 0, none⟩) L3.length c2)]) (w' := w63) (by kernel_rfl) ?_
       intro a69 hF68; clear hF64
       refine wpList_nil ?_
       have hS70 := hS65.pick1.pick1.pick2
       clear hS65
       exact thenN ⟨k31, Nat.lt_succ_self _, s59, IntKind.i64.wrap (x29 + 1), x60, hF68, hS70, hm66⟩
     · skip
       cases hc71 : ((atI L9 x29) != (atI L3 x29)) with
       | true =>
        rw [hc71] at hF57
        have hm72 := ifYes hc71 hm53; clear hm53
        refine ev_condT hF57 rfl rfl ?_
        refine wp_region_lit ?_
        refine ev_runs 5 hF57 (l' := [(42, nI x29), (41, .slice (some ⟨g54, 0, none⟩) L3.length c2), (40, nI x29), (39, nI i1), (38, nP b0 0), (37, .bool true), (11, nI x29), (10, nI x30), (9, .slice (some ⟨g51, 0, none⟩) L9.length c21), (0, nP b0 0), (1, nI i1), (3, .slice (some ⟨g54, 0, none⟩) L3.length c2)]) (w' := w41.drew) (by kernel_rfl) ?_
        intro a74 hF73; clear hF57
        refine ev_one (nP g54 (x29.toNat)) (w41.drew) hF73 (by kernel_rfl) rfl (by kernel_rfl) (run_idx rfl rfl rfl rfl rfl (inR_spec hc52).1 (inR_spec hc52).2 _) (l' := [(43, nP g54 (x29.toNat)), (42, nI x29), (41, .slice (some ⟨g54, 0, none⟩) L3.length c2), (40, nI x29), (39, nI i1), (38, nP b0 0), (37, .bool true), (11, nI x29), (10, nI x30), (9, .slice (some ⟨g51, 0, none⟩) L9.length c21), (0, nP b0 0), (1, nI i1), (3, .slice (some ⟨g54, 0, none⟩) L3.length c2)]) (by kernel_rfl) ?_
        intro a76 hF75; clear hF73
        refine ev_one (nI (atI L3 x29)) (w41.drew) hF75 (by kernel_rfl) rfl (by kernel_rfl) (run_load1 rfl rfl rfl (hS56.atI 1 rfl hc52)) (l' := [(44, nI (atI L3 x29)), (43, nP g54 (x29.toNat)), (42, nI x29), (41, .slice (some ⟨g54, 0, none⟩) L3.length c2), (40, nI x29), (39, nI i1), (38, nP b0 0), (37, .bool true), (11, nI x29), (10, nI x30), (9, .slice (some ⟨g51, 0, none⟩) L9.length c21), (0, nP b0 0), (1, nI i1), (3, .slice (some ⟨g54, 0, none⟩) L3.length c2)]) (by kernel_rfl) ?_
        intro a78 hF77; clear hF75
        have hS79 := hS56.pick2
        clear hS56
        refine ev_call 91 #[nP b0 0, nI i1, nI x29, nI (atI L3 x29)] hF77 rfl rfl (by kernel_rfl) rfl (by kernel_rfl) (fun w => by kernel_rfl) ?_
        obtain ⟨x80, s81, hx82, hm83⟩ := bind2E hm72; clear hm72
        refine (q_Store hS79 hx82).mono ?_
        rintro _ w84 ⟨rfl, hS86⟩ a85 hF87; clear hF77 hS79
        refine ev_runK 1 hF87 [0, 1, 3, 9, 10, 11] (l' := [(10, nI x80), (11, nI x29), (9, .slice (some ⟨g51, 0, none⟩) L9.length c21), (0, nP b0 0), (1, nI i1), (3, .slice (some ⟨g54, 0, none⟩) L3.length c2)]) (w' := w84) (by kernel_rfl) ?_
        intro a89 hF88; clear hF87
        refine wpList_nil ?_
        have hF90 : Fr 47 a89 [(11, nI x29), (10, nI x80), (9, .slice (some ⟨g51, 0, none⟩) L9.length c21), (0, nP b0 0), (1, nI i1), (3, .slice (some ⟨g54, 0, none⟩) L3.length c2)] := Fr.re hF88 (by kernel_rfl)
        clear hF88
        have hS91 := hS86.pick2.pick2
        clear hS86
        exact thenN ⟨s81, x80, hF90, hS91, hm83⟩
       | false =>
        rw [hc71] at hF57
        have hm92 := ifNot hc71 hm53; clear hm53
        refine ev_condF hF57 rfl rfl ?_
        refine wp_skip ?_
        have hF93 := hF57.keep [0, 1, 3, 9, 10, 11]
        clear hF57
        exact thenN ⟨s28, x30, hF93, hS56, hm92⟩
    | false =>
     rw [hc46] at hF42
     have hm94 := ifNot hc46 hm44; clear hm44
     refine ev_condF hF42 rfl rfl ?_
     refine wp_exit ?_
     refine thenE ?_
     refine thenE ?_
     refine blockE ?_
     refine thenN (wp_seq (wp_region_lit ?_))
     refine ev_runK 2 hF42 [8] (l' := [(8, nI x30)]) (w' := w41) (by kernel_rfl) ?_
     intro a96 hF95; clear hF42
     refine wpList_nil ?_
     have hS97 := hS43.pick1.drop
     clear hS43
     refine thenN ?_
     refine wp_ret ?_
     simp only [Option.some.injEq, Prod.mk.injEq] at hm94
     obtain ⟨rfl, rfl⟩ := hm94
     refine ev_ret hF95 [8] (nI x30) rfl rfl rfl ?_
     exact ⟨rfl, hS97⟩
  · skip
    refine wp_region_lit ?_
    refine ev_runs 5 hF34 (l' := [(23, .bool (decide (x29 < (L9.length : Int)))), (22, .bool (decide (x29 < (L9.length : Int)))), (21, nI ((L9.length : Int))), (20, .slice p20 L9.length c21), (19, nI x29), (11, nI x29), (10, nI x30), (9, .slice p20 L9.length c21), (0, nP b0 0), (1, nI i1), (3, .slice p1 L3.length c2)]) (w' := w33) (by kernel_rfl) ?_
    intro a101 hF100; clear hF34
    cases hc102 : (decide (x29 < (L9.length : Int))) with
    | true =>
     rw [hc102] at hF100
     have hm103 := ifYes hc102 hm37; clear hm37
     refine ev_runK 3 hF100 [0, 1, 3, 9, 10, 11, 26] (l' := [(26, .bool (x30 == 0)), (11, nI x29), (10, nI x30), (9, .slice p20 L9.length c21), (0, nP b0 0), (1, nI i1), (3, .slice p1 L3.length c2)]) (w' := w33) (by kernel_rfl) ?_
     intro a105 hF104; clear hF100
     refine wpList_nil ?_
     exact thenN ⟨x30 == 0, hF104, hS35, hm103⟩
    | false =>
     rw [hc102] at hF100
     have hm106 := ifNot hc102 hm37; clear hm37
     refine ev_runK 3 hF100 [0, 1, 3, 9, 10, 11, 26] (l' := [(26, .bool false), (11, nI x29), (10, nI x30), (9, .slice p20 L9.length c21), (0, nP b0 0), (1, nI i1), (3, .slice p1 L3.length c2)]) (w' := w33) (by kernel_rfl) ?_
     intro a108 hF107; clear hF100
     refine wpList_nil ?_
     exact thenN ⟨false, hF107, hS35, hm106⟩

def ref11_PutChan.m (k : Nat) (s0 : HSt) (i1 : Int) (i2 : Ch) : Option (Int × HSt) := bind1 (ref11_ptr.m k i2.buf) fun x26 => bind1 (ref11_ptr.m k i2.th) fun x33 => bind1 (ref11_ptr.m k i2.tt) fun x40 => bind1 (ref11_ptr.m k i2.sh) fun x47 => bind1 (ref11_ptr.m k i2.st) fun x54 => bind2 (ref11_put.m k s0 i1 1 [wrap64 (i2.cap * 2), wrap64 (i2.closed * 2), wrap64 (i2.count * 2), wrap64 (i2.start * 2), x26, x33, x40, x47, x54]) fun x65 s66 => some (x65, s66)
set_option maxRecDepth 100000 in
set_option maxHeartbeats 1500000 in
theorem ref11_PutChan.ok {w0 w : World} {F0 : List Nat} {ps : List Piece} {k : Nat} {b0 ab0 sb0 g0 cb0 : Nat} {s0 : HSt} {i1 : Int} {i2 : Ch} {r0 : Int} {t0 : HSt} (hS : St w0 F0 (RHeapP b0 ab0 sb0 g0 cb0 s0 :: ps) w) (hm : ref11_PutChan.m k s0 i1 i2 = some (r0, t0)) :
    Calls Tryz.prog 57 #[nP b0 0, nI i1, .agg #[nI (i2.cap), nI (i2.closed), nI (i2.count), nI (i2.start), nI (i2.buf), nI (i2.th), nI (i2.tt), nI (i2.sh), nI (i2.st)]] w fun e w' => e = .returned (.int .i64 r0) ∧ St w0 F0 (RHeapP b0 ab0 sb0 g0 cb0 t0 :: ps) w' := by
 refine ev_enterL 38 [nP b0 0, nI i1, .agg #[nI (i2.cap), nI (i2.closed), nI (i2.count), nI (i2.start), nI (i2.buf), nI (i2.th), nI (i2.tt), nI (i2.sh), nI (i2.st)]] Tryz.func57 rfl rfl (by simp) ?_
 intro a hF
 have hF0 : Fr 38 a [(0, nP b0 0), (1, nI i1), (2, .agg #[nI (i2.cap), nI (i2.closed), nI (i2.count), nI (i2.start), nI (i2.buf), nI (i2.th), nI (i2.tt), nI (i2.sh), nI (i2.st)])] := hF; clear hF
 unfold ref11_PutChan.m at hm
 refine wp_seq (wp_region_lit ?_)
 refine ev_runs 1 hF0 (l' := [(5, nP (w.heap.size) 0), (0, nP b0 0), (1, nI i1), (2, .agg #[nI (i2.cap), nI (i2.closed), nI (i2.count), nI (i2.start), nI (i2.buf), nI (i2.th), nI (i2.tt), nI (i2.sh), nI (i2.st)])]) (w' := w.alloc (.cells #[nI (i2.cap), nI (i2.closed), nI (i2.count), nI (i2.start), nI (i2.buf), nI (i2.th), nI (i2.tt), nI (i2.sh), nI (i2.st)] 37)) (by kernel_rfl) ?_
 intro a2 hF1; clear hF0
 have hS4 : St w0 F0 (BlkP (w.heap.size) 37 #[nI (i2.cap), nI (i2.closed), nI (i2.count), nI (i2.start), nI (i2.buf), nI (i2.th), nI (i2.tt), nI (i2.sh), nI (i2.st)] :: RHeapP b0 ab0 sb0 g0 cb0 s0 :: ps) (w.alloc (.cells #[nI (i2.cap), nI (i2.closed), nI (i2.count), nI (i2.start), nI (i2.buf), nI (i2.th), nI (i2.tt), nI (i2.sh), nI (i2.st)] 37)) := St.new hS #[nI (i2.cap), nI (i2.closed), nI (i2.count), nI (i2.start), nI (i2.buf), nI (i2.th), nI (i2.tt), nI (i2.sh), nI (i2.st)] 37
 refine ev_runK 1 hF1 [0, 1, 5] (l' := [(5, nP (w.heap.size) 0), (0, nP b0 0), (1, nI i1)]) (w' := w.alloc (.cells #[nI (i2.cap), nI (i2.closed), nI (i2.count), nI (i2.start), nI (i2.buf), nI (i2.th), nI (i2.tt), nI (i2.sh), nI (i2.st)] 37)) (by kernel_rfl) ?_
 intro a6 hF5; clear hF1
 refine wpList_nil (thenN (wp_seq ?_))
 -- draws
 have hS7 := hS4.drew; clear hS4
 refine any_start (fun wS => ∃ qs, St w0 F0 (BlkP (w.heap.size) 37 #[nI (i2.cap), nI (i2.closed), nI (i2.count), nI (i2.start), nI (i2.buf), nI (i2.th), nI (i2.tt), nI (i2.sh), nI (i2.st)] :: qs) wS) 32 #[false, false, false, false, false, false, false, false, false, false, false, false, false, false, false, false, false, false, false, false, false, false, false, false, false, false, false, false, false, false, false, false] (by kernel_rfl) (by kernel_rfl) (by kernel_rfl) ?_
 refine any_many 20 [(0, some (nP b0 0)), (1, some (nI i1)), (2, some (nP (w.heap.size) 0)), (3, some (nI (i2.cap))), (5, some (nP (w.heap.size) 1)), (6, some (nI (i2.closed))), (8, some (nP (w.heap.size) 2)), (9, some (nI (i2.count))), (11, some (nP (w.heap.size) 3)), (12, some (nI (i2.start))), (14, some (nP (w.heap.size) 4)), (15, some (nI (i2.buf))), (17, some (nP (w.heap.size) 5)), (18, some (nI (i2.th))), (20, some (nP (w.heap.size) 6)), (21, some (nI (i2.tt))), (23, some (nP (w.heap.size) 7)), (24, some (nI (i2.sh))), (26, some (nP (w.heap.size) 8)), (27, some (nI (i2.st)))] [6, 7, 8, 10, 11, 13, 14, 16, 17, 19, 20, 22, 23, 25, 26, 28, 29, 31, 32, 34, 35, 36, 37] #[true, true, true, true, false, true, true, false, true, true, false, true, true, false, true, true, false, true, true, false, true, true, false, true, true, false, true, true, false, false, false, false] (by rfl) hF5 (by kernel_rfl) (by kernel_rfl) (by exact (And.intro (fun wS hw => by kernel_rfl) (And.intro (fun wS hw => by kernel_rfl) (And.intro (fun wS hw => by kernel_rfl) (And.intro (fun wS hw => hw.elim fun qs hw => run_loadV rfl rfl (run_loadS rfl rfl (hw.cell 0 rfl 0 rfl))) (And.intro (fun wS hw => by kernel_rfl) (And.intro (fun wS hw => hw.elim fun qs hw => run_loadV rfl rfl (run_loadS rfl rfl (hw.cell 0 rfl 1 rfl))) (And.intro (fun wS hw => by kernel_rfl) (And.intro (fun wS hw => hw.elim fun qs hw => run_loadV rfl rfl (run_loadS rfl rfl (hw.cell 0 rfl 2 rfl))) (And.intro (fun wS hw => by kernel_rfl) (And.intro (fun wS hw => hw.elim fun qs hw => run_loadV rfl rfl (run_loadS rfl rfl (hw.cell 0 rfl 3 rfl))) (And.intro (fun wS hw => by kernel_rfl) (And.intro (fun wS hw => hw.elim fun qs hw => run_loadV rfl rfl (run_loadS rfl rfl (hw.cell 0 rfl 4 rfl))) (And.intro (fun wS hw => by kernel_rfl) (And.intro (fun wS hw => hw.elim fun qs hw => run_loadV rfl rfl (run_loadS rfl rfl (hw.cell 0 rfl 5 rfl))) (And.intro (fun wS hw => by kernel_rfl) (And.intro (fun wS hw => hw.elim fun qs hw => run_loadV rfl rfl (run_loadS rfl rfl (hw.cell 0 rfl 6 rfl))) (And.intro (fun wS hw => by kernel_rfl) (And.intro (fun wS hw => hw.elim fun qs hw => run_loadV rfl rfl (run_loadS rfl rfl (hw.cell 0 rfl 7 rfl))) (And.intro (fun wS hw => by kernel_rfl) (And.intro (fun wS hw => hw.elim fun qs hw => run_loadV rfl rfl (run_loadS rfl rfl (hw.cell 0 rfl 8 rfl))) trivial))))))))))))))))))))) (fun _ _ _ _ _ h => h) ⟨_, hS7⟩ (l' := [(34, nI (i2.st)), (31, nI (i2.sh)), (28, nI (i2.tt)), (25, nI (i2.th)), (22, nI (i2.buf)), (19, nI (i2.start)), (16, nI (i2.count)), (13, nI (i2.closed)), (10, nI (i2.cap)), (8, nI i1), (7, nP b0 0)]) (by kernel_rfl) ?_
 intro a9 hF8; clear hF5
 refine any_call 4 #[true, true, true, true, true, true, true, false, true, true, false, true, true, false, true, true, false, true, true, false, true, true, false, true, true, false, true, true, false, false, false, false] 104 #[nI (i2.cap)] hF8 rfl (by kernel_rfl) rfl rfl (by kernel_rfl) rfl (by kernel_rfl) (fun w => by kernel_rfl) (by kernel_rfl) ?_
 refine (p_rInt hS7).mono ?_
 rintro _ w10 ⟨rfl, hS12⟩; clear hS7
 refine ⟨⟨_, hS12⟩, ?_⟩
 intro a11 hF13; clear hF8
 refine any_call 7 #[true, true, true, true, true, true, true, true, true, true, false, true, true, false, true, true, false, true, true, false, true, true, false, true, true, false, true, true, false, false, false, false] 104 #[nI (i2.closed)] hF13 rfl (by kernel_rfl) rfl rfl (by kernel_rfl) rfl (by kernel_rfl) (fun w => by kernel_rfl) (by kernel_rfl) ?_
 refine (p_rInt hS12).mono ?_
 rintro _ w14 ⟨rfl, hS16⟩; clear hS12
 refine ⟨⟨_, hS16⟩, ?_⟩
 intro a15 hF17; clear hF13
 refine any_call 10 #[true, true, true, true, true, true, true, true, true, true, true, true, true, false, true, true, false, true, true, false, true, true, false, true, true, false, true, true, false, false, false, false] 104 #[nI (i2.count)] hF17 rfl (by kernel_rfl) rfl rfl (by kernel_rfl) rfl (by kernel_rfl) (fun w => by kernel_rfl) (by kernel_rfl) ?_
 refine (p_rInt hS16).mono ?_
 rintro _ w18 ⟨rfl, hS20⟩; clear hS16
 refine ⟨⟨_, hS20⟩, ?_⟩
 intro a19 hF21; clear hF17
 refine any_call 13 #[true, true, true, true, true, true, true, true, true, true, true, true, true, true, true, true, false, true, true, false, true, true, false, true, true, false, true, true, false, false, false, false] 104 #[nI (i2.start)] hF21 rfl (by kernel_rfl) rfl rfl (by kernel_rfl) rfl (by kernel_rfl) (fun w => by kernel_rfl) (by kernel_rfl) ?_
 refine (p_rInt hS20).mono ?_
 rintro _ w22 ⟨rfl, hS24⟩; clear hS20
 refine ⟨⟨_, hS24⟩, ?_⟩
 intro a23 hF25; clear hF21
 refine any_call 16 #[true, true, true, true, true, true, true, true, true, true, true, true, true, true, true, true, true, true, true, false, true, true, false, true, true, false, true, true, false, false, false, false] 105 #[nI (i2.buf)] hF25 rfl (by kernel_rfl) rfl rfl (by kernel_rfl) rfl (by kernel_rfl) (fun w => by kernel_rfl) (by kernel_rfl) ?_
 obtain ⟨x26, hx27, hm28⟩ := bind1E hm; clear hm
 refine (ref11_ptr.ok hS24 hx27).mono ?_
 rintro _ w29 ⟨rfl, hS31⟩; clear hS24
 refine ⟨⟨_, hS31⟩, ?_⟩
 intro a30 hF32; clear hF25
 refine any_call 19 #[true, true, true, true, true, true, true, true, true, true, true, true, true, true, true, true, true, true, true, true, true, true, false, true, true, false, true, true, false, false, false, false] 105 #[nI (i2.th)] hF32 rfl (by kernel_rfl) rfl rfl (by kernel_rfl) rfl (by kernel_rfl) (fun w => by kernel_rfl) (by kernel_rfl) ?_
 obtain ⟨x33, hx34, hm35⟩ := bind1E hm28; clear hm28
 refine (ref11_ptr.ok hS31 hx34).mono ?_
 rintro _ w36 ⟨rfl, hS38⟩; clear hS31
 refine ⟨⟨_, hS38⟩, ?_⟩
 intro a37 hF39; clear hF32
 refine any_call 22 #[true, true, true, true, true, true, true, true, true, true, true, true, true, true, true, true, true, true, true, true, true, true, true, true, true, false, true, true, false, false, false, false] 105 #[nI (i2.tt)] hF39 rfl (by kernel_rfl) rfl rfl (by kernel_rfl) rfl (by kernel_rfl) (fun w => by kernel_rfl) (by kernel_rfl) ?_
 obtain ⟨x40, hx41, hm42⟩ := bind1E hm35; clear hm35
 refine (ref11_ptr.ok hS38 hx41).mono ?_
 rintro _ w43 ⟨rfl, hS45⟩; clear hS38
 refine ⟨⟨_, hS45⟩, ?_⟩
 intro a44 hF46; clear hF39
 refine any_call 25 #[true, true, true, true, true, true, true, true, true, true, true, true, true, true, true, true, true, true, true, true, true, true, true, true, true, true, true, true, false, false, false, false] 105 #[nI (i2.sh)] hF46 rfl (by kernel_rfl) rfl rfl (by kernel_rfl) rfl (by kernel_rfl) (fun w => by kernel_rfl) (by kernel_rfl) ?_
 obtain ⟨x47, hx48, hm49⟩ := bind1E hm42; clear hm42
 refine (ref11_ptr.ok hS45 hx48).mono ?_
 rintro _ w50 ⟨rfl, hS52⟩; clear hS45
 refine ⟨⟨_, hS52⟩, ?_⟩
 intro a51 hF53; clear hF46
 refine any_call 28 #[true, true, true, true, true, true, true, true, true, true, true, true, true, true, true, true, true, true, true, true, true, true, true, true, true, true, true, true, true, false, false, false] 105 #[nI (i2.st)] hF53 rfl (by kernel_rfl) rfl rfl (by kernel_rfl) rfl (by kernel_rfl) (fun w => by kernel_rfl) (by kernel_rfl) ?_
 obtain ⟨x54, hx55, hm56⟩ := bind1E hm49; clear hm49
 refine (ref11_ptr.ok hS52 hx55).mono ?_
 rintro _ w57 ⟨rfl, hS59⟩; clear hS52
 refine ⟨⟨_, hS59⟩, ?_⟩
 intro a58 hF60; clear hF53
 refine any_one 29 (by kernel_rfl) ?_
 have hS61 : St w0 F0 (RowP (.slice (some ⟨w57.heap.size, 0, none⟩) 9 9) [wrap64 (i2.cap * 2), wrap64 (i2.closed * 2), wrap64 (i2.count * 2), wrap64 (i2.start * 2), x26, x33, x40, x47, x54] :: BlkP (w.heap.size) 37 #[nI (i2.cap), nI (i2.closed), nI (i2.count), nI (i2.start), nI (i2.buf), nI (i2.th), nI (i2.tt), nI (i2.sh), nI (i2.st)] :: RHeapP b0 ab0 sb0 g0 cb0 s0 :: ps) (w57.alloc (.cells #[nI (wrap64 (i2.cap * 2)), nI (wrap64 (i2.closed * 2)), nI (wrap64 (i2.count * 2)), nI (wrap64 (i2.start * 2)), nI x26, nI x33, nI x40, nI x47, nI x54] 3)) := St.lit hS59 [wrap64 (i2.cap * 2), wrap64 (i2.closed * 2), wrap64 (i2.count * 2), wrap64 (i2.start * 2), x26, x33, x40, x47, x54] (by unfold maxLen; simp)
 clear hS59
 refine op_step 29 #[true, true, true, true, true, true, true, true, true, true, true, true, true, true, true, true, true, true, true, true, true, true, true, true, true, true, true, true, true, true, false, false] (.slice (some ⟨w57.heap.size, 0, none⟩) 9 9) (w57.alloc (.cells #[nI (wrap64 (i2.cap * 2)), nI (wrap64 (i2.closed * 2)), nI (wrap64 (i2.count * 2)), nI (wrap64 (i2.start * 2)), nI x26, nI x33, nI x40, nI x47, nI x54] 3)) hF60 rfl (by kernel_rfl) rfl (by kernel_rfl) (by kernel_rfl) (l' := [(36, .slice (some ⟨w57.heap.size, 0, none⟩) 9 9), (35, nI x54), (32, nI x47), (29, nI x40), (26, nI x33), (23, nI x26), (20, nI (wrap64 (i2.start * 2))), (17, nI (wrap64 (i2.count * 2))), (14, nI (wrap64 (i2.closed * 2))), (11, nI (wrap64 (i2.cap * 2))), (34, nI (i2.st)), (31, nI (i2.sh)), (28, nI (i2.tt)), (25, nI (i2.th)), (22, nI (i2.buf)), (19, nI (i2.start)), (16, nI (i2.count)), (13, nI (i2.closed)), (10, nI (i2.cap)), (8, nI i1), (7, nP b0 0)]) (by kernel_rfl) ⟨_, hS61.pick1⟩ (by kernel_rfl) ?_
 intro a63 hF62; clear hF60
 have hS64 := hS61.pick2
 clear hS61
 refine any_call 30 #[true, true, true, true, true, true, true, true, true, true, true, true, true, true, true, true, true, true, true, true, true, true, true, true, true, true, true, true, true, true, true, false] 103 #[nP b0 0, nI i1, nI 1, .slice (some ⟨w57.heap.size, 0, none⟩) 9 9] hF62 rfl (by kernel_rfl) rfl rfl (by kernel_rfl) rfl (by kernel_rfl) (fun w => by kernel_rfl) (by kernel_rfl) ?_
 obtain ⟨x65, s66, hx67, hm68⟩ := bind2E hm56; clear hm56
 refine (ref11_put.ok hS64 hx67).mono ?_
 rintro _ w69 ⟨rfl, hS71⟩; clear hS64
 refine ⟨⟨_, hS71.pick2⟩, ?_⟩
 intro a70 hF72; clear hF62
 refine any_many 1 [(31, some (nI x65))] [6] #[true, true, true, true, true, true, true, true, true, true, true, true, true, true, true, true, true, true, true, true, true, true, true, true, true, true, true, true, true, true, true, true] (by rfl) hF72 (by kernel_rfl) (by kernel_rfl) (by exact (And.intro (fun wS hw => by kernel_rfl) trivial)) (fun _ _ _ _ _ h => h) ⟨_, hS71.pick2⟩ (l' := [(6, nI x65)]) (by kernel_rfl) ?_
 intro a74 hF73; clear hF72
 refine any_done (by kernel_rfl) ?_
 have hS75 := hS71.pick1.drop.pick1.drop
 clear hS71
 refine thenN ?_
 refine wp_ret ?_
 simp only [Option.some.injEq, Prod.mk.injEq] at hm68
 obtain ⟨rfl, rfl⟩ := hm68
 refine ev_ret hF73 [6] (nI x65) rfl rfl rfl ?_
 exact ⟨rfl, hS75⟩

def ref11_PutSudog.m (k : Nat) (s0 : HSt) (i1 : Int) (i2 : Su) : Option (Int × HSt) := bind1 (ref11_ptr.m k i2.gor) fun x10 => bind1 (ref11_ptr.m k i2.chan) fun x17 => bind1 (ref11_ptr.m k i2.next) fun x24 => bind1 (ref11_ptr.m k i2.more) fun x39 => bind2 (ref11_put.m k s0 i1 3 [x10, x17, i2.value, x24, wrap64 (i2.to * 2), wrap64 (i2.reg * 2), x39]) fun x50 s51 => some (x50, s51)
set_option maxRecDepth 100000 in
set_option maxHeartbeats 1500000 in
theorem ref11_PutSudog.ok {w0 w : World} {F0 : List Nat} {ps : List Piece} {k : Nat} {b0 ab0 sb0 g0 cb0 : Nat} {s0 : HSt} {i1 : Int} {i2 : Su} {r0 : Int} {t0 : HSt} (hS : St w0 F0 (RHeapP b0 ab0 sb0 g0 cb0 s0 :: ps) w) (hm : ref11_PutSudog.m k s0 i1 i2 = some (r0, t0)) :
    Calls Tryz.prog 72 #[nP b0 0, nI i1, .agg #[nI (i2.gor), nI (i2.chan), nI (i2.value), nI (i2.next), nI (i2.to), nI (i2.reg), nI (i2.more)]] w fun e w' => e = .returned (.int .i64 r0) ∧ St w0 F0 (RHeapP b0 ab0 sb0 g0 cb0 t0 :: ps) w' := by
 refine ev_enterL 31 [nP b0 0, nI i1, .agg #[nI (i2.gor), nI (i2.chan), nI (i2.value), nI (i2.next), nI (i2.to), nI (i2.reg), nI (i2.more)]] Tryz.func72 rfl rfl (by simp) ?_
 intro a hF
 have hF0 : Fr 31 a [(0, nP b0 0), (1, nI i1), (2, .agg #[nI (i2.gor), nI (i2.chan), nI (i2.value), nI (i2.next), nI (i2.to), nI (i2.reg), nI (i2.more)])] := hF; clear hF
 unfold ref11_PutSudog.m at hm
 refine wp_seq (wp_region_lit ?_)
 refine ev_runs 1 hF0 (l' := [(5, nP (w.heap.size) 0), (0, nP b0 0), (1, nI i1), (2, .agg #[nI (i2.gor), nI (i2.chan), nI (i2.value), nI (i2.next), nI (i2.to), nI (i2.reg), nI (i2.more)])]) (w' := w.alloc (.cells #[nI (i2.gor), nI (i2.chan), nI (i2.value), nI (i2.next), nI (i2.to), nI (i2.reg), nI (i2.more)] 54)) (by kernel_rfl) ?_
 intro a2 hF1; clear hF0
 have hS4 : St w0 F0 (BlkP (w.heap.size) 54 #[nI (i2.gor), nI (i2.chan), nI (i2.value), nI (i2.next), nI (i2.to), nI (i2.reg), nI (i2.more)] :: RHeapP b0 ab0 sb0 g0 cb0 s0 :: ps) (w.alloc (.cells #[nI (i2.gor), nI (i2.chan), nI (i2.value), nI (i2.next), nI (i2.to), nI (i2.reg), nI (i2.more)] 54)) := St.new hS #[nI (i2.gor), nI (i2.chan), nI (i2.value), nI (i2.next), nI (i2.to), nI (i2.reg), nI (i2.more)] 54
 refine ev_runK 1 hF1 [0, 1, 5] (l' := [(5, nP (w.heap.size) 0), (0, nP b0 0), (1, nI i1)]) (w' := w.alloc (.cells #[nI (i2.gor), nI (i2.chan), nI (i2.value), nI (i2.next), nI (i2.to), nI (i2.reg), nI (i2.more)] 54)) (by kernel_rfl) ?_
 intro a6 hF5; clear hF1
 refine wpList_nil (thenN (wp_seq ?_))
 -- draws
 have hS7 := hS4.drew; clear hS4
 refine any_start (fun wS => ∃ qs, St w0 F0 (BlkP (w.heap.size) 54 #[nI (i2.gor), nI (i2.chan), nI (i2.value), nI (i2.next), nI (i2.to), nI (i2.reg), nI (i2.more)] :: qs) wS) 25 #[false, false, false, false, false, false, false, false, false, false, false, false, false, false, false, false, false, false, false, false, false, false, false, false, false] (by kernel_rfl) (by kernel_rfl) (by kernel_rfl) ?_
 refine any_many 16 [(0, some (nP b0 0)), (1, some (nI i1)), (2, some (nP (w.heap.size) 0)), (3, some (nI (i2.gor))), (5, some (nP (w.heap.size) 1)), (6, some (nI (i2.chan))), (8, some (nP (w.heap.size) 2)), (9, some (nI (i2.value))), (10, some (nP (w.heap.size) 3)), (11, some (nI (i2.next))), (13, some (nP (w.heap.size) 4)), (14, some (nI (i2.to))), (16, some (nP (w.heap.size) 5)), (17, some (nI (i2.reg))), (19, some (nP (w.heap.size) 6)), (20, some (nI (i2.more)))] [6, 7, 8, 10, 11, 13, 14, 16, 18, 19, 21, 22, 24, 25, 27, 28, 29, 30] #[true, true, true, true, false, true, true, false, true, true, true, true, false, true, true, false, true, true, false, true, true, false, false, false, false] (by rfl) hF5 (by kernel_rfl) (by kernel_rfl) (by exact (And.intro (fun wS hw => by kernel_rfl) (And.intro (fun wS hw => by kernel_rfl) (And.intro (fun wS hw => by kernel_rfl) (And.intro (fun wS hw => hw.elim fun qs hw => run_loadV rfl rfl (run_loadS rfl rfl (hw.cell 0 rfl 0 rfl))) (And.intro (fun wS hw => by kernel_rfl) (And.intro (fun wS hw => hw.elim fun qs hw => run_loadV rfl rfl (run_loadS rfl rfl (hw.cell 0 rfl 1 rfl))) (And.intro (fun wS hw => by kernel_rfl) (And.intro (fun wS hw => hw.elim fun qs hw => run_loadV rfl rfl (run_loadS rfl rfl (hw.cell 0 rfl 2 rfl))) (And.intro (fun wS hw => by kernel_rfl) (And.intro (fun wS hw => hw.elim fun qs hw => run_loadV rfl rfl (run_loadS rfl rfl (hw.cell 0 rfl 3 rfl))) (And.intro (fun wS hw => by kernel_rfl) (And.intro (fun wS hw => hw.elim fun qs hw => run_loadV rfl rfl (run_loadS rfl rfl (hw.cell 0 rfl 4 rfl))) (And.intro (fun wS hw => by kernel_rfl) (And.intro (fun wS hw => hw.elim fun qs hw => run_loadV rfl rfl (run_loadS rfl rfl (hw.cell 0 rfl 5 rfl))) (And.intro (fun wS hw => by kernel_rfl) (And.intro (fun wS hw => hw.elim fun qs hw => run_loadV rfl rfl (run_loadS rfl rfl (hw.cell 0 rfl 6 rfl))) trivial))))))))))))))))) (fun _ _ _ _ _ h => h) ⟨_, hS7⟩ (l' := [(27, nI (i2.more)), (24, nI (i2.reg)), (21, nI (i2.to)), (18, nI (i2.next)), (16, nI (i2.value)), (13, nI (i2.chan)), (10, nI (i2.gor)), (8, nI i1), (7, nP b0 0)]) (by kernel_rfl) ?_
 intro a9 hF8; clear hF5
 refine any_call 4 #[true, true, true, true, true, true, true, false, true, true, true, true, false, true, true, false, true, true, false, true, true, false, false, false, false] 105 #[nI (i2.gor)] hF8 rfl (by kernel_rfl) rfl rfl (by kernel_rfl) rfl (by kernel_rfl) (fun w => by kernel_rfl) (by kernel_rfl) ?_
 obtain ⟨x10, hx11, hm12⟩ := bind1E hm; clear hm
 refine (ref11_ptr.ok hS7 hx11).mono ?_
 rintro _ w13 ⟨rfl, hS15⟩; clear hS7
 refine ⟨⟨_, hS15⟩, ?_⟩
 intro a14 hF16; clear hF8
 refine any_call 7 #[true, true, true, true, true, true, true, true, true, true, true, true, false, true, true, false, true, true, false, true, true, false, false, false, false] 105 #[nI (i2.chan)] hF16 rfl (by kernel_rfl) rfl rfl (by kernel_rfl) rfl (by kernel_rfl) (fun w => by kernel_rfl) (by kernel_rfl) ?_
 obtain ⟨x17, hx18, hm19⟩ := bind1E hm12; clear hm12
 refine (ref11_ptr.ok hS15 hx18).mono ?_
 rintro _ w20 ⟨rfl, hS22⟩; clear hS15
 refine ⟨⟨_, hS22⟩, ?_⟩
 intro a21 hF23; clear hF16
 refine any_call 12 #[true, true, true, true, true, true, true, true, true, true, true, true, true, true, true, false, true, true, false, true, true, false, false, false, false] 105 #[nI (i2.next)] hF23 rfl (by kernel_rfl) rfl rfl (by kernel_rfl) rfl (by kernel_rfl) (fun w => by kernel_rfl) (by kernel_rfl) ?_
 obtain ⟨x24, hx25, hm26⟩ := bind1E hm19; clear hm19
 refine (ref11_ptr.ok hS22 hx25).mono ?_
 rintro _ w27 ⟨rfl, hS29⟩; clear hS22
 refine ⟨⟨_, hS29⟩, ?_⟩
 intro a28 hF30; clear hF23
 refine any_call 15 #[true, true, true, true, true, true, true, true, true, true, true, true, true, true, true, true, true, true, false, true, true, false, false, false, false] 104 #[nI (i2.to)] hF30 rfl (by kernel_rfl) rfl rfl (by kernel_rfl) rfl (by kernel_rfl) (fun w => by kernel_rfl) (by kernel_rfl) ?_
 refine (p_rInt hS29).mono ?_
 rintro _ w31 ⟨rfl, hS33⟩; clear hS29
 refine ⟨⟨_, hS33⟩, ?_⟩
 intro a32 hF34; clear hF30
 refine any_call 18 #[true, true, true, true, true, true, true, true, true, true, true, true, true, true, true, true, true, true, true, true, true, false, false, false, false] 104 #[nI (i2.reg)] hF34 rfl (by kernel_rfl) rfl rfl (by kernel_rfl) rfl (by kernel_rfl) (fun w => by kernel_rfl) (by kernel_rfl) ?_
 refine (p_rInt hS33).mono ?_
 rintro _ w35 ⟨rfl, hS37⟩; clear hS33
 refine ⟨⟨_, hS37⟩, ?_⟩
 intro a36 hF38; clear hF34
 refine any_call 21 #[true, true, true, true, true, true, true, true, true, true, true, true, true, true, true, true, true, true, true, true, true, true, false, false, false] 105 #[nI (i2.more)] hF38 rfl (by kernel_rfl) rfl rfl (by kernel_rfl) rfl (by kernel_rfl) (fun w => by kernel_rfl) (by kernel_rfl) ?_
 obtain ⟨x39, hx40, hm41⟩ := bind1E hm26; clear hm26
 refine (ref11_ptr.ok hS37 hx40).mono ?_
 rintro _ w42 ⟨rfl, hS44⟩; clear hS37
 refine ⟨⟨_, hS44⟩, ?_⟩
 intro a43 hF45; clear hF38
 refine any_one 22 (by kernel_rfl) ?_
 have hS46 : St w0 F0 (RowP (.slice (some ⟨w42.heap.size, 0, none⟩) 7 7) [x10, x17, i2.value, x24, wrap64 (i2.to * 2), wrap64 (i2.reg * 2), x39] :: BlkP (w.heap.size) 54 #[nI (i2.gor), nI (i2.chan), nI (i2.value), nI (i2.next), nI (i2.to), nI (i2.reg), nI (i2.more)] :: RHeapP b0 ab0 sb0 g0 cb0 s0 :: ps) (w42.alloc (.cells #[nI x10, nI x17, nI (i2.value), nI x24, nI (wrap64 (i2.to * 2)), nI (wrap64 (i2.reg * 2)), nI x39] 3)) := St.lit hS44 [x10, x17, i2.value, x24, wrap64 (i2.to * 2), wrap64 (i2.reg * 2), x39] (by unfold maxLen; simp)
 clear hS44
 refine op_step 22 #[true, true, true, true, true, true, true, true, true, true, true, true, true, true, true, true, true, true, true, true, true, true, true, false, false] (.slice (some ⟨w42.heap.size, 0, none⟩) 7 7) (w42.alloc (.cells #[nI x10, nI x17, nI (i2.value), nI x24, nI (wrap64 (i2.to * 2)), nI (wrap64 (i2.reg * 2)), nI x39] 3)) hF45 rfl (by kernel_rfl) rfl (by kernel_rfl) (by kernel_rfl) (l' := [(29, .slice (some ⟨w42.heap.size, 0, none⟩) 7 7), (28, nI x39), (25, nI (wrap64 (i2.reg * 2))), (22, nI (wrap64 (i2.to * 2))), (19, nI x24), (14, nI x17), (11, nI x10), (27, nI (i2.more)), (24, nI (i2.reg)), (21, nI (i2.to)), (18, nI (i2.next)), (16, nI (i2.value)), (13, nI (i2.chan)), (10, nI (i2.gor)), (8, nI i1), (7, nP b0 0)]) (by kernel_rfl) ⟨_, hS46.pick1⟩ (by kernel_rfl) ?_
 intro a48 hF47; clear hF45
 have hS49 := hS46.pick2
 clear hS46
 refine any_call 23 #[true, true, true, true, true, true, true, true, true, true, true, true, true, true, true, true, true, true, true, true, true, true, true, true, false] 103 #[nP b0 0, nI i1, nI 3, .slice (some ⟨w42.heap.size, 0, none⟩) 7 7] hF47 rfl (by kernel_rfl) rfl rfl (by kernel_rfl) rfl (by kernel_rfl) (fun w => by kernel_rfl) (by kernel_rfl) ?_
 obtain ⟨x50, s51, hx52, hm53⟩ := bind2E hm41; clear hm41
 refine (ref11_put.ok hS49 hx52).mono ?_
 rintro _ w54 ⟨rfl, hS56⟩; clear hS49
 refine ⟨⟨_, hS56.pick2⟩, ?_⟩
 intro a55 hF57; clear hF47
 refine any_many 1 [(24, some (nI x50))] [6] #[true, true, true, true, true, true, true, true, true, true, true, true, true, true, true, true, true, true, true, true, true, true, true, true, true] (by rfl) hF57 (by kernel_rfl) (by kernel_rfl) (by exact (And.intro (fun wS hw => by kernel_rfl) trivial)) (fun _ _ _ _ _ h => h) ⟨_, hS56.pick2⟩ (l' := [(6, nI x50)]) (by kernel_rfl) ?_
 intro a59 hF58; clear hF57
 refine any_done (by kernel_rfl) ?_
 have hS60 := hS56.pick1.drop.pick1.drop
 clear hS56
 refine thenN ?_
 refine wp_ret ?_
 simp only [Option.some.injEq, Prod.mk.injEq] at hm53
 obtain ⟨rfl, rfl⟩ := hm53
 refine ev_ret hF58 [6] (nI x50) rfl rfl rfl ?_
 exact ⟨rfl, hS60⟩

def ref11_PutGor.l1b (s0 : HSt) (i1 : Int) (i2 : Gr) (k : Nat) (rec34 : List Int → Int → Option (Int × HSt)) (L29 : List Int) (x31 : Int) : Option (Int × HSt) := (if (decide (x31 < 6)) then (if (x31 == 0) then bind1 (pushM L29 i2.a) fun L58 => rec34 L58 (IntKind.i64.wrap (x31 + 1)) else (if (x31 == 1) then bind1 (pushM L29 i2.b) fun L80 => rec34 L80 (IntKind.i64.wrap (x31 + 1)) else (if (x31 == 2) then bind1 (pushM L29 i2.c) fun L102 => rec34 L102 (IntKind.i64.wrap (x31 + 1)) else (if (x31 == 3) then bind1 (pushM L29 i2.d) fun L124 => rec34 L124 (IntKind.i64.wrap (x31 + 1)) else (if (x31 == 4) then bind1 (pushM L29 i2.e) fun L146 => rec34 L146 (IntKind.i64.wrap (x31 + 1)) else (if (x31 == 5) then bind1 (pushM L29 i2.f) fun L168 => rec34 L168 (IntKind.i64.wrap (x31 + 1)) else none)))))) else bind1 (ref11_ptr.m k i2.sudogs) fun x187 => bind1 (pushM L29 x187) fun L196 => bind2 (ref11_put.m k s0 i1 4 L196) fun x206 s207 => some (x206, s207))
def ref11_PutGor.l1 (s0 : HSt) (i1 : Int) (i2 : Gr) (k : Nat) : Nat → List Int → Int → Option (Int × HSt)
  | 0 => fun _ _ => none
  | kI + 1 => ref11_PutGor.l1b s0 i1 i2 k (ref11_PutGor.l1 s0 i1 i2 k kI)
def ref11_PutGor.m (k : Nat) (s0 : HSt) (i1 : Int) (i2 : Gr) : Option (Int × HSt) := ref11_PutGor.l1 s0 i1 i2 k k [wrap64 (i2.id * 2), wrap64 (i2.status * 2), wrap64 (i2.pc * 2)] 0
set_option maxRecDepth 100000 in
set_option maxHeartbeats 1500000 in
theorem ref11_PutGor.ok {w0 w : World} {F0 : List Nat} {ps : List Piece} {k : Nat} {b0 ab0 sb0 g0 cb0 : Nat} {s0 : HSt} {i1 : Int} {i2 : Gr} {r0 : Int} {t0 : HSt} (hS : St w0 F0 (RHeapP b0 ab0 sb0 g0 cb0 s0 :: ps) w) (hm : ref11_PutGor.m k s0 i1 i2 = some (r0, t0)) :
    Calls Tryz.prog 59 #[nP b0 0, nI i1, .agg #[nI (i2.id), nI (i2.status), nI (i2.pc), nI (i2.a), nI (i2.b), nI (i2.c), nI (i2.d), nI (i2.e), nI (i2.f), nI (i2.sudogs)]] w fun e w' => e = .returned (.int .i64 r0) ∧ St w0 F0 (RHeapP b0 ab0 sb0 g0 cb0 t0 :: ps) w' := by
 refine ev_enterL 39 [nP b0 0, nI i1, .agg #[nI (i2.id), nI (i2.status), nI (i2.pc), nI (i2.a), nI (i2.b), nI (i2.c), nI (i2.d), nI (i2.e), nI (i2.f), nI (i2.sudogs)]] Tryz.func59 rfl rfl (by simp) ?_
 intro a hF
 have hF0 : Fr 39 a [(0, nP b0 0), (1, nI i1), (2, .agg #[nI (i2.id), nI (i2.status), nI (i2.pc), nI (i2.a), nI (i2.b), nI (i2.c), nI (i2.d), nI (i2.e), nI (i2.f), nI (i2.sudogs)])] := hF; clear hF
 unfold ref11_PutGor.m at hm
 refine wp_seq (wp_region_lit ?_)
 refine ev_runs 1 hF0 (l' := [(5, nP (w.heap.size) 0), (0, nP b0 0), (1, nI i1), (2, .agg #[nI (i2.id), nI (i2.status), nI (i2.pc), nI (i2.a), nI (i2.b), nI (i2.c), nI (i2.d), nI (i2.e), nI (i2.f), nI (i2.sudogs)])]) (w' := w.alloc (.cells #[nI (i2.id), nI (i2.status), nI (i2.pc), nI (i2.a), nI (i2.b), nI (i2.c), nI (i2.d), nI (i2.e), nI (i2.f), nI (i2.sudogs)] 70)) (by kernel_rfl) ?_
 intro a2 hF1; clear hF0
 have hS4 : St w0 F0 (BlkP (w.heap.size) 70 #[nI (i2.id), nI (i2.status), nI (i2.pc), nI (i2.a), nI (i2.b), nI (i2.c), nI (i2.d), nI (i2.e), nI (i2.f), nI (i2.sudogs)] :: RHeapP b0 ab0 sb0 g0 cb0 s0 :: ps) (w.alloc (.cells #[nI (i2.id), nI (i2.status), nI (i2.pc), nI (i2.a), nI (i2.b), nI (i2.c), nI (i2.d), nI (i2.e), nI (i2.f), nI (i2.sudogs)] 70)) := St.new hS #[nI (i2.id), nI (i2.status), nI (i2.pc), nI (i2.a), nI (i2.b), nI (i2.c), nI (i2.d), nI (i2.e), nI (i2.f), nI (i2.sudogs)] 70
 refine ev_runK 1 hF1 [0, 1, 5] (l' := [(5, nP (w.heap.size) 0), (0, nP b0 0), (1, nI i1)]) (w' := w.alloc (.cells #[nI (i2.id), nI (i2.status), nI (i2.pc), nI (i2.a), nI (i2.b), nI (i2.c), nI (i2.d), nI (i2.e), nI (i2.f), nI (i2.sudogs)] 70)) (by kernel_rfl) ?_
 intro a6 hF5; clear hF1
 refine wpList_nil (thenN (wp_seq ?_))
 -- draws
 have hS7 := hS4.drew; clear hS4
 refine any_start (fun wS => ∃ qs, St w0 F0 (BlkP (w.heap.size) 70 #[nI (i2.id), nI (i2.status), nI (i2.pc), nI (i2.a), nI (i2.b), nI (i2.c), nI (i2.d), nI (i2.e), nI (i2.f), nI (i2.sudogs)] :: qs) wS) 11 #[false, false, false, false, false, false, false, false, false, false, false] (by kernel_rfl) (by kernel_rfl) (by kernel_rfl) ?_
 refine any_many 6 [(0, some (nP (w.heap.size) 0)), (1, some (nI (i2.id))), (3, some (nP (w.heap.size) 1)), (4, some (nI (i2.status))), (6, some (nP (w.heap.size) 2)), (7, some (nI (i2.pc)))] [0, 1, 5, 7, 10, 11, 13, 14, 16, 17, 18] #[true, true, false, true, true, false, true, true, false, false, false] (by rfl) hF5 (by kernel_rfl) (by kernel_rfl) (by exact (And.intro (fun wS hw => by kernel_rfl) (And.intro (fun wS hw => hw.elim fun qs hw => run_loadV rfl rfl (run_loadS rfl rfl (hw.cell 0 rfl 0 rfl))) (And.intro (fun wS hw => by kernel_rfl) (And.intro (fun wS hw => hw.elim fun qs hw => run_loadV rfl rfl (run_loadS rfl rfl (hw.cell 0 rfl 1 rfl))) (And.intro (fun wS hw => by kernel_rfl) (And.intro (fun wS hw => hw.elim fun qs hw => run_loadV rfl rfl (run_loadS rfl rfl (hw.cell 0 rfl 2 rfl))) trivial))))))) (fun _ _ _ _ _ h => h) ⟨_, hS7⟩ (l' := [(16, nI (i2.pc)), (13, nI (i2.status)), (10, nI (i2.id)), (5, nP (w.heap.size) 0), (0, nP b0 0), (1, nI i1)]) (by kernel_rfl) ?_
 intro a9 hF8; clear hF5
 refine any_call 2 #[true, true, true, true, true, false, true, true, false, false, false] 104 #[nI (i2.id)] hF8 rfl (by kernel_rfl) rfl rfl (by kernel_rfl) rfl (by kernel_rfl) (fun w => by kernel_rfl) (by kernel_rfl) ?_
 refine (p_rInt hS7).mono ?_
 rintro _ w10 ⟨rfl, hS12⟩; clear hS7
 refine ⟨⟨_, hS12⟩, ?_⟩
 intro a11 hF13; clear hF8
 refine any_call 5 #[true, true, true, true, true, true, true, true, false, false, false] 104 #[nI (i2.status)] hF13 rfl (by kernel_rfl) rfl rfl (by kernel_rfl) rfl (by kernel_rfl) (fun w => by kernel_rfl) (by kernel_rfl) ?_
 refine (p_rInt hS12).mono ?_
 rintro _ w14 ⟨rfl, hS16⟩; clear hS12
 refine ⟨⟨_, hS16⟩, ?_⟩
 intro a15 hF17; clear hF13
 refine any_call 8 #[true, true, true, true, true, true, true, true, true, false, false] 104 #[nI (i2.pc)] hF17 rfl (by kernel_rfl) rfl rfl (by kernel_rfl) rfl (by kernel_rfl) (fun w => by kernel_rfl) (by kernel_rfl) ?_
 refine (p_rInt hS16).mono ?_
 rintro _ w18 ⟨rfl, hS20⟩; clear hS16
 refine ⟨⟨_, hS20⟩, ?_⟩
 intro a19 hF21; clear hF17
 refine any_one 9 (by kernel_rfl) ?_
 have hS22 : St w0 F0 (RowP (.slice (some ⟨w18.heap.size, 0, none⟩) 3 3) [wrap64 (i2.id * 2), wrap64 (i2.status * 2), wrap64 (i2.pc * 2)] :: BlkP (w.heap.size) 70 #[nI (i2.id), nI (i2.status), nI (i2.pc), nI (i2.a), nI (i2.b), nI (i2.c), nI (i2.d), nI (i2.e), nI (i2.f), nI (i2.sudogs)] :: RHeapP b0 ab0 sb0 g0 cb0 s0 :: ps) (w18.alloc (.cells #[nI (wrap64 (i2.id * 2)), nI (wrap64 (i2.status * 2)), nI (wrap64 (i2.pc * 2))] 3)) := St.lit hS20 [wrap64 (i2.id * 2), wrap64 (i2.status * 2), wrap64 (i2.pc * 2)] (by unfold maxLen; simp)
 clear hS20
 refine op_step 9 #[true, true, true, true, true, true, true, true, true, true, false] (.slice (some ⟨w18.heap.size, 0, none⟩) 3 3) (w18.alloc (.cells #[nI (wrap64 (i2.id * 2)), nI (wrap64 (i2.status * 2)), nI (wrap64 (i2.pc * 2))] 3)) hF21 rfl (by kernel_rfl) rfl (by kernel_rfl) (by kernel_rfl) (l' := [(18, .slice (some ⟨w18.heap.size, 0, none⟩) 3 3), (17, nI (wrap64 (i2.pc * 2))), (14, nI (wrap64 (i2.status * 2))), (11, nI (wrap64 (i2.id * 2))), (16, nI (i2.pc)), (13, nI (i2.status)), (10, nI (i2.id)), (5, nP (w.heap.size) 0), (0, nP b0 0), (1, nI i1)]) (by kernel_rfl) ⟨_, hS22.pick1⟩ (by kernel_rfl) ?_
 intro a24 hF23; clear hF21
 refine any_many 1 [(10, some (.slice (some ⟨w18.heap.size, 0, none⟩) 3 3))] [0, 1, 5, 7] #[true, true, true, true, true, true, true, true, true, true, true] (by rfl) hF23 (by kernel_rfl) (by kernel_rfl) (by exact (And.intro (fun wS hw => by kernel_rfl) trivial)) (fun _ _ _ _ _ h => h) ⟨_, hS22.pick1⟩ (l' := [(7, .slice (some ⟨w18.heap.size, 0, none⟩) 3 3), (5, nP (w.heap.size) 0), (0, nP b0 0), (1, nI i1)]) (by kernel_rfl) ?_
 intro a26 hF25; clear hF23
 refine any_done (by kernel_rfl) ?_
 refine thenN (wp_seq (wp_seq (wp_region_lit ?_)))
 refine ev_runs 1 hF25 (l' := [(8, nI 0), (7, .slice (some ⟨w18.heap.size, 0, none⟩) 3 3), (5, nP (w.heap.size) 0), (0, nP b0 0), (1, nI i1)]) (w' := w18.alloc (.cells #[nI (wrap64 (i2.id * 2)), nI (wrap64 (i2.status * 2)), nI (wrap64 (i2.pc * 2))] 3)) (by kernel_rfl) ?_
 intro a28 hF27; clear hF25
 refine wpList_nil (thenN ?_)
 refine wp_block ?_
 refine wp_loop_ghost (fun kI aI wI => ∃ (v30 : Value) (L29 : List Int) (x31 : Int), Fr 39 aI [(8, nI x31), (7, v30), (5, nP (w.heap.size) 0), (0, nP b0 0), (1, nI i1)] ∧ St w0 F0 (RowP (v30) L29 :: BlkP (w.heap.size) 70 #[nI (i2.id), nI (i2.status), nI (i2.pc), nI (i2.a), nI (i2.b), nI (i2.c), nI (i2.d), nI (i2.e), nI (i2.f), nI (i2.sudogs)] :: RHeapP b0 ab0 sb0 g0 cb0 s0 :: ps) wI ∧ ref11_PutGor.l1 s0 i1 i2 k kI L29 x31 = some (r0, t0)) k ⟨.slice (some ⟨w18.heap.size, 0, none⟩) 3 3, [wrap64 (i2.id * 2), wrap64 (i2.status * 2), wrap64 (i2.pc * 2)], 0, hF27, hS22, hm⟩ ?_
 rintro k32 a33 w34 ⟨v30, L29, x31, hF35, hS36, hm37⟩
 clear hF27 hS22 hm
 cases k32 with
 | zero => cases hm37
 | succ k32 =>
  have hm38 : ref11_PutGor.l1b s0 i1 i2 k (ref11_PutGor.l1 s0 i1 i2 k k32) L29 x31 = some (r0, t0) := hm37
  clear hm37
  unfold ref11_PutGor.l1b at hm38
  obtain ⟨hl42, p39, c40, rfl, hp41⟩ := St.shape hS36 0 rfl
  refine wp_seq (wp_seq (wp_region_lit ?_))
  refine ev_runK 2 hF35 [0, 1, 5, 7, 8, 20] (l' := [(20, .bool (decide (x31 < 6))), (8, nI x31), (7, .slice p39 L29.length c40), (5, nP (w.heap.size) 0), (0, nP b0 0), (1, nI i1)]) (w' := w34) (by kernel_rfl) ?_
  intro a44 hF43; clear hF35
  refine wpList_nil (thenN ?_)
  cases hc45 : (decide (x31 < 6)) with
  | true =>
   rw [hc45] at hF43
   have hm46 := ifYes hc45 hm38; clear hm38
   refine ev_condT hF43 rfl rfl ?_
   refine wp_skip ?_
   have hF47 := hF43.keep [0, 1, 5, 7, 8]
   clear hF43
   refine thenN (wp_seq ?_)
   refine wp_block ?_
   refine wp_region_lit ?_
   refine ev_runs 3 hF47 (l' := [(25, nP (w.heap.size) 3), (24, nI x31), (23, .slice p39 L29.length c40), (8, nI x31), (7, .slice p39 L29.length c40), (5, nP (w.heap.size) 0), (0, nP b0 0), (1, nI i1)]) (w' := w34) (by kernel_rfl) ?_
   intro a49 hF48; clear hF47
   cases hc50 : (x31 == 0) with
   | true =>
    have hm51 := ifYes hc50 hm46; clear hm46
    refine ev_one (nP (w.heap.size) 3) w34 hF48 (by kernel_rfl) rfl (by kernel_rfl) (run_idxA (q := 0) rfl rfl rfl rfl (congrArg (Value.int .i64) (eq_of_beq hc50)) (by decide) (by decide) (by kernel_rfl) _) (l' := [(26, nP (w.heap.size) 3), (25, nP (w.heap.size) 3), (24, nI x31), (23, .slice p39 L29.length c40), (8, nI x31), (7, .slice p39 L29.length c40), (5, nP (w.heap.size) 0), (0, nP b0 0), (1, nI i1)]) (by kernel_rfl) ?_
    intro a53 hF52; clear hF48
    refine ev_one (nI (i2.a)) w34 hF52 (by kernel_rfl) rfl (by kernel_rfl) (run_loadV rfl rfl (run_loadS rfl rfl (hS36.cell 1 rfl 3 rfl))) (l' := [(27, nI (i2.a)), (26, nP (w.heap.size) 3), (25, nP (w.heap.size) 3), (24, nI x31), (23, .slice p39 L29.length c40), (8, nI x31), (7, .slice p39 L29.length c40), (5, nP (w.heap.size) 0), (0, nP b0 0), (1, nI i1)]) (by kernel_rfl) ?_
    intro a55 hF54; clear hF52
    refine ev_runs 1 hF54 (l' := [(28, .slice (some ⟨w34.heap.size, 0, none⟩) 1 1), (27, nI (i2.a)), (26, nP (w.heap.size) 3), (25, nP (w.heap.size) 3), (24, nI x31), (23, .slice p39 L29.length c40), (8, nI x31), (7, .slice p39 L29.length c40), (5, nP (w.heap.size) 0), (0, nP b0 0), (1, nI i1)]) (w' := w34.alloc (.cells #[nI (i2.a)] 3)) (by kernel_rfl) ?_
    intro a57 hF56; clear hF54
    obtain ⟨L58, hx59, hm60⟩ := bind1E hm51; clear hm51
    refine ev_push 29 (.tmp 23) (.tmp 28) hF56 rfl rfl rfl rfl rfl rfl rfl rfl hS36 hx59 ?_
    intro g61 c62 w63 a64 hS65 hF66; clear hF56 hS36
    refine ev_runK 1 hF66 [0, 1, 5, 7, 8] (l' := [(7, .slice (some ⟨g61, 0, none⟩) L58.length c62), (8, nI x31), (5, nP (w.heap.size) 0), (0, nP b0 0), (1, nI i1)]) (w' := w63) (by kernel_rfl) ?_
    intro a68 hF67; clear hF66
    refine wpList_nil ?_
    refine blockN ?_
    refine thenN (wp_region_lit ?_)
    refine ev_runK 3 hF67 [0, 1, 5, 7, 8] (l' := [(8, nI (IntKind.i64.wrap (x31 + 1))), (7, .slice (some ⟨g61, 0, none⟩) L58.length c62), (5, nP (w.heap.size) 0), (0, nP b0 0), (1, nI i1)]) (w' := w63) (by kernel_rfl) ?_
    intro a70 hF69; clear hF67
    refine wpList_nil ?_
    exact thenN ⟨k32, Nat.lt_succ_self _, .slice (some ⟨g61, 0, none⟩) L58.length c62, L58, IntKind.i64.wrap (x31 + 1), hF69, hS65, hm60⟩
   | false =>
    have hm71 := ifNot hc50 hm46; clear hm46
    cases hc72 : (x31 == 1) with
    | true =>
     have hm73 := ifYes hc72 hm71; clear hm71
     refine ev_one (nP (w.heap.size) 4) w34 hF48 (by kernel_rfl) rfl (by kernel_rfl) (run_idxA (q := 1) rfl rfl rfl rfl (congrArg (Value.int .i64) (eq_of_beq hc72)) (by decide) (by decide) (by kernel_rfl) _) (l' := [(26, nP (w.heap.size) 4), (25, nP (w.heap.size) 3), (24, nI x31), (23, .slice p39 L29.length c40), (8, nI x31), (7, .slice p39 L29.length c40), (5, nP (w.heap.size) 0), (0, nP b0 0), (1, nI i1)]) (by kernel_rfl) ?_
     intro a75 hF74; clear hF48
     refine ev_one (nI (i2.b)) w34 hF74 (by kernel_rfl) rfl (by kernel_rfl) (run_loadV rfl rfl (run_loadS rfl rfl (hS36.cell 1 rfl 4 rfl))) (l' := [(27, nI (i2.b)), (26, nP (w.heap.size) 4), (25, nP (w.heap.size) 3), (24, nI x31), (23, .slice p39 L29.length c40), (8, nI x31), (7, .slice p39 L29.length c40), (5, nP (w.heap.size) 0), (0, nP b0 0), (1, nI i1)]) (by kernel_rfl) ?_
     intro a77 hF76; clear hF74
     refine ev_runs 1 hF76 (l' := [(28, .slice (some ⟨w34.heap.size, 0, none⟩) 1 1), (27, nI (i2.b)), (26, nP (w.heap.size) 4), (25, nP (w.heap.size) 3), (24, nI x31), (23, .slice p39 L29.length c40), (8, nI x31), (7, .slice p39 L29.length c40), (5, nP (w.heap.size) 0), (0, nP b0 0), (1, nI i1)]) (w' := w34.alloc (.cells #[nI (i2.b)] 3)) (by kernel_rfl) ?_
     intro a79 hF78; clear hF76
     obtain ⟨L80, hx81, hm82⟩ := bind1E hm73; clear hm73
     refine ev_push 29 (.tmp 23) (.tmp 28) hF78 rfl rfl rfl rfl rfl rfl rfl rfl hS36 hx81 ?_
     intro g83 c84 w85 a86 hS87 hF88; clear hF78 hS36
     refine ev_runK 1 hF88 [0, 1, 5, 7, 8] (l' := [(7, .slice (some ⟨g83, 0, none⟩) L80.length c84), (8, nI x31), (5, nP (w.heap.size) 0), (0, nP b0 0), (1, nI i1)]) (w' := w85) (by kernel_rfl) ?_
     intro a90 hF89; clear hF88
     refine wpList_nil ?_
     refine blockN ?_
     refine thenN (wp_region_lit ?_)
     refine ev_runK 3 hF89 [0, 1, 5, 7, 8] (l' := [(8, nI (IntKind.i64.wrap (x31 + 1))), (7, .slice (some ⟨g83, 0, none⟩) L80.length c84), (5, nP (w.heap.size) 0), (0, nP b0 0), (1, nI i1)]) (w' := w85) (by kernel_rfl) ?_
     intro a92 hF91; clear hF89
     refine wpList_nil ?_
     exact thenN ⟨k32, Nat.lt_succ_self _, .slice (some ⟨g83, 0, none⟩) L80.length c84, L80, IntKind.i64.wrap (x31 + 1), hF91, hS87, hm82⟩
    | false =>
     have hm93 := ifNot hc72 hm71; clear hm71
     cases hc94 : (x31 == 2) with
     | true =>
      have hm95 := ifYes hc94 hm93; clear hm93
      refine ev_one (nP (w.heap.size) 5) w34 hF48 (by kernel_rfl) rfl (by kernel_rfl) (run_idxA (q := 2) rfl rfl rfl rfl (congrArg (Value.int .i64) (eq_of_beq hc94)) (by decide) (by decide) (by kernel_rfl) _) (l' := [(26, nP (w.heap.size) 5), (25, nP (w.heap.size) 3), (24, nI x31), (23, .slice p39 L29.length c40), (8, nI x31), (7, .slice p39 L29.length c40), (5, nP (w.heap.size) 0), (0, nP b0 0), (1, nI i1)]) (by kernel_rfl) ?_
      intro a97 hF96; clear hF48
      refine ev_one (nI (i2.c)) w34 hF96 (by kernel_rfl) rfl (by kernel_rfl) (run_loadV rfl rfl (run_loadS rfl rfl (hS36.cell 1 rfl 5 rfl))) (l' := [(27, nI (i2.c)), (26, nP (w.heap.size) 5), (25, nP (w.heap.size) 3), (24, nI x31), (23, .slice p39 L29.length c40), (8, nI x31), (7, .slice p39 L29.length c40), (5, nP (w.heap.size) 0), (0, nP b0 0), (1, nI i1)]) (by kernel_rfl) ?_
      intro a99 hF98; clear hF96
      refine ev_runs 1 hF98 (l' := [(28, .slice (some ⟨w34.heap.size, 0, none⟩) 1 1), (27, nI (i2.c)), (26, nP (w.heap.size) 5), (25, nP (w.heap.size) 3), (24, nI x31), (23, .slice p39 L29.length c40), (8, nI x31), (7, .slice p39 L29.length c40), (5, nP (w.heap.size) 0), (0, nP b0 0), (1, nI i1)]) (w' := w34.alloc (.cells #[nI (i2.c)] 3)) (by kernel_rfl) ?_
      intro a101 hF100; clear hF98
      obtain ⟨L102, hx103, hm104⟩ := bind1E hm95; clear hm95
      refine ev_push 29 (.tmp 23) (.tmp 28) hF100 rfl rfl rfl rfl rfl rfl rfl rfl hS36 hx103 ?_
      intro g105 c106 w107 a108 hS109 hF110; clear hF100 hS36
      refine ev_runK 1 hF110 [0, 1, 5, 7, 8] (l' := [(7, .slice (some ⟨g105, 0, none⟩) L102.length c106), (8, nI x31), (5, nP (w.heap.size) 0), (0, nP b0 0), (1, nI i1)]) (w' := w107) (by kernel_rfl) ?_
      intro a112 hF111; clear hF110
      refine wpList_nil ?_
      refine blockN ?_
      refine thenN (wp_region_lit ?_)
      refine ev_runK 3 hF111 [0, 1, 5, 7, 8] (l' := [(8, nI (IntKind.i64.wrap (x31 + 1))), (7, .slice (some ⟨g105, 0, none⟩) L102.length c106), (5, nP (w.heap.size) 0), (0, nP b0 0), (1, nI i1)]) (w' := w107) (by kernel_rfl) ?_
      intro a114 hF113; clear hF111
      refine wpList_nil ?_
      exact thenN ⟨k32, Nat.lt_succ_self _, .slice (some ⟨g105, 0, none⟩) L102.length c106, L102, IntKind.i64.wrap (x31 + 1), hF113, hS109, hm104⟩
     | false =>
      have hm115 := ifNot hc94 hm93; clear hm93
      cases hc116 : (x31 == 3) with
      | true =>
       have hm117 := ifYes hc116 hm115; clear hm115
       refine ev_one (nP (w.heap.size) 6) w34 hF48 (by kernel_rfl) rfl (by kernel_rfl) (run_idxA (q := 3) rfl rfl rfl rfl (congrArg (Value.int .i64) (eq_of_beq hc116)) (by decide) (by decide) (by kernel_rfl) _) (l' := [(26, nP (w.heap.size) 6), (25, nP (w.heap.size) 3), (24, nI x31), (23, .slice p39 L29.length c40), (8, nI x31), (7, .slice p39 L29.length c40), (5, nP (w.heap.size) 0), (0, nP b0 0), (1, nI i1)]) (by kernel_rfl) ?_
       intro a119 hF118; clear hF48
       refine ev_one (nI (i2.d)) w34 hF118 (by kernel_rfl) rfl (by kernel_rfl) (run_loadV rfl rfl (run_loadS rfl rfl (hS36.cell 1 rfl 6 rfl))) (l' := [(27, nI (i2.d)), (26, nP (w.heap.size) 6), (25, nP (w.heap.size) 3), (24, nI x31), (23, .slice p39 L29.length c40), (8, nI x31), (7, .slice p39 L29.length c40), (5, nP (w.heap.size) 0), (0, nP b0 0), (1, nI i1)]) (by kernel_rfl) ?_
       intro a121 hF120; clear hF118
       refine ev_runs 1 hF120 (l' := [(28, .slice (some ⟨w34.heap.size, 0, none⟩) 1 1), (27, nI (i2.d)), (26, nP (w.heap.size) 6), (25, nP (w.heap.size) 3), (24, nI x31), (23, .slice p39 L29.length c40), (8, nI x31), (7, .slice p39 L29.length c40), (5, nP (w.heap.size) 0), (0, nP b0 0), (1, nI i1)]) (w' := w34.alloc (.cells #[nI (i2.d)] 3)) (by kernel_rfl) ?_
       intro a123 hF122; clear hF120
       obtain ⟨L124, hx125, hm126⟩ := bind1E hm117; clear hm117
       refine ev_push 29 (.tmp 23) (.tmp 28) hF122 rfl rfl rfl rfl rfl rfl rfl rfl hS36 hx125 ?_
       intro g127 c128 w129 a130 hS131 hF132; clear hF122 hS36
       refine ev_runK 1 hF132 [0, 1, 5, 7, 8] (l' := [(7, .slice (some ⟨g127, 0, none⟩) L124.length c128), (8, nI x31), (5, nP (w.heap.size) 0), (0, nP b0 0), (1, nI i1)]) (w' := w129) (by kernel_rfl) ?_
       intro a134 hF133; clear hF132
       refine wpList_nil ?_
       refine blockN ?_
       refine thenN (wp_region_lit ?_)
       refine ev_runK 3 hF133 [0, 1, 5, 7, 8] (l' := [(8, nI (IntKind.i64.wrap (x31 + 1))), (7, .slice (some ⟨g127, 0, none⟩) L124.length c128), (5, nP (w.heap.size) 0), (0, nP b0 0), (1, nI i1)]) (w' := w129) (by kernel_rfl) ?_
       intro a136 hF135; clear hF133
       refine wpList_nil ?_
       exact thenN ⟨k32, Nat.lt_succ_self _, .slice (some ⟨g127, 0, none⟩) L124.length c128, L124, IntKind.i64.wrap (x31 + 1), hF135, hS131, hm126⟩
      | false =>
       have hm137 := ifNot hc116 hm115; clear hm115
       cases hc138 : (x31 == 4) with
       | true =>
        have hm139 := ifYes hc138 hm137; clear hm137
        refine ev_one (nP (w.heap.size) 7) w34 hF48 (by kernel_rfl) rfl (by kernel_rfl) (run_idxA (q := 4) rfl rfl rfl rfl (congrArg (Value.int .i64) (eq_of_beq hc138)) (by decide) (by decide) (by kernel_rfl) _) (l' := [(26, nP (w.heap.size) 7), (25, nP (w.heap.size) 3), (24, nI x31), (23, .slice p39 L29.length c40), (8, nI x31), (7, .slice p39 L29.length c40), (5, nP (w.heap.size) 0), (0, nP b0 0), (1, nI i1)]) (by kernel_rfl) ?_
        intro a141 hF140; clear hF48
        refine ev_one (nI (i2.e)) w34 hF140 (by kernel_rfl) rfl (by kernel_rfl) (run_loadV rfl rfl (run_loadS rfl rfl (hS36.cell 1 rfl 7 rfl))) (l' := [(27, nI (i2.e)), (26, nP (w.heap.size) 7), (25, nP (w.heap.size) 3), (24, nI x31), (23, .slice p39 L29.length c40), (8, nI x31), (7, .slice p39 L29.length c40), (5, nP (w.heap.size) 0), (0, nP b0 0), (1, nI i1)]) (by kernel_rfl) ?_
        intro a143 hF142; clear hF140
        refine ev_runs 1 hF142 (l' := [(28, .slice (some ⟨w34.heap.size, 0, none⟩) 1 1), (27, nI (i2.e)), (26, nP (w.heap.size) 7), (25, nP (w.heap.size) 3), (24, nI x31), (23, .slice p39 L29.length c40), (8, nI x31), (7, .slice p39 L29.length c40), (5, nP (w.heap.size) 0), (0, nP b0 0), (1, nI i1)]) (w' := w34.alloc (.cells #[nI (i2.e)] 3)) (by kernel_rfl) ?_
        intro a145 hF144; clear hF142
        obtain ⟨L146, hx147, hm148⟩ := bind1E hm139; clear hm139
        refine ev_push 29 (.tmp 23) (.tmp 28) hF144 rfl rfl rfl rfl rfl rfl rfl rfl hS36 hx147 ?_
        intro g149 c150 w151 a152 hS153 hF154; clear hF144 hS36
        refine ev_runK 1 hF154 [0, 1, 5, 7, 8] (l' := [(7, .slice (some ⟨g149, 0, none⟩) L146.length c150), (8, nI x31), (5, nP (w.heap.size) 0), (0, nP b0 0), (1, nI i1)]) (w' := w151) (by kernel_rfl) ?_
        intro a156 hF155; clear hF154
        refine wpList_nil ?_
        refine blockN ?_
        refine thenN (wp_region_lit ?_)
        refine ev_runK 3 hF155 [0, 1, 5, 7, 8] (l' := [(8, nI (IntKind.i64.wrap (x31 + 1))), (7, .slice (some ⟨g149, 0, none⟩) L146.length c150), (5, nP (w.heap.size) 0), (0, nP b0 0), (1, nI i1)]) (w' := w151) (by kernel_rfl) ?_
        intro a158 hF157; clear hF155
        refine wpList_nil ?_
        exact thenN ⟨k32, Nat.lt_succ_self _, .slice (some ⟨g149, 0, none⟩) L146.length c150, L146, IntKind.i64.wrap (x31 + 1), hF157, hS153, hm148⟩
       | false =>
        have hm159 := ifNot hc138 hm137; clear hm137
        cases hc160 : (x31 == 5) with
        | true =>
         have hm161 := ifYes hc160 hm159; clear hm159
         refine ev_one (nP (w.heap.size) 8) w34 hF48 (by kernel_rfl) rfl (by kernel_rfl) (run_idxA (q := 5) rfl rfl rfl rfl (congrArg (Value.int .i64) (eq_of_beq hc160)) (by decide) (by decide) (by kernel_rfl) _) (l' := [(26, nP (w.heap.size) 8), (25, nP (w.heap.size) 3), (24, nI x31), (23, .slice p39 L29.length c40), (8, nI x31), (7, .slice p39 L29.length c40), (5, nP (w.heap.size) 0), (0, nP b0 0), (1, nI i1)]) (by kernel_rfl) ?_
         intro a163 hF162; clear hF48
         refine ev_one (nI (i2.f)) w34 hF162 (by kernel_rfl) rfl (by kernel_rfl) (run_loadV rfl rfl (run_loadS rfl rfl (hS36.cell 1 rfl 8 rfl))) (l' := [(27, nI (i2.f)), (26, nP (w.heap.size) 8), (25, nP (w.heap.size) 3), (24, nI x31), (23, .slice p39 L29.length c40), (8, nI x31), (7, .slice p39 L29.length c40), (5, nP (w.heap.size) 0), (0, nP b0 0), (1, nI i1)]) (by kernel_rfl) ?_
         intro a165 hF164; clear hF162
         refine ev_runs 1 hF164 (l' := [(28, .slice (some ⟨w34.heap.size, 0, none⟩) 1 1), (27, nI (i2.f)), (26, nP (w.heap.size) 8), (25, nP (w.heap.size) 3), (24, nI x31), (23, .slice p39 L29.length c40), (8, nI x31), (7, .slice p39 L29.length c40), (5, nP (w.heap.size) 0), (0, nP b0 0), (1, nI i1)]) (w' := w34.alloc (.cells #[nI (i2.f)] 3)) (by kernel_rfl) ?_
         intro a167 hF166; clear hF164
         obtain ⟨L168, hx169, hm170⟩ := bind1E hm161; clear hm161
         refine ev_push 29 (.tmp 23) (.tmp 28) hF166 rfl rfl rfl rfl rfl rfl rfl rfl hS36 hx169 ?_
         intro g171 c172 w173 a174 hS175 hF176; clear hF166 hS36
         refine ev_runK 1 hF176 [0, 1, 5, 7, 8] (l' := [(7, .slice (some ⟨g171, 0, none⟩) L168.length c172), (8, nI x31), (5, nP (w.heap.size) 0), (0, nP b0 0), (1, nI i1)]) (w' := w173) (by kernel_rfl) ?_
         intro a178 hF177; clear hF176
         refine wpList_nil ?_
         refine blockN ?_
         refine thenN (wp_region_lit ?_)
         refine ev_runK 3 hF177 [0, 1, 5, 7, 8] (l' := [(8, nI (IntKind.i64.wrap (x31 + 1))), (7, .slice (some ⟨g171, 0, none⟩) L168.length c172), (5, nP (w.heap.size) 0), (0, nP b0 0), (1, nI i1)]) (w' := w173) (by kernel_rfl) ?_
         intro a180 hF179; clear hF177
         refine wpList_nil ?_
         exact thenN ⟨k32, Nat.lt_succ_self _, .slice (some ⟨g171, 0, none⟩) L168.length c172, L168, IntKind.i64.wrap (x31 + 1), hF179, hS175, hm170⟩
        | false =>
         have hm181 := ifNot hc160 hm159; clear hm159
         exact absurd hm181 (by simp)
  | false =>
   rw [hc45] at hF43
   have hm182 := ifNot hc45 hm38; clear hm38
   refine ev_condF hF43 rfl rfl ?_
   refine wp_exit ?_
   refine thenE ?_
   refine thenE ?_
   refine blockE ?_
   refine thenN (wp_seq (wp_region_lit ?_))
   refine ev_runs 4 hF43 (l' := [(33, nP (w.heap.size) 9), (32, .slice p39 L29.length c40), (31, nI i1), (30, nP b0 0), (20, .bool false), (8, nI x31), (7, .slice p39 L29.length c40), (5, nP (w.heap.size) 0), (0, nP b0 0), (1, nI i1)]) (w' := w34) (by kernel_rfl) ?_
   intro a184 hF183; clear hF43
   refine ev_one (nI (i2.sudogs)) w34 hF183 (by kernel_rfl) rfl (by kernel_rfl) (run_loadV rfl rfl (run_loadS rfl rfl (hS36.cell 1 rfl 9 rfl))) (l' := [(34, nI (i2.sudogs)), (33, nP (w.heap.size) 9), (32, .slice p39 L29.length c40), (31, nI i1), (30, nP b0 0), (20, .bool false), (8, nI x31), (7, .slice p39 L29.length c40), (5, nP (w.heap.size) 0), (0, nP b0 0), (1, nI i1)]) (by kernel_rfl) ?_
   intro a186 hF185; clear hF183
   refine ev_call 105 #[nI (i2.sudogs)] hF185 rfl rfl (by kernel_rfl) rfl (by kernel_rfl) (fun w => by kernel_rfl) ?_
   obtain ⟨x187, hx188, hm189⟩ := bind1E hm182; clear hm182
   refine (ref11_ptr.ok hS36 hx188).mono ?_
   rintro _ w190 ⟨rfl, hS192⟩ a191 hF193; clear hF185 hS36
   refine ev_runs 1 hF193 (l' := [(36, .slice (some ⟨w190.heap.size, 0, none⟩) 1 1), (35, nI x187), (34, nI (i2.sudogs)), (33, nP (w.heap.size) 9), (32, .slice p39 L29.length c40), (31, nI i1), (30, nP b0 0), (20, .bool false), (8, nI x31), (7, .slice p39 L29.length c40), (5, nP (w.heap.size) 0), (0, nP b0 0), (1, nI i1)]) (w' := w190.alloc (.cells #[nI x187] 3)) (by kernel_rfl) ?_
   intro a195 hF194; clear hF193
   obtain ⟨L196, hx197, hm198⟩ := bind1E hm189; clear hm189
   refine ev_push 37 (.tmp 32) (.tmp 36) hF194 rfl rfl rfl rfl rfl rfl rfl rfl hS192 hx197 ?_
   intro g199 c200 w201 a202 hS203 hF204; clear hF194 hS192
   have hS205 := hS203.pick2
   clear hS203
   refine ev_call 103 #[nP b0 0, nI i1, nI 4, .slice (some ⟨g199, 0, none⟩) L196.length c200] hF204 rfl rfl (by kernel_rfl) rfl (by kernel_rfl) (fun w => by kernel_rfl) ?_
   obtain ⟨x206, s207, hx208, hm209⟩ := bind2E hm198; clear hm198
   refine (ref11_put.ok hS205 hx208).mono ?_
   rintro _ w210 ⟨rfl, hS212⟩ a211 hF213; clear hF204 hS205
   refine ev_runK 1 hF213 [6] (l' := [(6, nI x206)]) (w' := w210) (by kernel_rfl) ?_
   intro a215 hF214; clear hF213
   refine wpList_nil ?_
   have hS216 := hS212.pick1.drop.pick1.drop
   clear hS212
   refine thenN ?_
   refine wp_ret ?_
   simp only [Option.some.injEq, Prod.mk.injEq] at hm209
   obtain ⟨rfl, rfl⟩ := hm209
   refine ev_ret hF214 [6] (nI x206) rfl rfl rfl ?_
   exact ⟨rfl, hS216⟩

end Go.Proofs.YtaihdiccmaincaaGreat
