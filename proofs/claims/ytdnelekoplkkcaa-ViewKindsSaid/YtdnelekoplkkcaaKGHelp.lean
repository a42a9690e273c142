/- GHelp -/
import Derived.Test.YtdnelekoplkkcaaKPrim
import Derived.Test.YtdnelekoplkkcaaKEv2
import Derived.Deep.LoopGhost
import Derived.KernelRfl
/- The walks of GHelp, printed by gen/walk.py. -/
namespace Go.Proofs.Ytdnelekoplkkcaa
open Go.RowKit
set_option linter.unusedVariables false

def help_In.l1b (L0 : List Int) (i1 : Int) (rec13 : Int → Option (Bool)) (x10 : Int) : Option (Bool) := (if (decide (x10 < (L0.length : Int))) then (if (inR x10 L0.length) then (if ((atI L0 x10) == i1) then some (true) else rec13 (IntKind.i64.wrap (x10 + 1))) else none) else some (false))
def help_In.l1 (L0 : List Int) (i1 : Int) : Nat → Int → Option (Bool)
  | 0 => fun _ => none
  | kI + 1 => help_In.l1b L0 i1 (help_In.l1 L0 i1 kI)
def help_In.m (k : Nat) (L0 : List Int) (i1 : Int) : Option (Bool) := help_In.l1 L0 i1 k 0
set_option maxRecDepth 100000 in
set_option maxHeartbeats 1500000 in
theorem help_In.ok {w0 w : World} {F0 : List Nat} {ps : List Piece} {k : Nat} {v0 : Value} {L0 : List Int} {i1 : Int} {r0 : Bool} (hS : St w0 F0 (RowP (v0) L0 :: ps) w) (hm : help_In.m k L0 i1 = some r0) :
    Calls Try.prog 39 #[v0, .int .i64 (i1)] w fun e w' => e = .returned (.bool r0) ∧ St w0 F0 (RowP (v0) L0 :: ps) w' := by
  refine ev_enterL 18 [v0, .int .i64 (i1)] Try.func39 rfl rfl (by simp) ?_
  intro a hF
  have hF0 : Fr 18 a [(0, v0), (1, .int .i64 (i1))] := hF; clear hF
  unfold help_In.m at hm
  obtain ⟨hl4, p1, c2, rfl, hp3⟩ := St.shape hS 0 rfl
  refine wp_seq ?_
  refine wp_region_lit ?_
  refine ev_runs 1 hF0 (l' := [(4, .bool false), (0, .slice p1 L0.length c2), (1, .int .i64 (i1))]) (w' := w) (by kernel_rfl) ?_
  intro a6 hF5; clear hF0
  refine wpList_nil ?_
  have hF7 : Fr 18 a6 [(0, .slice p1 L0.length c2), (1, .int .i64 (i1))] := hF5.keep [0, 1]
  clear hF5
  refine thenN ?_
  refine wp_seq ?_
  refine wp_seq ?_
  refine wp_region_lit ?_
  refine ev_runs 1 hF7 (l' := [(5, .int .i64 0), (0, .slice p1 L0.length c2), (1, .int .i64 (i1))]) (w' := w) (by kernel_rfl) ?_
  intro a9 hF8; clear hF7
  refine wpList_nil ?_
  refine thenN ?_
  refine wp_block ?_
  refine wp_loop_ghost (fun kI aI wI => ∃ (x10 : Int), Fr 18 aI [(5, .int .i64 (x10)), (0, .slice p1 L0.length c2), (1, .int .i64 (i1))] ∧ St w0 F0 (RowP (.slice p1 L0.length c2) L0 :: ps) wI ∧ help_In.l1 L0 i1 kI x10 = some r0) k ⟨0, hF8, hS, hm⟩ ?_
  rintro k11 a12 w13 ⟨x10, hF14, hS15, hm16⟩
  clear hF8 hS hm
  cases k11 with
  | zero => cases hm16
  | succ k11 =>
    have hm17 : help_In.l1b L0 i1 (help_In.l1 L0 i1 k11) x10 = some r0 := hm16
    clear hm16
    unfold help_In.l1b at hm17
    refine wp_seq ?_
    refine wp_seq ?_
    refine wp_region_lit ?_
    refine ev_runs 4 hF14 (l' := [(9, .bool (decide (x10 < (L0.length : Int)))), (8, .int .i64 ((L0.length : Int))), (7, .slice p1 L0.length c2), (6, .int .i64 (x10)), (5, .int .i64 (x10)), (0, .slice p1 L0.length c2), (1, .int .i64 (i1))]) (w' := w13) (by kernel_rfl) ?_
    intro a19 hF18; clear hF14
    refine wpList_nil ?_
    have hF20 : Fr 18 a19 [(9, .bool (decide (x10 < (L0.length : Int)))), (5, .int .i64 (x10)), (0, .slice p1 L0.length c2), (1, .int .i64 (i1))] := hF18.keep [0, 1, 5, 9]
    clear hF18
    refine thenN ?_
    cases hc21 : (decide (x10 < (L0.length : Int))) with
    | true =>
      rw [hc21] at hF20
      rw [hc21] at hm17
      have hm22 := ifT hm17; clear hm17
      refine ev_condT hF20 rfl rfl ?_
      refine wp_skip ?_
      have hF23 : Fr 18 a19 [(5, .int .i64 (x10)), (0, .slice p1 L0.length c2), (1, .int .i64 (i1))] := hF20.keep [0, 1, 5]
      clear hF20
      refine thenN ?_
      refine wp_seq ?_
      refine wp_block ?_
      refine wp_seq ?_
      refine wp_region_lit ?_
      refine ev_runs 2 hF23 (l' := [(13, .int .i64 (x10)), (12, .slice p1 L0.length c2), (5, .int .i64 (x10)), (0, .slice p1 L0.length c2), (1, .int .i64 (i1))]) (w' := w13) (by kernel_rfl) ?_
      intro a25 hF24; clear hF23
      cases hc26 : (inR x10 L0.length) with
      | false => rw [hc26] at hm22; cases hm22
      | true =>
        rw [hc26] at hm22
        have hm27 := ifT hm22; clear hm22
        obtain ⟨g28, rfl⟩ := hp3.resolve_left (by have := inR_spec hc26; omega)
        refine ev_one (.pointer (some ⟨g28, x10.toNat, none⟩)) w13 hF24 (by kernel_rfl) rfl (by kernel_rfl) (run_idx rfl rfl rfl rfl rfl (inR_spec hc26).1 (inR_spec hc26).2 _) (l' := [(14, .pointer (some ⟨g28, x10.toNat, none⟩)), (13, .int .i64 (x10)), (12, .slice (some ⟨g28, 0, none⟩) L0.length c2), (5, .int .i64 (x10)), (0, .slice (some ⟨g28, 0, none⟩) L0.length c2), (1, .int .i64 (i1))]) (by kernel_rfl) ?_
        intro a30 hF29; clear hF24
        refine ev_one (.int .i64 (atI L0 x10)) w13 hF29 (by kernel_rfl) rfl (by kernel_rfl) (run_load1 rfl rfl rfl (hS15.atI 0 rfl hc26)) (l' := [(15, .int .i64 (atI L0 x10)), (14, .pointer (some ⟨g28, x10.toNat, none⟩)), (13, .int .i64 (x10)), (12, .slice (some ⟨g28, 0, none⟩) L0.length c2), (5, .int .i64 (x10)), (0, .slice (some ⟨g28, 0, none⟩) L0.length c2), (1, .int .i64 (i1))]) (by kernel_rfl) ?_
        intro a32 hF31; clear hF29
        refine ev_runs 2 hF31 (l' := [(17, .bool ((atI L0 x10) == i1)), (16, .int .i64 (i1)), (15, .int .i64 (atI L0 x10)), (14, .pointer (some ⟨g28, x10.toNat, none⟩)), (13, .int .i64 (x10)), (12, .slice (some ⟨g28, 0, none⟩) L0.length c2), (5, .int .i64 (x10)), (0, .slice (some ⟨g28, 0, none⟩) L0.length c2), (1, .int .i64 (i1))]) (w' := w13) (by kernel_rfl) ?_
        intro a34 hF33; clear hF31
        refine wpList_nil ?_
        have hF35 : Fr 18 a34 [(17, .bool ((atI L0 x10) == i1)), (5, .int .i64 (x10)), (0, .slice (some ⟨g28, 0, none⟩) L0.length c2), (1, .int .i64 (i1))] := hF33.keep [0, 1, 5, 17]
        clear hF33
        refine thenN ?_
        cases hc36 : ((atI L0 x10) == i1) with
        | true =>
          rw [hc36] at hF35
          rw [hc36] at hm27
          have hm37 := ifT hm27; clear hm27
          refine ev_condT hF35 rfl rfl ?_
          refine wp_seq ?_
          refine wp_region_lit ?_
          refine ev_runs 1 hF35 (l' := [(4, .bool true), (17, .bool true), (5, .int .i64 (x10)), (0, .slice (some ⟨g28, 0, none⟩) L0.length c2), (1, .int .i64 (i1))]) (w' := w13) (by kernel_rfl) ?_
          intro a39 hF38; clear hF35
          refine wpList_nil ?_
          have hF40 : Fr 18 a39 [(4, .bool true)] := hF38.keep [4]
          clear hF38
          refine thenN ?_
          refine wp_ret ?_
          refine blockR ?_
          refine thenR ?_
          refine thenR ?_
          refine blockR ?_
          refine thenR ?_
          obtain rfl := Option.some.inj hm37
          refine ev_ret hF40 [4] (.bool true) rfl rfl rfl ?_
          exact ⟨rfl, hS15⟩
        | false =>
          rw [hc36] at hF35
          rw [hc36] at hm27
          have hm42 := ifF hm27; clear hm27
          refine ev_condF hF35 rfl rfl ?_
          refine wp_skip ?_
          have hF43 : Fr 18 a34 [(5, .int .i64 (x10)), (0, .slice (some ⟨g28, 0, none⟩) L0.length c2), (1, .int .i64 (i1))] := hF35.keep [0, 1, 5]
          clear hF35
          refine blockN ?_
          refine thenN ?_
          refine wp_region_lit ?_
          refine ev_runs 3 hF43 (l' := [(5, .int .i64 (IntKind.i64.wrap (x10 + 1))), (11, .int .i64 (IntKind.i64.wrap (x10 + 1))), (10, .int .i64 (x10)), (0, .slice (some ⟨g28, 0, none⟩) L0.length c2), (1, .int .i64 (i1))]) (w' := w13) (by kernel_rfl) ?_
          intro a45 hF44; clear hF43
          refine wpList_nil ?_
          have hF46 : Fr 18 a45 [(5, .int .i64 (IntKind.i64.wrap (x10 + 1))), (0, .slice (some ⟨g28, 0, none⟩) L0.length c2), (1, .int .i64 (i1))] := hF44.keep [0, 1, 5]
          clear hF44
          exact thenN ⟨k11, Nat.lt_succ_self _, IntKind.i64.wrap (x10 + 1), hF46, hS15, hm42⟩
    | false =>
      rw [hc21] at hF20
      rw [hc21] at hm17
      have hm47 := ifF hm17; clear hm17
      refine ev_condF hF20 rfl rfl ?_
      refine wp_exit ?_
      refine thenE ?_
      refine thenE ?_
      refine blockE ?_
      refine thenN ?_
      refine wp_seq ?_
      refine wp_region_lit ?_
      refine ev_runs 1 hF20 (l' := [(4, .bool false), (9, .bool false), (5, .int .i64 (x10)), (0, .slice p1 L0.length c2), (1, .int .i64 (i1))]) (w' := w13) (by kernel_rfl) ?_
      intro a49 hF48; clear hF20
      refine wpList_nil ?_
      have hF50 : Fr 18 a49 [(4, .bool false)] := hF48.keep [4]
      clear hF48
      refine thenN ?_
      refine wp_ret ?_
      obtain rfl := Option.some.inj hm47
      refine ev_ret hF50 [4] (.bool false) rfl rfl rfl ?_
      exact ⟨rfl, hS15⟩

end Go.Proofs.Ytdnelekoplkkcaa
