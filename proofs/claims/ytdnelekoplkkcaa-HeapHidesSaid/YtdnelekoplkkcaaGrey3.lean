/- Package grey: a full list, Pop, Over, Settle. -/
import Derived.Test.YtdnelekoplkkcaaGrey2
import Derived.RegionTactic
import Derived.ChangeAlike
import Derived.BigRegion
namespace Go.Proofs.Ytdnelekoplkkcaa
open Go.RowKit

set_option maxRecDepth 100000 in
theorem grey_Push_full (b : Nat) (L : List Int) (ov : Bool) (F : List Nat) (a : Int) (w : World) (hG : GreyAt w b L ov F) (hlt : L.length = 8) :
    Calls Try.prog 63 #[.pointer (some ⟨b, 0, none⟩), .int .i64 a] w (GreyDoes (.returned (.bool false)) b L true F w) := by
  obtain ⟨lv, hb, hown, hl, hF⟩ := hG
  have c1 := hb.cell 1
  simp at c1
  have HF := Lib.hid hF
  have h8 : 8 ≤ L.length := by omega
  clear hF hlt
  go_enter Try.func63, Try.ntmps63
  go_wp2_with fail
  refine (grey_Len b L.length (by omega) _ c1).mono ?_
  rintro e w1 ⟨rfl, hb1⟩
  have hB := hb.below hb1 hb.lt
  have hown1 := (Keeps.of_below hb1 []).own hown (by simp)
  have hne := own_type hown1 hB (by decide)
  have d2 := hB.cell 2
  have f2 := hB.free 2
  simp at d2
  have NE := Lib.hid hne
  clear c1 hown hne
  go_wp2
  go_ret
  refine ⟨rfl, b :: lv.ownBlock.toList, ⟨lv, ?_, ?_, hl, rfl⟩, ?_, ?_⟩
  · simpa using hB.set 2 (.bool true)
  · exact ((Keeps.refl [b] w1).set (p := ⟨b, 2, none⟩) (by simp) _).own hown1 (fun k hk => by simpa using NE.out k hk)
  · exact (Keeps.of_below hb1 F).set (by rw [HF.out]; simp) _
  · intro i hi; left; rw [HF.out]; exact hi

set_option maxRecDepth 100000 in
theorem grey_Pop_none (b : Nat) (ov : Bool) (F : List Nat) (w : World) (hG : GreyAt w b [] ov F) :
    Calls Try.prog 94 #[.pointer (some ⟨b, 0, none⟩)] w (GreyDoes (.returned (.tuple #[.int .i64 0, .bool false])) b [] ov F w) := by
  have G := Lib.hid hG
  obtain ⟨lv, hb, hown, hl, hF⟩ := hG
  have c1 := hb.cell 1
  simp at c1
  clear hF hl hown
  go_enter Try.func94, Try.ntmps94
  go_wp2_with fail
  refine (grey_Len b 0 (by omega) _ c1).mono ?_
  rintro e w1 ⟨rfl, hb1⟩
  go_wp2
  go_ret2
  exact ⟨rfl, F, G.out.keep (Keeps.of_below hb1 []) (by simp), Keeps.of_below hb1 F, fun i hi => .inl hi⟩

set_option maxRecDepth 100000 in
set_option maxHeartbeats 1000000 in
theorem grey_Pop (b : Nat) (L : List Int) (x : Int) (ov : Bool) (F : List Nat) (w : World) (hG : GreyAt w b (L ++ [x]) ov F) :
    Calls Try.prog 94 #[.pointer (some ⟨b, 0, none⟩)] w (GreyDoes (.returned (.tuple #[.int .i64 x, .bool true])) b L ov F w) := by
  obtain ⟨lv, hb, hown, hl, hF⟩ := hG
  obtain ⟨g, cap, hv, hnc, hcm, hg⟩ := own_form hown (by simp)
  subst hv
  simp only [List.length_append, List.length_cons, List.length_nil, Nat.zero_add] at *
  have c1 := hb.cell 1
  simp at c1
  have HF := Lib.hid hF
  unfold maxLen at hcm
  clear hF
  go_enter Try.func94, Try.ntmps94
  go_wp2_with fail
  refine (grey_Len b (L.length + 1) (by omega) _ c1).mono ?_
  rintro e w1 ⟨rfl, hb1⟩
  have hB := hb.below hb1 hb.lt
  have hown1 := (Keeps.of_below hb1 []).own hown (by simp)
  have d1 := hB.cell 1
  simp at d1
  clear c1
  go_wp2_with fail
  refine (grey_last b (L.length + 1) (by omega) _ d1).mono ?_
  rintro e w2 ⟨rfl, hb2⟩
  have hB2 := hB.below hb2 hB.lt
  have hown2 := (Keeps.of_below hb2 []).own hown1 (by simp)
  have hne2 : g ≠ b := own_type hown2 hB2 (by decide) g rfl
  have e0 := hB2.cell 0
  have e1 := hB2.cell 1
  have f0 := hB2.free 0
  have f1 := hB2.free 1
  have e2 := own_cell hown2 rfl L.length (by simp)
  simp at e0 e1 e2
  have hcut := ones_cut (L.length + 1) L.length (by omega)
  have hos := ones_size (L.length + 1)
  have hi1 : ((L.length + 1 : Nat) : Int) - 1 = L.length := by omega
  rw [hi1]
  have H1 := Lib.hid hb1
  have H2 := Lib.hid hb2
  have O2 := Lib.hid hown2
  have HC := Lib.hid hcut
  have NE := Lib.hid hne2
  have hle : L.length ≤ (ones (L.length + 1)).size := by omega
  clear hb1 hb2 hown2 hown1 hown hB hb d1 hos hcut hi1
  go_wp2
  go_region
  all_goals go_wp2
  all_goals go_ret2
  refine ⟨rfl, [b, g], ⟨.slice (some ⟨g, 0, none⟩) L.length cap, ?_, ?_, by omega, rfl⟩, ?_, ?_⟩
  · rw [HC.out]
    refine Blk.drew ?_
    simpa using (hB2.set 0 (.slice (some ⟨g, 0, none⟩) L.length cap)).set 1 (.string (ones L.length))
  · have h3 := own_cut O2.out L.length (by omega)
    simp at h3
    exact ((((Keeps.refl [b] w2).set (by simp) _).set (by simp) _).drew).own h3 (by intro k hk; injection hk with hk; subst hk; simpa using NE.out)
  · rw [HF.out]
    exact ((((Keeps.of_below H1.out _).next H2.out).set (by simp) _).set (by simp) _).drew
  · intro i hi; left; rw [HF.out]; simpa [Value.ownBlock] using hi

theorem grey_Over (b : Nat) (L : List Int) (ov : Bool) (F : List Nat) (w : World) (hG : GreyAt w b L ov F) :
    Calls Try.prog 95 #[.pointer (some ⟨b, 0, none⟩)] w fun e w' => e = .returned (.bool ov) ∧ w = w' := by
  obtain ⟨lv, hb, hown, hl, hF⟩ := hG
  have c2 := hb.cell 2
  simp at c2
  clear hF hl hown
  go_enter Try.func95, Try.ntmps95
  go_wp2
  go_ret
  exact ⟨rfl, rfl⟩

theorem grey_Settle (b : Nat) (L : List Int) (ov : Bool) (F : List Nat) (w : World) (hG : GreyAt w b L ov F) :
    Calls Try.prog 96 #[.pointer (some ⟨b, 0, none⟩)] w (GreyDoes (.returned (.tuple #[])) b L false F w) := by
  obtain ⟨lv, hb, hown, hl, hF⟩ := hG
  have c2 := hb.cell 2
  have f2 := hb.free 2
  have hne := own_type hown hb (by decide)
  simp at c2
  have HF := Lib.hid hF
  have NE := Lib.hid hne
  have O := Lib.hid hown
  clear hF hown hne
  go_enter Try.func96, Try.ntmps96
  go_wp2
  go_end0
  refine ⟨rfl, b :: lv.ownBlock.toList, ⟨lv, ?_, ?_, hl, rfl⟩, ?_, ?_⟩
  · simpa using hb.set 2 (.bool false)
  · exact ((Keeps.refl [b] w).set (p := ⟨b, 2, none⟩) (by simp) _).own O.out (fun k hk => by simpa using NE.out k hk)
  · exact (Keeps.refl F w).set (by rw [HF.out]; simp) _
  · intro i hi; left; rw [HF.out]; exact hi

/-! A nil list. -/
theorem grey_Len_nil (w : World) : Calls Try.prog 81 #[.pointer none] w fun e w' => e = .returned (.int .i64 0) ∧ w = w' := by
  go_enter Try.func81, Try.ntmps81
  go_wp2
  go_ret
  exact ⟨rfl, rfl⟩
theorem grey_Push_nil (a : Int) (w : World) : Calls Try.prog 63 #[.pointer none, .int .i64 a] w fun e w' => e = .returned (.bool false) ∧ w = w' := by
  go_enter Try.func63, Try.ntmps63
  go_wp2
  go_ret
  exact ⟨rfl, rfl⟩
theorem grey_Pop_nil (w : World) : Calls Try.prog 94 #[.pointer none] w fun e w' => e = .returned (.tuple #[.int .i64 0, .bool false]) ∧ w = w' := by
  go_enter Try.func94, Try.ntmps94
  go_wp2_with (go_at_call 81; refine (grey_Len_nil _).mono ?_; rintro e w' ⟨rfl, rfl⟩)
  go_ret2
  exact ⟨rfl, rfl⟩
theorem grey_Over_nil (w : World) : Calls Try.prog 95 #[.pointer none] w fun e w' => e = .returned (.bool false) ∧ w = w' := by
  go_enter Try.func95, Try.ntmps95
  go_wp2
  go_ret
  exact ⟨rfl, rfl⟩
theorem grey_Settle_nil (w : World) : Calls Try.prog 96 #[.pointer none] w fun e w' => e = .returned (.tuple #[]) ∧ w = w' := by
  go_enter Try.func96, Try.ntmps96
  go_wp2
  go_end0
  exact ⟨rfl, rfl⟩
end Go.Proofs.Ytdnelekoplkkcaa
