/- Package grey: Push, Pop, Over, Settle. -/
import Derived.Test.YtdnelekoplkkcaaGrey
import Derived.BigRegion
namespace Go.Proofs.Ytdnelekoplkkcaa
open Go.RowKit

theorem info_int : (Try.prog.info? 3).map (fun i => (i.zero, i.size, i.bytes)) = some (some (.int .i64 0), 1, 8) := by kernel_rfl

set_option maxRecDepth 100000 in
set_option maxHeartbeats 1000000 in
theorem grey_Push (b : Nat) (L : List Int) (ov : Bool) (F : List Nat) (a : Int) (w : World) (hG : GreyAt w b L ov F) (hlt : L.length < 8) :
    Calls Try.prog 63 #[.pointer (some ⟨b, 0, none⟩), .int .i64 a] w (GreyDoes (.returned (.bool true)) b (L ++ [a]) ov F w) := by
  obtain ⟨lv, hb, hown, hl, hF⟩ := hG
  obtain ⟨i0, hi, hz0, hz1, hz2⟩ := info_parts info_int
  have c1 := hb.cell 1
  simp at c1
  have HF := Lib.hid hF
  clear hF
  go_enter Try.func63, Try.ntmps63
  go_wp2_with fail
  refine (grey_Len b L.length (by omega) _ c1).mono ?_
  rintro e w1 ⟨rfl, hb1⟩
  have hB := hb.below hb1 hb.lt
  have hown1 := (Keeps.of_below hb1 []).own hown (by simp)
  have hne := own_type hown1 hB (by decide)
  have d0 := hB.cell 0
  have d1 := hB.cell 1
  have f0 := hB.free 0
  have f1 := hB.free 1
  simp at d0 d1
  clear c1 hown
  go_wp2_with (at_builtin; refine wpList_append_own_at _ rfl _ _ 55 rfl 0 3 i0 (.int .i64 0) 1 8 Try.underlying55 hi hz0 hz1 hz2 rfl (by decide) _ _ _ rfl (hown1.alloc _) ⟨w1.heap.size, 0, none⟩ 1 1 [.int .i64 a] rfl rfl (cell_one_new _ _ _) ?c2 ?c3 ?c4 ?c5 ?_)
  case c2 => first | rfl | (intro u hu; simp at hu; subst hu; rfl)
  case c3 => unfold maxLen; omega
  case c4 => omega
  case c5 => omega
  intro v' w2 hown2 hg2 _ hat
  obtain ⟨g, cap, hv, -⟩ := own_form hown2 (by omega)
  subst hv
  have hsz := hg2.size
  simp at hsz
  have hlt1 := hB.lt
  have hB2 : Blk w2 b 116 #[lv, .string (ones L.length), .bool ov] := (hB.alloc _).of_eq (hg2.block b (by simp; omega) (by intro e; exact hne b e.symm rfl))
  have e0 := hB2.cell 0
  have e1 := hB2.cell 1
  have g0 := hB2.free 0
  have g1 := hB2.free 1
  simp at e0 e1
  have hk : Keeps (b :: lv.ownBlock.toList) w w2 := ((Keeps.of_below hb1 _).alloc _).grown hg2 (by
    intro k hk; left; simp [hk])
  have hne2 : g ≠ b := own_type hown2 hB2 (by decide) g rfl
  have hat' : some g = lv.ownBlock ∨ w.heap.size ≤ g := by
    rcases hat with h | h
    · left; exact h
    · right; have := hb1.size; injection h with hg; (try simp at hg); omega
  have os := ones_snoc L.length
  have ol := ones_size L.length
  clear hne hb1 hb d0 d1 f0 f1 hg2 hown1 hat hB
  have OL := Lib.hid ol
  have OS := Lib.hid os
  have hsum : (ones L.length).size + 1 ≤ 100 := by omega
  clear ol os
  go_wp2
  go_ret
  refine ⟨rfl, b :: [g], ⟨.slice (some ⟨g, 0, none⟩) (L.length + 1) cap, ?_, ?_, by simp; omega, rfl⟩, ?_, ?_⟩
  · have := (hB2.set 0 (.slice (some ⟨g, 0, none⟩) (L.length + 1) cap)).set 1 (.string (ones L.length ++ ⟨#[111]⟩))
    rw [OS.out] at this
    rw [OS.out]
    simpa using this
  · have h3 := (((Keeps.refl [b] w2).set (p := ⟨b, 0, none⟩) (by simp) (.slice (some ⟨g, 0, none⟩) (L.length + 1) cap)).set (p := ⟨b, 1, none⟩) (by simp) (.string (ones L.length ++ ⟨#[111]⟩))).own hown2 (by intro k hk; injection hk with hk; subst hk; simpa using hne2)
    simpa using h3
  · rw [HF.out]; exact (hk.set (by simp) _).set (by simp) _
  · intro i hi
    rw [HF.out]
    simp at hi ⊢
    rcases hi with rfl | rfl
    · exact .inl (.inl rfl)
    · rcases hat' with h | h
      · exact .inl (.inr h.symm)
      · exact .inr h
end Go.Proofs.Ytdnelekoplkkcaa
