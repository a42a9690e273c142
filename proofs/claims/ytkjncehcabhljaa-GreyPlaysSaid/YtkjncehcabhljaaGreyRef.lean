/- The reference's list of places: Push, Pop. -/
import Derived.Test.YtkjncehcabhljaaGrey3
import Derived.Deep.AppendLies
namespace Go.Proofs.Ytkjncehcabhljaa
open Go.RowKit

/-- The reference's list at block b keeps L. -/
def RListAt (w : World) (b : Nat) (L : List Int) (ov : Bool) (F : List Nat) : Prop :=
  ∃ lv, Blk w b 40 #[lv, .bool ov] ∧ w.ownsRow 0 3 1 lv L.length (L.map (.int .i64)) ∧ L.length ≤ 8 ∧ F = b :: lv.ownBlock.toList

theorem RListAt.keep {w w' : World} {b : Nat} {L : List Int} {ov : Bool} {F G : List Nat} (h : RListAt w b L ov F) (k : Keeps G w w') (hd : ∀ i ∈ F, i ∉ G) : RListAt w' b L ov F := by
  obtain ⟨lv, h1, h2, h3, rfl⟩ := h
  exact ⟨lv, k.blk h1 (hd _ (by simp)), k.own h2 (fun g hg => hd _ (by simp [hg])), h3, rfl⟩
theorem RListAt.lt {w : World} {b : Nat} {L : List Int} {ov : Bool} {F : List Nat} (h : RListAt w b L ov F) : ∀ i ∈ F, i < w.heap.size := by
  obtain ⟨lv, h1, h2, h3, rfl⟩ := h
  intro i hi
  simp at hi
  rcases hi with rfl | hi
  · exact h1.lt
  · exact own_lt h2 i hi

def RListDoes (r : Ending) (b : Nat) (L' : List Int) (ov' : Bool) (F : List Nat) (w : World) (e : Ending) (w' : World) : Prop :=
  e = r ∧ ∃ F', RListAt w' b L' ov' F' ∧ Keeps F w w' ∧ ∀ i ∈ F', i ∈ F ∨ w.heap.size ≤ i

/-- append(nil, nil...) -/
theorem run_append_nil_nil (w : World) (ty : TypeId) : (Builtin.append_ #[38, 38] ty #[.slice none 0 0, .slice none 0 0]).run Try.prog w = .ok (.slice none 0 0) w := by kernel_rfl

/-- What one append of a new slice leaves, all in one. -/
theorem news_of_own {w : World} {B e : Nat} {g cap n : Nat} {xs : List Value} (h : w.ownsRow B e 1 (.slice (some ⟨g, 0, none⟩) n cap) n xs) : ∀ j u, xs[j]? = some u → w.cell? ((⟨g, 0, none⟩ : Addr).add j) = some u := h.cells rfl

set_option maxRecDepth 100000 in
set_option maxHeartbeats 1000000 in
theorem rlist_Push (b : Nat) (L : List Int) (ov : Bool) (F : List Nat) (a : Int) (w : World) (hG : RListAt w b L ov F) (hlt : L.length < 8) :
    Calls Try.prog 46 #[.pointer (some ⟨b, 0, none⟩), .int .i64 a] w (RListDoes (.returned (.bool true)) b (L ++ [a]) ov F w) := by
  obtain ⟨lv, hb, hown, hl, hF⟩ := hG
  obtain ⟨i0, hi, hz0, hz1, hz2⟩ := info_parts info_int
  have c0 := hb.cell 0
  have f0 := hb.free 0
  simp at c0
  have HF := Lib.hid hF
  clear hF
  rcases own_cases hown with ⟨rfl, hn⟩ | ⟨g, cap, hv, hnc, hcm, hg⟩
  · have hL : L = [] := List.eq_nil_of_length_eq_zero hn
    subst hL
    have h0 := fun ty => run_append_nil_nil w ty
    clear hn hlt
    go_enter Try.func46, Try.ntmps46
    go_wp2_with (at_builtin; refine wpList_append_own_at _ rfl (.tmp 19) (.tmp 21) 38 rfl 0 3 i0 (.int .i64 0) 1 8 Try.underlying38 hi hz0 hz1 hz2 rfl (by decide) _ 0 [] rfl (World.ownsRow_nil _ _ _ _) ⟨w.heap.size, 0, none⟩ 1 1 [.int .i64 a] rfl rfl (cell_one_new _ _ _) ?c2 ?c3 ?c4 ?c5 ?_)
    case c2 => first | rfl | (intro u hu; simp at hu; subst hu; rfl)
    case c3 => unfold maxLen; omega
    case c4 => omega
    case c5 => omega
    intro v' w2 hown2 hg2 _ hat
    obtain ⟨g, cap, hv, -⟩ := own_form hown2 (by omega)
    subst hv
    have hsz := hg2.size
    simp at hsz
    have hlt1 := hb.lt
    have hB2 : Blk w2 b 40 #[.slice none 0 0, .bool ov] := (hb.alloc _).of_eq (hg2.block b (by simp; omega) (by intro e; cases e))
    have e0 := hB2.cell 0
    have g0 := hB2.free 0
    simp at e0
    have hk : Keeps [b] w w2 := ((Keeps.refl _ _).alloc _).grown hg2 (by intro k hk; cases hk)
    have hne2 : g ≠ b := own_type hown2 hB2 (by decide) g rfl
    have hat' : w.heap.size ≤ g := by
      rcases hat with h | h
      · cases h
      · injection h with hg; (try simp at hg); omega
    have HK := Lib.hid hk
    have NE := Lib.hid hne2
    have O2 := Lib.hid hown2
    clear hat hne2 hk hg2 hown2 hb hown h0
    go_wp2
    go_ret
    refine ⟨rfl, [b, g], ⟨.slice (some ⟨g, 0, none⟩) 1 cap, ?_, ?_, by simp, rfl⟩, ?_, ?_⟩
    · simpa using hB2.set 0 (.slice (some ⟨g, 0, none⟩) 1 cap)
    · have h3 := ((Keeps.refl [b] w2).set (p := ⟨b, 0, none⟩) (by simp) (.slice (some ⟨g, 0, none⟩) 1 cap)).own O2.out (by intro k hk; injection hk with hk; subst hk; simpa using NE.out)
      simpa using h3
    · rw [HF.out]; exact HK.out.set (by simp) _
    · intro i hi
      rw [HF.out]
      simp at hi ⊢
      rcases hi with rfl | rfl
      · exact .inl (.inl rfl)
      · exact .inr hat'
  · subst hv
    have hne := own_type hown hb (by decide) g rfl
    go_enter Try.func46, Try.ntmps46
    go_wp2_with (at_builtin; refine wpList_append_own_at _ rfl (.const (.slice none 0 0)) (.tmp 18) 38 rfl 0 3 i0 (.int .i64 0) 1 8 Try.underlying38 hi hz0 hz1 hz2 rfl (by decide) _ 0 [] rfl (World.ownsRow_nil _ _ _ _) ⟨g, 0, none⟩ L.length cap (L.map (.int .i64)) rfl ?c1 (news_of_own hown) ?c2 ?c3 ?c4 ?c5 ?_)
    case c1 => simp
    case c2 => first | rfl | (intro u hu; simp at hu; obtain ⟨x, _, rfl⟩ := hu; rfl)
    case c3 => unfold maxLen; omega
    case c4 => omega
    case c5 => omega
    intro v' w1 hown1 hg1 _ hat1
    have hk1 : Keeps [] w w1 := (Keeps.refl _ _).grown hg1 (by intro k hk; cases hk)
    have hb1 := hk1.blk hb (by simp)
    have e0 := hb1.cell 0
    have g0 := hb1.free 0
    simp at e0
    have hat1' : ∀ k, v'.ownBlock = some k → w.heap.size ≤ k := by
      intro k hk
      rcases hat1 with h | h
      · rw [h] at hk; cases hk
      · rw [h] at hk; injection hk with hk; omega
    try simp only [Nat.zero_add, List.nil_append] at hown1
    have K1 := Lib.hid hk1
    have hsz1 := hk1.size
    clear hk1 hg1 hat1 hown hb c0 f0
    go_wp2_with (at_builtin; refine wpList_append_own_at _ rfl (.tmp 19) (.tmp 21) 38 rfl 0 3 i0 (.int .i64 0) 1 8 Try.underlying38 hi hz0 hz1 hz2 rfl (by decide) _ L.length (L.map (.int .i64)) rfl (hown1.alloc _) ⟨w1.heap.size, 0, none⟩ 1 1 [.int .i64 a] rfl rfl (cell_one_new _ _ _) ?c2 ?c3 ?c4 ?c5 ?_)
    case c2 => first | rfl | (intro u hu; simp at hu; subst hu; rfl)
    case c3 => unfold maxLen; omega
    case c4 => omega
    case c5 => omega
    intro v2 w2 hown2 hg2 _ hat
    obtain ⟨g2, cap2, hv, -⟩ := own_form hown2 (by omega)
    subst hv
    have hsz := hg2.size
    simp at hsz
    have hlt1 := hb1.lt
    have hne1 := own_type hown1 hb1 (by decide)
    have hB2 : Blk w2 b 40 #[.slice (some ⟨g, 0, none⟩) L.length cap, .bool ov] := (hb1.alloc _).of_eq (hg2.block b (by simp; omega) (by intro e; exact hne1 b e.symm rfl))
    have e1 := hB2.cell 0
    have g1 := hB2.free 0
    simp at e1
    have hk : Keeps [b] w w2 := ((K1.out.mono (by simp)).alloc _).grown hg2 (by intro k hk; exact .inr (hat1' k hk))
    have hne2 : g2 ≠ b := own_type hown2 hB2 (by decide) g2 rfl
    have hat' : w.heap.size ≤ g2 := by
      rcases hat with h | h
      · exact hat1' _ h.symm
      · injection h with hg; (try simp at hg); omega
    have HK := Lib.hid hk
    have NE := Lib.hid hne2
    have O2 := Lib.hid hown2
    clear hat hne2 hk hg2 hown2 hb1 hown1 e0 g0 hne1
    go_wp2
    go_ret
    refine ⟨rfl, [b, g2], ⟨.slice (some ⟨g2, 0, none⟩) (L.length + 1) cap2, ?_, ?_, by simp; omega, rfl⟩, ?_, ?_⟩
    · simpa using hB2.set 0 (.slice (some ⟨g2, 0, none⟩) (L.length + 1) cap2)
    · have h3 := ((Keeps.refl [b] w2).set (p := ⟨b, 0, none⟩) (by simp) (.slice (some ⟨g2, 0, none⟩) (L.length + 1) cap2)).own O2.out (by intro k hk; injection hk with hk; subst hk; simpa using NE.out)
      simpa using h3
    · rw [HF.out]; exact (HK.out.mono (by simp)).set (by simp) _
    · intro i hi
      rw [HF.out]
      simp at hi ⊢
      rcases hi with rfl | rfl
      · exact .inl (.inl rfl)
      · exact .inr hat'

set_option maxRecDepth 100000 in
theorem rlist_Push_full (b : Nat) (L : List Int) (ov : Bool) (F : List Nat) (a : Int) (w : World) (hG : RListAt w b L ov F) (hlt : L.length = 8) :
    Calls Try.prog 46 #[.pointer (some ⟨b, 0, none⟩), .int .i64 a] w (RListDoes (.returned (.bool false)) b L true F w) := by
  obtain ⟨lv, hb, hown, hl, hF⟩ := hG
  have c0 := hb.cell 0
  have c1 := hb.cell 1
  have f1 := hb.free 1
  have hne := own_type hown hb (by decide)
  simp at c0 c1
  have HF := Lib.hid hF
  have NE := Lib.hid hne
  have h8 : 8 ≤ L.length := by omega
  obtain ⟨p, cap, hv⟩ : ∃ p cap, lv = .slice p L.length cap := by
    rcases own_cases hown with ⟨rfl, hn⟩ | ⟨g, cap, hv, _⟩
    · rw [hn]; exact ⟨_, _, rfl⟩
    · exact ⟨_, _, hv⟩
  subst hv
  have O := Lib.hid hown
  clear hF hlt hne hown
  go_enter Try.func46, Try.ntmps46
  go_wp2
  go_ret
  refine ⟨rfl, F, ⟨.slice p L.length cap, ?_, ?_, hl, HF.out⟩, ?_, fun i hi => .inl hi⟩
  · simpa using hb.set 1 (.bool true)
  · exact ((Keeps.refl [b] w).set (p := ⟨b, 1, none⟩) (by simp) _).own O.out (fun k hk => by simpa using NE.out k hk)
  · exact (Keeps.refl F w).set (by rw [HF.out]; simp) _

set_option maxRecDepth 100000 in
theorem rlist_Pop_none (b : Nat) (ov : Bool) (F : List Nat) (w : World) (hG : RListAt w b [] ov F) :
    Calls Try.prog 43 #[.pointer (some ⟨b, 0, none⟩)] w (RListDoes (.returned (.tuple #[.int .i64 0, .bool false])) b [] ov F w) := by
  have G := Lib.hid hG
  obtain ⟨lv, hb, hown, hl, hF⟩ := hG
  have c0 := hb.cell 0
  simp at c0
  obtain ⟨p, cap, hv⟩ : ∃ p cap, lv = .slice p 0 cap := by
    rcases own_cases hown with ⟨rfl, hn⟩ | ⟨g, cap, hv, _⟩
    · exact ⟨_, _, rfl⟩
    · exact ⟨_, _, hv⟩
  subst hv
  clear hF hl hown
  go_enter Try.func43, Try.ntmps43
  go_wp2
  go_ret2
  exact ⟨rfl, F, G.out, Keeps.refl _ _, fun i hi => .inl hi⟩

set_option maxRecDepth 100000 in
set_option maxHeartbeats 1000000 in
theorem rlist_Pop (b : Nat) (L : List Int) (x : Int) (ov : Bool) (F : List Nat) (w : World) (hG : RListAt w b (L ++ [x]) ov F) :
    Calls Try.prog 43 #[.pointer (some ⟨b, 0, none⟩)] w (RListDoes (.returned (.tuple #[.int .i64 x, .bool true])) b L ov F w) := by
  obtain ⟨lv, hb, hown, hl, hF⟩ := hG
  obtain ⟨i0, hi, hz0, hz1, hz2⟩ := info_parts info_int
  obtain ⟨g, cap, hv, hnc, hcm, hg⟩ := own_form hown (by simp)
  subst hv
  have hcut := own_cut hown L.length (by simp)
  have e2 := own_cell hown rfl L.length (by simp)
  simp only [List.length_append, List.length_cons, List.length_nil, Nat.zero_add] at *
  have c0 := hb.cell 0
  have f0 := hb.free 0
  have hne := own_type hown hb (by decide) g rfl
  simp at c0 e2 hcut
  have HF := Lib.hid hF
  unfold maxLen at hcm
  clear hF hown
  go_enter Try.func43, Try.ntmps43
  go_wp2_with (at_builtin; refine wpList_append_own_at _ rfl (.const (.slice none 0 0)) (.tmp 27) 38 rfl 0 3 i0 (.int .i64 0) 1 8 Try.underlying38 hi hz0 hz1 hz2 rfl (by decide) _ 0 [] rfl (World.ownsRow_nil _ _ _ _) ⟨g, 0, none⟩ L.length cap (L.map (.int .i64)) rfl ?c1 (news_of_own hcut) ?c2 ?c3 ?c4 ?c5 ?_)
  case c1 => simp
  case c2 => first | rfl | (intro u hu; simp at hu; obtain ⟨x, _, rfl⟩ := hu; rfl)
  case c3 => unfold maxLen; omega
  case c4 => omega
  case c5 => omega
  intro v' w1 hown1 hg1 _ hat1
  try simp only [Nat.zero_add, List.nil_append] at hown1
  obtain ⟨p', cap', hv, hpb⟩ : ∃ p cap, v' = .slice p L.length cap ∧ ∀ k, (Value.slice p L.length cap).ownBlock = some k → w.heap.size ≤ k := by
    have hb : ∀ k, v'.ownBlock = some k → w.heap.size ≤ k := by
      intro k hk
      rcases hat1 with h | h
      · rw [h] at hk; cases hk
      · rw [h] at hk; injection hk with hk; omega
    rcases own_cases hown1 with ⟨rfl, hn⟩ | ⟨g, cap, hv, _⟩
    · rw [hn]; exact ⟨_, _, rfl, hb⟩
    · subst hv; exact ⟨_, _, rfl, hb⟩
  subst hv
  have hk1 : Keeps [] w w1 := (Keeps.refl _ _).grown hg1 (by intro k hk; cases hk)
  have hb1 := hk1.blk hb (by simp)
  have e0 := hb1.cell 0
  have g0 := hb1.free 0
  have hne1 := own_type hown1 hb1 (by decide)
  simp at e0
  have K1 := Lib.hid hk1
  have NE := Lib.hid hne1
  have O1 := Lib.hid hown1
  have PB := Lib.hid hpb
  clear hk1 hg1 hat1 hb c0 f0 hown1 hne1 hpb hcut
  go_wp2
  go_ret2
  refine ⟨rfl, b :: (Value.slice p' L.length cap').ownBlock.toList, ⟨.slice p' L.length cap', ?_, ?_, by omega, rfl⟩, ?_, ?_⟩
  · simpa using hb1.set 0 (.slice p' L.length cap')
  · exact ((Keeps.refl [b] w1).set (p := ⟨b, 0, none⟩) (by simp) _).own O1.out (fun k hk => by simpa using NE.out k hk)
  · rw [HF.out]; exact (K1.out.mono (by simp)).set (by simp) _
  · intro i hi
    rw [HF.out]
    rcases List.mem_cons.1 hi with rfl | h
    · exact .inl (by simp)
    · exact .inr (PB.out i (by simpa using h))
end Go.Proofs.Ytkjncehcabhljaa
