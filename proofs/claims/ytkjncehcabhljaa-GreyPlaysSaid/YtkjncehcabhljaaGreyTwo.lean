/- The list and the reference's, side by side. -/
import Derived.Test.YtkjncehcabhljaaGreyAny
namespace Go.Proofs.Ytkjncehcabhljaa
open Go.RowKit
set_option linter.unusedVariables false

/-- Both lists stand in the call's own memory, apart from each other. -/
def Two (w : World) (b rb : Nat) (L1 : List Int) (o1 : Bool) (L2 : List Int) (o2 : Bool) (wr : World) : Prop :=
  ∃ F G, GreyAt wr b L1 o1 F ∧ RListAt wr rb L2 o2 G ∧ Fresh w wr (F ++ G) ∧ ∀ i ∈ F, i ∉ G

theorem GreyAt.drew {w : World} {b : Nat} {L : List Int} {ov : Bool} {F : List Nat} (h : GreyAt w b L ov F) : GreyAt w.drew b L ov F := h
theorem RListAt.drew {w : World} {b : Nat} {L : List Int} {ov : Bool} {F : List Nat} (h : RListAt w b L ov F) : RListAt w.drew b L ov F := h
theorem Two.drew {w wr : World} {b rb : Nat} {L1 L2 : List Int} {o1 o2 : Bool} (h : Two w b rb L1 o1 L2 o2 wr) : Two w b rb L1 o1 L2 o2 wr.drew := by
  obtain ⟨F, G, h1, h2, h3, h4⟩ := h
  exact ⟨F, G, h1, h2, ⟨h3.1.drew, h3.2⟩, h4⟩
theorem Two.below {w wr wc : World} {b rb : Nat} {L1 L2 : List Int} {o1 o2 : Bool} (h : Two w b rb L1 o1 L2 o2 wr) (hb : Below wr.heap.size wr wc) : Two w b rb L1 o1 L2 o2 wc := by
  obtain ⟨F, G, h1, h2, h3, h4⟩ := h
  exact ⟨F, G, h1.keep (Keeps.of_below hb []) (by simp), h2.keep (Keeps.of_below hb []) (by simp), h3.below hb, h4⟩
theorem Two.grey {w wr w4 : World} {b rb : Nat} {L1 L1' L2 : List Int} {o1 o1' o2 : Bool} {F G F3 : List Nat} (g : GreyAt wr b L1 o1 F) (r : RListAt wr rb L2 o2 G) (fr : Fresh w wr (F ++ G)) (dj : ∀ i ∈ F, i ∉ G)
    (g3 : GreyAt w4 b L1' o1' F3) (k3 : Keeps F wr w4) (f3 : ∀ i ∈ F3, i ∈ F ∨ wr.heap.size ≤ i) : Two w b rb L1' o1' L2 o2 w4 := by
  have hlt := r.lt
  refine ⟨F3, G, g3, r.keep k3 (fun i hi hf => dj i hf hi), ⟨fr.1.trans k3 (fun i hi => .inr (fr.2 i (by simp [hi]))), ?_⟩, ?_⟩
  · intro i hi
    rcases List.mem_append.1 hi with h | h
    · rcases f3 i h with h | h
      · exact fr.2 i (by simp [h])
      · exact Nat.le_trans fr.1.size h
    · exact fr.2 i (by simp [h])
  · intro i hi hg
    rcases f3 i hi with h | h
    · exact dj i h hg
    · have := hlt i hg; omega
theorem Two.rlist {w wr w4 : World} {b rb : Nat} {L1 L2 L2' : List Int} {o1 o2 o2' : Bool} {F G G3 : List Nat} (g : GreyAt wr b L1 o1 F) (r : RListAt wr rb L2 o2 G) (fr : Fresh w wr (F ++ G)) (dj : ∀ i ∈ F, i ∉ G)
    (g3 : RListAt w4 rb L2' o2' G3) (k3 : Keeps G wr w4) (f3 : ∀ i ∈ G3, i ∈ G ∨ wr.heap.size ≤ i) : Two w b rb L1 o1 L2' o2' w4 := by
  have hlt := g.lt
  refine ⟨F, G3, g.keep k3 (fun i hi hf => dj i hi hf), g3, ⟨fr.1.trans k3 (fun i hi => .inr (fr.2 i (by simp [hi]))), ?_⟩, ?_⟩
  · intro i hi
    rcases List.mem_append.1 hi with h | h
    · exact fr.2 i (by simp [h])
    · rcases f3 i h with h | h
      · exact fr.2 i (by simp [h])
      · exact Nat.le_trans fr.1.size h
  · intro i hi hg
    rcases f3 i hg with h | h
    · exact dj i hi h
    · have := hlt i hi; omega
theorem Two.cell {w wr : World} {b rb : Nat} {L1 L2 : List Int} {o1 o2 : Bool} (h : Two w b rb L1 o1 L2 o2 wr) {p : Addr} (hp : p.block < w.heap.size) : wr.cell? p = w.cell? p := by
  obtain ⟨F, G, h1, h2, h3, h4⟩ := h
  exact h3.1.below.cell hp
theorem Two.over {w wr : World} {b rb : Nat} {L1 L2 : List Int} {o1 o2 : Bool} (h : Two w b rb L1 o1 L2 o2 wr) :
    ∃ p cap, wr.cell? ⟨rb, 0, none⟩ = some (.slice p L2.length cap) ∧ wr.cell? ⟨rb, 1, none⟩ = some (.bool o2) ∧ wr.frozen? ⟨rb, 1, none⟩ = false ∧ L2.length ≤ 8 ∧ rb < wr.heap.size := by
  obtain ⟨F, G, h1, ⟨lv, hb, hown, hl, rfl⟩, h3, h4⟩ := h
  obtain ⟨p, cap, hv⟩ : ∃ p cap, lv = .slice p L2.length cap := by
    rcases own_cases hown with ⟨rfl, hn⟩ | ⟨g, cap, hv, _⟩
    · rw [hn]; exact ⟨_, _, rfl⟩
    · exact ⟨_, _, hv⟩
  subst hv
  have c0 := hb.cell 0
  have c1 := hb.cell 1
  exact ⟨p, cap, by simpa using c0, by simpa using c1, hb.free 1, hl, hb.lt⟩
theorem Two.clear {w wr : World} {b rb : Nat} {L1 L2 : List Int} {o1 o2 : Bool} (h : Two w b rb L1 o1 L2 o2 wr) : Two w b rb L1 o1 L2 false (wr.setCell ⟨rb, 1, none⟩ (.bool false)) := by
  obtain ⟨F, G, g, ⟨lv, hb, hown, hl, rfl⟩, fr, dj⟩ := h
  have hne := own_type hown hb (by decide)
  refine Two.rlist g ⟨lv, hb, hown, hl, rfl⟩ fr dj (G3 := rb :: lv.ownBlock.toList) ⟨lv, ?_, ?_, hl, rfl⟩ ((Keeps.refl _ _).set (by simp) _) (fun i hi => .inl hi)
  · simpa using hb.set 1 (.bool false)
  · exact ((Keeps.refl [rb] wr).set (p := ⟨rb, 1, none⟩) (by simp) _).own hown (fun k hk => by simpa using hne k hk)
theorem grey_LenT {w wr : World} {b rb : Nat} {L1 L2 : List Int} {o1 o2 : Bool} (h : Hid (Two w b rb L1 o1 L2 o2 wr)) :
    Calls Try.prog 47 #[.pointer (some ⟨b, 0, none⟩)] wr fun e w' => e = .returned (.int .i64 L1.length) ∧ Hid (Two w b rb L1 o1 L2 o2 w') ∧ Hid (∀ v i, wr.cell? ⟨rb, i, none⟩ = some v → w'.cell? ⟨rb, i, none⟩ = some v) := by
  have h1 := h.out
  obtain ⟨F, G, g, r, fr, dj⟩ := h.out
  refine (grey_LenG _ _ _ _ _ g).mono ?_
  rintro e w' ⟨he, hb⟩
  refine ⟨he, h1.below hb, fun v i hv => ?_⟩
  obtain ⟨p, cap, _, _, _, _, hlt⟩ := h1.over
  exact (hb.cell (p := ⟨rb, i, none⟩) hlt).trans hv
theorem grey_OverT {w wr : World} {b rb : Nat} {L1 L2 : List Int} {o1 o2 : Bool} (h : Hid (Two w b rb L1 o1 L2 o2 wr)) :
    Calls Try.prog 48 #[.pointer (some ⟨b, 0, none⟩)] wr fun e w' => e = .returned (.bool o1) ∧ wr = w' := by
  obtain ⟨F, G, g, r, fr, dj⟩ := h.out
  exact grey_Over _ _ _ _ _ g
end Go.Proofs.Ytkjncehcabhljaa
