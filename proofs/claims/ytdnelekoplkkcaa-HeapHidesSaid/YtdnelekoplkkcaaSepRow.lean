/- Rows of numbers of the call's own, as pieces. -/
import Derived.Test.YtdnelekoplkkcaaSep
namespace Go.Proofs.Ytdnelekoplkkcaa
open Go.RowKit
set_option linter.unusedVariables false

theorem info_iV : (Try.prog.info? 3).map (fun i => (i.zero, i.size, i.bytes)) = some (some (.int .i64 0), 1, 8) := by kernel_rfl
def iV (l : List Int) : List Value := l.map (.int .i64)
theorem iV_len (l : List Int) : (iV l).length = l.length := by simp [iV]
/-- The slice v, of the call's own memory, holds the numbers L. -/
def RowP (v : Value) (L : List Int) : Piece where
  at' w F := w.ownsRow 0 3 1 v L.length (iV L) ∧ F = v.ownBlock.toList
  keep := by rintro w w' F G ⟨h, rfl⟩ k hd; exact ⟨k.own h (fun g hg => hd _ (by simp [hg])), rfl⟩
  lt := by rintro w F ⟨h, rfl⟩ i hi; simp at hi; exact own_lt h i hi
theorem St.nil {w0 : World} {F0 : List Nat} {ps : List Piece} {wr : World} (h : St w0 F0 ps wr) : St w0 F0 (RowP (.slice none 0 0) [] :: ps) wr :=
  h.push (Below.refl _ _) ⟨[], ⟨World.ownsRow_nil _ _ _ _, rfl⟩, by simp⟩
theorem St.row {w0 : World} {F0 : List Nat} {ps : List Piece} {wr : World} (h : St w0 F0 ps wr) (k : Nat) {v : Value} {L : List Int} (hk : ps[k]? = some (RowP v L)) : wr.ownsRow 0 3 1 v L.length (iV L) := by
  obtain ⟨G, h1⟩ := h.get k hk; exact h1.1
theorem own_shape {w : World} {e size n : Nat} {v : Value} {xs : List Value} (h : w.ownsRow 0 e size v n xs) : n ≤ maxLen ∧ ∃ p c, v = .slice p n c ∧ (n = 0 ∨ ∃ g, p = some ⟨g, 0, none⟩) := by
  rcases own_cases h with ⟨rfl, hn⟩ | ⟨g, cap, rfl, h2, h3, _⟩
  · exact ⟨by rw [hn]; exact Nat.zero_le _, _, _, by rw [hn], .inl hn⟩
  · exact ⟨Nat.le_trans h2 h3, _, _, rfl, .inr ⟨g, rfl⟩⟩
theorem St.shape {w0 : World} {F0 : List Nat} {ps : List Piece} {wr : World} (h : St w0 F0 ps wr) (k : Nat) {v : Value} {L : List Int} (hk : ps[k]? = some (RowP v L)) : L.length ≤ maxLen ∧ ∃ p c, v = .slice p L.length c ∧ (L.length = 0 ∨ ∃ g, p = some ⟨g, 0, none⟩) := own_shape (h.row k hk)
theorem own_num {w : World} {g n c : Nat} {L : List Int} (h : w.ownsRow 0 3 1 (.slice (some ⟨g, 0, none⟩) n c) L.length (iV L)) (i : Nat) (hi : i < L.length) : w.cell? ⟨g, i, none⟩ = some (.int .i64 L[i]) := by
  have := own_cell h (g := g) rfl i (by simp [iV]; omega)
  simpa [iV] using this
theorem St.num {w0 : World} {F0 : List Nat} {ps : List Piece} {wr : World} {g n c : Nat} {L : List Int} (h : St w0 F0 ps wr) (k : Nat) (hk : ps[k]? = some (RowP (.slice (some ⟨g, 0, none⟩) n c) L)) (i : Nat) (hi : i < L.length) : wr.cell? ⟨g, i, none⟩ = some (.int .i64 L[i]) := own_num (h.row k hk) i hi

theorem St.grow {w0 : World} {F0 : List Nat} {ps : List Piece} {wr w3 : World} {v v' : Value} {L : List Int} {x : Int} {o : Obj} (h : St w0 F0 (RowP v L :: ps) wr)
    (ho : w3.ownsRow 0 3 1 v' (L.length + 1) (iV L ++ [.int .i64 x])) (hg : (wr.alloc o).grownBy w3 v.ownBlock) (hat : v'.ownBlock = v.ownBlock ∨ v'.ownBlock = some (wr.alloc o).heap.size) : St w0 F0 (RowP v' (L ++ [x]) :: ps) w3 :=
  h.step1 (by
    rintro F ⟨h1, rfl⟩
    refine ⟨v'.ownBlock.toList, ⟨by simpa [iV] using ho, rfl⟩, ((Keeps.refl _ _).alloc o).grown hg (fun k hk => .inl (by simp [hk])), ?_⟩
    intro i hi
    simp at hi
    rcases hat with e | e
    · left; simp [← e, hi]
    · right; rw [e] at hi; injection hi with hi; have : (wr.alloc o).heap.size = wr.heap.size + 1 := by simp
      omega)

theorem St.grow' {w0 : World} {F0 : List Nat} {ps : List Piece} {wr w3 : World} {v v' : Value} {L : List Int} {x : Int} (h : St w0 F0 (RowP v L :: ps) wr)
    (ho : w3.ownsRow 0 3 1 v' (L.length + 1) (iV L ++ [.int .i64 x])) (hg : wr.grownBy w3 v.ownBlock) (hat : v'.ownBlock = v.ownBlock ∨ v'.ownBlock = some wr.heap.size) : St w0 F0 (RowP v' (L ++ [x]) :: ps) w3 :=
  h.step1 (by
    rintro F ⟨h1, rfl⟩
    refine ⟨v'.ownBlock.toList, ⟨by simpa [iV] using ho, rfl⟩, (Keeps.refl _ _).grown hg (fun k hk => .inl (by simp [hk])), ?_⟩
    intro i hi
    simp at hi
    rcases hat with e | e
    · left; simp [← e, hi]
    · right; rw [e] at hi; injection hi with hi; omega)
/-- append of one number onto a row of the call's own. -/
theorem wpList_grow {ops : Array Oper} {rest : List Oper} {o : Oper} {a : Act} {Q : Exit → Act → World → Prop} {w0 : World} {F0 : List Nat} {ps : List Piece} {W : World} {v : Value} {L : List Int} {y : Int} {ob : Obj}
    (hgd : o.guard = none) (s x : Operand) (ho : o.op = .call { callee := .builtin .append, args := #[s, x], argTypes := #[55, 55] })
    (h : St w0 F0 (RowP v L :: ps) W) (hob : ob = .cells #[.int .i64 y] 3) (hs : a.eval s = v) (hx : a.eval x = .slice (some ⟨W.heap.size, 0, none⟩) 1 1) (hl : L.length < 1000000)
    (hK : ∀ v' w', St w0 F0 (RowP v' (L ++ [y]) :: ps) w' → v' ≠ .slice none 0 0 → wpList Try.prog ops Q rest (a.put o.dst v') w') :
    wpList Try.prog ops Q (o :: rest) a (W.alloc ob) := by
  subst hob
  obtain ⟨i0, hi, hz0, hz1, hz2⟩ := info_parts info_iV
  refine wpList_append_own_at _ hgd s x 55 ho 0 3 i0 (.int .i64 0) 1 8 Try.underlying55 hi hz0 hz1 hz2 rfl (by decide) v L.length (iV L) hs ((h.row 0 rfl).alloc _) ⟨W.heap.size, 0, none⟩ 1 1 [.int .i64 y] hx rfl (cell_one_new _ _ _) ?_ (by unfold maxLen; omega) (by omega) (Nat.zero_le _) ?_
  · intro u hu; simp at hu; subst hu; rfl
  · intro v' w' ho' hg' hn' hat'
    exact hK v' w' (h.grow ho' hg' hat') (fun e => by have := (hn'.1 e).2; cases this)
/-- .. whose length is at hand. -/
theorem wpList_growN {ops : Array Oper} {rest : List Oper} {o : Oper} {a : Act} {Q : Exit → Act → World → Prop} {w0 : World} {F0 : List Nat} {ps : List Piece} {W : World} {v : Value} {L : List Int} {y : Int} {ob : Obj} (n : Nat) (hn : L.length = n) (hl : n < 1000000)
    (hgd : o.guard = none) (s x : Operand) (ho : o.op = .call { callee := .builtin .append, args := #[s, x], argTypes := #[55, 55] })
    (h : St w0 F0 (RowP v L :: ps) W) (hob : ob = .cells #[.int .i64 y] 3) (hs : a.eval s = v) (hx : a.eval x = .slice (some ⟨W.heap.size, 0, none⟩) 1 1)
    (hK : ∀ g c w', St w0 F0 (RowP (.slice (some ⟨g, 0, none⟩) (n + 1) c) (L ++ [y]) :: ps) w' → wpList Try.prog ops Q rest (a.put o.dst (.slice (some ⟨g, 0, none⟩) (n + 1) c)) w') :
    wpList Try.prog ops Q (o :: rest) a (W.alloc ob) := by
  subst hn
  refine wpList_grow hgd s x ho h hob hs hx hl fun v' w' h' _ => ?_
  obtain ⟨_, p, c, rfl, hp⟩ := h'.shape 0 rfl
  simp only [List.length_append, List.length_cons, List.length_nil] at h' hp ⊢
  obtain ⟨g, rfl⟩ := hp.resolve_left (by omega)
  exact hK g c w' h'
end Go.Proofs.Ytdnelekoplkkcaa
