/- Pieces of memory side by side, and what a call does to them. -/
import Derived.Test.YtdnelekoplkkcaaRows
import Derived.Test.YtdnelekoplkkcaaMem
namespace Go.Proofs.Ytdnelekoplkkcaa
open Go.RowKit
set_option linter.unusedVariables false

/-- Something that stands in blocks F, and stands as long as these are not touched. -/
structure Piece where
  at' : World → List Nat → Prop
  keep : ∀ {w w' : World} {F G : List Nat}, at' w F → Keeps G w w' → (∀ i ∈ F, i ∉ G) → at' w' F
  lt : ∀ {w : World} {F : List Nat}, at' w F → ∀ i ∈ F, i < w.heap.size

def SepAt (w : World) : List Piece → List Nat → Prop
  | [], F => F = []
  | p :: ps, F => ∃ F1 F2, F = F1 ++ F2 ∧ p.at' w F1 ∧ SepAt w ps F2 ∧ ∀ i ∈ F1, i ∉ F2

theorem SepAt.lt {w : World} : ∀ {ps : List Piece} {F : List Nat}, SepAt w ps F → ∀ i ∈ F, i < w.heap.size
  | [], _, h => by cases h; simp
  | p :: ps, _, ⟨F1, F2, e, h1, h2, _⟩ => by
    subst e
    intro i hi
    rcases List.mem_append.1 hi with hi | hi
    · exact p.lt h1 i hi
    · exact SepAt.lt h2 i hi
theorem SepAt.keep {w w' : World} {G : List Nat} (k : Keeps G w w') : ∀ {ps : List Piece} {F : List Nat}, SepAt w ps F → (∀ i ∈ F, i ∉ G) → SepAt w' ps F
  | [], _, h, _ => h
  | p :: ps, _, ⟨F1, F2, e, h1, h2, hd⟩, hG => by
    subst e
    exact ⟨F1, F2, rfl, p.keep h1 k (fun i hi => hG i (List.mem_append_left _ hi)), SepAt.keep k h2 (fun i hi => hG i (List.mem_append_right _ hi)), hd⟩
theorem sepAt_append {w : World} : ∀ {ps qs : List Piece} {F : List Nat}, SepAt w (ps ++ qs) F ↔ ∃ F1 F2, F = F1 ++ F2 ∧ SepAt w ps F1 ∧ SepAt w qs F2 ∧ ∀ i ∈ F1, i ∉ F2
  | [], qs, F => by
    constructor
    · intro h; exact ⟨[], F, rfl, rfl, h, by simp⟩
    · rintro ⟨F1, F2, rfl, h1, h2, _⟩; cases h1; exact h2
  | p :: ps, qs, F => by
    constructor
    · rintro ⟨F1, F2, rfl, h1, h2, hd⟩
      obtain ⟨G1, G2, rfl, g1, g2, gd⟩ := sepAt_append.1 h2
      refine ⟨F1 ++ G1, G2, by simp, ⟨F1, G1, rfl, h1, g1, fun i hi hm => hd i hi (List.mem_append_left _ hm)⟩, g2, ?_⟩
      intro i hi hm
      rcases List.mem_append.1 hi with hi | hi
      · exact hd i hi (List.mem_append_right _ hm)
      · exact gd i hi hm
    · rintro ⟨F1, F2, rfl, ⟨G1, G2, rfl, g1, g2, gd⟩, h2, hd⟩
      refine ⟨G1, G2 ++ F2, by simp, g1, sepAt_append.2 ⟨G2, F2, rfl, g2, h2, fun i hi => hd i (List.mem_append_right _ hi)⟩, ?_⟩
      intro i hi hm
      rcases List.mem_append.1 hm with hm | hm
      · exact gd i hi hm
      · exact hd i (List.mem_append_left _ hi) hm
theorem SepAt.perm {w : World} {ps qs : List Piece} (hp : ps.Perm qs) : ∀ {F : List Nat}, SepAt w ps F → ∃ F', SepAt w qs F' ∧ ∀ i, i ∈ F' ↔ i ∈ F := by
  induction hp with
  | nil => intro F h; exact ⟨F, h, fun _ => Iff.rfl⟩
  | cons p _ ih =>
    rintro F ⟨F1, F2, rfl, h1, h2, hd⟩
    obtain ⟨F', h', he⟩ := ih h2
    exact ⟨F1 ++ F', ⟨F1, F', rfl, h1, h', fun i hi hm => hd i hi ((he i).1 hm)⟩, fun i => by simp [he]⟩
  | swap p q l =>
    rintro F ⟨F1, F2, rfl, h1, ⟨F3, F4, rfl, h3, h4, hd4⟩, hd⟩
    refine ⟨F3 ++ (F1 ++ F4), ⟨F3, F1 ++ F4, rfl, h3, ⟨F1, F4, rfl, h1, h4, fun i hi hm => hd i hi (List.mem_append_right _ hm)⟩, ?_⟩, fun i => by simp only [List.mem_append]; exact ⟨fun h => by rcases h with h | h | h <;> simp [h], fun h => by rcases h with h | h | h <;> simp [h]⟩⟩
    intro i hi hm
    rcases List.mem_append.1 hm with hm | hm
    · exact hd i hm (List.mem_append_left _ hi)
    · exact hd4 i hi hm
  | trans _ _ ih1 ih2 =>
    intro F h
    obtain ⟨F1, h1, e1⟩ := ih1 h
    obtain ⟨F2, h2, e2⟩ := ih2 h1
    exact ⟨F2, h2, fun i => (e2 i).trans (e1 i)⟩

/-- The pieces ps stand in wr; since w0 nothing but them, and the blocks F0, has been touched. -/
def St (w0 : World) (F0 : List Nat) (ps : List Piece) (wr : World) : Prop :=
  ∃ F, SepAt wr ps F ∧ Keeps F0 w0 wr ∧ ∀ i ∈ F, i ∈ F0 ∨ w0.heap.size ≤ i

theorem St.empty (w : World) : St w [] [] w := ⟨[], rfl, Keeps.refl _ _, by simp⟩
theorem St.old {w0 : World} {ps : List Piece} {wr : World} (h : St w0 [] ps wr) : Below w0.heap.size w0 wr := by
  obtain ⟨F, h1, h2, h3⟩ := h; exact h2.below
theorem St.keeps {w0 : World} {F0 : List Nat} {ps : List Piece} {wr : World} (h : St w0 F0 ps wr) : Keeps F0 w0 wr := by
  obtain ⟨F, h1, h2, h3⟩ := h; exact h2
/-- What was there ahead, elsewhere. -/
theorem St.cellOld {w0 : World} {ps : List Piece} {wr : World} (h : St w0 [] ps wr) {p : Addr} (hp : p.block < w0.heap.size) {v : Value} (hv : w0.cell? p = some v) : wr.cell? p = some v := (h.old.cell hp).trans hv
theorem St.perm {w0 : World} {F0 : List Nat} {ps qs : List Piece} {wr : World} (h : St w0 F0 ps wr) (hp : ps.Perm qs) : St w0 F0 qs wr := by
  obtain ⟨F, h1, h2, h3⟩ := h
  obtain ⟨F', h4, h5⟩ := h1.perm hp
  exact ⟨F', h4, h2, fun i hi => h3 i ((h5 i).1 hi)⟩
section
variable {w0 : World} {F0 : List Nat} {a b c d e f : Piece} {ps : List Piece} {wr : World}
theorem St.pick1 (h : St w0 F0 (a :: b :: ps) wr) : St w0 F0 (b :: a :: ps) wr := h.perm (List.Perm.swap _ _ _)
theorem St.pick2 (h : St w0 F0 (a :: b :: c :: ps) wr) : St w0 F0 (c :: a :: b :: ps) wr := h.perm (List.perm_middle (l₁ := [a, b]))
theorem St.pick3 (h : St w0 F0 (a :: b :: c :: d :: ps) wr) : St w0 F0 (d :: a :: b :: c :: ps) wr := h.perm (List.perm_middle (l₁ := [a, b, c]))
theorem St.pick4 (h : St w0 F0 (a :: b :: c :: d :: e :: ps) wr) : St w0 F0 (e :: a :: b :: c :: d :: ps) wr := h.perm (List.perm_middle (l₁ := [a, b, c, d]))
theorem St.pick5 (h : St w0 F0 (a :: b :: c :: d :: e :: f :: ps) wr) : St w0 F0 (f :: a :: b :: c :: d :: e :: ps) wr := h.perm (List.perm_middle (l₁ := [a, b, c, d, e]))
theorem St.back2 (h : St w0 F0 (c :: a :: b :: ps) wr) : St w0 F0 (a :: b :: c :: ps) wr := h.perm (List.perm_middle (l₁ := [a, b])).symm
theorem St.back3 (h : St w0 F0 (d :: a :: b :: c :: ps) wr) : St w0 F0 (a :: b :: c :: d :: ps) wr := h.perm (List.perm_middle (l₁ := [a, b, c])).symm
theorem St.back4 (h : St w0 F0 (e :: a :: b :: c :: d :: ps) wr) : St w0 F0 (a :: b :: c :: d :: e :: ps) wr := h.perm (List.perm_middle (l₁ := [a, b, c, d])).symm
theorem St.back5 (h : St w0 F0 (f :: a :: b :: c :: d :: e :: ps) wr) : St w0 F0 (a :: b :: c :: d :: e :: f :: ps) wr := h.perm (List.perm_middle (l₁ := [a, b, c, d, e])).symm
theorem St.swap1 (h : St w0 F0 (a :: b :: c :: ps) wr) : St w0 F0 (a :: c :: b :: ps) wr := h.perm ((List.Perm.swap _ _ _).cons _)
theorem St.swap2 (h : St w0 F0 (a :: b :: c :: d :: ps) wr) : St w0 F0 (a :: b :: d :: c :: ps) wr := h.perm (((List.Perm.swap _ _ _).cons _).cons _)
theorem St.drop (h : St w0 F0 (a :: ps) wr) : St w0 F0 ps wr := by
  obtain ⟨F, ⟨F1, F2, rfl, h1, h2, hd⟩, k, h3⟩ := h
  exact ⟨F2, h2, k, fun i hi => h3 i (List.mem_append_right _ hi)⟩
end
/-- A step that turns the pieces ps, which stand in F, to qs. -/
theorem St.step {w0 : World} {F0 : List Nat} {ps ps' qs : List Piece} {wr w' : World} (h : St w0 F0 (ps ++ qs) wr) (hs : ∀ F, SepAt wr ps F → ∃ F', SepAt w' ps' F' ∧ Keeps F wr w' ∧ ∀ i ∈ F', i ∈ F ∨ wr.heap.size ≤ i) : St w0 F0 (ps' ++ qs) w' := by
  obtain ⟨F, h1, k, h3⟩ := h
  obtain ⟨F1, F2, rfl, g1, g2, gd⟩ := sepAt_append.1 h1
  obtain ⟨F', a1, a2, a3⟩ := hs F1 g1
  refine ⟨F' ++ F2, sepAt_append.2 ⟨F', F2, rfl, a1, g2.keep a2 (fun i hi hm => gd i hm hi), ?_⟩, k.trans a2 (fun i hi => h3 i (List.mem_append_left _ hi)), ?_⟩
  · intro i hi hm
    rcases a3 i hi with hi | hi
    · exact gd i hi hm
    · have := g2.lt i hm; omega
  · intro i hi
    rcases List.mem_append.1 hi with hi | hi
    · rcases a3 i hi with hi | hi
      · exact h3 i (List.mem_append_left _ hi)
      · exact .inr (Nat.le_trans k.size hi)
    · exact h3 i (List.mem_append_right _ hi)
theorem St.step1 {w0 : World} {F0 : List Nat} {p p' : Piece} {qs : List Piece} {wr w' : World} (h : St w0 F0 (p :: qs) wr) (hs : ∀ F, p.at' wr F → ∃ F', p'.at' w' F' ∧ Keeps F wr w' ∧ ∀ i ∈ F', i ∈ F ∨ wr.heap.size ≤ i) : St w0 F0 (p' :: qs) w' :=
  St.step (ps := [p]) (ps' := [p']) h (by
    rintro F ⟨F1, F2, rfl, h1, h2, hd⟩
    cases h2
    obtain ⟨F', a, b, c⟩ := hs F1 h1
    exact ⟨F' ++ [], ⟨F', [], rfl, a, rfl, by simp⟩, by simpa using b, by simpa using c⟩)
theorem St.below {w0 : World} {F0 : List Nat} {ps : List Piece} {wr w' : World} (h : St w0 F0 ps wr) (hb : Below wr.heap.size wr w') : St w0 F0 ps w' :=
  St.step (ps := []) (ps' := []) h (by rintro F h1; cases h1; exact ⟨[], rfl, Keeps.of_below hb _, by simp⟩)
theorem St.drew {w0 : World} {F0 : List Nat} {ps : List Piece} {wr : World} (h : St w0 F0 ps wr) : St w0 F0 ps wr.drew := h.below (Below.refl _ _).drew
theorem St.drewN {w0 : World} {F0 : List Nat} {ps : List Piece} {wr : World} (h : St w0 F0 ps wr) (n : Nat) : St w0 F0 ps (wr.drewN n) := h.below ((Keeps.refl [] _).drewN n).below
theorem St.alloc {w0 : World} {F0 : List Nat} {ps : List Piece} {wr : World} (h : St w0 F0 ps wr) (o : Obj) : St w0 F0 ps (wr.alloc o) := h.below ((Below.refl _ _).alloc (Nat.le_refl _) o)
/-- A world that stands a little later. -/
theorem St.since {w0 w1 : World} {F0 : List Nat} {ps : List Piece} {wr : World} (h : St w1 [] ps wr) (hb : Below w0.heap.size w0 w1) : St w0 [] ps wr := by
  obtain ⟨F, h1, h2, h3⟩ := h
  exact ⟨F, h1, (Keeps.of_below hb []).trans h2 (by simp), fun i hi => .inr (Nat.le_trans hb.size ((h3 i hi).resolve_left (by simp)))⟩

/-- A new piece. -/
theorem St.push {w0 : World} {F0 : List Nat} {p : Piece} {ps : List Piece} {wr w' : World} (h : St w0 F0 ps wr) (hb : Below wr.heap.size wr w') (hp : ∃ F, p.at' w' F ∧ ∀ i ∈ F, wr.heap.size ≤ i) : St w0 F0 (p :: ps) w' :=
  St.step (ps := []) (ps' := [p]) h (by
    rintro F h1; cases h1
    obtain ⟨F', a, b⟩ := hp
    exact ⟨F' ++ [], ⟨F', [], rfl, a, rfl, by simp⟩, Keeps.of_below hb _, by simpa using fun i hi => b i hi⟩)

/-- A block known whole. -/
def BlkP (g : Nat) (t : TypeId) (cs : Array Value) : Piece where
  at' w F := Blk w g t cs ∧ F = [g]
  keep := by rintro w w' F G ⟨h, rfl⟩ k hd; exact ⟨k.blk h (hd _ (by simp)), rfl⟩
  lt := by rintro w F ⟨h, rfl⟩ i hi; simp at hi; subst hi; exact h.lt
/-- Several pieces as one. -/
def SepP (ps : List Piece) : Piece where
  at' w F := SepAt w ps F
  keep h k hd := h.keep k hd
  lt h := h.lt
def ExP {α : Type} (q : α → Piece) : Piece where
  at' w F := ∃ x, (q x).at' w F
  keep := by rintro w w' F G ⟨x, h⟩ k hd; exact ⟨x, (q x).keep h k hd⟩
  lt := by rintro w F ⟨x, h⟩; exact (q x).lt h
/-- A piece of which something is known. -/
def WithP (φ : Prop) (p : Piece) : Piece where
  at' w F := φ ∧ p.at' w F
  keep := by rintro w w' F G ⟨x, h⟩ k hd; exact ⟨x, p.keep h k hd⟩
  lt := by rintro w F ⟨x, h⟩; exact p.lt h

theorem St.sep {w0 : World} {F0 : List Nat} {ps qs : List Piece} {wr : World} : St w0 F0 (SepP ps :: qs) wr ↔ St w0 F0 (ps ++ qs) wr := by
  constructor
  · rintro ⟨F, ⟨F1, F2, rfl, h1, h2, hd⟩, k, h3⟩
    exact ⟨F1 ++ F2, sepAt_append.2 ⟨F1, F2, rfl, h1, h2, hd⟩, k, h3⟩
  · rintro ⟨F, h, k, h3⟩
    obtain ⟨F1, F2, rfl, h1, h2, hd⟩ := sepAt_append.1 h
    exact ⟨F1 ++ F2, ⟨F1, F2, rfl, h1, h2, hd⟩, k, h3⟩
theorem St.ex {α : Type} {w0 : World} {F0 : List Nat} {q : α → Piece} {qs : List Piece} {wr : World} : St w0 F0 (ExP q :: qs) wr ↔ ∃ x, St w0 F0 (q x :: qs) wr := by
  constructor
  · rintro ⟨F, ⟨F1, F2, rfl, ⟨x, h1⟩, h2, hd⟩, k, h3⟩
    exact ⟨x, _, ⟨F1, F2, rfl, h1, h2, hd⟩, k, h3⟩
  · rintro ⟨x, F, ⟨F1, F2, rfl, h1, h2, hd⟩, k, h3⟩
    exact ⟨_, ⟨F1, F2, rfl, ⟨x, h1⟩, h2, hd⟩, k, h3⟩
theorem St.with {φ : Prop} {w0 : World} {F0 : List Nat} {p : Piece} {qs : List Piece} {wr : World} : St w0 F0 (WithP φ p :: qs) wr ↔ φ ∧ St w0 F0 (p :: qs) wr := by
  constructor
  · rintro ⟨F, ⟨F1, F2, rfl, ⟨x, h1⟩, h2, hd⟩, k, h3⟩
    exact ⟨x, _, ⟨F1, F2, rfl, h1, h2, hd⟩, k, h3⟩
  · rintro ⟨x, F, ⟨F1, F2, rfl, h1, h2, hd⟩, k, h3⟩
    exact ⟨_, ⟨F1, F2, rfl, ⟨x, h1⟩, h2, hd⟩, k, h3⟩
/-- What a piece says. -/
theorem St.head {w0 : World} {F0 : List Nat} {p : Piece} {qs : List Piece} {wr : World} (h : St w0 F0 (p :: qs) wr) : ∃ F, p.at' wr F := by
  obtain ⟨F, ⟨F1, F2, rfl, h1, h2, hd⟩, k, h3⟩ := h
  exact ⟨F1, h1⟩
theorem St.blk {w0 : World} {F0 : List Nat} {g : Nat} {t : TypeId} {cs : Array Value} {qs : List Piece} {wr : World} (h : St w0 F0 (BlkP g t cs :: qs) wr) : Blk wr g t cs := by
  obtain ⟨F, h1⟩ := h.head; exact h1.1
theorem SepAt.get {w : World} : ∀ {ps : List Piece} {F : List Nat}, SepAt w ps F → ∀ (k : Nat) {p : Piece}, ps[k]? = some p → ∃ G, p.at' w G
  | [], _, _, k, p, hk => by simp at hk
  | q :: ps, _, ⟨F1, F2, _, h1, h2, _⟩, 0, p, hk => by simp at hk; subst hk; exact ⟨F1, h1⟩
  | q :: ps, _, ⟨F1, F2, _, h1, h2, _⟩, k + 1, p, hk => by simp at hk; exact SepAt.get h2 k hk
theorem St.get {w0 : World} {F0 : List Nat} {ps : List Piece} {wr : World} (h : St w0 F0 ps wr) (k : Nat) {p : Piece} (hk : ps[k]? = some p) : ∃ G, p.at' wr G := by
  obtain ⟨F, h1, _⟩ := h; exact h1.get k hk
/-- A cell of the piece at number k. -/
theorem St.cell {w0 : World} {F0 : List Nat} {ps : List Piece} {wr : World} {g : Nat} {t : TypeId} {cs : Array Value} (h : St w0 F0 ps wr) (k : Nat) (hk : ps[k]? = some (BlkP g t cs)) (i : Nat) {v : Value} (hi : cs[i]? = some v) : wr.cell? ⟨g, i, none⟩ = some v := by
  obtain ⟨G, h1⟩ := h.get k hk
  exact (h1.1.cell i).trans hi
theorem St.free {w0 : World} {F0 : List Nat} {ps : List Piece} {wr : World} {g : Nat} {t : TypeId} {cs : Array Value} (h : St w0 F0 ps wr) (k : Nat) (hk : ps[k]? = some (BlkP g t cs)) (i : Nat) : wr.frozen? ⟨g, i, none⟩ = false := by
  obtain ⟨G, h1⟩ := h.get k hk
  exact h1.1.free i
theorem St.set {w0 : World} {F0 : List Nat} {g : Nat} {t : TypeId} {cs : Array Value} {qs : List Piece} {wr : World} (h : St w0 F0 (BlkP g t cs :: qs) wr) (i : Nat) (v : Value) : St w0 F0 (BlkP g t (cs.setIfInBounds i v) :: qs) (wr.setCell ⟨g, i, none⟩ v) :=
  h.step1 (by
    rintro F ⟨h1, rfl⟩
    exact ⟨[g], ⟨h1.set i v, rfl⟩, (Keeps.refl _ _).set (by simp) _, by simp⟩)
theorem St.new {w0 : World} {F0 : List Nat} {ps : List Piece} {wr : World} (h : St w0 F0 ps wr) (cs : Array Value) (t : TypeId) : St w0 F0 (BlkP wr.heap.size t cs :: ps) (wr.alloc (.cells cs t)) :=
  h.push ((Below.refl _ _).alloc (Nat.le_refl _) _) ⟨_, ⟨Blk.new _ _ _, rfl⟩, by simp⟩
/-- Two pieces of a kind of which each block stands once are at different places. -/
theorem St.two {w0 : World} {F0 : List Nat} {g g' : Nat} {t t' : TypeId} {cs cs' : Array Value} {qs : List Piece} {wr : World} (h : St w0 F0 (BlkP g t cs :: BlkP g' t' cs' :: qs) wr) : g ≠ g' := by
  obtain ⟨F, ⟨F1, F2, rfl, ⟨h1, rfl⟩, ⟨F3, F4, rfl, ⟨h3, rfl⟩, h4, hd4⟩, hd⟩, k, h3⟩ := h
  intro e; subst e; exact hd g (by simp) (by simp)

/-- A contract of a call that turns one piece, of which nothing else is known. -/
theorem St.call {P : Program} {w0 : World} {F0 : List Nat} {p p' : Piece} {qs : List Piece} {wr : World} {fn : FuncId} {args : Array Value} {r : Ending} (h : St w0 F0 (p :: qs) wr)
    (hc : ∀ F, p.at' wr F → Calls P fn args wr fun e w' => e = r ∧ ∃ F', p'.at' w' F' ∧ Keeps F wr w' ∧ ∀ i ∈ F', i ∈ F ∨ wr.heap.size ≤ i) :
    Calls P fn args wr fun e w' => e = r ∧ St w0 F0 (p' :: qs) w' := by
  obtain ⟨F, ⟨F1, F2, rfl, h1, h2, hd⟩, k, h3⟩ := h
  refine (hc F1 h1).mono fun e w' ⟨he, F', a1, a2, a3⟩ => ⟨he, ?_⟩
  refine ⟨F' ++ F2, ⟨F', F2, rfl, a1, h2.keep a2 (fun i hi hm => hd i hm hi), ?_⟩, k.trans a2 (fun i hi => h3 i (List.mem_append_left _ hi)), ?_⟩
  · intro i hi hm
    rcases a3 i hi with hi | hi
    · exact hd i hi hm
    · have := h2.lt i hm; omega
  · intro i hi
    rcases List.mem_append.1 hi with hi | hi
    · rcases a3 i hi with hi | hi
      · exact h3 i (List.mem_append_left _ hi)
      · exact .inr (Nat.le_trans k.size hi)
    · exact h3 i (List.mem_append_right _ hi)
/-- A contract of a call that turns nothing that was there. -/
theorem St.ask {P : Program} {w0 : World} {F0 : List Nat} {p : Piece} {qs : List Piece} {wr : World} {fn : FuncId} {args : Array Value} {r : Ending} (h : St w0 F0 (p :: qs) wr)
    (hc : ∀ F, p.at' wr F → Calls P fn args wr fun e w' => e = r ∧ Below wr.heap.size wr w') :
    Calls P fn args wr fun e w' => e = r ∧ St w0 F0 (p :: qs) w' := by
  obtain ⟨F, h1⟩ := h.head
  exact (hc F h1).mono fun e w' ⟨he, hb⟩ => ⟨he, h.below hb⟩
end Go.Proofs.Ytdnelekoplkkcaa
