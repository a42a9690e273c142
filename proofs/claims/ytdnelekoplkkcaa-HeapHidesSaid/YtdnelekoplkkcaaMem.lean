/- Blocks of memory known whole, and what a call keeps. -/
import Derived.WalkKit
import Derived.Laws.AppendOwn
import Derived.Maps.AppendAt
import Derived.WalkSmall
import Derived.Lib.Hide
namespace Go.Proofs.Ytdnelekoplkkcaa
open Go.RowKit

/-- Block g is cells cs of type t, and may be written. -/
def Blk (w : World) (g : Nat) (t : TypeId) (cs : Array Value) : Prop := w.heap[g]? = some (.cells cs t (0, 0))

theorem Blk.lt {w : World} {g : Nat} {t : TypeId} {cs : Array Value} (h : Blk w g t cs) : g < w.heap.size := (Array.getElem?_eq_some_iff.1 h).1
theorem Blk.cell {w : World} {g : Nat} {t : TypeId} {cs : Array Value} (h : Blk w g t cs) (i : Nat) : w.cell? ⟨g, i, none⟩ = cs[i]? := by
  unfold Blk at h; simp [World.cell?, h]
theorem Blk.free {w : World} {g : Nat} {t : TypeId} {cs : Array Value} (h : Blk w g t cs) (i : Nat) : w.frozen? ⟨g, i, none⟩ = false := by
  unfold Blk at h; simp [World.frozen?, h]
theorem Blk.of_eq {w w' : World} {g : Nat} {t : TypeId} {cs : Array Value} (h : Blk w g t cs) (e : w'.heap[g]? = w.heap[g]?) : Blk w' g t cs := e.trans h
theorem Blk.below {B : Nat} {w w' : World} {g : Nat} {t : TypeId} {cs : Array Value} (h : Blk w g t cs) (hb : Below B w w') (hg : g < B) : Blk w' g t cs := (hb.block g hg).trans h
theorem Blk.new (w : World) (t : TypeId) (cs : Array Value) : Blk (w.alloc (.cells cs t)) w.heap.size t cs := by
  show (w.heap.push _)[w.heap.size]? = _; simp
theorem Blk.alloc {w : World} {g : Nat} {t : TypeId} {cs : Array Value} (h : Blk w g t cs) (o : Obj) : Blk (w.alloc o) g t cs := (Below.heap_alloc w o g h.lt).trans h
theorem Blk.drewN {w : World} {g : Nat} {t : TypeId} {cs : Array Value} (h : Blk w g t cs) (n : Nat) : Blk (w.drewN n) g t cs := h
theorem Blk.drew {w : World} {g : Nat} {t : TypeId} {cs : Array Value} (h : Blk w g t cs) : Blk w.drew g t cs := h
theorem Blk.far {w : World} {g : Nat} {t : TypeId} {cs : Array Value} (h : Blk w g t cs) {p : Addr} (hp : g ≠ p.block) (u : Value) : Blk (w.setCell p u) g t cs := (Below.heap_setCell w p u g hp).trans h
theorem Blk.set {w : World} {g : Nat} {t : TypeId} {cs : Array Value} (h : Blk w g t cs) (i : Nat) (u : Value) : Blk (w.setCell ⟨g, i, none⟩ u) g t (cs.setIfInBounds i u) := by
  unfold Blk at *; simp only [World.setCell, Array.getElem?_modify, if_true, h]; rfl

/-- All that there is, but for the blocks F, stands as it stood. -/
structure Keeps (F : List Nat) (w w' : World) : Prop where
  os : w'.os = w.os
  tape : w'.tape = w.tape
  output : w'.output = w.output
  size : w.heap.size ≤ w'.heap.size
  block : ∀ k, k < w.heap.size → k ∉ F → w'.heap[k]? = w.heap[k]?

theorem Keeps.refl (F : List Nat) (w : World) : Keeps F w w := ⟨rfl, rfl, rfl, Nat.le_refl _, fun _ _ _ => rfl⟩
theorem Keeps.of_below {w w' : World} (h : Below w.heap.size w w') (F : List Nat) : Keeps F w w' := ⟨h.os, h.tape, h.output, h.size, fun k hk _ => h.block k hk⟩
theorem Keeps.below {w w' : World} (h : Keeps [] w w') : Below w.heap.size w w' := ⟨h.os, h.tape, h.output, h.size, fun k hk => h.block k hk (by simp)⟩
theorem Keeps.trans {F G : List Nat} {a b c : World} (h : Keeps F a b) (k : Keeps G b c) (hG : ∀ i ∈ G, i ∈ F ∨ a.heap.size ≤ i) : Keeps F a c :=
  ⟨k.os.trans h.os, k.tape.trans h.tape, k.output.trans h.output, Nat.le_trans h.size k.size, fun i hi hF =>
    (k.block i (Nat.lt_of_lt_of_le hi h.size) (fun hm => (hG i hm).elim hF (by omega))).trans (h.block i hi hF)⟩
theorem Keeps.mono {F G : List Nat} {a b : World} (h : Keeps F a b) (hF : ∀ i ∈ F, i ∈ G) : Keeps G a b := ⟨h.os, h.tape, h.output, h.size, fun k hk hG => h.block k hk (fun hm => hG (hF k hm))⟩
theorem Keeps.next {F : List Nat} {a b c : World} (h : Keeps F a b) (k : Below b.heap.size b c) : Keeps F a c :=
  h.trans (Keeps.of_below k []) (by simp)
theorem Keeps.drewN {F : List Nat} {a b : World} (h : Keeps F a b) (n : Nat) : Keeps F a (b.drewN n) := ⟨h.os, h.tape, h.output, h.size, h.block⟩
theorem Keeps.drew {F : List Nat} {a b : World} (h : Keeps F a b) : Keeps F a b.drew := ⟨h.os, h.tape, h.output, h.size, h.block⟩
theorem Keeps.alloc {F : List Nat} {a b : World} (h : Keeps F a b) (o : Obj) : Keeps F a (b.alloc o) :=
  h.next ((Below.refl _ _).alloc (Nat.le_refl _) o)
theorem Keeps.set {F : List Nat} {a b : World} (h : Keeps F a b) {p : Addr} (hp : p.block ∈ F ∨ a.heap.size ≤ p.block) (u : Value) : Keeps F a (b.setCell p u) :=
  h.trans (G := [p.block]) ⟨rfl, rfl, rfl, by simp [World.setCell], fun k _ hF => Below.heap_setCell b p u k (by simpa using hF)⟩ (by simpa using hp)
theorem Keeps.grown {F : List Nat} {a b c : World} {row : Option Nat} (h : Keeps F a b) (hg : b.grownBy c row) (hr : ∀ k, row = some k → k ∈ F ∨ a.heap.size ≤ k) : Keeps F a c :=
  h.trans (G := row.toList) ⟨hg.os, hg.tape, hg.output, hg.size, fun k hk hF => hg.block k hk (by intro e; rw [← e] at hF; simp at hF)⟩ (by
    intro i hi; cases row with
    | none => simp at hi
    | some k => simp at hi; subst hi; exact hr _ rfl)
theorem Keeps.blk {F : List Nat} {a b : World} {g : Nat} {t : TypeId} {cs : Array Value} (h : Keeps F a b) (hb : Blk a g t cs) (hg : g ∉ F) : Blk b g t cs := hb.of_eq (h.block g hb.lt hg)
theorem Keeps.own {F : List Nat} {a b : World} (h : Keeps F a b) {base e size n : Nat} {v : Value} {xs : List Value} (ho : a.ownsRow base e size v n xs) (hv : ∀ g, v.ownBlock = some g → g ∉ F) : b.ownsRow base e size v n xs := by
  obtain ⟨h1, h2⟩ := ho
  refine ⟨h1, h2.imp id ?_⟩
  rintro ⟨g, cap, cur, rfl, hB, hg, hr⟩
  exact ⟨g, cap, cur, rfl, hB, (h.block g (Array.getElem?_eq_some_iff.1 hg).1 (hv g rfl)).trans hg, hr⟩
theorem own_lt {w : World} {B e size : Nat} {v : Value} {n : Nat} {xs : List Value} (h : w.ownsRow B e size v n xs) : ∀ b, v.ownBlock = some b → b < w.heap.size := by
  intro b hb
  obtain ⟨_, ⟨rfl, _⟩ | ⟨g, cap, cur, rfl, _, hg, _⟩⟩ := h
  · cases hb
  · cases hb; exact (Array.getElem?_eq_some_iff.1 hg).1
theorem own_type {w : World} {B e size : Nat} {v : Value} {n : Nat} {xs : List Value} (h : w.ownsRow B e size v n xs) {g : Nat} {t : TypeId} {cs : Array Value} (hb : Blk w g t cs) (hne : e ≠ t) : ∀ b, v.ownBlock = some b → b ≠ g := by
  intro b hb' e1
  subst e1
  obtain ⟨_, ⟨rfl, _⟩ | ⟨g, cap, cur, rfl, _, hg, _⟩⟩ := h
  · cases hb'
  · cases hb'
    unfold Blk at hb
    rw [hg] at hb
    injection hb with hb
    injection hb with _ e2 _
    exact hne e2
theorem own_form {w : World} {B e size : Nat} {v : Value} {n : Nat} {xs : List Value} (h : w.ownsRow B e size v n xs) (hn : n ≠ 0) : ∃ g cap, v = .slice (some ⟨g, 0, none⟩) n cap ∧ n ≤ cap ∧ cap ≤ maxLen ∧ g < w.heap.size := by
  obtain ⟨_, ⟨_, h0⟩ | ⟨g, cap, cur, rfl, _, hg, hn, hm, _⟩⟩ := h
  · exact absurd h0 hn
  · exact ⟨g, cap, rfl, hn, hm, (Array.getElem?_eq_some_iff.1 hg).1⟩
theorem own_cases {w : World} {B e size : Nat} {v : Value} {n : Nat} {xs : List Value} (h : w.ownsRow B e size v n xs) : (v = .slice none 0 0 ∧ n = 0) ∨ ∃ g cap, v = .slice (some ⟨g, 0, none⟩) n cap ∧ n ≤ cap ∧ cap ≤ maxLen ∧ g < w.heap.size := by
  obtain ⟨_, h | ⟨g, cap, cur, rfl, _, hg, hn, hm, _⟩⟩ := h
  · exact .inl h
  · exact .inr ⟨g, cap, rfl, hn, hm, (Array.getElem?_eq_some_iff.1 hg).1⟩
theorem own_cell {w : World} {B e : Nat} {v : Value} {n : Nat} {xs : List Value} (h : w.ownsRow B e 1 v n xs) {g : Nat} (hv : v.ownBlock = some g) (i : Nat) (hi : i < xs.length) : w.cell? ⟨g, i, none⟩ = some (xs[i]'hi) := by
  have := h.cells hv i (xs[i]'hi) (by simp)
  by_cases h0 : i = 0
  · subst h0; simpa [Addr.add] using this
  · simpa [Addr.add, h0] using this
/-- Keep a prefix. -/
theorem own_cut {w : World} {B e : Nat} {g cap n : Nat} {xs : List Value} (h : w.ownsRow B e 1 (.slice (some ⟨g, 0, none⟩) n cap) n xs) (i : Nat) (hi : i ≤ n) : w.ownsRow B e 1 (.slice (some ⟨g, 0, none⟩) i cap) i (xs.take i) := by
  obtain ⟨hl, ⟨h0, _⟩ | ⟨g', cap', cur, hv, hB, hg, hn, hm, hs, ht⟩⟩ := h
  · cases h0
  · injection hv with e1 e2 e3
    injection e1 with e1
    injection e1 with e1
    subst e1 e3
    refine ⟨by simp at hl ⊢; omega, .inr ⟨g, cap, cur, rfl, hB, hg, by omega, hm, hs, ?_⟩⟩
    rw [← ht, List.take_take]; congr 1; omega
theorem iter_belowM (w : World) (s : ByteArray) (p : Nat) : Below w.heap.size w (w.iter s p) := (Below.refl _ _).alloc (Nat.le_refl _) _
end Go.Proofs.Ytdnelekoplkkcaa
