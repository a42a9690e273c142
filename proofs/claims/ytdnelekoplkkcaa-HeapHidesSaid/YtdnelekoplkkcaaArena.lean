/- Package arena: head, Words, Used, Kind, Len, place, Load. -/
import Derived.Test.YtdnelekoplkkcaaPure7
import Derived.Laws.ResultCell
namespace Go.Proofs.Ytdnelekoplkkcaa
open Go.RowKit


def ACell.val : ACell → Value
  | .none => .nilIface
  | .head k n => .iface 90 (.agg #[.int .i64 k, .int .i64 n])
  | .word w => .iface 102 (.int .i64 w)

@[go_sem] theorem as_hh (a b : Value) (w : World) : (Instr.typeAssert (.iface 90 (.agg #[a, b])) 20 90 true).run Try.prog w = .ok (.tuple #[.agg #[a, b], .bool true]) w := by kernel_rfl
@[go_sem] theorem as_hw (v : Value) (w : World) : (Instr.typeAssert (.iface 102 v) 20 90 true).run Try.prog w = .ok (.tuple #[.agg #[.int .i64 0, .int .i64 0], .bool false]) w := by kernel_rfl
@[go_sem] theorem as_hn (w : World) : (Instr.typeAssert .nilIface 20 90 true).run Try.prog w = .ok (.tuple #[.agg #[.int .i64 0, .int .i64 0], .bool false]) w := by kernel_rfl
@[go_sem] theorem as_ww (v : Value) (w : World) : (Instr.typeAssert (.iface 102 v) 20 102 true).run Try.prog w = .ok (.tuple #[v, .bool true]) w := by kernel_rfl

/-- The cells of an arena. -/
def aCells (c : List ACell) : Array Value := (c.map ACell.val).toArray
theorem aCells_get (c : List ACell) (i : Nat) : (aCells c)[i]? = c[i]?.map ACell.val := by simp [aCells]
theorem aCells_set (c : List ACell) (i : Nat) (v : ACell) : (aCells c).setIfInBounds i v.val = aCells (c.set i v) := by
  apply Array.ext_getElem?
  intro j
  rw [Array.getElem?_setIfInBounds, aCells_get, aCells_get, List.getElem?_set]
  simp [aCells]
  split <;> simp

/-- The arena s stands at b; F: its blocks. -/
def ArenaAt (w : World) (b : Nat) (s : ASt) (F : List Nat) : Prop :=
  ∃ sb g Fs, Blk w b 107 #[.pointer (some ⟨sb, 0, none⟩), .slice (some ⟨g, 0, none⟩) s.c.length s.c.length] ∧ SpanAt w sb s.l Fs ∧ Blk w g 20 (aCells s.c) ∧ F = b :: g :: Fs ∧ AOk s ∧ b ∉ Fs ∧ g ∉ Fs ∧ b ≠ g
theorem ArenaAt.keep {w w' : World} {b : Nat} {s : ASt} {F G : List Nat} (h : ArenaAt w b s F) (k : Keeps G w w') (hd : ∀ i ∈ F, i ∉ G) : ArenaAt w' b s F := by
  obtain ⟨sb, g, Fs, h1, h2, h3, rfl, r⟩ := h
  exact ⟨sb, g, Fs, k.blk h1 (hd _ (by simp)), h2.keep k (fun i hi => hd _ (by simp [hi])), k.blk h3 (hd _ (by simp)), rfl, r⟩
theorem ArenaAt.lt {w : World} {b : Nat} {s : ASt} {F : List Nat} (h : ArenaAt w b s F) : ∀ i ∈ F, i < w.heap.size := by
  obtain ⟨sb, g, Fs, h1, h2, h3, rfl, r⟩ := h
  intro i hi
  simp at hi
  rcases hi with rfl | rfl | hi
  · exact h1.lt
  · exact h3.lt
  · exact h2.lt i hi
theorem ArenaAt.size {w : World} {b : Nat} {s : ASt} {F : List Nat} (h : ArenaAt w b s F) : s.c.length = 32 * s.l.length ∧ 2 ≤ s.l.length ∧ s.l.length ≤ 128 := by
  obtain ⟨sb, g, Fs, h1, ⟨_, _, _, _, _, _, hn, hn2, _⟩, h3, rfl, ok, r⟩ := h
  exact ⟨ok.len, hn, hn2⟩

/-- What stands at a place. -/
theorem cell_cases (c : List ACell) (a : Int) : a < 0 ∧ aHead c a = none ∨ ((0 ≤ a ∧ (c.length : Int) ≤ a) ∧ aHead c a = none) ∨ ∃ p : Nat, a = p ∧ p < c.length ∧ ((c[p]? = some .none ∧ aHead c a = none) ∨ (∃ k n, c[p]? = some (.head k n) ∧ aHead c a = some (k, n)) ∨ (∃ x, c[p]? = some (.word x) ∧ aHead c a = none)) := by
  rcases int_cases a c.length with h | ⟨h0, h⟩ | ⟨i, rfl, hi⟩
  · exact .inl ⟨h, by unfold aHead; rw [if_neg (by omega)]⟩
  · exact .inr (.inl ⟨⟨h0, h⟩, by unfold aHead; rw [if_pos h0, List.getElem?_eq_none (by omega)]⟩)
  · refine .inr (.inr ⟨i, rfl, hi, ?_⟩)
    have e : c[i]? = some c[i] := List.getElem?_eq_getElem hi
    cases hc : c[i] with
    | none => rw [hc] at e; exact .inl ⟨e, by unfold aHead; rw [if_pos (by omega)]; simp [e]⟩
    | head k n => rw [hc] at e; exact .inr (.inl ⟨k, n, e, aHead_nat e⟩)
    | word x => rw [hc] at e; exact .inr (.inr ⟨x, e, by unfold aHead; rw [if_pos (by omega)]; simp [e]⟩)

def headV (c : List ACell) (a : Int) : Value := .tuple #[.agg #[.int .i64 (aKind c a), .int .i64 (aLen c a)], .bool (aHead c a).isSome]
theorem headV_none {c : List ACell} {a : Int} (e : aHead c a = none) : headV c a = .tuple #[.agg #[.int .i64 0, .int .i64 0], .bool false] := by unfold headV aKind aLen; rw [e]; rfl
theorem headV_some {c : List ACell} {a k n : Int} (e : aHead c a = some (k, n)) : headV c a = .tuple #[.agg #[.int .i64 k, .int .i64 n], .bool true] := by unfold headV aKind aLen; rw [e]; rfl

theorem arena_head_nil (a : Int) (w : World) :
    Calls Try.prog 56 #[.pointer none, .int .i64 a] w fun e w' => e = .returned (.tuple #[.agg #[.int .i64 0, .int .i64 0], .bool false]) ∧ Below w.heap.size w w' := by
  go_enter Try.func56, Try.ntmps56
  go_wp2
  (try simp only [Exit.inBlock, Exit.then])
  refine bodyPost_ret (v := .tuple #[.agg #[.int .i64 0, .int .i64 0], .bool false]) (by rw [results_cell_tmp rfl]; go_simp) rfl ?_
  exact ⟨rfl, by (repeat' (first | assumption | exact Below.refl _ _ | refine Below.drew ?_ | (refine Below.setCell ?_ ?_ _; rotate_left; focus (first | omega | (simp; done) | (simp; omega))) | (refine Below.alloc ?_ ?_ _; rotate_left; focus (first | omega | (simp; done) | (simp; omega)))))⟩

set_option maxHeartbeats 1000000 in
theorem arena_head (b : Nat) (s : ASt) (F : List Nat) (a : Int) (w : World) (hS : ArenaAt w b s F) :
    Calls Try.prog 56 #[.pointer (some ⟨b, 0, none⟩), .int .i64 a] w fun e w' => e = .returned (headV s.c a) ∧ Below w.heap.size w w' := by
  have hz := hS.size
  obtain ⟨sb, g, Fs, hb, hs, hc, hF, hok, -⟩ := hS
  have hbl := hb.lt
  have hcl := hc.lt
  have hb1 := hb.alloc (.cells #[.int .i64 0, .int .i64 0] 90)
  have c0 := hb1.cell 0
  have c1 := hb1.cell 1
  simp at c0 c1
  rcases cell_cases s.c a with ⟨h, e⟩ | ⟨⟨h0, h⟩, e⟩ | ⟨p, rfl, hp, h⟩
  · rw [headV_none e]
    clear hz hb hs hc hF hok e hb1
    go_enter Try.func56, Try.ntmps56
    go_wp2
    (try simp only [Exit.inBlock, Exit.then])
    refine bodyPost_ret (v := .tuple #[.agg #[.int .i64 0, .int .i64 0], .bool false]) (by rw [results_cell_tmp rfl]; go_simp) rfl ?_
    exact ⟨rfl, by (repeat' (first | assumption | exact Below.refl _ _ | refine Below.drew ?_ | (refine Below.setCell ?_ ?_ _; rotate_left; focus (first | omega | (simp; done) | (simp; omega))) | (refine Below.alloc ?_ ?_ _; rotate_left; focus (first | omega | (simp; done) | (simp; omega)))))⟩
  · rw [headV_none e]
    clear hz hb hs hc hF hok e hb1
    go_enter Try.func56, Try.ntmps56
    go_wp2
    (try simp only [Exit.inBlock, Exit.then])
    refine bodyPost_ret (v := .tuple #[.agg #[.int .i64 0, .int .i64 0], .bool false]) (by rw [results_cell_tmp rfl]; go_simp) rfl ?_
    exact ⟨rfl, by (repeat' (first | assumption | exact Below.refl _ _ | refine Below.drew ?_ | (refine Below.setCell ?_ ?_ _; rotate_left; focus (first | omega | (simp; done) | (simp; omega))) | (refine Below.alloc ?_ ?_ _; rotate_left; focus (first | omega | (simp; done) | (simp; omega)))))⟩
  · have d := (hc.alloc (.cells #[.int .i64 0, .int .i64 0] 90)).cell p
    rw [aCells_get] at d
    have i1 : (p : Int) < s.c.length := by omega
    rcases h with ⟨h, e⟩ | ⟨k, n, h, e⟩ | ⟨x, h, e⟩
    · rw [headV_none e]
      rw [h] at d
      simp [ACell.val] at d
      clear hz hb hs hc hF hok e h hb1
      go_enter Try.func56, Try.ntmps56
      go_wp2
      (try simp only [Exit.inBlock, Exit.then])
      refine bodyPost_ret (v := .tuple #[.agg #[.int .i64 0, .int .i64 0], .bool false]) (by rw [results_cell_tmp rfl]; go_simp) rfl ?_
      exact ⟨rfl, by (repeat' (first | assumption | exact Below.refl _ _ | refine Below.drew ?_ | (refine Below.setCell ?_ ?_ _; rotate_left; focus (first | omega | (simp; done) | (simp; omega))) | (refine Below.alloc ?_ ?_ _; rotate_left; focus (first | omega | (simp; done) | (simp; omega)))))⟩
    · rw [headV_some e]
      rw [h] at d
      simp [ACell.val] at d
      clear hz hb hs hc hF hok e h hb1
      go_enter Try.func56, Try.ntmps56
      go_wp2
      (try simp only [Exit.inBlock, Exit.then])
      refine bodyPost_ret (v := .tuple #[.agg #[.int .i64 k, .int .i64 n], .bool true]) (by rw [results_cell_tmp rfl]; go_simp) rfl ?_
      exact ⟨rfl, by (repeat' (first | assumption | exact Below.refl _ _ | refine Below.drew ?_ | (refine Below.setCell ?_ ?_ _; rotate_left; focus (first | omega | (simp; done) | (simp; omega))) | (refine Below.alloc ?_ ?_ _; rotate_left; focus (first | omega | (simp; done) | (simp; omega)))))⟩
    · rw [headV_none e]
      rw [h] at d
      simp [ACell.val] at d
      clear hz hb hs hc hF hok e h hb1
      go_enter Try.func56, Try.ntmps56
      go_wp2
      (try simp only [Exit.inBlock, Exit.then])
      refine bodyPost_ret (v := .tuple #[.agg #[.int .i64 0, .int .i64 0], .bool false]) (by rw [results_cell_tmp rfl]; go_simp) rfl ?_
      exact ⟨rfl, by (repeat' (first | assumption | exact Below.refl _ _ | refine Below.drew ?_ | (refine Below.setCell ?_ ?_ _; rotate_left; focus (first | omega | (simp; done) | (simp; omega))) | (refine Below.alloc ?_ ?_ _; rotate_left; focus (first | omega | (simp; done) | (simp; omega)))))⟩
end Go.Proofs.Ytdnelekoplkkcaa
