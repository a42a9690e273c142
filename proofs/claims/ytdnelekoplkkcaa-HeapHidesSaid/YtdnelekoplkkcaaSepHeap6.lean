/- Package heap: what was freed, as a piece; lost, mark. -/
import Derived.Test.YtdnelekoplkkcaaSepHeap5
import Derived.Deep.RegionHeld3
namespace Go.Proofs.Ytdnelekoplkkcaa
open Go.RowKit
set_option linter.unusedVariables false

theorem info_gone : (Try.prog.info? 70).map (fun i => (i.zero, i.size, i.bytes)) = some (some (.agg #[.int .i64 0, .int .i64 0, .slice none 0 0, .bool false]), 4, 48) := by kernel_rfl
/-- The cells of those that were freed; vs: the slices of their words. -/
def gnCells : List Value → List Gn → List Value
  | v :: vs, g :: l => .int .i64 g.kind :: .int .i64 g.at' :: v :: .bool g.kept :: gnCells vs l
  | _, _ => []
theorem gnCells_len : ∀ (vs : List Value) (l : List Gn), vs.length = l.length → (gnCells vs l).length = l.length * 4
  | [], [], _ => rfl
  | v :: vs, g :: l, h => by simp [gnCells, gnCells_len vs l (by simpa using h)]; omega
theorem gnCells_snoc : ∀ (vs : List Value) (l : List Gn) (v : Value) (g : Gn), vs.length = l.length → gnCells (vs ++ [v]) (l ++ [g]) = gnCells vs l ++ [.int .i64 g.kind, .int .i64 g.at', v, .bool g.kept]
  | [], [], v, g, _ => rfl
  | x :: vs, y :: l, v, g, h => by
    simp only [List.cons_append, gnCells]
    rw [gnCells_snoc vs l v g (by simpa using h)]
theorem gnCells_get : ∀ (vs : List Value) (l : List Gn) (h : vs.length = l.length) (i : Nat) (hi : i < l.length),
    (gnCells vs l)[i * 4]? = some (.int .i64 l[i].kind) ∧ (gnCells vs l)[i * 4 + 1]? = some (.int .i64 l[i].at') ∧ (gnCells vs l)[i * 4 + 2]? = some (vs[i]'(by omega)) ∧ (gnCells vs l)[i * 4 + 3]? = some (.bool l[i].kept)
  | [], l, h, i, hi => absurd hi (by simp at h; omega)
  | v :: vs, [], h, i, hi => absurd hi (by simp)
  | v :: vs, g :: l, h, 0, _ => ⟨rfl, rfl, rfl, rfl⟩
  | v :: vs, g :: l, h, i + 1, hi => by
    have := gnCells_get vs l (by simpa using h) i (by simpa using hi)
    simp only [gnCells, List.getElem_cons_succ]
    rw [show (i + 1) * 4 = i * 4 + 4 by omega, show i * 4 + 4 + 1 = i * 4 + 1 + 4 by omega, show i * 4 + 4 + 2 = i * 4 + 2 + 4 by omega, show i * 4 + 4 + 3 = i * 4 + 3 + 4 by omega]
    simpa using this
def RowG (v : Value) (vs : List Value) (l : List Gn) : Piece where
  at' w F := w.ownsRow 0 70 4 v l.length (gnCells vs l) ∧ F = v.ownBlock.toList
  keep := by rintro w w' F G ⟨h, rfl⟩ k hd; exact ⟨k.own h (fun g hg => hd _ (by simp [hg])), rfl⟩
  lt := by rintro w F ⟨h, rfl⟩ i hi; simp at hi; exact own_lt h i hi
def rowsG (vs : List Value) (l : List Gn) : List Piece := List.zipWith (fun v g => RowP v g.words) vs l
theorem rowsG_snoc (vs : List Value) (l : List Gn) (v : Value) (g : Gn) (h : vs.length = l.length) : rowsG (vs ++ [v]) (l ++ [g]) = rowsG vs l ++ [RowP v g.words] := by
  unfold rowsG; rw [List.zipWith_append h]; rfl
/-- The slice v holds those that were freed, with their words. -/
def GonesP (v : Value) (l : List Gn) : Piece := ExP fun vs : List Value => WithP (vs.length = l.length) (SepP (RowG v vs l :: rowsG vs l))
section
variable {w0 w : World} {F0 : List Nat} {ps : List Piece} {b ab mb lb : Nat} {h : HSt}
theorem St.openG {v : Value} {l : List Gn} : St w0 F0 (GonesP v l :: ps) w ↔ ∃ vs, vs.length = l.length ∧ St w0 F0 (RowG v vs l :: (rowsG vs l ++ ps)) w := by
  constructor
  · intro hs
    obtain ⟨vs, hs⟩ := St.ex.1 hs
    obtain ⟨e, hs⟩ := St.with.1 hs
    exact ⟨vs, e, St.sep.1 hs⟩
  · rintro ⟨vs, e, hs⟩
    exact St.ex.2 ⟨vs, St.with.2 ⟨e, St.sep.2 hs⟩⟩
theorem St.nilG (hs : St w0 F0 ps w) : St w0 F0 (GonesP (.slice none 0 0) [] :: ps) w :=
  St.openG.2 ⟨[], rfl, hs.push (p := RowG (.slice none 0 0) [] []) (Below.refl _ _) ⟨[], ⟨World.ownsRow_nil _ _ _ _, rfl⟩, by simp⟩⟩
/-- A slice of one, laid as a literal. -/
theorem St.oneG {v : Value} (g : Gn) (hs : St w0 F0 (RowP v g.words :: ps) w) :
    St w0 F0 (GonesP (.slice (some ⟨w.heap.size, 0, none⟩) 1 1) [g] :: ps) (w.alloc (.cells #[.int .i64 g.kind, .int .i64 g.at', v, .bool g.kept] 70)) := by
  refine St.openG.2 ⟨[v], rfl, ?_⟩
  refine St.push (p := RowG _ [v] [g]) hs ((Below.refl _ _).alloc (Nat.le_refl _) _) ⟨_, ⟨⟨rfl, .inr ⟨w.heap.size, 1, _, rfl, Nat.zero_le _, Blk.new _ _ _, Nat.le_refl _, by unfold maxLen; omega, rfl, rfl⟩⟩, rfl⟩, by simp [Value.ownBlock]⟩
theorem St.shapeG {k : Nat} {v : Value} {l : List Gn} (hs : St w0 F0 ps w) (hk : ps[k]? = some (GonesP v l)) : l.length ≤ maxLen ∧ ∃ p c, v = .slice p l.length c ∧ (l.length = 0 ∨ ∃ g, p = some ⟨g, 0, none⟩) := by
  obtain ⟨G, vs, e, F1, F2, _, h1, _⟩ := hs.get k hk
  exact own_shape h1.1
theorem St.cellG {k g n c : Nat} {l : List Gn} (hs : St w0 F0 ps w) (hk : ps[k]? = some (GonesP (.slice (some ⟨g, 0, none⟩) n c) l)) (i : Nat) (hi : i < l.length) :
    w.cell? ⟨g, i * 4, none⟩ = some (.int .i64 l[i].kind) ∧ w.cell? ⟨g, i * 4 + 1, none⟩ = some (.int .i64 l[i].at') ∧ w.cell? ⟨g, i * 4 + 3, none⟩ = some (.bool l[i].kept) := by
  obtain ⟨G, vs, e, F1, F2, _, h1, _⟩ := hs.get k hk
  have hc := h1.1.cells (g := g) rfl
  obtain ⟨a0, a1, a2, a3⟩ := gnCells_get vs l e i hi
  have add : ∀ j, (⟨g, 0, none⟩ : Addr).add j = ⟨g, j, none⟩ := by
    intro j; have := Go.WideShapes.add_plain g 0 j; simpa using this
  have b0 := hc _ _ a0
  have b1 := hc _ _ a1
  have b3 := hc _ _ a3
  rw [add] at b0 b1 b3
  exact ⟨b0, b1, b3⟩

/-- append of one that was freed. -/
theorem wpList_growG {ops : Array Oper} {rest : List Oper} {o : Oper} {a : Act} {Q : Exit → Act → World → Prop} {W : World} {v vw : Value} {l : List Gn} {y : Gn} {ob : Obj} (n : Nat) (hn : l.length = n) (hl : n < 1000000)
    (hgd : o.guard = none) (s x : Operand) (ho : o.op = .call { callee := .builtin .append, args := #[s, x], argTypes := #[62, 62] })
    (hs : St w0 F0 (GonesP v l :: RowP vw y.words :: ps) W) (hob : ob = .cells #[.int .i64 y.kind, .int .i64 y.at', vw, .bool y.kept] 70) (hone : vw.oneCell' = true) (hev : a.eval s = v) (hx : a.eval x = .slice (some ⟨W.heap.size, 0, none⟩) 1 1)
    (hK : ∀ g c w', St w0 F0 (GonesP (.slice (some ⟨g, 0, none⟩) (n + 1) c) (l ++ [y]) :: ps) w' → wpList Try.prog ops Q rest (a.put o.dst (.slice (some ⟨g, 0, none⟩) (n + 1) c)) w') :
    wpList Try.prog ops Q (o :: rest) a (W.alloc ob) := by
  subst hob hn
  obtain ⟨i0, hi, hz0, hz1, hz2⟩ := info_parts info_gone
  obtain ⟨vs, e, h1⟩ := St.openG.1 hs
  have hown : W.ownsRow 0 70 4 v l.length (gnCells vs l) := by obtain ⟨G, h2⟩ := h1.head; exact h2.1
  refine wpList_append_own_at _ hgd s x 62 ho 0 70 i0 (.agg #[.int .i64 0, .int .i64 0, .slice none 0 0, .bool false]) 4 48 Try.underlying62 hi hz0 hz1 hz2 rfl (by decide) v l.length (gnCells vs l) hev (hown.alloc _) ⟨W.heap.size, 0, none⟩ 1 1 [.int .i64 y.kind, .int .i64 y.at', vw, .bool y.kept] hx rfl ?_ ?_ (by unfold maxLen; omega) (by omega) (Nat.zero_le _) ?_
  · intro j u hj
    have hb := Blk.new W 70 #[.int .i64 y.kind, .int .i64 y.at', vw, .bool y.kept]
    have e1 : (⟨W.heap.size, 0, none⟩ : Addr).add j = ⟨W.heap.size, j, none⟩ := by
      have := Go.WideShapes.add_plain W.heap.size 0 j; simpa using this
    rw [e1, hb.cell]
    simpa using hj
  · intro u hu
    simp at hu
    rcases hu with rfl | rfl | rfl | rfl
    · rfl
    · rfl
    · exact hone
    · rfl
  · intro v' w' ho' hg' hn' hat'
    rw [← gnCells_snoc vs l vw y e] at ho'
    obtain ⟨hm, p, c, rfl, hp⟩ := own_shape ho'
    obtain ⟨g, rfl⟩ := hp.resolve_left (by omega)
    refine hK g c w' (St.openG.2 ⟨vs ++ [vw], by simp [e], ?_⟩)
    rw [rowsG_snoc vs l vw y e]
    have h2 : St w0 F0 (RowG (.slice (some ⟨g, 0, none⟩) (l.length + 1) c) (vs ++ [vw]) (l ++ [y]) :: (rowsG vs l ++ RowP vw y.words :: ps)) w' := by
      refine h1.step1 ?_
      rintro F ⟨h3, rfl⟩
      refine ⟨_, ⟨by simpa using ho', rfl⟩, ((Keeps.refl _ _).alloc _).grown hg' (fun k hk => .inl (by simp [hk])), ?_⟩
      intro i hi
      simp [Value.ownBlock] at hi
      rcases hat' with e2 | e2
      · left; rw [← e2]; simp [Value.ownBlock, hi]
      · right
        simp only [Value.ownBlock, Option.some.injEq] at e2
        have : (W.alloc (Obj.cells #[.int .i64 y.kind, .int .i64 y.at', vw, .bool y.kept] 70)).heap.size = W.heap.size + 1 := by simp
        omega
    simpa using h2
end
end Go.Proofs.Ytdnelekoplkkcaa
