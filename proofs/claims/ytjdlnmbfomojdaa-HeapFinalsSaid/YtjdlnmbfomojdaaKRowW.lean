/- RowW -/
import Derived.Test.YtjdlnmbfomojdaaKRowG
import Derived.Test.YtjdlnmbfomojdaaKAppM
/- Of what was freed: the words of one; rows that hold the same things without their words. -/
namespace Go.Proofs.Ytjdlnmbfomojdaa
open Go.RowKit
set_option linter.unusedVariables false
set_option linter.unusedSimpArgs false
section
variable {w0 w : World} {F0 : List Nat} {ps : List Piece}
theorem St.wordsG {k g n c : Nat} {l : List Gn} (hs : St w0 F0 ps w) (hk : ps[k]? = some (GonesP (.slice (some ⟨g, 0, none⟩) n c) l)) {i : Int} (hi : inR i l.length = true) :
    ∃ (p : Option Addr) (c' : Nat), w.cell? ⟨g, i.toNat * 4 + 2, none⟩ = some (.slice p (Go.Proofs.Ytjdlnmbfomojdaa.atG l i).words.length c') ∧ ((Go.Proofs.Ytjdlnmbfomojdaa.atG l i).words.length = 0 ∨ ∃ g2, p = some ⟨g2, 0, none⟩) ∧
      ∀ (g2 : Nat) (j : Int), p = some ⟨g2, 0, none⟩ → inR j (Go.Proofs.Ytjdlnmbfomojdaa.atG l i).words.length = true → w.cell? ⟨g2, j.toNat, none⟩ = some (.int .i64 (Go.Proofs.Ytjdlnmbfomojdaa.atI (Go.Proofs.Ytjdlnmbfomojdaa.atG l i).words j)) := by
  obtain ⟨h0, h1⟩ := inR_spec hi
  obtain ⟨G, vs, e, F1, F2, _, h2, h3, _⟩ := hs.get k hk
  have hil : i.toNat < l.length := by omega
  have hc := h2.1.cells (g := g) rfl
  obtain ⟨a0, a1, a2, a3⟩ := gnCells_get vs l e i.toNat hil
  have b2 := hc _ _ a2
  rw [add_at, Nat.zero_add] at b2
  have el : Go.Proofs.Ytjdlnmbfomojdaa.atG l i = l[i.toNat] := by
    unfold Go.Proofs.Ytjdlnmbfomojdaa.atG
    rw [List.getD_eq_getElem?_getD, List.getElem?_eq_getElem hil]; rfl
  have hz : (rowsG vs l)[i.toNat]? = some (RowP (vs[i.toNat]'(by omega)) l[i.toNat].words) := by
    unfold rowsG
    rw [List.getElem?_zipWith, List.getElem?_eq_getElem (by omega), List.getElem?_eq_getElem hil]
  obtain ⟨G2, h4⟩ := h3.get i.toNat hz
  obtain ⟨_, p, c', e4, hp⟩ := own_shape h4.1
  rw [el]
  refine ⟨p, c', by rw [b2, e4], hp, ?_⟩
  intro g2 j hpg hj
  obtain ⟨j0, j1⟩ := inR_spec hj
  have hw := h4.1
  rw [e4, hpg] at hw
  have := own_num hw j.toNat (by omega)
  rw [this]
  unfold Go.Proofs.Ytjdlnmbfomojdaa.atI
  rw [List.getD_eq_getElem?_getD, List.getElem?_eq_getElem (by omega)]; rfl
/-- The slice v holds those that were freed, without their words. -/
def GonesW (v : Value) (l : List Gn) : Piece := ExP fun vs : List Value => WithP (vs.length = l.length) (RowG v vs l)
theorem St.openW {v : Value} {l : List Gn} : St w0 F0 (GonesW v l :: ps) w ↔ ∃ vs, vs.length = l.length ∧ St w0 F0 (RowG v vs l :: ps) w := by
  constructor
  · intro hs
    obtain ⟨vs, hs⟩ := St.ex.1 hs
    obtain ⟨e, hs⟩ := St.with.1 hs
    exact ⟨vs, e, hs⟩
  · rintro ⟨vs, e, hs⟩
    exact St.ex.2 ⟨vs, St.with.2 ⟨e, hs⟩⟩
theorem St.nilW (hs : St w0 F0 ps w) : St w0 F0 (GonesW (.slice none 0 0) [] :: ps) w :=
  St.openW.2 ⟨[], rfl, hs.push (p := RowG (.slice none 0 0) [] []) (Below.refl _ _) ⟨[], ⟨World.ownsRow_nil _ _ _ _, rfl⟩, by simp⟩⟩
theorem St.shapeW {k : Nat} {v : Value} {l : List Gn} (hs : St w0 F0 ps w) (hk : ps[k]? = some (GonesW v l)) : l.length ≤ maxLen ∧ ∃ p c, v = .slice p l.length c ∧ (l.length = 0 ∨ ∃ g, p = some ⟨g, 0, none⟩) := by
  obtain ⟨G, vs, e, h1⟩ := hs.get k hk
  exact own_shape h1.1
theorem St.atWf {k g n c : Nat} {l : List Gn} (hs : St w0 F0 ps w) (hk : ps[k]? = some (GonesW (.slice (some ⟨g, 0, none⟩) n c) l)) {i : Int} (hi : inR i l.length = true) :
    w.cell? ⟨g, i.toNat * 4, none⟩ = some (.int .i64 (Go.Proofs.Ytjdlnmbfomojdaa.atG l i).kind) ∧ w.cell? ⟨g, i.toNat * 4 + 1, none⟩ = some (.int .i64 (Go.Proofs.Ytjdlnmbfomojdaa.atG l i).at') ∧ w.cell? ⟨g, i.toNat * 4 + 3, none⟩ = some (.bool (Go.Proofs.Ytjdlnmbfomojdaa.atG l i).kept) := by
  obtain ⟨h0, h1⟩ := inR_spec hi
  obtain ⟨G, vs, e, h2⟩ := hs.get k hk
  have hil : i.toNat < l.length := by omega
  have hc := h2.1.cells (g := g) rfl
  obtain ⟨a0, a1, a2, a3⟩ := gnCells_get vs l e i.toNat hil
  have b0 := hc _ _ a0
  have b1 := hc _ _ a1
  have b3 := hc _ _ a3
  rw [add_at, Nat.zero_add] at b0 b1 b3
  have el : Go.Proofs.Ytjdlnmbfomojdaa.atG l i = l[i.toNat] := by
    unfold Go.Proofs.Ytjdlnmbfomojdaa.atG
    rw [List.getD_eq_getElem?_getD, List.getElem?_eq_getElem hil]; rfl
  rw [el]
  exact ⟨b0, b1, b3⟩
theorem gones_flat {v : Value} {l : List Gn} (h : St w0 F0 (GonesP v l :: ps) w) : ∃ vs, vs.length = l.length ∧ w.ownsRow 0 72 4 v l.length (gnCells vs l) ∧ ∀ u ∈ gnCells vs l, u.oneCell' = true := by
  obtain ⟨vs, e, h1⟩ := St.openG.1 h
  obtain ⟨G, h2⟩ := h1.head
  refine ⟨vs, e, h2.1, gnCells_one vs l fun v hv => ?_⟩
  obtain ⟨i, hi, rfl⟩ := List.mem_iff_getElem.1 hv
  have h6 : St w0 F0 (rowsG vs l ++ ps) w := h1.drop
  have hz2 : (rowsG vs l ++ ps)[i]? = some (RowP vs[i] (l[i]'(by omega)).words) := by
    unfold rowsG
    rw [List.getElem?_append_left (by simp; omega), List.getElem?_zipWith, List.getElem?_eq_getElem (by omega), List.getElem?_eq_getElem (by omega)]
  obtain ⟨G2, h7⟩ := h6.get i hz2
  obtain ⟨_, p, c', e4, _⟩ := own_shape h7.1
  rw [e4]; rfl
end
section
variable {ops : Array Oper} {rest : List Oper} {o : Oper} {n : Nat} {a : Act} {l l' : Asc} {w0 : World} {F0 : List Nat} {ps : List Piece} {w : World}
theorem app_coreW {KK : Act → World → Prop} {Q : Exit → Act → World → Prop} (T : TypeId) (hT : Try.prog.underlying T = some (.slice 72)) {v : Value} {L L2 L3 : List Gn} {p : Option Addr} {c2 : Nat} (d : Nat) (s x : Operand)
    (hF : Fr n a l) (hd : o.dst = some d) (hn : Nat.blt d n = true) (ho : o.op = .call { callee := .builtin .append, args := #[s, x], argTypes := #[T, T] })
    (hs1 : hasO l s = true) (hx1 : hasO l x = true) (hs : lk l s = v) (hx : lk l x = .slice p L2.length c2)
    (h : St w0 F0 (GonesW v L :: GonesP (.slice p L2.length c2) L2 :: ps) w) (hm : appX L L2 = some L3)
    (hK : ∀ v' w' a', St w0 F0 (GonesW v' L3 :: GonesP (.slice p L2.length c2) L2 :: ps) w' → Fr n a' ((d, v') :: del d l) → KK a' w') : Oper.wp Try.prog o a w KK Q := by
  unfold appX at hm
  split at hm
  · rename_i hlen
    injection hm with hm
    subst hm
    obtain ⟨i0, hi0, hz0, hz1, hz2⟩ := info_parts info_gone
    have hput : ∀ v', Fr n (a.put o.dst v') ((d, v') :: del d l) := fun v' => by rw [hd]; exact hF.put (Nat.le_of_ble_eq_true hn) _
    obtain ⟨_, p', c', e, hp'⟩ := h.shapeG (k := 1) rfl
    injection e with e1 e2 e3
    subst e1; subst e3
    obtain ⟨vs, e1, h1⟩ := St.openW.1 h
    have hown : w.ownsRow 0 72 4 v L.length (gnCells vs L) := by obtain ⟨G, h5⟩ := h1.head; exact h5.1
    cases p with
    | none =>
      have h0 : L2.length = 0 := hp'.resolve_right (by rintro ⟨g, e⟩; cases e)
      have e0 : L2 = [] := List.eq_nil_of_length_eq_zero h0
      subst e0
      obtain ⟨_, pv, cv, ev, hpv⟩ := own_shape hown
      have hcap : L.length ≤ cv := by
        rw [ev] at hown
        rcases hown.2 with ⟨e, h0⟩ | ⟨g', cap, cs, e, h2, h3, h4, h5, h6, h7⟩
        · rw [h0]; exact Nat.zero_le _
        · injection e with e1 e2 e3
          subst e3; exact h4
      unfold Oper.wp execOp
      have hr := run_append_none (P := Try.prog) (w := w) (t := T) (ty := o.type) (e := 72) hT hi0 (base := pv) (n := L.length) (cap := cv) (c := c2) hcap
      simp only [ho, resolve, invoke, builtin, Sem.run_bind, Sem.run_pure, Result.andThen_ok, List.map_toArray, List.map_cons, List.map_nil, (hF.eval hs1).trans (hs.trans ev), (hF.eval hx1).trans hx]
      simp only [List.length_nil, hr, Result.andThen_ok]
      rw [← ev]
      exact hK v w _ (by simpa using h) (hput v)
    | some q =>
      obtain ⟨vs2, e2, hown2, hone⟩ := gones_flat h1.pick1
      have hq : ∀ j u, (gnCells vs2 L2)[j]? = some u → w.cell? (q.add j) = some u := by
        intro j u hj
        have hjl : 0 < L2.length := by
          have := (List.getElem?_eq_some_iff.1 hj).1
          rw [gnCells_len vs2 L2 e2] at this; omega
        obtain ⟨g, e⟩ := hp'.resolve_left (by omega)
        obtain rfl : q = ⟨g, 0, none⟩ := Option.some.inj e
        exact hown2.cells rfl j u hj
      obtain ⟨v', w', hr, h5, h6, h7, h8⟩ := run_append_own_at (P := Try.prog) w 0 T o.type 72 i0 (.agg #[.int .i64 0, .int .i64 0, .slice none 0 0, .bool false]) 4 48 hT hi0 hz0 hz1 hz2 rfl (by decide) v L.length (gnCells vs L) hown q L2.length c2 (gnCells vs2 L2) (gnCells_len vs2 L2 e2) hq hone (by unfold maxLen; omega) (by omega) (Nat.zero_le _)
      unfold Oper.wp execOp
      simp only [ho, resolve, invoke, builtin, Sem.run_bind, Sem.run_pure, Result.andThen_ok, List.map_toArray, List.map_cons, List.map_nil, (hF.eval hs1).trans hs, (hF.eval hx1).trans hx, hr]
      refine hK v' w' _ (St.openW.2 ⟨vs ++ vs2, by simp [e1, e2], ?_⟩) (hput v')
      refine h1.step1 ?_
      rintro F ⟨hg, rfl⟩
      refine ⟨v'.ownBlock.toList, ⟨?_, rfl⟩, (Keeps.refl _ _).grown h6 (fun k hk => .inl (by simp [hk])), ?_⟩
      · rw [gnCells_append vs vs2 L L2 e1, List.length_append]; exact h5
      · intro i hi
        simp at hi
        rcases h8 with e | e
        · left; simp [← e, hi]
        · right; rw [e] at hi; injection hi with hi; omega
  · cases hm
theorem ev_appW {Q : Exit → Act → World → Prop} (T : TypeId) (hT : Try.prog.underlying T = some (.slice 72)) {v : Value} {L L2 L3 : List Gn} {p : Option Addr} {c2 : Nat} (d : Nat) (s x : Operand)
    (hF : Fr n a l) (hd : o.dst = some d) (hn : Nat.blt d n = true) (hgd : gdO ops o l = some true) (ho : o.op = .call { callee := .builtin .append, args := #[s, x], argTypes := #[T, T] })
    (hs1 : hasO l s = true) (hx1 : hasO l x = true) (hs : lk l s = v) (hx : lk l x = .slice p L2.length c2)
    (h : St w0 F0 (GonesW v L :: GonesP (.slice p L2.length c2) L2 :: ps) w) (hm : appX L L2 = some L3)
    (hK : ∀ v' w' a', St w0 F0 (GonesW v' L3 :: GonesP (.slice p L2.length c2) L2 :: ps) w' → Fr n a' ((d, v') :: del d l) → wpList Try.prog ops Q rest a' w') : wpList Try.prog ops Q (o :: rest) a w := by
  unfold wpList
  rw [gdO_wanted hF hgd]
  simp only [if_true]
  left
  exact app_coreW T hT d s x hF hd hn ho hs1 hx1 hs hx h hm hK
end
end Go.Proofs.Ytjdlnmbfomojdaa
