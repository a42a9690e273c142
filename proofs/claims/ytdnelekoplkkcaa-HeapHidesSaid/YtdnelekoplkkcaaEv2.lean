/- Operations that look into memory. -/
import Derived.Test.YtdnelekoplkkcaaEv
import Derived.Test.YtdnelekoplkkcaaSepLit
namespace Go.Proofs.Ytdnelekoplkkcaa
open Go.RowKit
set_option linter.unusedVariables false
set_option linter.unusedSimpArgs false
section
variable {P : Program} {ops : Array Oper} {Q : Exit → Act → World → Prop} {n : Nat} {a : Act} {l l' : Asc} {w w' : World}
theorem run_v {s : Sem Value} {v : Value} {w w' : World} (h : s.run P w = .ok v w') : (Sem.run P (do pure (Next.value (← s))) w) = .ok (.value v) w' := by
  rw [Sem.run_bind, h]; rfl
theorem run_u {s : Sem Unit} {w w' : World} (h : s.run P w = .ok () w') : (Sem.run P (do s; pure Next.skip) w) = .ok .skip w' := by
  rw [Sem.run_bind, h]; rfl
/-- One operation that yields. -/
theorem ev_one {o : Oper} {rest : List Oper} (v : Value) (w' : World) (h : Fr n a l) (h1 : gdO ops o l = some true) (h2 : notSel o.op = true) (h3 : o.op.operands.toList.all (hasO l) = true)
    (h4 : (execOp (lk l) o).run P w = .ok (.value v) w') (hp : putO n o v l = some l') (hK : ∀ a', Fr n a' l' → wpList P ops Q rest a' w') : wpList P ops Q (o :: rest) a w := by
  unfold wpList
  rw [gdO_wanted h h1]
  simp only [if_true]
  left
  unfold Oper.wp
  rw [exec_same h h2 h3, h4]
  exact hK _ (putO_fr h hp)
theorem ev_skip {o : Oper} {rest : List Oper} (w' : World) (h : Fr n a l) (h1 : gdO ops o l = some true) (h2 : notSel o.op = true) (h3 : o.op.operands.toList.all (hasO l) = true)
    (h4 : (execOp (lk l) o).run P w = .ok .skip w') (hp : putO n o undef l = some l') (hK : ∀ a', Fr n a' l' → wpList P ops Q rest a' w') : wpList P ops Q (o :: rest) a w := by
  unfold wpList
  rw [gdO_wanted h h1]
  simp only [if_true]
  left
  unfold Oper.wp
  rw [exec_same h h2 h3, h4]
  exact hK _ (putO_fr h hp)
theorem run_idx {ρ : Operand → Value} {o : Oper} {t e : TypeId} {x i : Operand} {g m c : Nat} {z : Int} {k : IntKind} (ho : o.op = .indexAddr t x i) (hu : P.underlying t = some (.slice e)) (hs : (P.info? e).map (·.size) = some 1)
    (hx : ρ x = .slice (some ⟨g, 0, none⟩) m c) (hi : ρ i = .int k z) (h0 : 0 ≤ z) (h1 : z < m) (w : World) : (execOp ρ o).run P w = .ok (.value (.pointer (some ⟨g, z.toNat, none⟩))) w := by
  have ha : (⟨g, 0, none⟩ : Addr).add (z.toNat * 1) = ⟨g, z.toNat, none⟩ := by unfold Addr.add; split <;> simp_all
  unfold execOp
  rw [ho]
  simp only [hx, hi]
  apply run_v
  cases hinf : P.info? e with
  | none => rw [hinf] at hs; simp at hs
  | some inf =>
    rw [hinf] at hs
    simp only [Option.map_some, Option.some.injEq] at hs
    simp only [Instr.indexAt, asIntOf, underlying, program, sizeOf, typeInfo, Sem.run_bind, Sem.run_pure, Sem.run, Result.andThen, hu, hinf, bind, pure, Sem.bind, h0, h1, and_self, if_true, hs, ha]
theorem run_load1 {ρ : Operand → Value} {o : Oper} {t : TypeId} {x : Operand} {p : Addr} {v : Value} (ho : o.op = .load t x) (hu : P.underlying t = some (.int .i64)) (hx : ρ x = .pointer (some p)) {w : World} (hc : w.cell? p = some v) : (execOp ρ o).run P w = .ok (.value v) w := by
  unfold execOp
  rw [ho]
  simp only [hx]
  apply run_v
  simp only [Instr.loadAt, Instr.sureAddr, loadVar, isAgg, underlying, program, load, Sem.run_bind, Sem.run_pure, Sem.run, Result.andThen, hu, bind, pure, Sem.bind, hc, Bool.false_eq_true, if_false]
theorem ev_region {id : Nat} {os : List Oper} {rest : Code} (live : List Nat) (h : Fr n a l) (hr : (runsE P n os.toArray os l w).map (fun p => (keepT live p.1, p.2)) = some (l', w')) (hK : ∀ a', Fr n a' l' → rest.wp P Q a' w') : (Code.seq (Code.region id os.toArray false) rest).wp P Q a w := by
  refine wp_seq (wp_region_lit ?_)
  cases hx : runsE P n os.toArray os l w with
  | none => rw [hx] at hr; simp at hr
  | some p =>
    obtain ⟨l2, w2⟩ := p
    rw [hx] at hr
    simp only [Option.map_some, Option.some.injEq, Prod.mk.injEq] at hr
    obtain ⟨rfl, rfl⟩ := hr
    have := runs_sound (rest := []) (ops := os.toArray) (Q := Exit.then (rest.wp P Q) Q) h hx (fun a' h' => hK a' (h'.keep live))
    simpa using this
theorem ev_regionL {id : Nat} {os : List Oper} {K : Act → World → Prop} (live : List Nat) (h : Fr n a l) (hr : (runsE P n os.toArray os l w).map (fun p => (keepT live p.1, p.2)) = some (l', w')) (hK : ∀ a', Fr n a' l' → Q .normal a' w') : (Code.region id os.toArray false).wp P Q a w := by
  refine wp_region_lit ?_
  cases hx : runsE P n os.toArray os l w with
  | none => rw [hx] at hr; simp at hr
  | some p =>
    obtain ⟨l2, w2⟩ := p
    rw [hx] at hr
    simp only [Option.map_some, Option.some.injEq, Prod.mk.injEq] at hr
    obtain ⟨rfl, rfl⟩ := hr
    have := runs_sound (rest := []) (ops := os.toArray) (Q := Q) h hx (fun a' h' => hK a' (h'.keep live))
    simpa using this
end
theorem St.left {w0 w : World} {F0 : List Nat} : ∀ {qs ps : List Piece}, St w0 F0 (ps ++ qs) w → St w0 F0 ps w := by
  intro qs ps h
  obtain ⟨F, h1, k, h3⟩ := h
  obtain ⟨F1, F2, rfl, g1, g2, gd⟩ := sepAt_append.1 h1
  exact ⟨F1, g1, k, fun i hi => h3 i (List.mem_append_left _ hi)⟩
theorem St.ord {w0 w : World} {F0 : List Nat} {ps : List Piece} (h : St w0 F0 ps w) (σ : List Nat) (hσ : σ.isPerm (List.range ps.length) = true) : St w0 F0 (σ.filterMap (ps[·]?)) w := by
  have h1 : (σ.filterMap (ps[·]?)).Perm ((List.range ps.length).filterMap (ps[·]?)) := (List.isPerm_iff.1 hσ).filterMap _
  have h2 : (List.range ps.length).filterMap (ps[·]?) = ps := by
    clear h h1 hσ
    have : ∀ (qs rs : List Piece), (List.range' rs.length qs.length).filterMap ((rs ++ qs)[·]?) = qs := by
      intro qs
      induction qs with
      | nil => intro rs; rfl
      | cons q qs ih =>
        intro rs
        have := ih (rs ++ [q])
        simp only [List.length_cons, List.range'_succ, List.filterMap_cons]
        have e : (rs ++ q :: qs)[rs.length]? = some q := by simp
        rw [e]
        simp only [List.length_append, List.length_cons, List.length_nil, List.append_assoc, List.cons_append, List.nil_append] at this
        rw [this]
    have := this ps []
    simpa [List.range_eq_range'] using this
  rw [h2] at h1
  exact h.perm h1.symm
theorem St.sel {w0 w : World} {F0 : List Nat} {ps : List Piece} (h : St w0 F0 ps w) (σ τ : List Nat) (hσ : (σ ++ τ).isPerm (List.range ps.length) = true) : St w0 F0 (σ.filterMap (ps[·]?)) w := by
  have := h.ord (σ ++ τ) hσ
  rw [List.filterMap_append] at this
  exact this.left

def bind1 {α R : Type} (m : Option α) (k : α → Option R) : Option R := m.bind k
def bind2 {α β R : Type} (m : Option (α × β)) (k : α → β → Option R) : Option R := m.bind fun x => k x.1 x.2
def bind3 {α β γ R : Type} (m : Option (α × β × γ)) (k : α → β → γ → Option R) : Option R := m.bind fun x => k x.1 x.2.1 x.2.2
def bind4 {α β γ δ R : Type} (m : Option (α × β × γ × δ)) (k : α → β → γ → δ → Option R) : Option R := m.bind fun x => k x.1 x.2.1 x.2.2.1 x.2.2.2
def bind5 {α β γ δ ε R : Type} (m : Option (α × β × γ × δ × ε)) (k : α → β → γ → δ → ε → Option R) : Option R := m.bind fun x => k x.1 x.2.1 x.2.2.1 x.2.2.2.1 x.2.2.2.2
theorem bind1E {α R : Type} {m : Option α} {k : α → Option R} {r : R} (h : bind1 m k = some r) : ∃ x, m = some x ∧ k x = some r := Option.bind_eq_some_iff.1 h
theorem bind2E {α β R : Type} {m : Option (α × β)} {k : α → β → Option R} {r : R} (h : bind2 m k = some r) : ∃ x y, m = some (x, y) ∧ k x y = some r := by
  obtain ⟨⟨x, y⟩, h1, h2⟩ := Option.bind_eq_some_iff.1 h; exact ⟨x, y, h1, h2⟩
theorem bind3E {α β γ R : Type} {m : Option (α × β × γ)} {k : α → β → γ → Option R} {r : R} (h : bind3 m k = some r) : ∃ x y z, m = some (x, y, z) ∧ k x y z = some r := by
  obtain ⟨⟨x, y, z⟩, h1, h2⟩ := Option.bind_eq_some_iff.1 h; exact ⟨x, y, z, h1, h2⟩
theorem bind4E {α β γ δ R : Type} {m : Option (α × β × γ × δ)} {k : α → β → γ → δ → Option R} {r : R} (h : bind4 m k = some r) : ∃ x y z u, m = some (x, y, z, u) ∧ k x y z u = some r := by
  obtain ⟨⟨x, y, z, u⟩, h1, h2⟩ := Option.bind_eq_some_iff.1 h; exact ⟨x, y, z, u, h1, h2⟩
theorem bind5E {α β γ δ ε R : Type} {m : Option (α × β × γ × δ × ε)} {k : α → β → γ → δ → ε → Option R} {r : R} (h : bind5 m k = some r) : ∃ x y z u v, m = some (x, y, z, u, v) ∧ k x y z u v = some r := by
  obtain ⟨⟨x, y, z, u, v⟩, h1, h2⟩ := Option.bind_eq_some_iff.1 h; exact ⟨x, y, z, u, v, h1, h2⟩

section
variable {P : Program} {Q : Exit → Act → World → Prop} {K : Act → World → Prop} {a : Act} {w : World}
theorem thenN (h : K a w) : Exit.then K Q .normal a w := h
theorem thenE {id : Nat} (h : Q (.exit id) a w) : Exit.then K Q (.exit id) a w := h
theorem thenR (h : Q .ret a w) : Exit.then K Q .ret a w := h
theorem blockN {id : Nat} (h : Q .normal a w) : Exit.inBlock id Q .normal a w := h
theorem blockE {id : Nat} (h : Q .normal a w) : Exit.inBlock id Q (.exit id) a w := by unfold Exit.inBlock; simp only [if_true]; exact h
theorem blockX {id id' : Nat} (hne : id' ≠ id) (h : Q (.exit id') a w) : Exit.inBlock id Q (.exit id') a w := by unfold Exit.inBlock; simp only [hne, if_false]; exact h
theorem blockR {id : Nat} (h : Q .ret a w) : Exit.inBlock id Q .ret a w := h
def resOf (l : Asc) : List Nat → Value
  | [t] => lkT l t
  | ts => .tuple (ts.map (lkT l)).toArray
theorem ev_ret {fn : Func} {R : Ending → World → Prop} {n : Nat} {l : Asc} (h : Fr n a l) (ts : List Nat) (v : Value) (hr : fn.results = (ts.map ResultVar.tmp).toArray) (hb : ts.all (hasT l) = true) (hv : resOf l ts = v) (hR : R (.returned v) w) : bodyPost P fn R .ret a w := by
  refine bodyPost_ret (v := v) ?_ h.defers hR
  have hm : ∀ ts : List Nat, ts.all (hasT l) = true → ts.map (fun t => a.tmps.getD t undef) = ts.map (lkT l) := by
    intro ts hts
    exact List.map_congr_left fun t ht => (h.val t (List.all_eq_true.1 hts t ht)).2
  have key : ∀ (f : ResultVar → Sem Value) (hf : ∀ t, f (.tmp t) = pure (a.tmps.getD t undef)) (ts : List Nat), (List.mapM (m := Sem) f (ts.map ResultVar.tmp)).run P w = .ok (ts.map (fun t => a.tmps.getD t undef)) w := by
    intro f hf ts
    induction ts with
    | nil => rfl
    | cons t ts ih =>
      simp only [List.map_cons, List.mapM_cons, Sem.run_bind, hf]
      rw [show Sem.run P (pure (a.tmps.getD t undef)) w = .ok (a.tmps.getD t undef) w from rfl]
      simp only [Result.andThen]
      rw [ih]
      rfl
  unfold results
  rw [hr, List.mapM_toArray, Sem.run_bind]
  simp only [map_eq_pure_bind, Sem.run_bind]
  rw [key _ (fun t => rfl) ts]
  simp only [Result.andThen]
  rw [hm ts hb]
  subst hv
  match ts with
  | [] => rfl
  | [t] => rfl
  | t :: u :: ts => rfl
end
theorem St.ordP {w0 w : World} {F0 : List Nat} (qs ps : List Piece) (h : St w0 F0 (qs ++ ps) w) (σ τ : List Nat) (hσ : (σ ++ τ).isPerm (List.range qs.length) = true) : St w0 F0 (σ.filterMap (qs[·]?) ++ ps) w := by
  have h1 : ((σ ++ τ).filterMap (qs[·]?)).Perm ((List.range qs.length).filterMap (qs[·]?)) := (List.isPerm_iff.1 hσ).filterMap _
  have h2 : (List.range qs.length).filterMap (qs[·]?) = qs := by
    clear h h1 hσ
    have : ∀ (qs rs : List Piece), (List.range' rs.length qs.length).filterMap ((rs ++ qs)[·]?) = qs := by
      intro qs
      induction qs with
      | nil => intro rs; rfl
      | cons q qs ih =>
        intro rs
        have := ih (rs ++ [q])
        simp only [List.length_cons, List.range'_succ, List.filterMap_cons]
        have e : (rs ++ q :: qs)[rs.length]? = some q := by simp
        rw [e]
        simp only [List.length_append, List.length_cons, List.length_nil, List.append_assoc, List.cons_append, List.nil_append] at this
        rw [this]
    have := this qs []
    simpa [List.range_eq_range'] using this
  rw [h2, List.filterMap_append] at h1
  have h3 : (qs ++ ps).Perm (σ.filterMap (qs[·]?) ++ ps ++ τ.filterMap (qs[·]?)) := by
    refine (h1.symm.append_right ps).trans ?_
    rw [List.append_assoc, List.append_assoc]
    exact List.Perm.append_left _ List.perm_append_comm
  exact (h.perm h3).left
theorem St.shapeP {w0 w : World} {F0 : List Nat} {ps : List Piece} (h : St w0 F0 ps w) (k : Nat) {p : Option Addr} {n c : Nat} {L : List Int} (hk : ps[k]? = some (RowP (.slice p n c) L)) : L.length = 0 ∨ ∃ g, p = some ⟨g, 0, none⟩ := by
  obtain ⟨_, p', c', e, hp⟩ := h.shape k hk
  injection e with e1 e2 e3
  subst e1; exact hp
def pushM {α : Type} (L : List α) (x : α) : Option (List α) := if L.length < 1000000 then some (L ++ [x]) else none
theorem ev_push {ops : Array Oper} {rest : List Oper} {o : Oper} {n : Nat} {a : Act} {l : Asc} {Q : Exit → Act → World → Prop} {w0 : World} {F0 : List Nat} {ps : List Piece} {W : World} {v : Value} {L L2 : List Int} {y : Int} (d : Nat) (s x : Operand)
    (hF : Fr n a l) (hd : o.dst = some d) (hn : Nat.blt d n = true) (hgd : o.guard = none) (ho : o.op = .call { callee := .builtin .append, args := #[s, x], argTypes := #[55, 55] })
    (hs1 : hasO l s = true) (hx1 : hasO l x = true) (hs : lk l s = v) (hx : lk l x = .slice (some ⟨W.heap.size, 0, none⟩) 1 1)
    (h : St w0 F0 (RowP v L :: ps) W) (hm : pushM L y = some L2)
    (hK : ∀ g c w' a', St w0 F0 (RowP (.slice (some ⟨g, 0, none⟩) L2.length c) L2 :: ps) w' → Fr n a' ((d, .slice (some ⟨g, 0, none⟩) L2.length c) :: del d l) → wpList Try.prog ops Q rest a' w') :
    wpList Try.prog ops Q (o :: rest) a (W.alloc (.cells #[.int .i64 y] 3)) := by
  unfold pushM at hm
  split at hm
  · rename_i hl
    injection hm with hm
    subst hm
    refine wpList_grow hgd s x ho h rfl ((hF.eval hs1).trans hs) ((hF.eval hx1).trans hx) hl ?_
    intro v' w' h' hne
    obtain ⟨_, p, c, rfl, hp⟩ := h'.shape 0 rfl
    obtain ⟨g, rfl⟩ := hp.resolve_left (by simp)
    rw [hd]
    exact hK g c w' _ h' (hF.put (Nat.le_of_ble_eq_true hn) _)
  · cases hm
theorem ev_condT {P : Program} {Q : Exit → Act → World → Prop} {n : Nat} {a : Act} {l : Asc} {w : World} {c : Operand} {x y : Code} (h : Fr n a l) (hh : hasO l c = true) (hv : lk l c = .bool true) (hK : x.wp P Q a w) : (Code.cond c x y).wp P Q a w := wp_cond_true ((h.eval hh).trans hv) hK
theorem ev_condF {P : Program} {Q : Exit → Act → World → Prop} {n : Nat} {a : Act} {l : Asc} {w : World} {c : Operand} {x y : Code} (h : Fr n a l) (hh : hasO l c = true) (hv : lk l c = .bool false) (hK : y.wp P Q a w) : (Code.cond c x y).wp P Q a w := wp_cond_false ((h.eval hh).trans hv) hK
/-- An index that may be. -/
def inR (i : Int) (n : Nat) : Bool := decide (0 ≤ i) && decide (i < n)
theorem inR_spec {i : Int} {n : Nat} (h : inR i n = true) : 0 ≤ i ∧ i < n := by simpa [inR] using h
def atI (L : List Int) (i : Int) : Int := L.getD i.toNat 0
theorem St.atI {w0 w : World} {F0 : List Nat} {ps : List Piece} {g n c : Nat} {L : List Int} (h : St w0 F0 ps w) (k : Nat) (hk : ps[k]? = some (RowP (.slice (some ⟨g, 0, none⟩) n c) L)) {i : Int} (hi : inR i L.length = true) : w.cell? ⟨g, i.toNat, none⟩ = some (.int .i64 (atI L i)) := by
  obtain ⟨h0, h1⟩ := inR_spec hi
  have := h.num k hk i.toNat (by omega)
  rw [this]
  unfold Go.Proofs.Ytdnelekoplkkcaa.atI
  rw [List.getD_eq_getElem?_getD, List.getElem?_eq_getElem (by omega)]; rfl
section
variable {P : Program} {ops : Array Oper} {Q : Exit → Act → World → Prop} {n : Nat} {a : Act} {l l' : Asc} {w w' : World} {S : World → Prop} {listed : Array Bool} {fuel : Nat}
theorem any_start {id : Nat} {os : List Oper} (S : World → Prop) (hm : P.follows .mixedOrders = true) (h : wpAnyH P .any os.toArray Q S os.toArray.size (Array.replicate os.toArray.size false) a w.drew) : (Code.region id os.toArray true).wp P Q a w :=
  wp_region_held (S := S) hm h
/-- In a region that draws: an operation that yields in every world of S is taken first. -/
theorem any_take (i : Nat) {o : Oper} (v : Value) (hF : Fr n a l) (hi : ops[i]? = some o) (h1 : gdO ops o l = some true) (h2 : notSel o.op = true) (h3 : o.op.operands.toList.all (hasO l) = true)
    (h4 : ∀ w, S w → (execOp (lk l) o).run P w = .ok (.value v) w) (hp : putO n o v l = some l')
    (hs : Region.noSelect ops = true) (hf : Region.free .any ops listed i = true) (hr : (Region.ready .any ops listed).contains i = true)
    (hQ : ∀ c a w, Q (.panic c) (a.put o.dst v) w → Q (.panic c) a w) (hS : S w)
    (hK : ∀ a', Fr n a' l' → wpAnyH P .any ops Q S fuel (listed.setIfInBounds i true) a' w) : wpAnyH P .any ops Q S (fuel + 1) listed a w :=
  wpAnyH_take hi hs hf hr hQ (.inl ⟨gdO_wanted hF h1, fun w hw => by rw [exec_same hF h2 h3]; exact h4 w hw⟩) hS (hK _ (putO_fr hF hp))
theorem any_pass (i : Nat) {o : Oper} (hF : Fr n a l) (hi : ops[i]? = some o) (h1 : gdO ops o l = some false) (hp : putO n o undef l = some l')
    (hs : Region.noSelect ops = true) (hf : Region.free .any ops listed i = true) (hr : (Region.ready .any ops listed).contains i = true)
    (hQ : ∀ c a w, Q (.panic c) (a.put o.dst undef) w → Q (.panic c) a w) (hS : S w)
    (hK : ∀ a', Fr n a' l' → wpAnyH P .any ops Q S fuel (listed.setIfInBounds i true) a' w) : wpAnyH P .any ops Q S (fuel + 1) listed a w :=
  wpAnyH_take hi hs hf hr hQ (.inr ⟨gdO_wanted hF h1, rfl⟩) hS (hK _ (putO_fr hF hp))
theorem any_call (i : Nat) {o : Oper} (f : FuncId) (args : Array Value) {d : Nat} (hF : Fr n a l) (hi : ops[i]? = some o) (hr : Region.ready .any ops listed = [i]) (hd : o.dst = some d) (hn : Nat.blt d n = true)
    (h1 : gdO ops o l = some true) (h2 : notSel o.op = true) (h3 : o.op.operands.toList.all (hasO l) = true) (h4 : ∀ w, (execOp (lk l) o).run P w = .ok (.enter f args) w)
    (hc : Calls P f args w (RetV fun v w' => S w' ∧ ∀ a', Fr n a' ((d, v) :: del d l) → wpAnyH P .any ops Q S fuel (listed.setIfInBounds i true) a' w')) : wpAnyH P .any ops Q S (fuel + 1) listed a w := by
  refine wpAnyH_all hr (by simp) ?_
  intro j hj
  simp only [List.mem_singleton] at hj
  subst hj
  unfold wpOp
  rw [hi]
  simp only
  rw [gdO_wanted hF h1]
  simp only [if_true]
  left
  unfold Oper.wp
  rw [exec_same hF h2 h3, h4, Oper.upon_enter, hd]
  refine Calls.mono hc fun e w'' he => ?_
  cases e with
  | returned v => exact ⟨he.1, he.2 _ (hF.put (Nat.le_of_ble_eq_true hn) v)⟩
  | panicked c => exact he.elim
  | outgrown => exact he.elim
theorem any_done (hr : Region.ready .any ops listed = []) (h : Q .normal a w) : wpAnyH P .any ops Q S fuel listed a w := wpAnyH_done hr h fuel
theorem ev_retN {fn : Func} {R : Ending → World → Prop} (h : Fr n a l) (ts : List Nat) (v : Value) (hr : fn.results = (ts.map ResultVar.tmp).toArray) (hb : ts.all (hasT l) = true) (hv : resOf l ts = v) (hR : R (.returned v) w) : bodyPost P fn R .normal a w :=
  ev_ret (P := P) (a := a) (w := w) h ts v hr hb hv hR
end
theorem thenJ {P : Program} {Q : Exit → Act → World → Prop} {a : Act} {w : World} {x y : Code} (J : Act → World → Prop) (hx : x.wp P (Exit.then J Q) a w) (hy : ∀ a w, J a w → y.wp P Q a w) : x.wp P (Exit.then (y.wp P Q) Q) a w :=
  Code.wp_mono (fun e a w h => by cases e <;> first | exact hy _ _ h | exact h) hx
/-- The same slots, in another order. -/
def subL (l' l : Asc) : Prop := ∀ p ∈ l', hasT l p.1 = true ∧ lkT l p.1 = lkT l' p.1
theorem hasT_mem : ∀ {l : Asc} {t : Nat}, hasT l t = true → ∃ p ∈ l, p.1 = t
  | [], t, h => by simp [hasT] at h
  | p :: l, t, h => by
    simp only [hasT, Bool.or_eq_true] at h
    rcases h with h | h
    · exact ⟨p, List.mem_cons_self, Nat.eq_of_beq_eq_true h⟩
    · obtain ⟨q, hq, e⟩ := hasT_mem h
      exact ⟨q, List.mem_cons_of_mem _ hq, e⟩
theorem Fr.re {n : Nat} {a : Act} {l l' : Asc} (h : Fr n a l) (hk : (l'.map fun p => (hasT l p.1, lkT l p.1)) = l'.map fun p => (true, lkT l' p.1)) : Fr n a l' := by
  refine ⟨h.size, h.defers, fun t ht => ?_⟩
  obtain ⟨p, hp, rfl⟩ := hasT_mem ht
  have := List.map_inj_left.1 hk p hp
  injection this with h1 h2
  rw [← h2]
  exact h.val _ h1
end Go.Proofs.Ytdnelekoplkkcaa
