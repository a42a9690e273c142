/- Operations on blocks known whole. -/
import Derived.Test.YtdnelekoplkkcaaEv2
namespace Go.Proofs.Ytdnelekoplkkcaa
open Go.RowKit
set_option linter.unusedVariables false
set_option linter.unusedSimpArgs false
section
variable {P : Program} {ops : Array Oper} {Q : Exit → Act → World → Prop} {n : Nat} {a : Act} {l l' : Asc} {w w' : World}
theorem add_at (g off i : Nat) : (⟨g, off, none⟩ : Addr).add i = ⟨g, off + i, none⟩ := by unfold Addr.add; split <;> simp_all
theorem run_cells {g off : Nat} {cs : List Value} (hc : ∀ j (h : j < cs.length), w.cell? ⟨g, off + j, none⟩ = some cs[j]) : ∀ (m i : Nat) (acc : Array Value), i + m = cs.length → (loadCellsFrom ⟨g, off, none⟩ i m acc).run P w = .ok (acc ++ (cs.drop i).toArray) w
  | 0, i, acc, h => by
    simp only [loadCellsFrom, Sem.run_pure]
    rw [List.drop_eq_nil_of_le (by omega)]; simp
  | m + 1, i, acc, h => by
    simp only [loadCellsFrom, Sem.run_bind, load, Sem.run, add_at]
    rw [hc i (by omega)]
    simp only [Sem.run, Result.andThen]
    rw [run_cells hc m (i + 1) _ (by omega)]
    rw [List.drop_eq_getElem_cons (show i < cs.length by omega)]
    simp [pure, Sem.run]
theorem run_loadA {t : TypeId} {g off : Nat} {cs : List Value} {d : TypeDesc} (hu : P.underlying t = some d) (hd : (match d with | .struct _ => true | .array _ _ => true | _ => false) = true) (hs : (P.info? t).map (·.size) = some cs.length) (hc : ∀ j (h : j < cs.length), w.cell? ⟨g, off + j, none⟩ = some cs[j]) : (loadVar t ⟨g, off, none⟩).run P w = .ok (.agg cs.toArray) w := by
  cases hinf : P.info? t with
  | none => rw [hinf] at hs; simp at hs
  | some inf =>
    rw [hinf] at hs
    simp only [Option.map_some, Option.some.injEq] at hs
    have hagg : (isAgg t).run P w = .ok true w := by
      unfold isAgg
      cases d <;> first | (simp at hd; done) | (simp only [underlying, program, Sem.run_bind, Sem.run, hu, bind, pure, Sem.bind, Result.andThen])
    have hsz : (sizeOf t).run P w = .ok cs.length w := by
      simp only [sizeOf, typeInfo, program, Sem.run_bind, Sem.run, hinf, bind, pure, Sem.bind, hs, Result.andThen]
    have hcl : (loadCells ⟨g, off, none⟩ cs.length).run P w = .ok cs.toArray w := by
      unfold loadCells
      rw [run_cells hc cs.length 0 #[] (by omega)]
      simp
    unfold loadVar
    rw [Sem.run_bind, hagg]
    simp only [Result.andThen, if_true]
    rw [Sem.run_bind, hsz]
    simp only [Result.andThen]
    rw [Sem.run_bind, hcl]
    rfl
theorem run_loadS {t : TypeId} {p : Addr} {v : Value} {d : TypeDesc} (hu : P.underlying t = some d) (hd : (match d with | .struct _ => false | .array _ _ => false | _ => true) = true) (hc : w.cell? p = some v) : (loadVar t p).run P w = .ok v w := by
  unfold loadVar isAgg
  cases d <;> first | (simp at hd; done) | (simp only [underlying, program, load, Sem.run_bind, Sem.run, hu, bind, pure, Sem.bind, Result.andThen, hc, Bool.false_eq_true, if_false])
theorem run_loadV {ρ : Operand → Value} {o : Oper} {t : TypeId} {x : Operand} {p : Addr} {v : Value} (ho : o.op = .load t x) (hx : ρ x = .pointer (some p)) (h : (loadVar t p).run P w = .ok v w) : (execOp ρ o).run P w = .ok (.value v) w := by
  unfold execOp
  rw [ho]
  simp only [hx]
  apply run_v
  simp only [Instr.loadAt, Instr.sureAddr, Sem.run_bind, Sem.run_pure, Result.andThen, pure, Sem.run]
  exact h
/-- Cells laid one behind the other. -/
def setL (cs : Array Value) (off : Nat) : List Value → Array Value
  | [] => cs
  | v :: vs => setL (cs.setIfInBounds off v) (off + 1) vs
def flatV : Value → Bool
  | .agg _ => false
  | .tuple _ => false
  | _ => true
theorem run_storeL {w0 : World} {F0 : List Nat} {ps : List Piece} {g : Nat} {T : TypeId} : ∀ (vs : List Value) (w : World) (cs : Array Value) (off i : Nat), St w0 F0 (BlkP g T cs :: ps) w → off + i + vs.length ≤ cs.size → vs.all flatV = true →
    ∃ w', (storeCells ⟨g, off, none⟩ vs i).run P w = .ok () w' ∧ St w0 F0 (BlkP g T (setL cs (off + i) vs) :: ps) w'
  | [], w, cs, off, i, h, _, _ => ⟨w, rfl, h⟩
  | v :: vs, w, cs, off, i, h, hl, hf => by
    simp only [List.all_cons, Bool.and_eq_true] at hf
    simp only [List.length_cons] at hl
    have hc : w.cell? ⟨g, off + i, none⟩ = some cs[off + i] := h.cell 0 rfl (off + i) (Array.getElem?_eq_getElem (by omega))
    have hfr := h.free 0 rfl (off + i)
    have h2 := h.set (off + i) v
    obtain ⟨w', e, h3⟩ := run_storeL vs _ _ off (i + 1) h2 (by simp; omega) hf.2
    refine ⟨w', ?_, h3⟩
    simp only [storeCells, Sem.run_bind, store, add_at]
    have : (Sem.store Mode.plain ⟨g, off + i, none⟩ v (Sem.pure ())).run P w = .ok () (w.setCell ⟨g, off + i, none⟩ v) := by
      cases v <;> first | (simp [flatV] at hf; done) | simp only [Sem.run, hc, hfr, Bool.false_eq_true, if_false]
    rw [this]
    simp only [Result.andThen]
    exact e
theorem ev_store {w0 : World} {F0 : List Nat} {ps : List Piece} {g off : Nat} {T : TypeId} {cs : Array Value} {o : Oper} {rest : List Oper} {t : TypeId} {x y : Operand} (v : Value) (cs' : Array Value) (h : Fr n a l) (h1 : gdO ops o l = some true) (h2 : o.op = .store t x y) (h3 : (hasO l x && hasO l y) = true)
    (hx : lk l x = .pointer (some ⟨g, off, none⟩)) (hy : lk l y = v) (hs : (P.info? t).map (·.size) = some v.cells.size) (hS : St w0 F0 (BlkP g T cs :: ps) w) (hb : Nat.ble (off + v.cells.size) cs.size = true) (hf : v.cells.toList.all flatV = true) (he : setL cs off v.cells.toList = cs') (hp : putO n o undef l = some l')
    (hK : ∀ w' a', St w0 F0 (BlkP g T cs' :: ps) w' → Fr n a' l' → wpList P ops Q rest a' w') : wpList P ops Q (o :: rest) a w := by
  simp only [Bool.and_eq_true] at h3
  have hns : notSel o.op = true := by rw [h2]; rfl
  have hbd : o.op.operands.toList.all (hasO l) = true := by rw [h2]; simp [Op.operands, h3.1, h3.2]
  obtain ⟨w', e, hS'⟩ := run_storeL (P := P) v.cells.toList w cs off 0 hS (by have := Nat.le_of_ble_eq_true hb; simpa using this) hf
  refine ev_skip w' h h1 hns hbd ?_ hp (fun a' hF' => hK w' a' (he ▸ hS') hF')
  unfold execOp
  rw [h2]
  simp only [hx, hy]
  apply run_u
  cases hinf : P.info? t with
  | none => rw [hinf] at hs; simp at hs
  | some inf =>
    rw [hinf] at hs
    simp only [Option.map_some, Option.some.injEq] at hs
    simp only [Instr.storeAt, Instr.sureAddr, storeVar, sizeOf, typeInfo, program, Sem.run_bind, Sem.run, Result.andThen, hinf, bind, pure, Sem.bind, hs, ne_eq, not_true_eq_false, if_false]
    exact e
end
/-- The results of a function: slots, or what lies in memory. -/
def ResV (P : Program) (w : World) (l : Asc) : ResultVar → Value → Prop
  | .tmp t, v => hasT l t = true ∧ lkT l t = v
  | .cell p ty, v => hasT l p = true ∧ ∃ a, lkT l p = .pointer (some a) ∧ (loadVar ty a).run P w = .ok v w
def ResVs (P : Program) (w : World) (l : Asc) : List ResultVar → List Value → Prop
  | [], [] => True
  | r :: rs, v :: vs => ResV P w l r v ∧ ResVs P w l rs vs
  | _, _ => False
def oneOf : List Value → Value
  | [v] => v
  | vs => .tuple vs.toArray
theorem ev_retC {P : Program} {a : Act} {w : World} {fn : Func} {R : Ending → World → Prop} {n : Nat} {l : Asc} (h : Fr n a l) (rs : List ResultVar) (vs : List Value) (v : Value) (hr : fn.results = rs.toArray) (hv : ResVs P w l rs vs) (he : oneOf vs = v) (hR : R (.returned v) w) : bodyPost P fn R .ret a w := by
  refine bodyPost_ret (v := v) ?_ h.defers hR
  have key : ∀ (f : ResultVar → Sem Value) (hf : ∀ r v, ResV P w l r v → (f r).run P w = .ok v w) (rs : List ResultVar) (vs : List Value), ResVs P w l rs vs → (List.mapM (m := Sem) f rs).run P w = .ok vs w := by
    intro f hf rs
    induction rs with
    | nil => intro vs hv; cases vs with
      | nil => rfl
      | cons v vs => exact hv.elim
    | cons r rs ih =>
      intro vs hv
      cases vs with
      | nil => exact hv.elim
      | cons v vs =>
        simp only [List.mapM_cons, Sem.run_bind]
        rw [hf _ _ hv.1]
        simp only [Result.andThen]
        rw [ih _ hv.2]
        rfl
  unfold results
  rw [hr, List.mapM_toArray, Sem.run_bind]
  simp only [map_eq_pure_bind, Sem.run_bind]
  rw [key _ ?_ rs vs hv]
  · simp only [Result.andThen]
    subst he
    match vs with
    | [] => rfl
    | [t] => rfl
    | t :: u :: ts => rfl
  · intro r v hrv
    cases r with
    | tmp t =>
      obtain ⟨h1, rfl⟩ := hrv
      show Sem.run P (pure (a.tmps.getD t undef)) w = _
      rw [(h.val t h1).2]; rfl
    | cell p ty =>
      obtain ⟨h1, ad, h2, h3⟩ := hrv
      show Sem.run P (do loadVar ty (← asAddr (a.tmps.getD p undef))) w = _
      rw [(h.val p h1).2, h2]
      simp only [asAddr, Sem.run_bind, Sem.run, pure, Result.andThen]
      exact h3
/-- A block known whole: its cells. -/
theorem blk_cells {w0 w : World} {F0 : List Nat} {ps : List Piece} {g off : Nat} {T : TypeId} {cs : Array Value} {vs : List Value} (h : St w0 F0 ps w) (k : Nat) (hk : ps[k]? = some (BlkP g T cs)) (he : (cs.toList.drop off).take vs.length = vs) : ∀ j (hj : j < vs.length), w.cell? ⟨g, off + j, none⟩ = some vs[j] := by
  intro j hj
  refine h.cell k hk (off + j) ?_
  have h1 : vs[j]? = some vs[j] := List.getElem?_eq_getElem hj
  have h2 := congrArg (fun l : List Value => l[j]?) he
  change _ = vs[j]? at h2
  rw [h1, List.getElem?_take_of_lt hj, List.getElem?_drop] at h2
  simpa using h2
/-- A slice's end that may be. -/
def leR (i : Int) (n : Nat) : Bool := decide (0 ≤ i) && decide (i ≤ n)
theorem leR_spec {i : Int} {n : Nat} (h : leR i n = true) : 0 ≤ i ∧ i ≤ n := by simpa [leR] using h
theorem leR_nat {i : Int} {n : Nat} (h : leR i n = true) : i.toNat ≤ n := by have := leR_spec h; omega
theorem St.cap {w0 w : World} {F0 : List Nat} {ps : List Piece} (h : St w0 F0 ps w) (k : Nat) {p : Option Addr} {n c : Nat} {L : List Int} (hk : ps[k]? = some (RowP (.slice p n c) L)) : L.length ≤ c := by
  obtain ⟨G, h1⟩ := h.get k hk
  rcases h1.1.2 with ⟨e, h0⟩ | ⟨g', cap, cs, e, h2, h3, h4, h5, h6, h7⟩
  · rw [h0]; exact Nat.zero_le _
  · injection e with e1 e2 e3
    subst e3; exact h4
theorem run_sliceHi {P : Program} {ρ : Operand → Value} {o : Oper} {t e : TypeId} {x i : Operand} {g m c : Nat} {z : Int} {k : IntKind} (ho : o.op = .slice t x none (some i) none) (hu : P.underlying t = some (.slice e)) (hs : (P.info? e).map (·.size) = some 1)
    (hx : ρ x = .slice (some ⟨g, 0, none⟩) m c) (hi : ρ i = .int k z) (h0 : 0 ≤ z) (h1 : z ≤ c) (w : World) : (execOp ρ o).run P w = .ok (.value (.slice (some ⟨g, 0, none⟩) z.toNat c)) w := by
  have ha : (⟨g, 0, none⟩ : Addr).add (0 * 1) = ⟨g, 0, none⟩ := rfl
  unfold execOp
  rw [ho]
  simp only [Option.map_none, Option.map_some, hx, hi]
  apply run_v
  cases hinf : P.info? e with
  | none => rw [hinf] at hs; simp at hs
  | some inf =>
    rw [hinf] at hs
    simp only [Option.map_some, Option.some.injEq] at hs
    have hb : (Instr.sliceBounds true m c none (some (.int k z)) none).run P w = .ok (0, z.toNat, c) w := by
      simp only [Instr.sliceBounds, Instr.sliceBound, asIntOf, Sem.run_bind, Sem.run_pure, Sem.run, Result.andThen, bind, pure, Sem.bind, h0, h1, and_self, if_true]
    have hsz : (sizeOf e).run P w = .ok 1 w := by
      simp only [sizeOf, typeInfo, program, Sem.run_bind, Sem.run, hinf, bind, pure, Sem.bind, hs, Result.andThen]
    have hun : (underlying t).run P w = .ok (.slice e) w := by
      simp only [underlying, program, Sem.run_bind, Sem.run, hu, bind, pure, Sem.bind, Result.andThen]
    unfold Instr.sliceAt
    rw [Sem.run_bind, hun]
    simp only [Result.andThen]
    unfold Instr.slice
    rw [Sem.run_bind, hun]
    simp only [Result.andThen]
    rw [Sem.run_bind, hb]
    simp only [Result.andThen]
    rw [Sem.run_bind, hsz]
    simp only [Result.andThen, Nat.sub_zero, Option.map_some, ha]
    by_cases hc : c = 0 <;> simp [hc, pure, Sem.run]
theorem run_rem {P : Program} {ρ : Operand → Value} {o : Oper} {t t2 : TypeId} {x y : Operand} {k : IntKind} {a b : Int} (ho : o.op = .binOp .rem t x y t2) (hx : ρ x = .int k a) (hy : ρ y = .int k b) (hb : (b == 0) = false) (w : World) : (execOp ρ o).run P w = .ok (.value (.int k (a.tmod b))) w := by
  have hb' : ¬ b = 0 := by simpa using hb
  unfold execOp
  rw [ho]
  simp only [hx, hy]
  apply run_v
  simp only [eqGuard, binOp, Op.intDiv, hb', if_false, Sem.run_bind, Sem.run, bind, pure, Sem.bind, Result.andThen, ne_eq, not_true_eq_false, Bool.not_false, if_true]
theorem run_quo {P : Program} {ρ : Operand → Value} {o : Oper} {t t2 : TypeId} {x y : Operand} {k : IntKind} {a b : Int} (ho : o.op = .binOp .quo t x y t2) (hx : ρ x = .int k a) (hy : ρ y = .int k b) (hb : (b == 0) = false) (w : World) : (execOp ρ o).run P w = .ok (.value (.int k (k.wrap (a.tdiv b)))) w := by
  have hb' : ¬ b = 0 := by simpa using hb
  unfold execOp
  rw [ho]
  simp only [hx, hy]
  apply run_v
  simp only [eqGuard, binOp, Op.intDiv, hb', if_false, Sem.run_bind, Sem.run, bind, pure, Sem.bind, Result.andThen, ne_eq, not_true_eq_false, Bool.not_false, if_true]
end Go.Proofs.Ytdnelekoplkkcaa
