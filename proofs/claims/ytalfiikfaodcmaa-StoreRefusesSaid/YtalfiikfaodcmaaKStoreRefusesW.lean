/- StoreRefusesW -/
import Derived.Test.YtalfiikfaodcmaaKGStoreRefuses
import Derived.Test.YtalfiikfaodcmaaKUmod
import Derived.Test.YtalfiikfaodcmaaRows
import Derived.WalkKit
import Derived.WalkSpells
import Derived.WalkLawsBesides
/-
  The walk of 'dormouselaw21.StoreRefuses': the call returns true, in a world with at most new blocks.
-/
namespace Go.Proofs.Ytalfiikfaodcmaa.storeRefuses
open Go.RowKit
set_option linter.unusedVariables false

theorem sizes_eq (i1 i2 : Int) : store_sizes.m 100 [(⟨5, 0⟩ : Nd), ⟨i1, i2⟩] = if (!(rKnown i1 i2)) = true then some ([], false) else bind1 (pushM [2] (rNeed i1 i2)) fun L => some (L, true) := by kernel_rfl
theorem take_same {k : Nat} {s : HSt} {a b c : Int} {L1 L3 : List Nd} {L2 : List Int} (hl : L1.length = L3.length) (hk : ∀ x, (atX kNd L1 x).kind = (atX kNd L3 x).kind) : store_take.m k s a b c L1 L2 = store_take.m k s a b c L3 L2 := by
  have h3 : ∀ n, store_take.l3 L1 L2 k n = store_take.l3 L3 L2 k n := by
    intro n
    induction n with
    | zero => rfl
    | succ n ih =>
      show store_take.l3b L1 L2 k (store_take.l3 L1 L2 k n) = store_take.l3b L3 L2 k (store_take.l3 L3 L2 k n)
      rw [ih]
      funext x y z
      unfold store_take.l3b
      rw [hl]
      simp only [hk]
  unfold store_take.m
  rw [h3]
theorem kind_same (i1 i2 : Int) : ∀ x, (atX kNd [(⟨5, 0⟩ : Nd), ⟨i1, i2⟩] x).kind = (atX kNd [(⟨5, 0⟩ : Nd), ⟨i1, 0⟩] x).kind := by
  intro x
  unfold atX
  rcases x.toNat with _ | _ | n <;> rfl
theorem known_same {i1 i2 : Int} (h : i1 ≠ 2) : rKnown i1 i2 = rKnown i1 0 ∧ rNeed i1 i2 = rNeed i1 0 := by
  unfold rKnown rNeed
  rw [if_neg h, if_neg h, if_neg h, if_neg h]
  exact ⟨rfl, rfl⟩
theorem alloc_same {s : HSt} {i1 i2 : Int} (h : i1 ≠ 2) : store_Alloc.m 100 s 100 100 0 [(⟨5, 0⟩ : Nd), ⟨i1, i2⟩] [] = store_Alloc.m 100 s 100 100 0 [(⟨5, 0⟩ : Nd), ⟨i1, 0⟩] [] := by
  have h1 : store_sizes.m 100 [(⟨5, 0⟩ : Nd), ⟨i1, i2⟩] = store_sizes.m 100 [(⟨5, 0⟩ : Nd), ⟨i1, 0⟩] := by rw [sizes_eq, sizes_eq, (known_same h).1, (known_same h).2]
  have h2 : ∀ (s : HSt) (L2 : List Int), store_take.m 100 s 100 100 0 [(⟨5, 0⟩ : Nd), ⟨i1, i2⟩] L2 = store_take.m 100 s 100 100 0 [(⟨5, 0⟩ : Nd), ⟨i1, 0⟩] L2 := fun s L2 => take_same rfl (kind_same i1 i2)
  unfold store_Alloc.m store_Alloc.j1 store_Alloc.j2
  simp only [h1, h2]
def errOf (r : Option (List Int × List Gn × Int × HSt)) : Option Int := r.map (·.2.2.1)
theorem errOf_some {r : Option (List Int × List Gn × Int × HSt)} {x : Int} (h : errOf r = some x) : ∃ L G s, r = some (L, G, x, s) := by
  obtain ⟨q, h1, h2⟩ := Option.map_eq_some_iff.1 h
  obtain ⟨L, G, y, s⟩ := q
  simp only at h2
  subst h2
  exact ⟨L, G, s, h1⟩
theorem tab_buf : ∀ n < 4, errOf (store_Alloc.m 100 (hNew 100) 100 100 0 [(⟨5, 0⟩ : Nd), ⟨2, ((n : Nat) : Int)⟩] []) = some 0 := by decide +kernel
theorem tab_one : ∀ n < 7, n ≠ 0 → n ≠ 2 → errOf (store_Alloc.m 100 (hNew 100) 100 100 0 [(⟨5, 0⟩ : Nd), ⟨((n : Nat) : Int), 0⟩] []) = some 0 := by decide +kernel
theorem alloc_known {i1 i2 : Int} (h : rKnown i1 i2 = true) : ∃ L G s, store_Alloc.m 100 (hNew 100) 100 100 0 [(⟨5, 0⟩ : Nd), ⟨i1, i2⟩] [] = some (L, G, 0, s) := by
  refine errOf_some ?_
  by_cases h2 : i1 = 2
  · subst h2
    have h3 : 0 ≤ i2 ∧ i2 ≤ 3 := by simpa [rKnown] using h
    have := tab_buf i2.toNat (by omega)
    rw [show ((i2.toNat : Nat) : Int) = i2 by omega] at this
    exact this
  · rw [alloc_same h2]
    have h3 : 1 ≤ i1 ∧ i1 ≤ 6 := by unfold rKnown at h; rw [if_neg h2] at h; simpa using h
    have := tab_one i1.toNat (by omega) (by omega) (by omega)
    rw [show ((i1.toNat : Nat) : Int) = i1 by omega] at this
    exact this
theorem alloc_not {i1 i2 : Int} (h : rKnown i1 i2 = false) : store_Alloc.m 100 (hNew 100) 100 100 0 [(⟨5, 0⟩ : Nd), ⟨i1, i2⟩] [] = some ([], [], 1, hNew 100) := by
  unfold store_Alloc.m
  rw [sizes_eq, h]
  rfl
theorem alloc_any (i1 i2 : Int) : ∃ L G s, store_Alloc.m 100 (hNew 100) 100 100 0 [(⟨5, 0⟩ : Nd), ⟨i1, i2⟩] [] = some (L, G, if rKnown i1 i2 = true then 0 else 1, s) := by
  cases h : rKnown i1 i2 with
  | true => exact alloc_known h
  | false => exact ⟨_, _, _, alloc_not h⟩
theorem allocN : store_AllocN.m 100 [] [] = some ([], [], 2) := by kernel_rfl
theorem awakeT : law21_awake.m 100 = some true := by decide +kernel
theorem j1_eq (i1 i2 x : Int) (y : Bool) : StoreRefuses.j1 i1 i2 100 x y = StoreRefuses.j2 i1 i2 100 x y (hNew 100) 100 100 0 false := by kernel_rfl
theorem j1E_eq (i1 i2 x : Int) (y : Bool) : StoreRefusesE.j1 i1 i2 100 x y = StoreRefusesE.j2 i1 i2 100 x y (hNew 100) 100 100 0 false := by kernel_rfl
theorem j1T (i1 i2 : Int) : StoreRefuses.j1 i1 i2 100 0 true = some true := by
  obtain ⟨L, G, s, h⟩ := alloc_any i1 i2
  rw [j1_eq]
  unfold StoreRefuses.j2
  rw [h, allocN, awakeT]
  cases hk : rKnown i1 i2 with
  | true => rfl
  | false => rfl
theorem j1F (i1 i2 : Int) : StoreRefusesE.j1 i1 i2 100 1 false = some true := by
  obtain ⟨L, G, s, h⟩ := alloc_any i1 i2
  rw [j1E_eq]
  unfold StoreRefusesE.j2
  rw [h, allocN, awakeT]
  cases hk : rKnown i1 i2 with
  | true => rfl
  | false => rfl
def okC (c : Cf) : Prop := 1 ≤ c.start ∧ c.start ≤ 100 ∧ 0 ≤ c.assist ∧ c.assist ≤ 8 ∧ 2 ≤ c.spans ∧ c.spans ≤ 128
theorem pure (c : Cf) (i1 i2 : Int) (h : okC c) : StoreRefuses.m 100 c i1 i2 = some true := by
  obtain ⟨h1, h2, h3, h4, h5, h6⟩ := h
  have e : store_New.m 100 ⟨c.spans, c.start, c.assist⟩ = some (hNew c.spans.toNat, c.spans, c.start, c.assist, 0) := by
    unfold store_New.m store_New.j1 pNew
    simp only [decide_eq_true_eq]
    rw [if_neg (by omega), if_neg (by omega), if_neg (by omega), if_neg (by simp; omega), if_pos ⟨h5, h6⟩]
    rfl
  unfold StoreRefuses.m
  rw [e]
  show (if _ then _ else _) = _
  rw [if_pos (by simpa using h1), if_pos (by simpa using h2), if_pos (by simpa using h3), if_pos (by simpa using h4), if_pos (by simpa using h5)]
  rw [show decide (c.spans ≤ 128) = true by simpa using h6]
  exact j1T i1 i2
theorem pureE (c : Cf) (i1 i2 : Int) (h : ¬ okC c) : StoreRefusesE.m 100 c i1 i2 = some true := by
  have e : store_NewE.m 100 ⟨c.spans, c.start, c.assist⟩ = some 1 := by
    unfold store_NewE.m store_NewE.j1 pNewE
    simp only [decide_eq_true_eq]
    by_cases a1 : c.start < 1
    · rw [if_pos a1]; rfl
    rw [if_neg a1]
    by_cases a2 : c.start > 100
    · rw [if_pos a2]; rfl
    rw [if_neg a2]
    by_cases a3 : c.assist < 0
    · rw [if_pos a3]; rfl
    rw [if_neg a3]
    by_cases a4 : c.assist > 8
    · rw [if_pos a4]
    rw [if_neg a4, if_pos (by unfold okC at h; omega)]
    rfl
  unfold StoreRefusesE.m
  rw [e]
  show (if _ then _ else _) = _
  by_cases a1 : c.start ≥ 1
  · rw [if_pos (by simpa using a1)]
    by_cases a2 : c.start ≤ 100
    · rw [if_pos (by simpa using a2)]
      by_cases a3 : c.assist ≥ 0
      · rw [if_pos (by simpa using a3)]
        by_cases a4 : c.assist ≤ 8
        · rw [if_pos (by simpa using a4)]
          by_cases a5 : c.spans ≥ 2
          · rw [if_pos (by simpa using a5)]
            rw [show decide (c.spans ≤ 128) = false by unfold okC at h; simp; omega]
            exact j1F i1 i2
          · rw [if_neg (by simpa using a5)]; exact j1F i1 i2
        · rw [if_neg (by simpa using a4)]; exact j1F i1 i2
      · rw [if_neg (by simpa using a3)]; exact j1F i1 i2
    · rw [if_neg (by simpa using a2)]; exact j1F i1 i2
  · rw [if_neg (by simpa using a1)]; exact j1F i1 i2
theorem walk (x0_0 x0_1 x0_2 : Int) (a1 : Int) (a2 : Int) (w : World) (w0 : ∀ x ∈ [x0_0, x0_1, x0_2], Wd x) (w1 : (Lit.int .i64 a1).wf = true) (w2 : (Lit.int .i64 a2).wf = true) :
    Calls Try.prog 5 #[.agg #[.int .i64 x0_0, .int .i64 x0_1, .int .i64 x0_2], .int .i64 a1, .int .i64 a2] w fun e w' => e = .returned (.bool true) ∧ Below w.heap.size w w' := by
  by_cases h : okC ⟨x0_0, x0_1, x0_2⟩
  · exact (StoreRefuses.ok (i0 := ⟨x0_0, x0_1, x0_2⟩) (St.empty w) (pure _ _ _ h)).mono fun e w' ⟨he, h⟩ => ⟨he, h.old⟩
  · exact (StoreRefusesE.ok (i0 := ⟨x0_0, x0_1, x0_2⟩) (St.empty w) (pureE _ _ _ h)).mono fun e w' ⟨he, h⟩ => ⟨he, h.old⟩

end Go.Proofs.Ytalfiikfaodcmaa.storeRefuses
