/- ArenaPlaysW ArenaPlays -/
import Derived.Test.YtffnjpapggidlaaKGArenaPlays
import Derived.Test.YtffnjpapggidlaaKSepLit
import Derived.Test.YtffnjpapggidlaaKHelpM
import Derived.Test.YtffnjpapggidlaaKArg
import Derived.Test.YtffnjpapggidlaaKSepHeap
import Derived.Test.YtffnjpapggidlaaRows
import Derived.WalkKit
import Derived.WalkSpells
import Derived.WalkLawsBesides
import Derived.ProofKit
import Derived.OpenShut
import Derived.ShutString
import Derived.ChangeOld
import Derived.Below
/-
  The walk of 'dormouselaw07.ArenaPlays': the call returns true, in a world with at most new blocks.
-/
namespace Go.Proofs.Ytffnjpapggidlaa.arenaPlays
open Go.RowKit
set_option linter.unusedVariables false

theorem awakeT : law07_awake.m 5000 = some true := by decide +kernel
structure AI (s : ASt) : Prop where
  ok : AOk s
  n : s.l.length ≤ 128
theorem AI.objs {s : ASt} (a : AI s) : (hObjsF s).length ≤ 4096 := by
  rw [← hObjsF_eq]; have := hObjs_len (s := s); have := a.ok.len; have := a.n; omega
theorem AI.alloc {s : ASt} (a : AI s) (kind n : Int) : AI (aAllocS kind n s) := by
  unfold aAllocS
  cases hb : aBad kind n with
  | true => exact a
  | false =>
    simp only [Bool.false_eq_true, if_false]
    cases ha : aAlloc kind n s with
    | none => exact a
    | some x =>
      obtain ⟨p, s'⟩ := x
      obtain ⟨ok, _, el, _⟩ := alloc_ok a.ok hb ha
      exact ⟨ok, by simp only; rw [el]; exact a.n⟩
theorem AI.free {s : ASt} (a : AI s) (p : Int) : AI (aFreeS p s) := by
  obtain ⟨ok, _, el⟩ := free_ok a.ok p
  exact ⟨ok, by rw [el]; exact a.n⟩
theorem AI.store {s : ASt} (a : AI s) (p i w : Int) : AI (aStoreS p i w s) := by
  obtain ⟨ok, _, el⟩ := store_ok a.ok p i w
  exact ⟨ok, by rw [el]; exact a.n⟩
theorem new_y (i0 : Int) : ∃ n : Nat, n ≤ 128 ∧ bind1 (some (IntKind.i64.wrap (2 + (IntKind.i64.wrap (Int.tmod (IntKind.u64.wrap i0) 6))))) rNew = some (aNew n) := by
  obtain ⟨c, hc, ec⟩ := u_mod i0 6 (by omega)
  simp only [Int.cast_ofNat_Int] at ec
  rw [ec, wr_t (c : Int) (by omega) (by omega), wr_t (2 + (c : Int)) (by omega) (by omega), bind1_y]
  refine ⟨2 + c, by omega, ?_⟩
  unfold rNew
  rw [if_pos (by omega), show (2 + (c : Int)).toNat = 2 + c by omega]
theorem all_l66 {s : ASt} (a : AI s) {i : Nat} (hi : i < (hObjsF s).length) {R : Int → Option Bool} : ∀ (m : Nat) (x : Int), -1 ≤ x → x ≤ aLen s.c (hObjsF s)[i] + 1 → (aLen s.c (hObjsF s)[i] + 1 - x).toNat < m → ArenaPlays.l66 s s (i : Int) R m x = R ((i + 1 : Nat) : Int) := by
  have hb := alen_bd a.ok (hObjsF s)[i]
  have hn := a.objs
  intro m
  induction m with
  | zero => intro x _ _ h; omega
  | succ m ih =>
    intro x h0 h1 hm
    show ArenaPlays.l66b s s (i : Int) R (ArenaPlays.l66 s s (i : Int) R m) x = _
    unfold ArenaPlays.l66b
    rw [if_pos (inR_n hi), atI_n hi]
    by_cases hlt : x ≤ aLen s.c (hObjsF s)[i]
    · rw [if_pos (by rw [decide_eq_true_eq]; exact hlt)]
      unfold rLoad ArenaPlays.j67
      have hw : IntKind.i64.wrap (x + 1) = x + 1 := by rw [IntKind.wrap_i64]; omega
      rw [bind2_y, bind2_y, if_neg (by simp), if_neg (by simp), if_neg (by simp), hw]
      exact ih (x + 1) (by omega) (by omega) (by omega)
    · rw [if_neg (by rw [decide_eq_true_eq]; exact hlt), wr_t _ (by omega) (by omega)]
      rfl
theorem all_l63 {K : List Op07} {k : Nat} (hk : 5000 ≤ k) {x : Nat} (hx : x ≤ 60) {R : ASt → ASt → Int → Option Bool} {p : Int} {s : ASt} (a : AI s) : ∀ (m i : Nat), i ≤ (hObjsF s).length → (hObjsF s).length - i < m → ArenaPlays.l63 K k (x : Int) R p s s m (i : Int) = R s s ((x + 1 : Nat) : Int) := by
  have hn := a.objs
  intro m
  induction m with
  | zero => intro i _ h; omega
  | succ m ih =>
    intro i hi hm
    show ArenaPlays.l63b K k (x : Int) R p s s (ArenaPlays.l63 K k (x : Int) R p s s m) (i : Int) = _
    unfold ArenaPlays.l63b
    by_cases hlt : i < (hObjsF s).length
    · have hb := alen_bd a.ok (hObjsF s)[i]
      rw [if_pos (lt_yes hlt), all_l66 a hlt k (-1) (by omega) (by omega) (by omega)]
      exact ih (i + 1) (by omega) (by omega)
    · rw [if_neg (lt_no hlt)]
      unfold rLoad ArenaPlays.j68
      rw [bind2_y, bind2_y, if_neg (by simp), if_neg (by simp), wr_t _ (by omega) (by omega)]
      rfl
theorem all_j53 {K : List Op07} {k : Nat} (hk : 5000 ≤ k) {x : Nat} (hx : x ≤ 60) {R : ASt → ASt → Int → Option Bool} {p : Int} {s : ASt} (a : AI s) : ArenaPlays.j53 K k (x : Int) R p s s true = R s s ((x + 1 : Nat) : Int) := by
  have hn := a.objs
  unfold ArenaPlays.j53 ArenaPlays.j54
  have := all_l63 (K := K) hk hx (R := R) (p := p) a k 0 (by omega) (by omega)
  simp [Plain_m (L := hObjsF s) (M := hObjsF s) (by omega) hk, bind1_y]
  exact this
theorem all_j51 {K : List Op07} {k : Nat} (hk : 5000 ≤ k) {x : Nat} (hx : x ≤ 60) (R : ASt → ASt → Int → Option Bool) (p : Int) {s : ASt} (a : AI s) : ∃ s', AI s' ∧ ArenaPlays.j51 K k s s (x : Int) R p = R s' s' ((x + 1 : Nat) : Int) := by
  have fr : ∃ s', AI s' ∧ ArenaPlays.j52 K k s s (x : Int) R p true = R s' s' ((x + 1 : Nat) : Int) := by
    unfold ArenaPlays.j52 rFree
    rw [if_pos rfl, bind2_y, bind2_y, show (aFreeE p s == aFreeE p s) = true by simp, all_j53 hk hx (a.free p)]
    exact ⟨_, a.free p, rfl⟩
  have st : ∀ b, ∃ s', AI s' ∧ ArenaPlays.j69 K k s s (x : Int) R p b = R s' s' ((x + 1 : Nat) : Int) := by
    intro b
    unfold ArenaPlays.j69 ArenaPlays.j71 ArenaPlays.j70 rStore rAlloc
    cases b with
    | true =>
      rw [if_pos rfl, bind2_y, bind2_y]
      refine ⟨_, a.store p (atX kOp07 K (x : Int)).i (atX kOp07 K (x : Int)).w, ?_⟩
      rw [show ∀ e : Int, (e == e) = true by simp, all_j53 hk hx (a.store _ _ _)]
    | false =>
      rw [if_neg Bool.false_ne_true, bind3_y, bind3_y]
      refine ⟨_, a.alloc (atX kOp07 K (x : Int)).of (atX kOp07 K (x : Int)).n, ?_⟩
      rw [if_pos (by simp), show ∀ e : Int, (e == e) = true by simp, all_j53 hk hx (a.alloc _ _)]
  unfold ArenaPlays.j51
  split
  · exact fr
  · cases hb : ((atX kOp07 K (x : Int)).kind == 4) with
    | true => exact fr
    | false =>
      unfold ArenaPlays.j52
      rw [if_neg Bool.false_ne_true]
      split
      · exact st true
      · exact st _
theorem all_j50 {K : List Op07} {k : Nat} (hk : 5000 ≤ k) {x : Nat} (hx : x ≤ 60) (R : ASt → ASt → Int → Option Bool) {s : ASt} (a : AI s) (y : Bool) (hy : y = true → 0 < (hObjsF s).length) : ∃ s', AI s' ∧ ArenaPlays.j50 K k s s (x : Int) R y = R s' s' ((x + 1 : Nat) : Int) := by
  have hn := a.objs
  unfold ArenaPlays.j50
  cases y with
  | false => rw [if_neg Bool.false_ne_true]; exact all_j51 hk hx R _ a
  | true =>
    have h0 := hy rfl
    have hu : IntKind.u64.wrap ((hObjsF s).length : Int) = ((hObjsF s).length : Int) := by rw [IntKind.wrap_u64]; omega
    obtain ⟨c, hc, ec⟩ := u_mod (atX kOp07 K (x : Int)).at' (hObjsF s).length h0
    rw [if_pos rfl, hu, if_neg (by simp; intro h; rw [h] at h0; simp at h0), ec, wr_t (c : Int) (by omega) (by omega), if_pos (inR_n hc)]
    exact all_j51 hk hx R _ a
theorem all_l48 {K : List Op07} {k : Nat} (hk : 5000 ≤ k) : ∀ (m i : Nat) (s : ASt), AI s → i ≤ 60 → 60 - i < m → ArenaPlays.l48 K k m s s (i : Int) = some true := by
  intro m
  induction m with
  | zero => intro i _ _ _ h; omega
  | succ m ih =>
    intro i s a hi hm
    show ArenaPlays.l48b K k (ArenaPlays.l48 K k m) s s (i : Int) = _
    unfold ArenaPlays.l48b
    have stop : ArenaPlays.j49 K k s s (i : Int) (ArenaPlays.l48 K k m) false = some true := by unfold ArenaPlays.j49; rw [if_neg Bool.false_ne_true]
    by_cases h1 : i < K.length
    · rw [if_pos (lt_yes h1)]
      by_cases h2 : i < 60
      · rw [show decide ((i : Int) < 60) = true by rw [decide_eq_true_eq]; omega]
        unfold ArenaPlays.j49
        rw [if_pos rfl, if_pos (inR_n h1)]
        have go : ∀ y, (y = true → 0 < (hObjsF s).length) → ArenaPlays.j50 K k s s (i : Int) (ArenaPlays.l48 K k m) y = some true := by
          intro y hy
          obtain ⟨s', a', e⟩ := all_j50 (K := K) hk (x := i) (by omega) (ArenaPlays.l48 K k m) a y hy
          rw [e]
          exact ih (i + 1) s' a' (by omega) (by omega)
        split
        · exact go _ (fun h => by rw [decide_eq_true_eq] at h; omega)
        · split
          · exact go _ (fun h => by rw [decide_eq_true_eq] at h; omega)
          · exact go _ (fun h => by cases h)
      · rw [show decide ((i : Int) < 60) = false by rw [decide_eq_false_iff_not]; omega]
        exact stop
    · rw [if_neg (lt_no h1)]
      exact stop
theorem pureK {k : Nat} (hk : 5000 ≤ k) (ha : law07_awake.m k = some true) (i0 : Int) (K : List Op07) : ArenaPlays.m k i0 K = some true := by
  obtain ⟨n, hn, e⟩ := new_y i0
  unfold ArenaPlays.m
  rw [bind1_y] at e ⊢
  rw [e, bind1_y, bind1_y, ha, bind1_y, if_neg (by simp)]
  unfold ArenaPlays.j1
  rw [if_neg Bool.false_ne_true]
  refine all_l48 hk k 0 (aNew n) ⟨aNew_ok n, ?_⟩ (by omega) (by omega)
  have : (aNew n).l.length = n := by simp [aNew, sNew]
  omega
theorem pure (i0 : Int) (K : List Op07) : ArenaPlays.m 5000 i0 K = some true := pureK (Nat.le_refl _) awakeT i0 K
theorem walk (a0 : Int) (a1 : Option Addr) (len1 cap1 : Nat) (f1 : Nat → Nat → Int) (w : World) (w0 : (Lit.int .i64 a0).wf = true) (w1 : ArgOps w (.slice a1 len1 cap1) 6 len1 f1) :
    Calls Try.prog 4 #[.int .i64 a0, .slice a1 len1 cap1] w fun e w' => e = .returned (.bool true) ∧ Below w.heap.size w w' := by
  obtain ⟨hA, hwd⟩ := argX_of kOp07 (fun f => ⟨f 0, f 1, f 2, f 3, f 4, f 5⟩) (fun f => rfl) w1
  obtain ⟨K1, e1, h1⟩ : ∃ K1 : List Op07, K1.length = len1 ∧ ArgX kOp07 w (.slice a1 len1 cap1) K1 := ⟨_, by simp, hA⟩
  subst e1
  exact (ArenaPlays.ok h1 (St.empty w) (pure a0 K1)).mono fun e w' ⟨he, h⟩ => ⟨he, h.old⟩

end Go.Proofs.Ytffnjpapggidlaa.arenaPlays
/-
  'ArenaPlaysSaid' ('dormouselaw07.ArenaPlays'): for every input the law returns true, and each argument reads behind the call as it did before.
  Conditions: none beyond the given row's own.
-/
namespace Go.Proofs.Ytffnjpapggidlaa.arenaPlays
open Go.ChangeShapes Go.WideShapes Go.ChangeAt Go.RowKit
set_option linter.unusedVariables false

theorem own : ownKnob Try.prog.godebug = none := by kernel_rfl
theorem laidOut : laidOutB Try.prog = true := by kernel_rfl

/-! ### THE ROW -/
set_option maxRecDepth 100000 in
theorem lifted (os : Os) (started : os.Started) (H : Type) (enc : TypeId × Value → H) :
    ReturnsInHanded {} Try.checked os 4 .any (Rows.arenaPlaysSpec.pre6 enc Try.prog Try.f4 Rows.arenaPlaysRow.domain false) (Rows.arenaPlaysSpec.post enc Try.prog Try.f4 false true false false) := by
  refine returnsInHanded_of_change (C := Try.checked) own started (by kernel_rfl) Try.func4
    (ChangeSpec.witness6 (enc := enc) (C := Try.checked) false ⟨#[], #[.int .i64 0, .slice none 0 0], []⟩ 8 (by kernel_rfl) (by kernel_rfl) (by kernel_rfl) (by kernel_rfl)) ?_
  intro W base args ds gs before hval0 hW hcnd _
  have hval : ∀ (j : Nat) t v, Try.f4.params[j]? = some t → args[j]? = some v → Value.okWide Try.prog W .any base t v := hval0
  have hW' := hW
  obtain ⟨p, q, hA0, hV, rfl, hfz, hnd⟩ := hW
  have hA : DataW.TrodAll enc Try.prog W 0 (fun _ => true) true Try.f4.params.toList args.toList ds p := hA0
  rw [Try.params4] at hA hval
  obtain ⟨v0, vs0, d0, ds0, p0, q0, hargs, rfl, rfl, h0, r0⟩ := trodAll_cons hA
  obtain ⟨v1, vs1, d1, ds1, p1, q1, rfl, rfl, rfl, h1, r1⟩ := trodAll_cons r0
  obtain ⟨rfl, rfl, rfl⟩ := trodAll_nil r1
  obtain rfl : args = #[v0, v1] := by cases args; simp_all
  obtain ⟨rfl, rfl⟩ := trodVars_none hV
  obtain ⟨a0, rfl, rfl, rfl, w0⟩ := open_int Try.underlying3 (hval 0 3 v0 rfl rfl) h0
  obtain ⟨a1, len1, cap1, rfl⟩ := okWide_slice Try.underlying40 (hval 1 40 v1 rfl rfl)
  have k1 := h1
  have lt1 : ∀ x ∈ p1, x.block < W.heap.size := by obtain ⟨m, hm⟩ := k1; exact DataW.trod_lt m _ _ _ hm
  obtain ⟨f1, w1⟩ : ∃ f, ArgOps W (.slice a1 len1 cap1) 6 len1 f := by
    obtain ⟨fuel, hf⟩ := h1
    exact ops_open Try.underlying40 Try.underlying48 (by kernel_rfl) (by kernel_rfl) (by intro j f hj; match j, hj with | 0, hj => (cases hj; exact Try.underlying3) | 1, hj => (cases hj; exact Try.underlying3) | 2, hj => (cases hj; exact Try.underlying3) | 3, hj => (cases hj; exact Try.underlying3) | 4, hj => (cases hj; exact Try.underlying3) | 5, hj => (cases hj; exact Try.underlying3) | (n + 6), hj => cases hj) (by decide) hf
  clear hA0 hval0
  refine (walk a0 a1 len1 cap1 f1 W w0 w1).mono fun e W' ⟨he, bel⟩ => ?_
  subst he
  exact ⟨_, rfl, _, _, _, [], _, [], hW', trodAll_mk1 (shut_bool Try.underlying4 _), (trodAll_cons_mk (shut_int Try.underlying3 w0) (trodAll_cons_mk (Below.trod laidOut (by kernel_rfl) (of_decide_eq_true (by kernel_rfl)) k1 bel lt1) trodAll_mk0)), rfl, bel.frame _, fun h => by cases h⟩

theorem over : Rows.arenaPlaysRow.holds Try.pinned (OpenSpec.ofChange Rows.arenaPlaysSpec) :=
  OpenClaim.holds_of_wide 4 Try.f4 rfl rfl rfl rfl rfl rfl rfl ⟨rfl, rfl, rfl, rfl, rfl⟩ rfl rfl rfl rfl rfl (by kernel_rfl) Try.func4 (by kernel_rfl)
    (of_decide_eq_true (by kernel_rfl)) (by unfold Func.isWrapper; first | (rw [if_pos (by decide +kernel)]; kernel_rfl) | (rw [if_neg (by decide +kernel)]; exact ⟨rfl, rfl⟩))
    (fun os started H enc _ => lifted os started H enc)

/-- THE STATEMENT -/
theorem proved : Rows.ArenaPlaysSaid := over
#print axioms proved
end Go.Proofs.Ytffnjpapggidlaa.arenaPlays
