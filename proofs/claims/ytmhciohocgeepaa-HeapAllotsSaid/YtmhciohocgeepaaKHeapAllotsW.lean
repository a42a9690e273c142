/- HeapAllotsW HeapAllots -/
import Derived.Test.YtmhciohocgeepaaKGHelp
import Derived.Test.YtmhciohocgeepaaKPrim
import Derived.Test.YtmhciohocgeepaaKUmod
import Derived.Test.YtmhciohocgeepaaKArg
import Derived.Test.YtmhciohocgeepaaRows
import Derived.WalkKit
import Derived.WalkSpells
import Derived.WalkLawsBesides
import Derived.ProofKit
import Derived.OpenShut
import Derived.ShutString
import Derived.ChangeOld
import Derived.Below
/-
  The walk of 'dormouselaw09.HeapAllots': the call returns true, in a world with at most new blocks.
-/
namespace Go.Proofs.Ytmhciohocgeepaa.heapAllots
open Go.RowKit
set_option linter.unusedVariables false

theorem wrap_i (x : Int) (h : 0 ≤ x) (h2 : x < 1000) : IntKind.i64.wrap x = x := by rw [IntKind.wrap_i64]; omega
theorem at_l14 {M L : List Int} {x48 : Int} {s : HSt} (hs : HOk s) (ho : ∀ p ∈ L, isObj s.a p = true) (h0 : s.ph = 0) (h1 : s.cy = 1) (hM : 0 < M.length) (hL : L.length ≤ 20) : ∀ (m i : Nat), i ≤ L.length → L.length - i < m → HeapAllots.l14 M x48 L s m (i : Int) = some true := by
  intro m
  induction m with
  | zero => intro i _ h; omega
  | succ m ih =>
    intro i hi hm
    show HeapAllots.l14b M x48 L s (HeapAllots.l14 M x48 L s m) (i : Int) = some true
    unfold HeapAllots.l14b
    by_cases hlt : i < L.length
    · have hin : inR (i : Int) L.length = true := by simp [inR]; omega
      have hat : atI L (i : Int) = L[i] := by
        unfold atI
        rw [List.getD_eq_getElem?_getD, Int.toNat_natCast, List.getElem?_eq_getElem hlt]; rfl
      have hk : ¬ ((aKind s.a.c (atI L (i : Int)) == 0) = true) := by
        have := ho _ (List.getElem_mem hlt)
        rw [isObj_kind hs.a] at this
        rw [hat]
        simpa using this
      rw [if_pos (by simpa using hlt), if_pos hin, if_neg hk, wrap_i ((i : Int) + 1) (by omega) (by omega)]
      exact ih (i + 1) (by omega) (by omega)
    · rw [if_neg (by simpa using hlt), if_pos (by simp [h0]), if_pos (by simp [h1]), if_pos (by simpa using hM)]
      rfl
theorem st_l12 {M L : List Int} {x48 : Int} (hM : 0 < M.length) (hL : L.length ≤ 20) : ∀ (m : Nat) (s : HSt) (i : Nat), AI L s → rem s < m → i + rem s < 200 → HeapAllots.l12 M 300 x48 L m s (i : Int) = some true := by
  intro m
  induction m with
  | zero => intro s i _ h; omega
  | succ m ih =>
    intro s i k hm hi
    show HeapAllots.l12b M 300 x48 L (HeapAllots.l12 M 300 x48 L m) s (i : Int) = some true
    unfold HeapAllots.l12b
    rw [if_pos (show decide ((i : Int) < 200) = true by rw [decide_eq_true_eq]; omega)]
    by_cases h0 : s.ph = 0
    · rw [show (s.ph != 0) = false by simp [h0]]
      unfold HeapAllots.j13
      rw [if_neg Bool.false_ne_true]
      exact at_l14 k.ok (fun p hp => (k.ats p hp).1) h0 (k.cy0 h0) hM hL 300 0 (Nat.zero_le _) (by omega)
    · rw [show (s.ph != 0) = true by simp [h0]]
      unfold HeapAllots.j13
      rw [if_pos rfl]
      obtain ⟨k2, r2, _⟩ := k.step
      have r3 := r2 h0
      rw [hStepF_eq] at k2 r3
      show HeapAllots.l12 M 300 x48 L m (hStepF s).2 (IntKind.i64.wrap ((i : Int) + 1)) = some true
      rw [wrap_i ((i : Int) + 1) (by omega) (by omega)]
      exact ih _ (i + 1) k2 (by omega) (by omega)
theorem at_l20 {M L : List Int} {x48 : Int} {s : HSt} (hs : HOk s) (ho : ∀ p ∈ L, isObj s.a p = true) (h0 : s.ph = 0) (h1 : s.cy = 1) (hM : 0 < M.length) (hL : L.length ≤ 20) : ∀ (m i : Nat), i ≤ L.length → L.length - i < m → HeapAllots.l20 M x48 L s m (i : Int) = some true := by
  intro m
  induction m with
  | zero => intro i _ h; omega
  | succ m ih =>
    intro i hi hm
    show HeapAllots.l20b M x48 L s (HeapAllots.l20 M x48 L s m) (i : Int) = some true
    unfold HeapAllots.l20b
    by_cases hlt : i < L.length
    · have hin : inR (i : Int) L.length = true := by simp [inR]; omega
      have hat : atI L (i : Int) = L[i] := by
        unfold atI
        rw [List.getD_eq_getElem?_getD, Int.toNat_natCast, List.getElem?_eq_getElem hlt]; rfl
      have hk : ¬ ((aKind s.a.c (atI L (i : Int)) == 0) = true) := by
        have := ho _ (List.getElem_mem hlt)
        rw [isObj_kind hs.a] at this
        rw [hat]
        simpa using this
      rw [if_pos (by simpa using hlt), if_pos hin, if_neg hk, wrap_i ((i : Int) + 1) (by omega) (by omega)]
      exact ih (i + 1) (by omega) (by omega)
    · rw [if_neg (by simpa using hlt), if_pos (by simp [h0]), if_pos (by simp [h1]), if_pos (by simpa using hM)]
      rfl
theorem st_l18 {M L : List Int} {x48 : Int} (hM : 0 < M.length) (hL : L.length ≤ 20) : ∀ (m : Nat) (s : HSt) (i : Nat), AI L s → rem s < m → i + rem s < 200 → HeapAllots.l18 M 300 x48 L m s (i : Int) = some true := by
  intro m
  induction m with
  | zero => intro s i _ h; omega
  | succ m ih =>
    intro s i k hm hi
    show HeapAllots.l18b M 300 x48 L (HeapAllots.l18 M 300 x48 L m) s (i : Int) = some true
    unfold HeapAllots.l18b
    rw [if_pos (show decide ((i : Int) < 200) = true by rw [decide_eq_true_eq]; omega)]
    by_cases h0 : s.ph = 0
    · rw [show (s.ph != 0) = false by simp [h0]]
      unfold HeapAllots.j19
      rw [if_neg Bool.false_ne_true]
      exact at_l20 k.ok (fun p hp => (k.ats p hp).1) h0 (k.cy0 h0) hM hL 300 0 (Nat.zero_le _) (by omega)
    · rw [show (s.ph != 0) = true by simp [h0]]
      unfold HeapAllots.j19
      rw [if_pos rfl]
      obtain ⟨k2, r2, _⟩ := k.step
      have r3 := r2 h0
      rw [hStepF_eq] at k2 r3
      show HeapAllots.l18 M 300 x48 L m (hStepF s).2 (IntKind.i64.wrap ((i : Int) + 1)) = some true
      rw [wrap_i ((i : Int) + 1) (by omega) (by omega)]
      exact ih _ (i + 1) k2 (by omega) (by omega)
theorem rem_le {L : List Int} {s : HSt} (k : AI L s) : rem s < 150 := by
  have := k.ok.len
  unfold rem
  split
  · omega
  split <;> omega
theorem sizes_ok : ∀ c < 6, (law09_sizes.m 300 ((c + 1 : Nat) : Int)).isSome = true := by decide +kernel
theorem in_l10 {M L : List Int} {x11 x48 : Int} {t : Nat} (ht : t ≤ 3) (ht2 : Int.tmod x11 4 = (t : Int)) (hM : 0 < M.length) (hL : L.length ≤ 10) {i : Nat} (hi : i < M.length) {R : List Int → HSt → Int → Option Bool} (hR : ∀ L' s', AI L' s' → L'.length ≤ L.length + 1 → R L' s' (IntKind.i64.wrap ((i : Int) + 1)) = some true) :
    ∀ (m : Nat) (s : HSt) (j : Nat), AI L s → j ≤ t → t - j < m → HeapAllots.l10 M 300 x11 x48 L (i : Int) R m s (j : Int) = some true := by
  intro m
  induction m with
  | zero => intro s j _ _ h; omega
  | succ m ih =>
    intro s j k hj hm
    show HeapAllots.l10b M 300 x11 x48 L (i : Int) R (HeapAllots.l10 M 300 x11 x48 L (i : Int) R m) s (j : Int) = some true
    unfold HeapAllots.l10b
    rw [ht2]
    by_cases hlt : j < t
    · rw [if_pos (by simpa using hlt)]
      obtain ⟨k2, _, _⟩ := k.step
      rw [hStepF_eq] at k2
      show HeapAllots.l10 M 300 x11 x48 L (i : Int) R m (hStepF s).2 (IntKind.i64.wrap ((j : Int) + 1)) = some true
      rw [wrap_i ((j : Int) + 1) (by omega) (by omega)]
      exact ih _ (j + 1) k2 (by omega) (by omega)
    · rw [if_neg (by simpa using hlt), if_pos (show inR (i : Int) M.length = true by simp [inR]; omega)]
      obtain ⟨c, hc, ec⟩ := u_mod (atI M (i : Int)) 6 (by omega)
      simp only [Int.cast_ofNat_Int] at ec
      rw [ec, wrap_i (c : Int) (by omega) (by omega), wrap_i (1 + (c : Int)) (by omega) (by omega), show 1 + (c : Int) = ((c + 1 : Nat) : Int) by omega]
      obtain ⟨z, hz⟩ := Option.isSome_iff_exists.1 (sizes_ok c hc)
      simp only [bind1, Option.bind_some]
      rw [hz]
      simp only [Option.bind_some]
      obtain ⟨x, e, h', hx⟩ : ∃ x e h', pAlloc ((c + 1 : Nat) : Int) z s = some (x, e, h') := ⟨_, _, _, rfl⟩
      obtain ⟨a1, a2⟩ := k.alloc hx
      rw [hx]
      simp only [bind3, Option.bind_some]
      by_cases he : e = 0
      · obtain ⟨k2, p2, r2, c2⟩ := a2 he
        rw [if_neg (by simp [he])]
        by_cases h0 : s.ph = 0
        · rw [if_neg (by simp [h0])]
          rw [if_pos h0] at k2
          exact hR _ _ k2 (by omega)
        · rw [if_pos (by simp [h0])]
          rw [if_neg h0] at k2
          rw [show pushM L x = some (L ++ [x]) by unfold pushM; rw [if_pos (by omega)]]
          simp only [Option.bind_some]
          rw [c2 h0]
          simp only [Option.bind_some]
          rw [if_neg (by decide)]
          exact hR _ _ k2 (by simp)
      · rw [if_pos (by simp [he]), a1 he]
        exact st_l12 hM (by omega) 300 s 0 k (by have := rem_le k; omega) (by have := rem_le k; omega)
theorem out_l8 {M : List Int} {x11 x48 : Int} {t : Nat} (ht : t ≤ 3) (ht2 : Int.tmod x11 4 = (t : Int)) (hM : 0 < M.length) : ∀ (m : Nat) (L : List Int) (s : HSt) (i : Nat), AI L s → L.length ≤ i → i ≤ 10 → 10 - i < m → HeapAllots.l8 M 300 x11 x48 m L s (i : Int) = some true := by
  intro m
  induction m with
  | zero => intro L s i _ _ _ h; omega
  | succ m ih =>
    intro L s i k hL hi hm
    show HeapAllots.l8b M 300 x11 x48 (HeapAllots.l8 M 300 x11 x48 m) L s (i : Int) = some true
    unfold HeapAllots.l8b HeapAllots.j9
    have last : HeapAllots.l18 M 300 x48 L 300 s 0 = some true := st_l18 hM (by omega) 300 s 0 k (by have := rem_le k; omega) (by have := rem_le k; omega)
    by_cases h1 : i < M.length
    · rw [if_pos (by simpa using h1)]
      by_cases h2 : i < 10
      · rw [if_pos (show decide ((i : Int) < 10) = true by rw [decide_eq_true_eq]; omega)]
        refine in_l10 ht ht2 hM (by omega) h1 (fun L' s' k' hl => ?_) 300 s 0 k (Nat.zero_le _) (by omega)
        rw [wrap_i ((i : Int) + 1) (by omega) (by omega)]
        exact ih L' s' (i + 1) k' (by omega) (by omega) (by omega)
      · rw [if_neg (show ¬ decide ((i : Int) < 10) = true by rw [decide_eq_true_eq]; omega)]
        exact last
    · rw [if_neg (by simpa using h1), if_neg Bool.false_ne_true]
      exact last
def zB (s : ASt) : Bool := s.c.all fun c => match c with
  | .word w => w == 0
  | _ => true
theorem zB_z {s : ASt} (h : zB s = true) : ∀ (q : Nat) w, s.c[q]? = some (.word w) → w = 0 := by
  intro q w hq
  obtain ⟨hlt, he⟩ := List.getElem?_eq_some_iff.1 hq
  have := List.all_eq_true.1 h _ (List.getElem_mem hlt)
  rw [he] at this
  simpa using this
def s0 (n : Nat) : HSt := hBegin [] (hAlloc 5 2 (hNew n))
theorem s0_facts : ∀ a < 5, zB (s0 (a + 3)).a = true ∧ (s0 (a + 3)).g = [] ∧ (s0 (a + 3)).ov = false ∧ (s0 (a + 3)).ph = 1 ∧ (s0 (a + 3)).cy = 0 := by decide +kernel
theorem s0_ai (a : Nat) (ha : a < 5) : AI [] (s0 (a + 3)) := by
  obtain ⟨h1, h2, h3, h4, h5⟩ := s0_facts a ha
  exact ⟨((HOk.new (a + 3) (by omega) (by omega)).alloc 5 2).begin [], zB_z h1, h2, h3, fun h => absurd (h4.symm.trans h) (by decide), fun _ => h5, fun p hp => absurd hp (by simp)⟩
theorem awakeT : law09_awake.m 300 = some true := by decide +kernel
theorem none_m (x11 : Int) : ∀ a : Nat, a < 5 → HeapAllots.l8 [] 300 x11 (aAllocP 5 2 (hNew (a + 3)).a) 300 [] (s0 (a + 3)) 0 = some true := by
  intro a ha
  match a, ha with
  | 0, _ => show HeapAllots.l8 [] 300 x11 (aAllocP 5 2 (hNew (0 + 3)).a) 300 [] (s0 (0 + 3)) 0 = some true; kernel_rfl
  | 1, _ => show HeapAllots.l8 [] 300 x11 (aAllocP 5 2 (hNew (1 + 3)).a) 300 [] (s0 (1 + 3)) 0 = some true; kernel_rfl
  | 2, _ => show HeapAllots.l8 [] 300 x11 (aAllocP 5 2 (hNew (2 + 3)).a) 300 [] (s0 (2 + 3)) 0 = some true; kernel_rfl
  | 3, _ => show HeapAllots.l8 [] 300 x11 (aAllocP 5 2 (hNew (3 + 3)).a) 300 [] (s0 (3 + 3)) 0 = some true; kernel_rfl
  | 4, _ => show HeapAllots.l8 [] 300 x11 (aAllocP 5 2 (hNew (4 + 3)).a) 300 [] (s0 (4 + 3)) 0 = some true; kernel_rfl
set_option maxRecDepth 100000 in
theorem pure (i0 i1 : Int) (M : List Int) : HeapAllots.m 300 i0 i1 M = some true := by
  obtain ⟨a, ha, ea⟩ := u_mod i0 5 (by omega)
  obtain ⟨b, hb, eb⟩ := u_mod i1 12 (by omega)
  simp only [Int.cast_ofNat_Int] at ea eb
  unfold HeapAllots.m
  rw [ea, eb, wrap_i (a : Int) (by omega) (by omega), wrap_i (3 + (a : Int)) (by omega) (by omega), wrap_i (b : Int) (by omega) (by omega)]
  have en : pNew (3 + (a : Int)) = some (hNew (a + 3)) := by
    unfold pNew
    rw [if_pos (by omega), show (3 + (a : Int)).toNat = a + 3 by omega]
  simp only [bind1, Option.bind_some]
  rw [en]
  simp only [Option.bind_some]
  rw [awakeT]
  simp only [Option.bind_some]
  rw [if_neg (by decide)]
  unfold HeapAllots.j1
  rw [if_neg Bool.false_ne_true]
  have ea2 : pAlloc 5 2 (hNew (a + 3)) = some (aAllocP 5 2 (hNew (a + 3)).a, aAllocE 5 2 (hNew (a + 3)).a, hAlloc 5 2 (hNew (a + 3))) := rfl
  have eb2 : pBegin (hAlloc 5 2 (hNew (a + 3))) [] = some (hBeginE (hAlloc 5 2 (hNew (a + 3))), s0 (a + 3)) := by unfold pBegin; rw [if_pos (by rfl)]; rfl
  rw [ea2]
  simp only [bind3, bind2, Option.bind_some]
  rw [eb2]
  simp only [Option.bind_some]
  cases M with
  | nil => exact none_m _ a ha
  | cons x M =>
    have ht : Int.tmod (b : Int) 4 = ((b % 4 : Nat) : Int) := by rw [Int.tmod_eq_emod_of_nonneg (by omega)]; omega
    exact out_l8 (t := b % 4) (by omega) ht (by simp) 300 [] _ 0 (s0_ai a ha) (by simp) (by omega) (by omega)
theorem walk (a0 : Int) (a1 : Int) (a2 : Option Addr) (len2 cap2 : Nat) (z2 : List Int) (w : World) (w0 : (Lit.int .i64 a0).wf = true) (w1 : (Lit.int .i64 a1).wf = true) (w2 : IsRow .i64 w a2 len2 cap2 z2) :
    Calls Try.prog 3 #[.int .i64 a0, .int .i64 a1, .slice a2 len2 cap2] w fun e w' => e = .returned (.bool true) ∧ Below w.heap.size w w' := by
  obtain ⟨L, e, hA⟩ := argInts_len w2
  subst e
  exact (HeapAllots.ok hA (St.empty w) (pure _ _ L)).mono fun e w' ⟨he, h⟩ => ⟨he, h.old⟩

end Go.Proofs.Ytmhciohocgeepaa.heapAllots
/-
  'HeapAllotsSaid' ('dormouselaw09.HeapAllots'): for every input the law returns true, and each argument reads behind the call as it did before.
  Conditions: none beyond the given row's own.
-/
namespace Go.Proofs.Ytmhciohocgeepaa.heapAllots
open Go.ChangeShapes Go.WideShapes Go.ChangeAt Go.RowKit
open Go.ChangeMaps (open_string shut_string)
set_option linter.unusedVariables false

theorem own : ownKnob Try.prog.godebug = none := by kernel_rfl
theorem laidOut : laidOutB Try.prog = true := by kernel_rfl

/-! ### THE ROW's STEP: WRITTEN OUT: LEAVE IT -/
set_option maxRecDepth 100000 in
theorem lifted (os : Os) (started : os.Started) (H : Type) (enc : TypeId × Value → H) :
    ReturnsInHanded {} Try.checked os 3 .any (Rows.heapAllotsSpec.pre6 enc Try.prog Try.f3 Rows.heapAllotsRow.domain false) (Rows.heapAllotsSpec.post enc Try.prog Try.f3 false true false false) := by
  refine returnsInHanded_of_change (C := Try.checked) own started (by kernel_rfl) Try.func3
    (ChangeSpec.witness6 (enc := enc) (C := Try.checked) false ⟨#[], #[.int .i64 0, .int .i64 0, .slice none 0 0], []⟩ 8 (by kernel_rfl) (by kernel_rfl) (by kernel_rfl) (by kernel_rfl)) ?_
  intro W base args ds gs before hval0 hW hcnd _
  have hval : ∀ (j : Nat) t v, Try.f3.params[j]? = some t → args[j]? = some v → Value.okWide Try.prog W .any base t v := hval0
  have hW' := hW
  obtain ⟨p, q, hA0, hV, rfl, hfz, hnd⟩ := hW
  have hA : DataW.TrodAll enc Try.prog W 0 (fun _ => true) true Try.f3.params.toList args.toList ds p := hA0
  rw [Try.params3] at hA hval
  obtain ⟨v0, vs0, d0, ds0, p0, q0, hargs, rfl, rfl, h0, r0⟩ := trodAll_cons hA
  obtain ⟨v1, vs1, d1, ds1, p1, q1, rfl, rfl, rfl, h1, r1⟩ := trodAll_cons r0
  obtain ⟨v2, vs2, d2, ds2, p2, q2, rfl, rfl, rfl, h2, r2⟩ := trodAll_cons r1
  obtain ⟨rfl, rfl, rfl⟩ := trodAll_nil r2
  obtain rfl : args = #[v0, v1, v2] := by cases args; simp_all
  obtain ⟨rfl, rfl⟩ := trodVars_none hV
  obtain ⟨a0, rfl, rfl, rfl, w0⟩ := open_int Try.underlying3 (hval 0 3 v0 rfl rfl) h0
  obtain ⟨a1, rfl, rfl, rfl, w1⟩ := open_int Try.underlying3 (hval 1 3 v1 rfl rfl) h1
  obtain ⟨a2, len2, cap2, rfl⟩ := okWide_slice Try.underlying22 (hval 2 22 v2 rfl rfl)
  have k2 := h2
  have lt2 : ∀ x ∈ p2, x.block < W.heap.size := by obtain ⟨m, hm⟩ := k2; exact DataW.trod_lt m _ _ _ hm
  obtain ⟨z2, w2⟩ : ∃ zs, IsRow .i64 W a2 len2 cap2 zs := by
    obtain ⟨fuel, hf⟩ := h2
    rcases open_ints Try.underlying22 Try.underlying3 (by kernel_rfl) hf with ⟨hcs, _⟩ | ⟨x, l, c, zs, hcs, _, hl, hm, hz, _, hcell, hwz⟩
    · simp [Value.cells] at hcs
      obtain ⟨rfl, rfl, rfl⟩ := hcs
      exact ⟨[], .inl ⟨rfl, rfl, rfl, rfl⟩⟩
    · simp [Value.cells] at hcs
      obtain ⟨rfl, rfl, rfl⟩ := hcs
      exact ⟨zs, .inr ⟨_, rfl, hl, hm, by simpa using hz, hcell, hwz⟩⟩
  clear hA0 hval0
  refine (walk a0 a1 a2 len2 cap2 z2 W w0 w1 w2).mono fun e W' ⟨he, bel⟩ => ?_
  subst he
  exact ⟨_, rfl, _, _, _, [], _, [], hW', trodAll_mk1 (shut_bool Try.underlying4 _), (trodAll_cons_mk (shut_int Try.underlying3 w0) (trodAll_cons_mk (shut_int Try.underlying3 w1) (trodAll_cons_mk (Below.trod laidOut (by kernel_rfl) (of_decide_eq_true (by kernel_rfl)) k2 bel lt2) trodAll_mk0))), rfl, bel.frame _, fun h => by cases h⟩

theorem over : Rows.heapAllotsRow.holds Try.pinned (OpenSpec.ofChange Rows.heapAllotsSpec) :=
  OpenClaim.holds_of_wide 3 Try.f3 rfl rfl rfl rfl rfl rfl rfl ⟨rfl, rfl, rfl, rfl, rfl⟩ rfl rfl rfl rfl rfl (by kernel_rfl) Try.func3 (by kernel_rfl)
    (of_decide_eq_true (by kernel_rfl)) (by unfold Func.isWrapper; first | (rw [if_pos (by decide +kernel)]; kernel_rfl) | (rw [if_neg (by decide +kernel)]; exact ⟨rfl, rfl⟩))
    (fun os started H enc _ => lifted os started H enc)

/-- ████ THE STATEMENT ████ -/
theorem proved : Rows.HeapAllotsSaid := over
#print axioms proved
end Go.Proofs.Ytmhciohocgeepaa.heapAllots
