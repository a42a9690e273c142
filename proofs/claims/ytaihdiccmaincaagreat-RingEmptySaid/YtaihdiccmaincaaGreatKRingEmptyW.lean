/- RingEmptyW RingEmpty -/
import Derived.Test.YtaihdiccmaincaaGreatKG12
import Derived.Test.YtaihdiccmaincaaGreatKUmod
import Derived.Test.YtaihdiccmaincaaGreatKPrimV
import Derived.Test.YtaihdiccmaincaaGreatKArg
import Derived.Test.YtaihdiccmaincaaGreatRows
import Derived.WalkKit
import Derived.WalkSpells
import Derived.WalkLawsBesides
import Derived.ProofKit
import Derived.OpenShut
import Derived.ShutString
import Derived.ChangeOld
import Derived.Below
/-
  The walk of 'dormouselaw12.RingEmpty': the call returns true, in a world with at most new blocks.
-/
namespace Go.Proofs.YtaihdiccmaincaaGreat.ringEmpty
open Go.RowKit
set_option linter.unusedVariables false

theorem ring_of_same {k : Nat} {s s' : HSt} {c : Ch} {o : Option Rm} (h : ring_of.m k s c = some (o, s')) : s' = s := by
  unfold ring_of.m ring_of.j1 at h
  repeat' split at h
  all_goals (injection h with h; injection h with h1 h2; exact h2.symm)
/-- Put, of a word that is not looked at. -/
def putSym (k : Nat) (s0 : HSt) (i1 : Int) (i2 : Int) : Option (Int × HSt) := bind2 (pChan i1 s0) fun q5 x6 => (if (x6 != 0) then some (x6, s0) else bind2 (ring_of.m k s0 (⟨q5.cap, q5.closed, q5.count, q5.start, q5.buf, q5.th, q5.tt, q5.sh, q5.st⟩ : Ch)) fun o39 s40 => optE o39 (some (9, s40)) fun q65 => (if (decide (q65.count ≥ q65.cap)) then some (9, s40) else (if (q65.cap == 0) then none else bind2 (pStoreI q65.buf (Int.tmod (IntKind.i64.wrap (q65.start + q65.count)) q65.cap) i2 s40) fun x102 s103 => bind2 (pPutChan i1 (⟨q5.cap, q5.closed, IntKind.i64.wrap (q65.count + 1), q5.start, q5.buf, q5.th, q5.tt, q5.sh, q5.st⟩ : Ch) s103) fun x129 s130 => some (x129, s130))))
theorem put_sym {k : Nat} {s : HSt} {at' x : Int} (hp : s.ph = 0) (hx : wdB x = true) : ring_Put.m k s at' x = putSym k s at' x := by
  unfold ring_Put.m putSym
  refine bind2_congr fun q e _ => ?_
  split
  · rfl
  · refine bind2_congr fun o s' ho => ?_
    obtain rfl := ring_of_same ho
    cases o with
    | none => rfl
    | some r =>
      show (if _ then _ else _) = (if _ then _ else _)
      split
      · rfl
      · split
        · rfl
        · rw [pStore_idle hp hx]
def mk0 (c : Nat) : HSt × HSt × List Int × List Int := (law12_made.m 100 [(c : Int) + 1] 1).getD (⟨⟨[], []⟩, fun _ => 0, [], false, 0, 0, 0⟩, ⟨⟨[], []⟩, fun _ => 0, [], false, 0, 0, 0⟩, [], [])
def nxt (x : Int) (s : HSt) : Option (Int × Int × Int × HSt) := (putSym 100 s 0 x).bind fun p => (ring_Take.m 100 p.2 0).map fun t => (p.1, t)
def lit0 : Nat → Nat → List ACell
  | 0, 0 => [.head 1 9, .word 2, .word 0, .word 0, .word 0, .word 65, .word 0, .word 0, .word 0, .word 0, .none, .none, .none, .none, .none, .none, .head 4 10, .word 0, .word 0, .word 0, .word 0, .word 0, .word 0, .word 0, .word 0, .word 0, .word 0, .none, .none, .none, .none, .none, .head 2 1, .word 0, .none, .none, .none, .none, .none, .none, .none, .none, .none, .none, .none, .none, .none, .none, .none, .none, .none, .none, .none, .none, .none, .none, .none, .none, .none, .none, .none, .none, .none, .none, .head 4 10, .word 2, .word 0, .word 0, .word 0, .word 0, .word 0, .word 0, .word 0, .word 0, .word 0, .none]
  | 1, 0 => [.head 1 9, .word 4, .word 0, .word 0, .word 0, .word 65, .word 0, .word 0, .word 0, .word 0, .none, .none, .none, .none, .none, .none, .head 4 10, .word 0, .word 0, .word 0, .word 0, .word 0, .word 0, .word 0, .word 0, .word 0, .word 0, .none, .none, .none, .none, .none, .head 2 2, .word 0, .word 0, .none, .none, .none, .none, .none, .none, .none, .none, .none, .none, .none, .none, .none, .none, .none, .none, .none, .none, .none, .none, .none, .none, .none, .none, .none, .none, .none, .none, .none, .head 4 10, .word 2, .word 0, .word 0, .word 0, .word 0, .word 0, .word 0, .word 0, .word 0, .word 0, .none]
  | 1, 1 => [.head 1 9, .word 4, .word 0, .word 0, .word 2, .word 65, .word 0, .word 0, .word 0, .word 0, .none, .none, .none, .none, .none, .none, .head 4 10, .word 0, .word 0, .word 0, .word 0, .word 0, .word 0, .word 0, .word 0, .word 0, .word 0, .none, .none, .none, .none, .none, .head 2 2, .word 0, .word 0, .none, .none, .none, .none, .none, .none, .none, .none, .none, .none, .none, .none, .none, .none, .none, .none, .none, .none, .none, .none, .none, .none, .none, .none, .none, .none, .none, .none, .none, .head 4 10, .word 2, .word 0, .word 0, .word 0, .word 0, .word 0, .word 0, .word 0, .word 0, .word 0, .none]
  | 2, 0 => [.head 1 9, .word 6, .word 0, .word 0, .word 0, .word 65, .word 0, .word 0, .word 0, .word 0, .none, .none, .none, .none, .none, .none, .head 4 10, .word 0, .word 0, .word 0, .word 0, .word 0, .word 0, .word 0, .word 0, .word 0, .word 0, .none, .none, .none, .none, .none, .head 2 3, .word 0, .word 0, .word 0, .none, .none, .none, .none, .none, .none, .none, .none, .none, .none, .none, .none, .none, .none, .none, .none, .none, .none, .none, .none, .none, .none, .none, .none, .none, .none, .none, .none, .head 4 10, .word 2, .word 0, .word 0, .word 0, .word 0, .word 0, .word 0, .word 0, .word 0, .word 0, .none]
  | 2, 1 => [.head 1 9, .word 6, .word 0, .word 0, .word 2, .word 65, .word 0, .word 0, .word 0, .word 0, .none, .none, .none, .none, .none, .none, .head 4 10, .word 0, .word 0, .word 0, .word 0, .word 0, .word 0, .word 0, .word 0, .word 0, .word 0, .none, .none, .none, .none, .none, .head 2 3, .word 0, .word 0, .word 0, .none, .none, .none, .none, .none, .none, .none, .none, .none, .none, .none, .none, .none, .none, .none, .none, .none, .none, .none, .none, .none, .none, .none, .none, .none, .none, .none, .none, .head 4 10, .word 2, .word 0, .word 0, .word 0, .word 0, .word 0, .word 0, .word 0, .word 0, .word 0, .none]
  | 2, 2 => [.head 1 9, .word 6, .word 0, .word 0, .word 4, .word 65, .word 0, .word 0, .word 0, .word 0, .none, .none, .none, .none, .none, .none, .head 4 10, .word 0, .word 0, .word 0, .word 0, .word 0, .word 0, .word 0, .word 0, .word 0, .word 0, .none, .none, .none, .none, .none, .head 2 3, .word 0, .word 0, .word 0, .none, .none, .none, .none, .none, .none, .none, .none, .none, .none, .none, .none, .none, .none, .none, .none, .none, .none, .none, .none, .none, .none, .none, .none, .none, .none, .none, .none, .head 4 10, .word 2, .word 0, .word 0, .word 0, .word 0, .word 0, .word 0, .word 0, .word 0, .word 0, .none]
  | _, _ => []
def lit (c j : Nat) : List ACell := lit0 c j ++ List.replicate 1844 .none
def st (c i : Nat) : HSt := ⟨⟨(mk0 c).1.a.l, lit c (i % (c + 1))⟩, (mk0 c).1.col, [], false, 0, 0, 0⟩
theorem idle (c i : Nat) : (st c i).ph = 0 := rfl
theorem made_at (c : Nat) (hc : c < 3) : law12_made.m 100 [(c : Int) + 1] 1 = some (st c 0, (mk0 c).2.1, [0], (mk0 c).2.2.2) := by
  have : c = 0 ∨ c = 1 ∨ c = 2 := by omega
  rcases this with rfl | rfl | rfl <;> (show _ = _; kernel_rfl)
theorem ch_at (s u : HSt) (L : List Int) : law12_ch.m 100 s u [0] L 0 = some (0, s, u) := by kernel_rfl
theorem step_at (c : Nat) (hc : c < 3) (i : Nat) (hi : i < 10) (x : Int) : nxt x (st c i) = some (0, x, 0, st c (i + 1)) := by
  have h1 : c = 0 ∨ c = 1 ∨ c = 2 := by omega
  have h2 : i = 0 ∨ i = 1 ∨ i = 2 ∨ i = 3 ∨ i = 4 ∨ i = 5 ∨ i = 6 ∨ i = 7 ∨ i = 8 ∨ i = 9 := by omega
  rcases h1 with rfl | rfl | rfl <;> rcases h2 with rfl | rfl | rfl | rfl | rfl | rfl | rfl | rfl | rfl | rfl <;> (show _ = _; kernel_rfl)
theorem awake_is : law12_awake.m 100 = some true := by decide +kernel
def K0 (n : Nat) : List Int := List.replicate n 0
theorem tail_at (c : Nat) (hc : c < 3) (n : Nat) (hn : n ≤ 10) (u : HSt) (L : List Int) : (bind2 (pChan 0 (st c n)) fun q349 x350 => RingEmpty.j6 (K0 n) 100 ((c : Int) + 1) [0] L (st c n) u q349.cap q349.closed q349.count q349.start q349.buf q349.th q349.tt q349.sh q349.st x350) = some true := by
  have h1 : c = 0 ∨ c = 1 ∨ c = 2 := by omega
  have h2 : n = 0 ∨ n = 1 ∨ n = 2 ∨ n = 3 ∨ n = 4 ∨ n = 5 ∨ n = 6 ∨ n = 7 ∨ n = 8 ∨ n = 9 ∨ n = 10 := by omega
  rcases h1 with rfl | rfl | rfl <;> rcases h2 with rfl | rfl | rfl | rfl | rfl | rfl | rfl | rfl | rfl | rfl | rfl <;> (show _ = _; kernel_rfl)
theorem l9_len {K K' : List Int} (e : (if 10 < (K.length : Int) then 10 else (K.length : Int)) = (if 10 < (K'.length : Int) then 10 else (K'.length : Int))) (k : Nat) (x5 : Int) (L16 L17 : List Int) (s u : HSt) (a b c d : Int) : ∀ (f : Nat) (x : Int), RingEmpty.l9 K k x5 L16 L17 s u a b c d f x = RingEmpty.l9 K' k x5 L16 L17 s u a b c d f x
  | 0, x => rfl
  | f + 1, x => by
    have ih : RingEmpty.l9 K k x5 L16 L17 s u a b c d f = RingEmpty.l9 K' k x5 L16 L17 s u a b c d f := funext (l9_len e k x5 L16 L17 s u a b c d f)
    show RingEmpty.l9b K k x5 L16 L17 s u a b c d (RingEmpty.l9 K k x5 L16 L17 s u a b c d f) x = RingEmpty.l9b K' k x5 L16 L17 s u a b c d (RingEmpty.l9 K' k x5 L16 L17 s u a b c d f) x
    rw [ih]
    unfold RingEmpty.l9b
    rw [e]
theorem loop_at (c : Nat) (hc : c < 3) (K : List Int) (hK : ∀ x ∈ K, wdB x = true) (n : Nat) (hn : n ≤ 10) (e : (if 10 < (K.length : Int) then 10 else (K.length : Int)) = (n : Int)) (u : HSt) (L : List Int) : ∀ (d i f : Nat), i + d = n → d < f → RingEmpty.l4 K 100 ((c : Int) + 1) [0] L f (st c i) u (i : Int) = some true
  | 0, i, f, hi, hf => by
    obtain ⟨f, rfl⟩ : ∃ g, f = g + 1 := ⟨f - 1, by omega⟩
    have hi : i = n := by omega
    subst hi
    show RingEmpty.l4b K 100 ((c : Int) + 1) [0] L (RingEmpty.l4 K 100 ((c : Int) + 1) [0] L f) (st c i) u (i : Int) = some true
    unfold RingEmpty.l4b
    rw [e, if_neg (by simp)]
    simp only [ch_at, bind3_some]
    have h := tail_at c hc i hn u L
    have hl : ((K0 i).length : Int) = (i : Int) := by simp [K0]
    have e2 : (if 10 < (K.length : Int) then 10 else (K.length : Int)) = (if 10 < ((K0 i).length : Int) then 10 else ((K0 i).length : Int)) := by rw [e, hl, if_neg (by omega)]
    unfold RingEmpty.j6 at h
    unfold RingEmpty.j6
    refine Eq.trans (bind2_congr fun q z _ => ?_) h
    exact l9_len e2 _ _ _ _ _ _ _ _ _ _ _ _
  | d + 1, i, f, hi, hf => by
    obtain ⟨f, rfl⟩ : ∃ g, f = g + 1 := ⟨f - 1, by omega⟩
    have hlt : (i : Int) < (K.length : Int) := by
      split at e <;> omega
    have hin : inR (i : Int) K.length = true := by simp [inR]; omega
    show RingEmpty.l4b K 100 ((c : Int) + 1) [0] L (RingEmpty.l4 K 100 ((c : Int) + 1) [0] L f) (st c i) u (i : Int) = some true
    unfold RingEmpty.l4b
    have hx : wdB (atI K (i : Int)) = true := by
      apply hK
      unfold Go.Proofs.YtaihdiccmaincaaGreat.atI
      rw [List.getD_eq_getElem?_getD, List.getElem?_eq_getElem (by omega)]
      exact List.getElem_mem _
    have hs := step_at c hc i (by omega) (atI K (i : Int))
    unfold nxt at hs
    obtain ⟨p, hp, hs⟩ := Option.bind_eq_some_iff.1 hs
    obtain ⟨t, ht, hs⟩ := Option.map_eq_some_iff.1 hs
    injection hs with h1 h2
    subst h2
    obtain ⟨p1, p2⟩ := p
    simp only at h1 ht
    subst h1
    rw [e, if_pos (by simp; omega), if_pos hin]
    simp only [ch_at, bind3_some, put_sym (idle c i) hx, hp, bind2_some, ht]
    rw [if_neg (by simp), if_neg (by simp)]
    unfold RingEmpty.j5
    rw [if_neg (by simp)]
    have hw : IntKind.i64.wrap ((i : Int) + 1) = ((i + 1 : Nat) : Int) := by
      have h2 : i = 0 ∨ i = 1 ∨ i = 2 ∨ i = 3 ∨ i = 4 ∨ i = 5 ∨ i = 6 ∨ i = 7 ∨ i = 8 ∨ i = 9 := by omega
      rcases h2 with rfl | rfl | rfl | rfl | rfl | rfl | rfl | rfl | rfl | rfl <;> rfl
    rw [hw]
    exact loop_at c hc K hK n hn e u L d (i + 1) f (by omega) (by omega)
theorem pure (i0 : Int) (K : List Int) (hK : ∀ x ∈ K, wdB x = true) : RingEmpty.m 100 i0 K = some true := by
  obtain ⟨c, hc, ex⟩ := u_mod i0 3 (by omega)
  have e0 : IntKind.i64.wrap (1 + (IntKind.i64.wrap (c : Int))) = (c : Int) + 1 := by
    have h1 : c = 0 ∨ c = 1 ∨ c = 2 := by omega
    rcases h1 with rfl | rfl | rfl <;> rfl
  unfold RingEmpty.m
  simp only [Int.cast_ofNat_Int] at ex
  rw [ex, e0]
  simp only [bind1_some, made_at c hc, bind4_some, awake_is]
  rw [if_neg (by simp)]
  unfold RingEmpty.j1
  rw [if_neg (by simp)]
  exact loop_at c hc K hK (min K.length 10) (by omega) (by split <;> omega) _ _ (min K.length 10) 0 100 (by omega) (by omega)
theorem walk (a0 : Int) (a1 : Option Addr) (len1 cap1 : Nat) (z1 : List Int) (w : World) (w0 : (Lit.int .i64 a0).wf = true) (w1 : IsRow .i64 w a1 len1 cap1 z1) :
    Calls Tryz.prog 5 #[.int .i64 a0, .slice a1 len1 cap1] w fun e w' => e = .returned (.bool true) ∧ Below w.heap.size w w' := by
  obtain ⟨L, e, hA⟩ := argInts_len w1
  subst e
  refine (RingEmpty.ok hA (St.empty w) (pure _ L (fun x hx => ?_))).mono fun e w' ⟨he, h⟩ => ⟨he, h.old⟩
  have := hA.1 x hx
  unfold Wd at this
  simp [wdB]; omega

end Go.Proofs.YtaihdiccmaincaaGreat.ringEmpty
/-
  'RingEmptySaid' ('dormouselaw12.RingEmpty'): for every input the law returns true, and each argument reads behind the call as it did before.
  Conditions: none beyond the given row's own.
-/
namespace Go.Proofs.YtaihdiccmaincaaGreat.ringEmpty
open Go.ChangeShapes Go.WideShapes Go.ChangeAt Go.RowKit
open Go.ChangeMaps (open_string shut_string)
set_option linter.unusedVariables false

theorem own : ownKnob Tryz.prog.godebug = none := by kernel_rfl
theorem laidOut : laidOutB Tryz.prog = true := by kernel_rfl

/-! ### THE ROW's STEP: WRITTEN OUT: LEAVE IT -/
set_option maxRecDepth 100000 in
theorem lifted (os : Os) (started : os.Started) (H : Type) (enc : TypeId × Value → H) :
    ReturnsInHanded {} Tryz.checked os 5 .any (Rows.ringEmptySpec.pre6 enc Tryz.prog Tryz.f5 Rows.ringEmptyRow.domain false) (Rows.ringEmptySpec.post enc Tryz.prog Tryz.f5 false true false false) := by
  refine returnsInHanded_of_change (C := Tryz.checked) own started (by kernel_rfl) Tryz.func5
    (ChangeSpec.witness6 (enc := enc) (C := Tryz.checked) false ⟨#[], #[.int .i64 0, .slice none 0 0], []⟩ 8 (by kernel_rfl) (by kernel_rfl) (by kernel_rfl) (by kernel_rfl)) ?_
  intro W base args ds gs before hval0 hW hcnd _
  have hval : ∀ (j : Nat) t v, Tryz.f5.params[j]? = some t → args[j]? = some v → Value.okWide Tryz.prog W .any base t v := hval0
  have hW' := hW
  obtain ⟨p, q, hA0, hV, rfl, hfz, hnd⟩ := hW
  have hA : DataW.TrodAll enc Tryz.prog W 0 (fun _ => true) true Tryz.f5.params.toList args.toList ds p := hA0
  rw [Tryz.params5] at hA hval
  obtain ⟨v0, vs0, d0, ds0, p0, q0, hargs, rfl, rfl, h0, r0⟩ := trodAll_cons hA
  obtain ⟨v1, vs1, d1, ds1, p1, q1, rfl, rfl, rfl, h1, r1⟩ := trodAll_cons r0
  obtain ⟨rfl, rfl, rfl⟩ := trodAll_nil r1
  obtain rfl : args = #[v0, v1] := by cases args; simp_all
  obtain ⟨rfl, rfl⟩ := trodVars_none hV
  obtain ⟨a0, rfl, rfl, rfl, w0⟩ := open_int Tryz.underlying3 (hval 0 3 v0 rfl rfl) h0
  obtain ⟨a1, len1, cap1, rfl⟩ := okWide_slice Tryz.underlying22 (hval 1 22 v1 rfl rfl)
  have k1 := h1
  have lt1 : ∀ x ∈ p1, x.block < W.heap.size := by obtain ⟨m, hm⟩ := k1; exact DataW.trod_lt m _ _ _ hm
  obtain ⟨z1, w1⟩ : ∃ zs, IsRow .i64 W a1 len1 cap1 zs := by
    obtain ⟨fuel, hf⟩ := h1
    rcases open_ints Tryz.underlying22 Tryz.underlying3 (by kernel_rfl) hf with ⟨hcs, _⟩ | ⟨x, l, c, zs, hcs, _, hl, hm, hz, _, hcell, hwz⟩
    · simp [Value.cells] at hcs
      obtain ⟨rfl, rfl, rfl⟩ := hcs
      exact ⟨[], .inl ⟨rfl, rfl, rfl, rfl⟩⟩
    · simp [Value.cells] at hcs
      obtain ⟨rfl, rfl, rfl⟩ := hcs
      exact ⟨zs, .inr ⟨_, rfl, hl, hm, by simpa using hz, hcell, hwz⟩⟩
  clear hA0 hval0
  refine (walk a0 a1 len1 cap1 z1 W w0 w1).mono fun e W' ⟨he, bel⟩ => ?_
  subst he
  exact ⟨_, rfl, _, _, _, [], _, [], hW', trodAll_mk1 (shut_bool Tryz.underlying4 _), (trodAll_cons_mk (shut_int Tryz.underlying3 w0) (trodAll_cons_mk (Below.trod laidOut (by kernel_rfl) (of_decide_eq_true (by kernel_rfl)) k1 bel lt1) trodAll_mk0)), rfl, bel.frame _, fun h => by cases h⟩

theorem over : Rows.ringEmptyRow.holds Tryz.pinned (OpenSpec.ofChange Rows.ringEmptySpec) :=
  OpenClaim.holds_of_wide 5 Tryz.f5 rfl rfl rfl rfl rfl rfl rfl ⟨rfl, rfl, rfl, rfl, rfl⟩ rfl rfl rfl rfl rfl (by kernel_rfl) Tryz.func5 (by kernel_rfl)
    (of_decide_eq_true (by kernel_rfl)) (by unfold Func.isWrapper; first | (rw [if_pos (by decide +kernel)]; kernel_rfl) | (rw [if_neg (by decide +kernel)]; exact ⟨rfl, rfl⟩))
    (fun os started H enc _ => lifted os started H enc)

/-- ████ THE STATEMENT ████ -/
theorem proved : Rows.RingEmptySaid := over
#print axioms proved
end Go.Proofs.YtaihdiccmaincaaGreat.ringEmpty
