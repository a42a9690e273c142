/- TakeClosedW TakeClosed -/
import Derived.Test.YtgejcjcpchofiaaGreatKG16
import Derived.Test.YtgejcjcpchofiaaGreatKPrimV
import Derived.Test.YtgejcjcpchofiaaGreatKUmod
import Derived.Test.YtgejcjcpchofiaaGreatKArg
import Derived.Test.YtgejcjcpchofiaaGreatRows
import Derived.WalkKit
import Derived.WalkSpells
import Derived.WalkLawsBesides
import Derived.ProofKit
import Derived.OpenShut
import Derived.ShutString
import Derived.ChangeOld
import Derived.Below
/-
  The walk of 'dormouselaw16.TakeClosed': the call returns true, in a world with at most new blocks.
-/
namespace Go.Proofs.YtgejcjcpchofiaaGreat.takeClosed
open Go.RowKit
set_option linter.unusedVariables false

theorem ring_of_same {k : Nat} {s s' : HSt} {c : Ch} {o : Option Rm} (h : ring_of.m k s c = some (o, s')) : s' = s := by
  unfold ring_of.m ring_of.j1 at h
  repeat' split at h
  all_goals (injection h with h; injection h with h1 h2; exact h2.symm)
/-- Put, of a word that is not looked at. -/
def putSym (k : Nat) (s0 : HSt) (i1 : Int) (i2 : Int) : Option (Int × HSt) := bind2 (pChan i1 s0) fun q5 x6 => (if (x6 != 0) then some (x6, s0) else bind2 (ring_of.m k s0 (⟨q5.cap, q5.closed, q5.count, q5.start, q5.buf, q5.th, q5.tt, q5.sh, q5.st⟩ : Ch)) fun o39 s40 => optE o39 (some (9, s40)) fun q65 => (if (decide (q65.count ≥ q65.cap)) then some (9, s40) else (if (q65.cap == 0) then none else bind2 (pStoreI q65.buf (Int.tmod (IntKind.i64.wrap (q65.start + q65.count)) q65.cap) i2 s40) fun x102 s103 => bind2 (pPutChan i1 (⟨q5.cap, q5.closed, IntKind.i64.wrap (q65.count + 1), q5.start, q5.buf, q5.th, q5.tt, q5.sh, q5.st⟩ : Ch) s103) fun x129 s130 => some (x129, s130))))
theorem put_sym {k : Nat} {s : HSt} {at' x : Int} (hp : s.ph = 0) (hx : wdB x = true) : ring_Put.m k s at' x = putSym k s at' x := by
  unfold ring_Put.m putSym
  refine bind2_congr fun q e _ => ?_
  split
  · rfl
  · refine bind2_congr fun o s' ho => ?_
    obtain rfl := ring_of_same ho
    cases o with
    | none => rfl
    | some r =>
      show (if _ then _ else _) = (if _ then _ else _)
      split
      · rfl
      · split
        · rfl
        · rw [pStore_idle hp hx]
def dH : HSt := ⟨⟨[], []⟩, fun _ => 0, [], false, 0, 0, 0⟩
def dM : HSt × HSt × List Int × List Int := (dH, dH, [], [])
def rest : List ACell := List.replicate 1844 .none
def cells (cl ct sr b0 b1 b2 : Int) : List ACell := [.head 1 9, .word 6, .word cl, .word ct, .word sr, .word 65, .word 0, .word 0, .word 0, .word 0, .none, .none, .none, .none, .none, .none, .head 4 10, .word 0, .word 0, .word 0, .word 0, .word 0, .word 0, .word 0, .word 0, .word 0, .word 0, .none, .none, .none, .none, .none, .head 2 3, .word b0, .word b1, .word b2, .none, .none, .none, .none, .none, .none, .none, .none, .none, .none, .none, .none, .none, .none, .none, .none, .none, .none, .none, .none, .none, .none, .none, .none, .none, .none, .none, .none, .head 4 10, .word 2, .word 0, .word 0, .word 0, .word 0, .word 0, .word 0, .word 0, .word 0, .word 0, .none]
/-- The heap of the law: the channel's closed, count and start (as words), and what it holds. -/
def G (B : HSt) (cl ct sr b0 b1 b2 : Int) : HSt := ⟨⟨B.a.l, cells cl ct sr b0 b1 b2 ++ rest⟩, B.col, [], false, 0, 0, 0⟩
theorem split2 {o : Option (HSt × HSt × List Int × List Int)} {d : HSt × HSt × List Int × List Int} {a b : List Int} (h : o.map (fun t => (t.2.2.1, t.2.2.2)) = some (a, b)) : o = some ((o.getD d).1, (o.getD d).2.1, a, b) := by
  cases o with
  | none => cases h
  | some t =>
    obtain ⟨s, u, a', b'⟩ := t
    injection h with h
    injection h with h1 h2
    subst h1; subst h2
    rfl
def M0 : Option (HSt × HSt × List Int × List Int) := law16_made.m 100 [3] 1
def B0 : HSt := (M0.getD dM).1
theorem G_eq {s : HSt} {c : List ACell} (h : (s.a.c, s.g, s.ov, s.ph, s.sp, s.cy) = (c, [], false, 0, 0, 0)) : s = ⟨⟨s.a.l, c⟩, s.col, [], false, 0, 0, 0⟩ := by
  obtain ⟨⟨l, c'⟩, col, g, ov, ph, sp, cy⟩ := s
  simp only [Prod.mk.injEq] at h
  obtain ⟨rfl, rfl, rfl, rfl, rfl, rfl⟩ := h
  rfl
theorem made0 : law16_made.m 100 [3] 1 = some ((M0.getD dM).1, (M0.getD dM).2.1, [0], [16, 64]) := (show law16_made.m 100 [3] 1 = M0 from rfl).trans (split2 (o := M0) (d := dM) (by kernel_rfl))
theorem B0_is : B0 = G B0 0 0 0 0 0 0 := G_eq (by kernel_rfl)
theorem made_is : law16_made.m 100 [3] 1 = some (G B0 0 0 0 0 0 0, (M0.getD dM).2.1, [0], [16, 64]) := by
  rw [← B0_is]; exact made0
theorem awake_is : law16_awake.m 100 = some true := by decide +kernel
theorem ch_is (s u : HSt) : law16_ch.m 100 s u [0] [16, 64] 0 = some (0, s, u) := by kernel_rfl
theorem try_put {s s2 : HSt} {x : Int} {q : Ch} {e a : Int} (h1 : mouth_Of.m 100 s (IntKind.i64.wrap ((IntKind.i64.wrap (2 * 0)) + 1)) = some (some (.inr 0), s)) (h2 : pChan 0 s = some (q, e)) (hq : (q.closed != 0) = false) (h3 : list_Pop.m 100 s 0 false = some (a, false, s)) (hp : s.ph = 0) (hx : wdB x = true) (h5 : putSym 100 s 0 x = some (0, s2)) : send_Try.m 100 s (IntKind.i64.wrap ((IntKind.i64.wrap (2 * 0)) + 1)) x = some (-1, 1, s2) := by
  unfold send_Try.m
  rw [h1]
  simp only [bind2_some, optE, sumE]
  rw [h2]
  simp only [bind2_some, hq, Bool.false_eq_true, if_false]
  rw [h3]
  simp only [bind3_some, Bool.false_eq_true, if_false]
  rw [put_sym hp hx, h5]
  simp only [bind2_some]
  rw [if_pos (by decide)]
theorem put0 (B : HSt) (x y z : Int) (hx : wdB x = true) : send_Try.m 100 (G B 0 0 0 0 0 0) (IntKind.i64.wrap ((IntKind.i64.wrap (2 * 0)) + 1)) x = some (-1, 1, G B 0 2 0 x 0 0) := try_put (q := ⟨3, 0, 0, 0, 32, -1, -1, -1, -1⟩) (e := 0) (a := 0) (by kernel_rfl) (by kernel_rfl) (by kernel_rfl) (by kernel_rfl) rfl hx (by kernel_rfl)
theorem put1 (B : HSt) (x y z : Int) (hx : wdB x = true) : send_Try.m 100 (G B 0 2 0 y 0 0) (IntKind.i64.wrap ((IntKind.i64.wrap (2 * 0)) + 1)) x = some (-1, 1, G B 0 4 0 y x 0) := try_put (q := ⟨3, 0, 1, 0, 32, -1, -1, -1, -1⟩) (e := 0) (a := 0) (by kernel_rfl) (by kernel_rfl) (by kernel_rfl) (by kernel_rfl) rfl hx (by kernel_rfl)
theorem put2 (B : HSt) (x y z : Int) (hx : wdB x = true) : send_Try.m 100 (G B 0 4 0 y z 0) (IntKind.i64.wrap ((IntKind.i64.wrap (2 * 0)) + 1)) x = some (-1, 1, G B 0 6 0 y z x) := try_put (q := ⟨3, 0, 2, 0, 32, -1, -1, -1, -1⟩) (e := 0) (a := 0) (by kernel_rfl) (by kernel_rfl) (by kernel_rfl) (by kernel_rfl) rfl hx (by kernel_rfl)
theorem look0 (B : HSt) (x y z : Int) : pChan 0 (G B 0 0 0 0 0 0) = some (⟨3, 0, 0, 0, 32, -1, -1, -1, -1⟩, 0) := by kernel_rfl
theorem shut0 (B : HSt) (x y z : Int) : pPutChan 0 (⟨3, 1, 0, 0, 32, -1, -1, -1, -1⟩ : Ch) (G B 0 0 0 0 0 0) = some (0, G B 2 0 0 0 0 0) := by kernel_rfl
theorem look1 (B : HSt) (x y z : Int) : pChan 0 (G B 0 2 0 x 0 0) = some (⟨3, 0, 1, 0, 32, -1, -1, -1, -1⟩, 0) := by kernel_rfl
theorem shut1 (B : HSt) (x y z : Int) : pPutChan 0 (⟨3, 1, 1, 0, 32, -1, -1, -1, -1⟩ : Ch) (G B 0 2 0 x 0 0) = some (0, G B 2 2 0 x 0 0) := by kernel_rfl
theorem look2 (B : HSt) (x y z : Int) : pChan 0 (G B 0 4 0 x y 0) = some (⟨3, 0, 2, 0, 32, -1, -1, -1, -1⟩, 0) := by kernel_rfl
theorem shut2 (B : HSt) (x y z : Int) : pPutChan 0 (⟨3, 1, 2, 0, 32, -1, -1, -1, -1⟩ : Ch) (G B 0 4 0 x y 0) = some (0, G B 2 4 0 x y 0) := by kernel_rfl
theorem look3 (B : HSt) (x y z : Int) : pChan 0 (G B 0 6 0 x y z) = some (⟨3, 0, 3, 0, 32, -1, -1, -1, -1⟩, 0) := by kernel_rfl
theorem shut3 (B : HSt) (x y z : Int) : pPutChan 0 (⟨3, 1, 3, 0, 32, -1, -1, -1, -1⟩ : Ch) (G B 0 6 0 x y z) = some (0, G B 2 6 0 x y z) := by kernel_rfl
theorem more0 (B : HSt) : take_Try.m 100 (G B 2 0 0 0 0 0) (IntKind.i64.wrap ((IntKind.i64.wrap (2 * 0)) + 1)) = some (0, -1, 1, G B 2 0 0 0 0 0) := by kernel_rfl
theorem readyE0 (B : HSt) : take_Ready.m 100 (G B 2 0 0 0 0 0) (IntKind.i64.wrap ((IntKind.i64.wrap (2 * 0)) + 1)) = some (true, G B 2 0 0 0 0 0) := by kernel_rfl
theorem last0 (K : List Int) (n w : Int) (u : HSt) (B : HSt) : (bind4 (take_Try.m 100 (G B 2 0 0 0 0 0) 0) fun x321 x322 x323 s324 => bind3 (law16_gor.m 100 s324 u [0] [16, 64] 0) fun x337 s338 s339 => bind4 (take_Try.m 100 s338 (IntKind.i64.wrap ((IntKind.i64.wrap (2 * x337)) + 1))) fun x349 x350 x351 s352 => bind3 (take_TryN.m 100 w) fun x363 x364 x365 => (if (x323 == 0) then (if (x351 == 6) then (if (x364 == (-1)) then (if (x365 == 6) then bind1 (take_ReadyN.m 100 w) fun y401 => (if (y401) then bind2 (take_Ready.m 100 s352 0) fun y416 s417 => TakeClosed.j11 (!(y416)) else TakeClosed.j11 false) else TakeClosed.j11 false) else TakeClosed.j11 false) else TakeClosed.j11 false) else TakeClosed.j11 false)) = some true := by kernel_rfl
theorem take1_0 (B : HSt) (x y z : Int) : take_Try.m 100 (G B 2 2 0 x 0 0) (IntKind.i64.wrap ((IntKind.i64.wrap (2 * 0)) + 1)) = some (x, -1, 1, G B 2 0 2 0 0 0) := by kernel_rfl
theorem ready1_0 (B : HSt) (x y z : Int) : take_Ready.m 100 (G B 2 0 2 0 0 0) (IntKind.i64.wrap ((IntKind.i64.wrap (2 * 0)) + 1)) = some (true, G B 2 0 2 0 0 0) := by kernel_rfl
theorem more1 (B : HSt) : take_Try.m 100 (G B 2 0 2 0 0 0) (IntKind.i64.wrap ((IntKind.i64.wrap (2 * 0)) + 1)) = some (0, -1, 1, G B 2 0 2 0 0 0) := by kernel_rfl
theorem readyE1 (B : HSt) : take_Ready.m 100 (G B 2 0 2 0 0 0) (IntKind.i64.wrap ((IntKind.i64.wrap (2 * 0)) + 1)) = some (true, G B 2 0 2 0 0 0) := by kernel_rfl
theorem last1 (K : List Int) (n w : Int) (u : HSt) (B : HSt) : (bind4 (take_Try.m 100 (G B 2 0 2 0 0 0) 0) fun x321 x322 x323 s324 => bind3 (law16_gor.m 100 s324 u [0] [16, 64] 0) fun x337 s338 s339 => bind4 (take_Try.m 100 s338 (IntKind.i64.wrap ((IntKind.i64.wrap (2 * x337)) + 1))) fun x349 x350 x351 s352 => bind3 (take_TryN.m 100 w) fun x363 x364 x365 => (if (x323 == 0) then (if (x351 == 6) then (if (x364 == (-1)) then (if (x365 == 6) then bind1 (take_ReadyN.m 100 w) fun y401 => (if (y401) then bind2 (take_Ready.m 100 s352 0) fun y416 s417 => TakeClosed.j11 (!(y416)) else TakeClosed.j11 false) else TakeClosed.j11 false) else TakeClosed.j11 false) else TakeClosed.j11 false) else TakeClosed.j11 false)) = some true := by kernel_rfl
theorem take2_0 (B : HSt) (x y z : Int) : take_Try.m 100 (G B 2 4 0 x y 0) (IntKind.i64.wrap ((IntKind.i64.wrap (2 * 0)) + 1)) = some (x, -1, 1, G B 2 2 2 0 y 0) := by kernel_rfl
theorem ready2_0 (B : HSt) (x y z : Int) : take_Ready.m 100 (G B 2 2 2 0 y 0) (IntKind.i64.wrap ((IntKind.i64.wrap (2 * 0)) + 1)) = some (true, G B 2 2 2 0 y 0) := by kernel_rfl
theorem take2_1 (B : HSt) (x y z : Int) : take_Try.m 100 (G B 2 2 2 0 y 0) (IntKind.i64.wrap ((IntKind.i64.wrap (2 * 0)) + 1)) = some (y, -1, 1, G B 2 0 4 0 0 0) := by kernel_rfl
theorem ready2_1 (B : HSt) (x y z : Int) : take_Ready.m 100 (G B 2 0 4 0 0 0) (IntKind.i64.wrap ((IntKind.i64.wrap (2 * 0)) + 1)) = some (true, G B 2 0 4 0 0 0) := by kernel_rfl
theorem more2 (B : HSt) : take_Try.m 100 (G B 2 0 4 0 0 0) (IntKind.i64.wrap ((IntKind.i64.wrap (2 * 0)) + 1)) = some (0, -1, 1, G B 2 0 4 0 0 0) := by kernel_rfl
theorem readyE2 (B : HSt) : take_Ready.m 100 (G B 2 0 4 0 0 0) (IntKind.i64.wrap ((IntKind.i64.wrap (2 * 0)) + 1)) = some (true, G B 2 0 4 0 0 0) := by kernel_rfl
theorem last2 (K : List Int) (n w : Int) (u : HSt) (B : HSt) : (bind4 (take_Try.m 100 (G B 2 0 4 0 0 0) 0) fun x321 x322 x323 s324 => bind3 (law16_gor.m 100 s324 u [0] [16, 64] 0) fun x337 s338 s339 => bind4 (take_Try.m 100 s338 (IntKind.i64.wrap ((IntKind.i64.wrap (2 * x337)) + 1))) fun x349 x350 x351 s352 => bind3 (take_TryN.m 100 w) fun x363 x364 x365 => (if (x323 == 0) then (if (x351 == 6) then (if (x364 == (-1)) then (if (x365 == 6) then bind1 (take_ReadyN.m 100 w) fun y401 => (if (y401) then bind2 (take_Ready.m 100 s352 0) fun y416 s417 => TakeClosed.j11 (!(y416)) else TakeClosed.j11 false) else TakeClosed.j11 false) else TakeClosed.j11 false) else TakeClosed.j11 false) else TakeClosed.j11 false)) = some true := by kernel_rfl
theorem take3_0 (B : HSt) (x y z : Int) : take_Try.m 100 (G B 2 6 0 x y z) (IntKind.i64.wrap ((IntKind.i64.wrap (2 * 0)) + 1)) = some (x, -1, 1, G B 2 4 2 0 y z) := by kernel_rfl
theorem ready3_0 (B : HSt) (x y z : Int) : take_Ready.m 100 (G B 2 4 2 0 y z) (IntKind.i64.wrap ((IntKind.i64.wrap (2 * 0)) + 1)) = some (true, G B 2 4 2 0 y z) := by kernel_rfl
theorem take3_1 (B : HSt) (x y z : Int) : take_Try.m 100 (G B 2 4 2 0 y z) (IntKind.i64.wrap ((IntKind.i64.wrap (2 * 0)) + 1)) = some (y, -1, 1, G B 2 2 4 0 0 z) := by kernel_rfl
theorem ready3_1 (B : HSt) (x y z : Int) : take_Ready.m 100 (G B 2 2 4 0 0 z) (IntKind.i64.wrap ((IntKind.i64.wrap (2 * 0)) + 1)) = some (true, G B 2 2 4 0 0 z) := by kernel_rfl
theorem take3_2 (B : HSt) (x y z : Int) : take_Try.m 100 (G B 2 2 4 0 0 z) (IntKind.i64.wrap ((IntKind.i64.wrap (2 * 0)) + 1)) = some (z, -1, 1, G B 2 0 0 0 0 0) := by kernel_rfl
theorem ready3_2 (B : HSt) (x y z : Int) : take_Ready.m 100 (G B 2 0 0 0 0 0) (IntKind.i64.wrap ((IntKind.i64.wrap (2 * 0)) + 1)) = some (true, G B 2 0 0 0 0 0) := by kernel_rfl
theorem more3 (B : HSt) : take_Try.m 100 (G B 2 0 0 0 0 0) (IntKind.i64.wrap ((IntKind.i64.wrap (2 * 0)) + 1)) = some (0, -1, 1, G B 2 0 0 0 0 0) := by kernel_rfl
theorem readyE3 (B : HSt) : take_Ready.m 100 (G B 2 0 0 0 0 0) (IntKind.i64.wrap ((IntKind.i64.wrap (2 * 0)) + 1)) = some (true, G B 2 0 0 0 0 0) := by kernel_rfl
theorem last3 (K : List Int) (n w : Int) (u : HSt) (B : HSt) : (bind4 (take_Try.m 100 (G B 2 0 0 0 0 0) 0) fun x321 x322 x323 s324 => bind3 (law16_gor.m 100 s324 u [0] [16, 64] 0) fun x337 s338 s339 => bind4 (take_Try.m 100 s338 (IntKind.i64.wrap ((IntKind.i64.wrap (2 * x337)) + 1))) fun x349 x350 x351 s352 => bind3 (take_TryN.m 100 w) fun x363 x364 x365 => (if (x323 == 0) then (if (x351 == 6) then (if (x364 == (-1)) then (if (x365 == 6) then bind1 (take_ReadyN.m 100 w) fun y401 => (if (y401) then bind2 (take_Ready.m 100 s352 0) fun y416 s417 => TakeClosed.j11 (!(y416)) else TakeClosed.j11 false) else TakeClosed.j11 false) else TakeClosed.j11 false) else TakeClosed.j11 false) else TakeClosed.j11 false)) = some true := by kernel_rfl
/-- What stands behind i puts. -/
def P (B : HSt) (X Y Z : Int) : Nat → HSt
  | 0 => G B 0 0 0 0 0 0
  | 1 => G B 0 2 0 X 0 0
  | 2 => G B 0 4 0 X Y 0
  | _ => G B 0 6 0 X Y Z
/-- Of k that were put, behind i takes. -/
def T (B : HSt) (X Y Z : Int) : Nat → Nat → HSt
  | 0, _ => G B 2 0 0 0 0 0
  | 1, 0 => G B 2 2 0 X 0 0
  | 1, _ + 1 => G B 2 0 2 0 0 0
  | 2, 0 => G B 2 4 0 X Y 0
  | 2, 1 => G B 2 2 2 0 Y 0
  | 2, _ + 2 => G B 2 0 4 0 0 0
  | _ + 3, 0 => G B 2 6 0 X Y Z
  | _ + 3, 1 => G B 2 4 2 0 Y Z
  | _ + 3, 2 => G B 2 2 4 0 0 Z
  | _ + 3, _ + 3 => G B 2 0 0 0 0 0
section
variable {K : List Int} {B u : HSt} {kk m : Nat} {i1 i2 : Int}
theorem wd_at (hK : ∀ x ∈ K, wdB x = true) (i : Nat) (h : i < K.length) : wdB (atI K (i : Int)) = true := by
  apply hK
  unfold Go.Proofs.YtgejcjcpchofiaaGreat.atI
  rw [List.getD_eq_getElem?_getD, List.getElem?_eq_getElem (by omega)]
  exact List.getElem_mem _
theorem put_at (hK : ∀ x ∈ K, wdB x = true) (i : Nat) (h : i < 3) (hl : i < K.length) : send_Try.m 100 (P B (atI K 0) (atI K 1) (atI K 2) i) (IntKind.i64.wrap ((IntKind.i64.wrap (2 * 0)) + 1)) (atI K (i : Int)) = some (-1, 1, P B (atI K 0) (atI K 1) (atI K 2) (i + 1)) := by
  have hx := wd_at hK i hl
  have : i = 0 ∨ i = 1 ∨ i = 2 := by omega
  rcases this with rfl | rfl | rfl
  · exact put0 B (atI K 0) 0 0 hx
  · exact put1 B (atI K 1) (atI K 0) 0 hx
  · exact put2 B (atI K 2) (atI K 0) (atI K 1) hx
theorem take_at (X Y Z : Int) (hkk : kk < 4) (i : Nat) (h : i < kk) : take_Try.m 100 (T B X Y Z kk i) (IntKind.i64.wrap ((IntKind.i64.wrap (2 * 0)) + 1)) = some (atI [X, Y, Z] (i : Int), -1, 1, T B X Y Z kk (i + 1)) ∧ take_Ready.m 100 (T B X Y Z kk (i + 1)) (IntKind.i64.wrap ((IntKind.i64.wrap (2 * 0)) + 1)) = some (true, T B X Y Z kk (i + 1)) := by
  have h1 : (kk = 1 ∧ i = 0) ∨ (kk = 2 ∧ i = 0) ∨ (kk = 2 ∧ i = 1) ∨ (kk = 3 ∧ i = 0) ∨ (kk = 3 ∧ i = 1) ∨ (kk = 3 ∧ i = 2) := by omega
  rcases h1 with ⟨rfl, rfl⟩ | ⟨rfl, rfl⟩ | ⟨rfl, rfl⟩ | ⟨rfl, rfl⟩ | ⟨rfl, rfl⟩ | ⟨rfl, rfl⟩
  · exact ⟨take1_0 B X Y Z, ready1_0 B X Y Z⟩
  · exact ⟨take2_0 B X Y Z, ready2_0 B X Y Z⟩
  · exact ⟨take2_1 B X Y Z, ready2_1 B X Y Z⟩
  · exact ⟨take3_0 B X Y Z, ready3_0 B X Y Z⟩
  · exact ⟨take3_1 B X Y Z, ready3_1 B X Y Z⟩
  · exact ⟨take3_2 B X Y Z, ready3_2 B X Y Z⟩
theorem more_at (X Y Z : Int) (hkk : kk < 4) (i : Nat) (h : kk ≤ i) : take_Try.m 100 (T B X Y Z kk i) (IntKind.i64.wrap ((IntKind.i64.wrap (2 * 0)) + 1)) = some (0, -1, 1, T B X Y Z kk (i + 1)) ∧ take_Ready.m 100 (T B X Y Z kk (i + 1)) (IntKind.i64.wrap ((IntKind.i64.wrap (2 * 0)) + 1)) = some (true, T B X Y Z kk (i + 1)) := by
  have h1 : kk = 0 ∨ kk = 1 ∨ kk = 2 ∨ kk = 3 := by omega
  rcases h1 with rfl | rfl | rfl | rfl
  · exact ⟨more0 B, readyE0 B⟩
  · obtain ⟨i, rfl⟩ : ∃ j, i = j + 1 := ⟨i - 1, by omega⟩
    exact ⟨more1 B, readyE1 B⟩
  · obtain ⟨i, rfl⟩ : ∃ j, i = j + 2 := ⟨i - 2, by omega⟩
    exact ⟨more2 B, readyE2 B⟩
  · obtain ⟨i, rfl⟩ : ∃ j, i = j + 3 := ⟨i - 3, by omega⟩
    exact ⟨more3 B, readyE3 B⟩
theorem j9_is {i v : Int} {s : HSt} {r : HSt → HSt → Int → Option Bool} (hr : take_Ready.m 100 s (IntKind.i64.wrap ((IntKind.i64.wrap (2 * 0)) + 1)) = some (true, s)) : TakeClosed.j9 100 [0] [16, 64] i r u v (-1) 1 s v = r s u (IntKind.i64.wrap (i + 1)) := by
  unfold TakeClosed.j9
  rw [if_neg (by simp), if_neg (by simp), if_neg (by simp)]
  simp only [ch_is, bind3_some, hr, bind2_some]
  unfold TakeClosed.j10
  rw [if_neg (by simp)]
theorem wrap_next (i : Nat) (h : i < 10) : IntKind.i64.wrap ((i : Int) + 1) = ((i + 1 : Nat) : Int) := by
  have h2 : i = 0 ∨ i = 1 ∨ i = 2 ∨ i = 3 ∨ i = 4 ∨ i = 5 ∨ i = 6 ∨ i = 7 ∨ i = 8 ∨ i = 9 := by omega
  rcases h2 with rfl | rfl | rfl | rfl | rfl | rfl | rfl | rfl | rfl | rfl <;> rfl
theorem l8_at (hkk : kk < 4) (hm : m < 4) (e : (if 3 < (K.length : Int) then 3 else (K.length : Int)) = (kk : Int)) (hw : IntKind.i64.wrap ((kk : Int) + (IntKind.i64.wrap (Int.tmod (IntKind.u64.wrap i1) 4))) = ((kk + m : Nat) : Int)) : ∀ (d i f : Nat), i + d = kk + m → d < f → TakeClosed.l8 K i1 i2 100 [0] [16, 64] f (T B (atI K 0) (atI K 1) (atI K 2) kk i) u (i : Int) = some true
  | 0, i, f, hi, hf => by
    obtain ⟨f, rfl⟩ : ∃ g, f = g + 1 := ⟨f - 1, by omega⟩
    show TakeClosed.l8b K i1 i2 100 [0] [16, 64] (TakeClosed.l8 K i1 i2 100 [0] [16, 64] f) (T B (atI K 0) (atI K 1) (atI K 2) kk i) u (i : Int) = some true
    unfold TakeClosed.l8b
    rw [e, hw, if_neg (by simp; omega)]
    have h1 : kk = 0 ∨ kk = 1 ∨ kk = 2 ∨ kk = 3 := by omega
    rcases h1 with rfl | rfl | rfl | rfl
    · exact last0 K i1 i2 u B
    · obtain ⟨i, rfl⟩ : ∃ j, i = j + 1 := ⟨i - 1, by omega⟩
      exact last1 K i1 i2 u B
    · obtain ⟨i, rfl⟩ : ∃ j, i = j + 2 := ⟨i - 2, by omega⟩
      exact last2 K i1 i2 u B
    · obtain ⟨i, rfl⟩ : ∃ j, i = j + 3 := ⟨i - 3, by omega⟩
      exact last3 K i1 i2 u B
  | d + 1, i, f, hi, hf => by
    obtain ⟨f, rfl⟩ : ∃ g, f = g + 1 := ⟨f - 1, by omega⟩
    have ih := l8_at hkk hm e hw d (i + 1) f (by omega) (by omega)
    show TakeClosed.l8b K i1 i2 100 [0] [16, 64] (TakeClosed.l8 K i1 i2 100 [0] [16, 64] f) (T B (atI K 0) (atI K 1) (atI K 2) kk i) u (i : Int) = some true
    unfold TakeClosed.l8b
    rw [e, hw, if_pos (by simp; omega)]
    by_cases hlt : i < kk
    · obtain ⟨h1, h2⟩ := take_at (B := B) (atI K 0) (atI K 1) (atI K 2) hkk i hlt
      have hlen : kk ≤ K.length := by split at e <;> omega
      have hv : atI [atI K 0, atI K 1, atI K 2] (i : Int) = atI K (i : Int) := by
        have : i = 0 ∨ i = 1 ∨ i = 2 := by omega
        rcases this with rfl | rfl | rfl <;> rfl
      simp only [ch_is, bind3_some, h1, bind4_some]
      rw [if_pos (by simp; omega), if_pos (by simp [inR]; omega), hv, j9_is h2, wrap_next i (by omega)]
      exact ih
    · obtain ⟨h1, h2⟩ := more_at (B := B) (atI K 0) (atI K 1) (atI K 2) hkk i (by omega)
      simp only [ch_is, bind3_some, h1, bind4_some]
      rw [if_neg (by simp; omega), j9_is h2, wrap_next i (by omega)]
      exact ih
theorem l2_at (hK : ∀ x ∈ K, wdB x = true) (hkk : kk < 4) (hm : m < 4) (e : (if 3 < (K.length : Int) then 3 else (K.length : Int)) = (kk : Int)) (hw : IntKind.i64.wrap ((kk : Int) + (IntKind.i64.wrap (Int.tmod (IntKind.u64.wrap i1) 4))) = ((kk + m : Nat) : Int)) : ∀ (d i f : Nat), i + d = kk → d < f → TakeClosed.l2 K i1 i2 100 [0] [16, 64] f (P B (atI K 0) (atI K 1) (atI K 2) i) u (i : Int) = some true
  | 0, i, f, hi, hf => by
    obtain ⟨f, rfl⟩ : ∃ g, f = g + 1 := ⟨f - 1, by omega⟩
    have hi : i = kk := by omega
    subst hi
    have ih := l8_at (B := B) (u := u) (i2 := i2) hkk hm e hw (i + m) 0 100 (by omega) (by omega)
    show TakeClosed.l2b K i1 i2 100 [0] [16, 64] (TakeClosed.l2 K i1 i2 100 [0] [16, 64] f) (P B (atI K 0) (atI K 1) (atI K 2) i) u (i : Int) = some true
    unfold TakeClosed.l2b
    rw [e, if_neg (by simp)]
    simp only [ch_is, bind3_some]
    have h1 : i = 0 ∨ i = 1 ∨ i = 2 ∨ i = 3 := by omega
    rcases h1 with rfl | rfl | rfl | rfl
    · unfold TakeClosed.j3 P
      simp only [ch_is, bind3_some, look0 B 0 0 0, bind2_some, shut0 B 0 0 0]
      exact ih
    · unfold TakeClosed.j3 P
      simp only [ch_is, bind3_some, look1 B (atI K 0) 0 0, bind2_some, shut1 B (atI K 0) 0 0]
      exact ih
    · unfold TakeClosed.j3 P
      simp only [ch_is, bind3_some, look2 B (atI K 0) (atI K 1) 0, bind2_some, shut2 B (atI K 0) (atI K 1) 0]
      exact ih
    · unfold TakeClosed.j3 P
      simp only [ch_is, bind3_some, look3 B (atI K 0) (atI K 1) (atI K 2), bind2_some, shut3 B (atI K 0) (atI K 1) (atI K 2)]
      exact ih
  | d + 1, i, f, hi, hf => by
    obtain ⟨f, rfl⟩ : ∃ g, f = g + 1 := ⟨f - 1, by omega⟩
    have ih := l2_at hK hkk hm e hw d (i + 1) f (by omega) (by omega)
    have hlen : kk ≤ K.length := by split at e <;> omega
    show TakeClosed.l2b K i1 i2 100 [0] [16, 64] (TakeClosed.l2 K i1 i2 100 [0] [16, 64] f) (P B (atI K 0) (atI K 1) (atI K 2) i) u (i : Int) = some true
    unfold TakeClosed.l2b
    rw [e, if_pos (by simp; omega), if_pos (by simp [inR]; omega)]
    simp only [ch_is, bind3_some, put_at hK i (by omega) (by omega)]
    rw [if_neg (by simp), wrap_next i (by omega)]
    exact ih
end
theorem pure (K : List Int) (i1 i2 : Int) (hK : ∀ x ∈ K, wdB x = true) : TakeClosed.m 100 K i1 i2 = some true := by
  obtain ⟨m, hm, ex⟩ := u_mod i1 4 (by omega)
  simp only [Int.cast_ofNat_Int] at ex
  have hkk : min K.length 3 < 4 := by omega
  have hw : IntKind.i64.wrap (((min K.length 3 : Nat) : Int) + (IntKind.i64.wrap (Int.tmod (IntKind.u64.wrap i1) 4))) = ((min K.length 3 + m : Nat) : Int) := by
    rw [ex]
    generalize min K.length 3 = q at hkk
    have h1 : q = 0 ∨ q = 1 ∨ q = 2 ∨ q = 3 := by omega
    have h2 : m = 0 ∨ m = 1 ∨ m = 2 ∨ m = 3 := by omega
    rcases h1 with rfl | rfl | rfl | rfl <;> rcases h2 with rfl | rfl | rfl | rfl <;> rfl
  unfold TakeClosed.m
  simp only [made_is, bind4_some, awake_is, bind1_some]
  rw [if_neg (by simp)]
  unfold TakeClosed.j1
  rw [if_neg (by simp)]
  exact l2_at (B := B0) hK hkk hm (by split <;> omega) hw (min K.length 3) 0 100 (by omega) (by omega)
theorem walk (a0 : Option Addr) (len0 cap0 : Nat) (z0 : List Int) (a1 : Int) (a2 : Int) (w : World) (w0 : IsRow .i64 w a0 len0 cap0 z0) (w1 : (Lit.int .i64 a1).wf = true) (w2 : (Lit.int .i64 a2).wf = true) :
    Calls Tryz.prog 10 #[.slice a0 len0 cap0, .int .i64 a1, .int .i64 a2] w fun e w' => e = .returned (.bool true) ∧ Below w.heap.size w w' := by
  obtain ⟨L, e, hA⟩ := argInts_len w0
  subst e
  refine (TakeClosed.ok hA (St.empty w) (pure L _ _ (fun x hx => ?_))).mono fun e w' ⟨he, h⟩ => ⟨he, h.old⟩
  have := hA.1 x hx
  unfold Wd at this
  simp [wdB]; omega

end Go.Proofs.YtgejcjcpchofiaaGreat.takeClosed
/-
  'TakeClosedSaid' ('dormouselaw16.TakeClosed'): for every input the law returns true, and each argument reads behind the call as it did before.
  Conditions: none beyond the given row's own.
-/
namespace Go.Proofs.YtgejcjcpchofiaaGreat.takeClosed
open Go.ChangeShapes Go.WideShapes Go.ChangeAt Go.RowKit
open Go.ChangeMaps (open_string shut_string)
set_option linter.unusedVariables false

theorem own : ownKnob Tryz.prog.godebug = none := by kernel_rfl
theorem laidOut : laidOutB Tryz.prog = true := by kernel_rfl

/-! ### THE ROW's STEP: WRITTEN OUT: LEAVE IT -/
set_option maxRecDepth 100000 in
theorem lifted (os : Os) (started : os.Started) (H : Type) (enc : TypeId × Value → H) :
    ReturnsInHanded {} Tryz.checked os 10 .any (Rows.takeClosedSpec.pre6 enc Tryz.prog Tryz.f10 Rows.takeClosedRow.domain false) (Rows.takeClosedSpec.post enc Tryz.prog Tryz.f10 false true false false) := by
  refine returnsInHanded_of_change (C := Tryz.checked) own started (by kernel_rfl) Tryz.func10
    (ChangeSpec.witness6 (enc := enc) (C := Tryz.checked) false ⟨#[], #[.slice none 0 0, .int .i64 0, .int .i64 0], []⟩ 8 (by kernel_rfl) (by kernel_rfl) (by kernel_rfl) (by kernel_rfl)) ?_
  intro W base args ds gs before hval0 hW hcnd _
  have hval : ∀ (j : Nat) t v, Tryz.f10.params[j]? = some t → args[j]? = some v → Value.okWide Tryz.prog W .any base t v := hval0
  have hW' := hW
  obtain ⟨p, q, hA0, hV, rfl, hfz, hnd⟩ := hW
  have hA : DataW.TrodAll enc Tryz.prog W 0 (fun _ => true) true Tryz.f10.params.toList args.toList ds p := hA0
  rw [Tryz.params10] at hA hval
  obtain ⟨v0, vs0, d0, ds0, p0, q0, hargs, rfl, rfl, h0, r0⟩ := trodAll_cons hA
  obtain ⟨v1, vs1, d1, ds1, p1, q1, rfl, rfl, rfl, h1, r1⟩ := trodAll_cons r0
  obtain ⟨v2, vs2, d2, ds2, p2, q2, rfl, rfl, rfl, h2, r2⟩ := trodAll_cons r1
  obtain ⟨rfl, rfl, rfl⟩ := trodAll_nil r2
  obtain rfl : args = #[v0, v1, v2] := by cases args; simp_all
  obtain ⟨rfl, rfl⟩ := trodVars_none hV
  obtain ⟨a0, len0, cap0, rfl⟩ := okWide_slice Tryz.underlying24 (hval 0 24 v0 rfl rfl)
  have k0 := h0
  have lt0 : ∀ x ∈ p0, x.block < W.heap.size := by obtain ⟨m, hm⟩ := k0; exact DataW.trod_lt m _ _ _ hm
  obtain ⟨z0, w0⟩ : ∃ zs, IsRow .i64 W a0 len0 cap0 zs := by
    obtain ⟨fuel, hf⟩ := h0
    rcases open_ints Tryz.underlying24 Tryz.underlying3 (by kernel_rfl) hf with ⟨hcs, _⟩ | ⟨x, l, c, zs, hcs, _, hl, hm, hz, _, hcell, hwz⟩
    · simp [Value.cells] at hcs
      obtain ⟨rfl, rfl, rfl⟩ := hcs
      exact ⟨[], .inl ⟨rfl, rfl, rfl, rfl⟩⟩
    · simp [Value.cells] at hcs
      obtain ⟨rfl, rfl, rfl⟩ := hcs
      exact ⟨zs, .inr ⟨_, rfl, hl, hm, by simpa using hz, hcell, hwz⟩⟩
  obtain ⟨a1, rfl, rfl, rfl, w1⟩ := open_int Tryz.underlying3 (hval 1 3 v1 rfl rfl) h1
  obtain ⟨a2, rfl, rfl, rfl, w2⟩ := open_int Tryz.underlying3 (hval 2 3 v2 rfl rfl) h2
  clear hA0 hval0
  refine (walk a0 len0 cap0 z0 a1 a2 W w0 w1 w2).mono fun e W' ⟨he, bel⟩ => ?_
  subst he
  exact ⟨_, rfl, _, _, _, [], _, [], hW', trodAll_mk1 (shut_bool Tryz.underlying4 _), (trodAll_cons_mk (Below.trod laidOut (by kernel_rfl) (of_decide_eq_true (by kernel_rfl)) k0 bel lt0) (trodAll_cons_mk (shut_int Tryz.underlying3 w1) (trodAll_cons_mk (shut_int Tryz.underlying3 w2) trodAll_mk0))), rfl, bel.frame _, fun h => by cases h⟩

theorem over : Rows.takeClosedRow.holds Tryz.pinned (OpenSpec.ofChange Rows.takeClosedSpec) :=
  OpenClaim.holds_of_wide 10 Tryz.f10 rfl rfl rfl rfl rfl rfl rfl ⟨rfl, rfl, rfl, rfl, rfl⟩ rfl rfl rfl rfl rfl (by kernel_rfl) Tryz.func10 (by kernel_rfl)
    (of_decide_eq_true (by kernel_rfl)) (by unfold Func.isWrapper; first | (rw [if_pos (by decide +kernel)]; kernel_rfl) | (rw [if_neg (by decide +kernel)]; exact ⟨rfl, rfl⟩))
    (fun os started H enc _ => lifted os started H enc)

/-- ████ THE STATEMENT ████ -/
theorem proved : Rows.TakeClosedSaid := over
#print axioms proved
end Go.Proofs.YtgejcjcpchofiaaGreat.takeClosed
