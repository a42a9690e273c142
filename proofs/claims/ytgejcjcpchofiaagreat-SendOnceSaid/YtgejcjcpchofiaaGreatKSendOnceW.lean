/- SendOnceW SendOnce -/
import Derived.Test.YtgejcjcpchofiaaGreatKG15
import Derived.Test.YtgejcjcpchofiaaGreatKPrimV
import Derived.Test.YtgejcjcpchofiaaGreatRows
import Derived.WalkKit
import Derived.WalkSpells
import Derived.WalkLawsBesides
import Derived.ProofKit
import Derived.OpenShut
/-
  The walk of 'dormouselaw15.SendOnce': the call returns true, in a world with at most new blocks.
-/
namespace Go.Proofs.YtgejcjcpchofiaaGreat.sendOnce
open Go.RowKit
set_option linter.unusedVariables false

/-- Wake, of a word that is not looked at. -/
def wakeSym2 (q5 : Su) (q40 : Gr) (s76 : HSt) (x114 : Int) (x115 : Int) (x116 : Int) (x117 : Int) (x118 : Int) (x119 : Int) : Option (Int × Int × HSt) := bind2 (pPutGorI q5.gor (⟨q40.id, 0, q5.to, x114, x115, x116, x117, x118, x119, -1⟩ : Gr) s76) fun x134 s135 => bind1 (pShade q5.gor s135) fun s149 => some (q5.gor, x134, s149)
def wakeSym1 (i2 : Int) (q5 : Su) (q40 : Gr) (s76 : HSt) (y106 : Bool) : Option (Int × Int × HSt) := (if (y106) then (if (q5.reg == 0) then wakeSym2 q5 q40 s76 i2 q40.b q40.c q40.d q40.e q40.f else (if (q5.reg == 1) then wakeSym2 q5 q40 s76 q40.a i2 q40.c q40.d q40.e q40.f else (if (q5.reg == 2) then wakeSym2 q5 q40 s76 q40.a q40.b i2 q40.d q40.e q40.f else (if (q5.reg == 3) then wakeSym2 q5 q40 s76 q40.a q40.b q40.c i2 q40.e q40.f else (if (q5.reg == 4) then wakeSym2 q5 q40 s76 q40.a q40.b q40.c q40.d i2 q40.f else (if (q5.reg == 5) then wakeSym2 q5 q40 s76 q40.a q40.b q40.c q40.d q40.e i2 else none)))))) else wakeSym2 q5 q40 s76 q40.a q40.b q40.c q40.d q40.e q40.f)
def wakeSym (k : Nat) (s0 : HSt) (i1 : Int) (i2 : Int) : Option (Int × Int × HSt) := bind2 (pSudog i1 s0) fun q5 x6 => (if (x6 != 0) then some (0, x6, s0) else bind3 (view_Gor.m k s0 q5.gor) fun q40 x41 s42 => (if (x41 != 0) then some (0, x41, s42) else bind1 (wake_leave.m k s42 q40.sudogs) fun s76 => (if (decide (q5.reg ≥ 0)) then wakeSym1 i2 q5 q40 s76 (decide (q5.reg < 6)) else wakeSym1 i2 q5 q40 s76 false)))
/-- No cycle goes on behind the leaving, and the goroutine is as it should be. -/
def wakeOk (k : Nat) (s0 : HSt) (i1 : Int) : Bool :=
  match pSudog i1 s0 with
  | none => true
  | some (q5, _) => match view_Gor.m k s0 q5.gor with
    | none => true
    | some (q40, _, s42) => wdG q40 && (match wake_leave.m k s42 q40.sudogs with
      | none => true
      | some s76 => decide (s76.ph = 0) && cellsB q5.gor 10 s76.a)
theorem wake2_sym {q5 : Su} {q40 : Gr} {s : HSt} {a b c d e f : Int} (hp : s.ph = 0) (hc : cellsB q5.gor 10 s.a = true) (ha : wdB a = true) (hb : wdB b = true) (hcc : wdB c = true) (hd : wdB d = true) (he : wdB e = true) (hf : wdB f = true) : wake_Wake.j2 q5 q40 s a b c d e f = wakeSym2 q5 q40 s a b c d e f := by
  unfold wake_Wake.j2 wakeSym2
  rw [pPutGor_idle hp hc (by simp only [wdG, ha, hb, hcc, hd, he, hf, Bool.and_self])]
theorem wake_sym {k : Nat} {s : HSt} {at' x : Int} (h : wakeOk k s at' = true) (hx : wdB x = true) : wake_Wake.m k s at' x = wakeSym k s at' x := by
  unfold wake_Wake.m wakeSym
  refine bind2_congr fun q5 e h1 => ?_
  split
  · rfl
  · refine bind3_congr fun q40 e2 s42 h2 => ?_
    split
    · rfl
    · refine bind1_congr fun s76 h3 => ?_
      unfold wakeOk at h
      rw [h1] at h
      simp only [h2, h3, Bool.and_eq_true, decide_eq_true_eq] at h
      obtain ⟨hg, hp, hc⟩ := h
      simp only [wdG, Bool.and_eq_true] at hg
      obtain ⟨⟨⟨⟨⟨ga, gb⟩, gc⟩, gd⟩, ge⟩, gf⟩ := hg
      have key : ∀ y, wake_Wake.j1 x q5 q40 s76 y = wakeSym1 x q5 q40 s76 y := by
        intro y
        unfold wake_Wake.j1 wakeSym1
        simp only [wake2_sym hp hc, ga, gb, gc, gd, ge, gf, hx]
      rw [key, key]
def dH : HSt := ⟨⟨[], []⟩, fun _ => 0, [], false, 0, 0, 0⟩
def dM : HSt × HSt × List Int × List Int := (dH, dH, [], [])
def dW : Bool × HSt × HSt := (false, dH, dH)
def rest : List ACell := List.replicate 1836 .none
def stOf (s : HSt) (c : List ACell) : HSt := ⟨⟨s.a.l, c ++ rest⟩, s.col, [], false, 0, 0, 0⟩
theorem split2 {o : Option (HSt × HSt × List Int × List Int)} {d : HSt × HSt × List Int × List Int} {a b : List Int} (h : o.map (fun t => (t.2.2.1, t.2.2.2)) = some (a, b)) : o = some ((o.getD d).1, (o.getD d).2.1, a, b) := by
  cases o with
  | none => cases h
  | some t =>
    obtain ⟨s, u, a', b'⟩ := t
    injection h with h
    injection h with h1 h2
    subst h1; subst h2
    rfl
theorem stOf_eq {s : HSt} {c : List ACell} (h : (s.a.c, s.g, s.ov, s.ph, s.sp, s.cy) = (c ++ rest, [], false, 0, 0, 0)) : s = stOf s c := by
  obtain ⟨⟨l, c'⟩, col, g, ov, ph, sp, cy⟩ := s
  simp only [Prod.mk.injEq] at h
  obtain ⟨rfl, rfl, rfl, rfl, rfl, rfl⟩ := h
  rfl
def lk6 (s : HSt) : List ACell × List Int × Bool × Int × Int × Int := (s.a.c, s.g, s.ov, s.ph, s.sp, s.cy)
theorem splitS {o : Option HSt} {d : HSt} {c : List ACell} (h : o.map lk6 = some (c ++ rest, [], false, 0, 0, 0)) : o = some (stOf (o.getD d) c) := by
  cases o with
  | none => cases h
  | some s => injection h with h; exact congrArg some (stOf_eq h)
theorem split3 {α β : Type} {o : Option (α × β × HSt)} {d : α × β × HSt} {x : α} {y : β} {c : List ACell} (h : o.map (fun t => (t.1, t.2.1, lk6 t.2.2)) = some (x, y, c ++ rest, [], false, 0, 0, 0)) : o = some (x, y, stOf (o.getD d).2.2 c) := by
  cases o with
  | none => cases h
  | some t =>
    obtain ⟨x', y', s⟩ := t
    injection h with h
    have h1 := congrArg (·.1) h
    have h2 := congrArg (·.2.1) h
    have h3 := congrArg (·.2.2) h
    simp only at h1 h2 h3
    subst h1; subst h2
    exact congrArg (fun s => some (x', y', s)) (stOf_eq h3)
theorem splitW {o : Option (Bool × HSt × HSt)} {d : Bool × HSt × HSt} {b : Bool} {c : List ACell} (h : o.map (fun t => (t.1, lk6 t.2.1)) = some (b, c ++ rest, [], false, 0, 0, 0)) : o = some (b, stOf (o.getD d).2.1 c, (o.getD d).2.2) := by
  cases o with
  | none => cases h
  | some t =>
    obtain ⟨b', s, u⟩ := t
    injection h with h
    have h1 := congrArg (·.1) h
    have h3 := congrArg (·.2) h
    simp only at h1 h3
    subst h1
    exact congrArg (fun s => some (b', s, u)) (stOf_eq h3)
def M0 : Option (HSt × HSt × List Int × List Int) := law15_made.m 100 [0, 0] 0
def W0 : Option (Bool × HSt × HSt) := law15_wait.m 100 (M0.getD dM).1 (M0.getD dM).2.1 [0, 16] [32] 32 [atI [0, 16] (0 : Int), atI [0, 16] (1 : Int)] [false, false] 0 20
def S1 : HSt := stOf (W0.getD dW).2.1 [.head 1 9, .word 0, .word 0, .word 0, .word 0, .word 0, .word 129, .word 129, .word 0, .word 0, .none, .none, .none, .none, .none, .none, .head 1 9, .word 0, .word 0, .word 0, .word 0, .word 0, .word 145, .word 145, .word 0, .word 0, .none, .none, .none, .none, .none, .none, .head 4 10, .word 0, .word 2, .word 0, .word 0, .word 0, .word 0, .word 0, .word 0, .word 0, .word 129, .none, .none, .none, .none, .none, .none, .none, .none, .none, .none, .none, .none, .none, .none, .none, .none, .none, .none, .none, .none, .none, .head 3 7, .word 65, .word 1, .word 0, .word 0, .word 40, .word 0, .word 145, .head 3 7, .word 65, .word 33, .word 2, .word 0, .word 42, .word 2, .word 0, .none, .none, .none, .none]
def PA : Option (Int × Bool × HSt) := list_Pop.m 100 S1 0 false
def PB : Option (Int × Bool × HSt) := list_Pop.m 100 S1 16 false
def popA : HSt := stOf (PA.getD (0, false, dH)).2.2 [.head 1 9, .word 0, .word 0, .word 0, .word 0, .word 0, .word 0, .word 0, .word 0, .word 0, .none, .none, .none, .none, .none, .none, .head 1 9, .word 0, .word 0, .word 0, .word 0, .word 0, .word 145, .word 145, .word 0, .word 0, .none, .none, .none, .none, .none, .none, .head 4 10, .word 0, .word 2, .word 0, .word 0, .word 0, .word 0, .word 0, .word 0, .word 0, .word 129, .none, .none, .none, .none, .none, .none, .none, .none, .none, .none, .none, .none, .none, .none, .none, .none, .none, .none, .none, .none, .none, .head 3 7, .word 65, .word 1, .word 0, .word 0, .word 40, .word 0, .word 145, .head 3 7, .word 65, .word 33, .word 2, .word 0, .word 42, .word 2, .word 0, .none, .none, .none, .none]
def popB : HSt := stOf (PB.getD (0, false, dH)).2.2 [.head 1 9, .word 0, .word 0, .word 0, .word 0, .word 0, .word 129, .word 129, .word 0, .word 0, .none, .none, .none, .none, .none, .none, .head 1 9, .word 0, .word 0, .word 0, .word 0, .word 0, .word 0, .word 0, .word 0, .word 0, .none, .none, .none, .none, .none, .none, .head 4 10, .word 0, .word 2, .word 0, .word 0, .word 0, .word 0, .word 0, .word 0, .word 0, .word 129, .none, .none, .none, .none, .none, .none, .none, .none, .none, .none, .none, .none, .none, .none, .none, .none, .none, .none, .none, .none, .none, .head 3 7, .word 65, .word 1, .word 0, .word 0, .word 40, .word 0, .word 145, .head 3 7, .word 65, .word 33, .word 2, .word 0, .word 42, .word 2, .word 0, .none, .none, .none, .none]
def LA : Option HSt := wake_leave.m 100 popA 64
def LB : Option HSt := wake_leave.m 100 popB 64
def lvA : HSt := stOf (LA.getD dH) [.head 1 9, .word 0, .word 0, .word 0, .word 0, .word 0, .word 0, .word 0, .word 0, .word 0, .none, .none, .none, .none, .none, .none, .head 1 9, .word 0, .word 0, .word 0, .word 0, .word 0, .word 0, .word 0, .word 0, .word 0, .none, .none, .none, .none, .none, .none, .head 4 10, .word 0, .word 2, .word 0, .word 0, .word 0, .word 0, .word 0, .word 0, .word 0, .word 129, .none, .none, .none, .none, .none, .none, .none, .none, .none, .none, .none, .none, .none, .none, .none, .none, .none, .none, .none, .none, .none, .head 3 7, .word 65, .word 1, .word 0, .word 0, .word 40, .word 0, .word 145, .head 3 7, .word 65, .word 33, .word 2, .word 0, .word 42, .word 2, .word 0, .none, .none, .none, .none]
def lvB : HSt := stOf (LB.getD dH) [.head 1 9, .word 0, .word 0, .word 0, .word 0, .word 0, .word 0, .word 0, .word 0, .word 0, .none, .none, .none, .none, .none, .none, .head 1 9, .word 0, .word 0, .word 0, .word 0, .word 0, .word 0, .word 0, .word 0, .word 0, .none, .none, .none, .none, .none, .none, .head 4 10, .word 0, .word 2, .word 0, .word 0, .word 0, .word 0, .word 0, .word 0, .word 0, .word 129, .none, .none, .none, .none, .none, .none, .none, .none, .none, .none, .none, .none, .none, .none, .none, .none, .none, .none, .none, .none, .none, .head 3 7, .word 65, .word 1, .word 0, .word 0, .word 40, .word 0, .word 145, .head 3 7, .word 65, .word 33, .word 2, .word 0, .word 42, .word 2, .word 0, .none, .none, .none, .none]
def RA (v : Int) : Option (Int × Int × HSt) := wakeSym1 v ⟨32, 0, 0, -1, 20, 0, 72⟩ ⟨0, 1, 0, 0, 0, 0, 0, 0, 0, 64⟩ lvA true
def RB (v : Int) : Option (Int × Int × HSt) := wakeSym1 v ⟨32, 16, 2, -1, 21, 1, -1⟩ ⟨0, 1, 0, 0, 0, 0, 0, 0, 0, 64⟩ lvB true
def SA (v : Int) : HSt := stOf ((RA v).getD (0, 0, dH)).2.2 [.head 1 9, .word 0, .word 0, .word 0, .word 0, .word 0, .word 0, .word 0, .word 0, .word 0, .none, .none, .none, .none, .none, .none, .head 1 9, .word 0, .word 0, .word 0, .word 0, .word 0, .word 0, .word 0, .word 0, .word 0, .none, .none, .none, .none, .none, .none, .head 4 10, .word 0, .word 0, .word 40, .word v, .word 0, .word 0, .word 0, .word 0, .word 0, .word 0, .none, .none, .none, .none, .none, .none, .none, .none, .none, .none, .none, .none, .none, .none, .none, .none, .none, .none, .none, .none, .none, .head 3 7, .word 65, .word 1, .word 0, .word 0, .word 40, .word 0, .word 145, .head 3 7, .word 65, .word 33, .word 2, .word 0, .word 42, .word 2, .word 0, .none, .none, .none, .none]
def SB (v : Int) : HSt := stOf ((RB v).getD (0, 0, dH)).2.2 [.head 1 9, .word 0, .word 0, .word 0, .word 0, .word 0, .word 0, .word 0, .word 0, .word 0, .none, .none, .none, .none, .none, .none, .head 1 9, .word 0, .word 0, .word 0, .word 0, .word 0, .word 0, .word 0, .word 0, .word 0, .none, .none, .none, .none, .none, .none, .head 4 10, .word 0, .word 0, .word 42, .word 0, .word v, .word 0, .word 0, .word 0, .word 0, .word 0, .none, .none, .none, .none, .none, .none, .none, .none, .none, .none, .none, .none, .none, .none, .none, .none, .none, .none, .none, .none, .none, .head 3 7, .word 65, .word 1, .word 0, .word 0, .word 40, .word 0, .word 145, .head 3 7, .word 65, .word 33, .word 2, .word 0, .word 42, .word 2, .word 0, .none, .none, .none, .none]
theorem made_is : law15_made.m 100 [0, 0] 0 = some ((M0.getD dM).1, (M0.getD dM).2.1, [0, 16], [32]) := (show law15_made.m 100 [0, 0] 0 = M0 from rfl).trans (split2 (o := M0) (d := dM) (by kernel_rfl))
theorem wait_is : law15_wait.m 100 (M0.getD dM).1 (M0.getD dM).2.1 [0, 16] [32] 32 [atI [0, 16] (0 : Int), atI [0, 16] (1 : Int)] [false, false] 0 20 = some (true, S1, (W0.getD dW).2.2) := (show _ = W0 from rfl).trans (splitW (o := W0) (d := dW) (by kernel_rfl))
theorem pop_isA : list_Pop.m 100 S1 0 false = some (64, true, popA) := (show _ = PA from rfl).trans (split3 (o := PA) (d := (0, false, dH)) (by kernel_rfl))
theorem pop_isB : list_Pop.m 100 S1 16 false = some (72, true, popB) := (show _ = PB from rfl).trans (split3 (o := PB) (d := (0, false, dH)) (by kernel_rfl))
theorem lv_isA : wake_leave.m 100 popA 64 = some lvA := (show _ = LA from rfl).trans (splitS (o := LA) (d := dH) (by kernel_rfl))
theorem lv_isB : wake_leave.m 100 popB 64 = some lvB := (show _ = LB from rfl).trans (splitS (o := LB) (d := dH) (by kernel_rfl))
theorem r_isA (v : Int) : wakeSym1 v ⟨32, 0, 0, -1, 20, 0, 72⟩ ⟨0, 1, 0, 0, 0, 0, 0, 0, 0, 64⟩ lvA true = some (32, 0, SA v) := (show _ = RA v from rfl).trans (split3 (o := RA v) (d := (0, 0, dH)) (by kernel_rfl))
theorem r_isB (v : Int) : wakeSym1 v ⟨32, 16, 2, -1, 21, 1, -1⟩ ⟨0, 1, 0, 0, 0, 0, 0, 0, 0, 64⟩ lvB true = some (32, 0, SB v) := (show _ = RB v from rfl).trans (split3 (o := RB v) (d := (0, 0, dH)) (by kernel_rfl))
theorem awake_is : law15_awake.m 100 = some true := by decide +kernel
theorem gor_is (s u : HSt) : law15_gor.m 100 s u [0, 16] [32] 0 = some (32, s, u) := by kernel_rfl
theorem in0 : inR (0 : Int) ([0, 16] : List Int).length = true := rfl
theorem in1 : inR (1 : Int) ([0, 16] : List Int).length = true := rfl
theorem wake_parts {k : Nat} {s s3 s2 : HSt} {sd v g : Int} {q5 : Su} {q40 : Gr} (h1 : pSudog sd s = some (q5, 0)) (h2 : view_Gor.m k s q5.gor = some (q40, 0, s)) (h3 : wake_leave.m k s q40.sudogs = some s3) (h4 : q5.reg ≥ 0) (h5 : wakeSym1 v q5 q40 s3 (decide (q5.reg < 6)) = some (g, 0, s2)) : wakeSym k s sd v = some (g, 0, s2) := by
  unfold wakeSym
  rw [h1]
  simp only [bind2_some]
  rw [if_neg (by decide), h2]
  simp only [bind3_some]
  rw [if_neg (by decide), h3]
  simp only [bind1_some]
  rw [if_pos (by simpa using h4)]
  exact h5
theorem try_wake {k : Nat} {s s' s2 : HSt} {w at' sd v g e : Int} {q : Ch} (h1 : mouth_Of.m k s w = some (some (.inr at'), s)) (h2 : pChan at' s = some (q, e)) (hq : (q.closed != 0) = false) (h3 : list_Pop.m k s at' false = some (sd, true, s')) (h4 : wakeOk k s' sd = true) (hv : wdB v = true) (h5 : wakeSym k s' sd v = some (g, 0, s2)) : send_Try.m k s w v = some (g, 1, s2) := by
  unfold send_Try.m
  rw [h1]
  simp only [bind2_some, optE, sumE]
  rw [h2]
  simp only [bind2_some, hq, Bool.false_eq_true, if_false]
  rw [h3]
  simp only [bind3_some, if_true]
  rw [wake_sym h4 hv, h5]
  simp only [bind3_some]
  rw [if_neg (by decide)]
  rfl
theorem tryA (v : Int) (hv : wdB v = true) : send_Try.m 100 S1 (IntKind.i64.wrap ((IntKind.i64.wrap (2 * (atI [0, 16] 0))) + 1)) v = some (32, 1, SA v) :=
  try_wake (at' := 0) (sd := 64) (s' := popA) (q := ((pChan 0 S1).getD (ch0, 0)).1) (e := 0) (by kernel_rfl) (by kernel_rfl) (by kernel_rfl) pop_isA (by kernel_rfl) hv (wake_parts (q5 := ⟨32, 0, 0, -1, 20, 0, 72⟩) (q40 := ⟨0, 1, 0, 0, 0, 0, 0, 0, 0, 64⟩) (s3 := lvA) (by kernel_rfl) (by kernel_rfl) lv_isA (by decide) (r_isA v))
theorem tryB (v : Int) (hv : wdB v = true) : send_Try.m 100 S1 (IntKind.i64.wrap ((IntKind.i64.wrap (2 * (atI [0, 16] 1))) + 1)) v = some (32, 1, SB v) :=
  try_wake (at' := 16) (sd := 72) (s' := popB) (q := ((pChan 16 S1).getD (ch0, 0)).1) (e := 0) (by kernel_rfl) (by kernel_rfl) (by kernel_rfl) pop_isB (by kernel_rfl) hv (wake_parts (q5 := ⟨32, 16, 2, -1, 21, 1, -1⟩) (q40 := ⟨0, 1, 0, 0, 0, 0, 0, 0, 0, 64⟩) (s3 := lvB) (by kernel_rfl) (by kernel_rfl) lv_isB (by decide) (r_isB v))
theorem tryA2 (v u : Int) : send_Try.m 100 (SA v) (IntKind.i64.wrap ((IntKind.i64.wrap (2 * (atI [0, 16] 1))) + 1)) u = some (-1, 0, SA v) := by kernel_rfl
theorem tryB2 (v u : Int) : send_Try.m 100 (SB v) (IntKind.i64.wrap ((IntKind.i64.wrap (2 * (atI [0, 16] 0))) + 1)) u = some (-1, 0, SB v) := by kernel_rfl
theorem viewA (v : Int) : view_Gor.m 100 (SA v) 32 = some (⟨0, 0, 20, v, 0, 0, 0, 0, 0, -1⟩, 0, SA v) := by kernel_rfl
theorem viewB (v : Int) : view_Gor.m 100 (SB v) 32 = some (⟨0, 0, 21, 0, v, 0, 0, 0, 0, -1⟩, 0, SB v) := by kernel_rfl
theorem gen {k : Nat} {i0 i1 : Int} {i2 : Bool} {s7 s8 S U A B : HSt} (h1 : law15_made.m k [0, 0] 0 = some (s7, s8, [0, 16], [32])) (h2 : law15_awake.m k = some true) (h3 : ∀ s u, law15_gor.m k s u [0, 16] [32] 0 = some (32, s, u))
    (h4 : law15_wait.m k s7 s8 [0, 16] [32] 32 [atI [0, 16] (0 : Int), atI [0, 16] (1 : Int)] [false, false] 0 20 = some (true, S, U))
    (a1 : send_Try.m k S (IntKind.i64.wrap ((IntKind.i64.wrap (2 * (atI [0, 16] 0))) + 1)) i0 = some (32, 1, A)) (b1 : send_Try.m k S (IntKind.i64.wrap ((IntKind.i64.wrap (2 * (atI [0, 16] 1))) + 1)) i0 = some (32, 1, B))
    (a2 : send_Try.m k A (IntKind.i64.wrap ((IntKind.i64.wrap (2 * (atI [0, 16] 1))) + 1)) i1 = some (-1, 0, A)) (b2 : send_Try.m k B (IntKind.i64.wrap ((IntKind.i64.wrap (2 * (atI [0, 16] 0))) + 1)) i1 = some (-1, 0, B))
    (a3 : view_Gor.m k A 32 = some (⟨0, 0, 20, i0, 0, 0, 0, 0, 0, -1⟩, 0, A)) (b3 : view_Gor.m k B 32 = some (⟨0, 0, 21, 0, i0, 0, 0, 0, 0, -1⟩, 0, B)) : SendOnce.m k i0 i1 i2 = some true := by
  unfold SendOnce.m
  simp only [h1, bind4_some, h2, bind1_some, Bool.not_true, Bool.false_eq_true, if_false, in0, in1, if_true, h3, bind3_some, h4]
  unfold SendOnce.j1
  cases i2
  · simp only [Bool.false_eq_true, if_false]
    unfold SendOnce.j2
    simp only [in0, in1, if_true, a1, bind3_some, a2, h3, a3]
    unfold SendOnce.j3
    simp only [h3, bind3_some]
    simp [SendOnce.j4, inR, Go.Proofs.YtgejcjcpchofiaaGreat.atI]
    try decide
  · simp only [Bool.false_eq_true, if_false, if_true]
    unfold SendOnce.j2
    simp only [in0, in1, if_true, b1, bind3_some, b2, h3, b3]
    unfold SendOnce.j3
    simp only [h3, bind3_some]
    simp [SendOnce.j4, inR, Go.Proofs.YtgejcjcpchofiaaGreat.atI]
    try decide
theorem pure (i0 i1 : Int) (i2 : Bool) (h0 : wdB i0 = true) : SendOnce.m 100 i0 i1 i2 = some true :=
  gen made_is awake_is gor_is wait_is (tryA i0 h0) (tryB i0 h0) (tryA2 i0 i1) (tryB2 i0 i1) (viewA i0) (viewB i0)
theorem walk (a0 : Int) (a1 : Int) (a2 : Bool) (w0 : (Lit.int .i64 a0).wf = true) (w1 : (Lit.int .i64 a1).wf = true) (w : World) :
    Calls Tryz.prog 9 #[.int .i64 a0, .int .i64 a1, .bool a2] w fun e w' => e = .returned (.bool true) ∧ Below w.heap.size w w' := by
  refine (SendOnce.ok (St.empty w) (pure _ _ _ ?_)).mono fun e w' ⟨he, h⟩ => ⟨he, h.old⟩
  have := wd_of_wf w0
  unfold Wd at this
  simp [wdB]; omega

end Go.Proofs.YtgejcjcpchofiaaGreat.sendOnce
/-
  'SendOnceSaid' ('dormouselaw15.SendOnce'): for every input the law returns true, and each argument reads behind the call as it did before.
  Conditions: none beyond the given row's own.
-/
namespace Go.Proofs.YtgejcjcpchofiaaGreat.sendOnce
open Go.ChangeShapes Go.WideShapes Go.ChangeAt Go.RowKit
set_option linter.unusedVariables false      -- a walk need not use every 'w<i>' (that an integer argument fits its kind)

theorem own : ownKnob Tryz.prog.godebug = none := by kernel_rfl

/-! ### THE ROW's STEP: WRITTEN OUT: LEAVE IT -/
set_option maxRecDepth 100000 in
theorem lifted (os : Os) (started : os.Started) (H : Type) (enc : TypeId × Value → H) :
    ReturnsInHanded {} Tryz.checked os 9 .any (Rows.sendOnceSpec.pre6 enc Tryz.prog Tryz.f9 Rows.sendOnceRow.domain false) (Rows.sendOnceSpec.post enc Tryz.prog Tryz.f9 false true false false) := by
  refine returnsInHanded_of_change (C := Tryz.checked) own started (by kernel_rfl) Tryz.func9
    (ChangeSpec.witness6 (enc := enc) (C := Tryz.checked) false ⟨#[], #[.int .i64 0, .int .i64 0, .bool false], []⟩ 8 (by kernel_rfl) (by kernel_rfl) (by kernel_rfl) (by kernel_rfl)) ?_
  intro W base args ds gs before hval0 hW hcnd _
  have hval : ∀ (j : Nat) t v, Tryz.f9.params[j]? = some t → args[j]? = some v → Value.okWide Tryz.prog W .any base t v := hval0
  have hW' := hW
  obtain ⟨p, q, hA0, hV, rfl, hfz, hnd⟩ := hW
  have hA : DataW.TrodAll enc Tryz.prog W 0 (fun _ => true) true Tryz.f9.params.toList args.toList ds p := hA0
  rw [Tryz.params9] at hA hval
  obtain ⟨v0, vs0, d0, ds0, p0, q0, hargs, rfl, rfl, h0, r0⟩ := trodAll_cons hA
  obtain ⟨v1, vs1, d1, ds1, p1, q1, rfl, rfl, rfl, h1, r1⟩ := trodAll_cons r0
  obtain ⟨v2, vs2, d2, ds2, p2, q2, rfl, rfl, rfl, h2, r2⟩ := trodAll_cons r1
  obtain ⟨rfl, rfl, rfl⟩ := trodAll_nil r2
  obtain rfl : args = #[v0, v1, v2] := by cases args; simp_all
  obtain ⟨rfl, rfl⟩ := trodVars_none hV
  obtain ⟨a0, rfl, rfl, rfl, w0⟩ := open_int Tryz.underlying3 (hval 0 3 v0 rfl rfl) h0
  obtain ⟨a1, rfl, rfl, rfl, w1⟩ := open_int Tryz.underlying3 (hval 1 3 v1 rfl rfl) h1
  obtain ⟨a2, rfl, rfl, rfl⟩ := open_bool Tryz.underlying4 (hval 2 4 v2 rfl rfl) h2
  clear hA0 hval0
  simp only [List.append_nil] at hW'
  refine (walk a0 a1 a2 w0 w1 W).mono fun e W' ⟨he, hg⟩ => ?_
  subst he
  exact ⟨_, rfl, _, _, _, [], [], [], hW', (trodAll_cons_mk (shut_bool Tryz.underlying4 _) trodAll_mk0), (trodAll_cons_mk (shut_int Tryz.underlying3 w0) (trodAll_cons_mk (shut_int Tryz.underlying3 w1) (trodAll_cons_mk (shut_bool Tryz.underlying4 _) trodAll_mk0))), rfl, hg.frame _, fun h => by cases h⟩

theorem over : Rows.sendOnceRow.holds Tryz.pinned (OpenSpec.ofChange Rows.sendOnceSpec) :=
  OpenClaim.holds_of_wide 9 Tryz.f9 rfl rfl rfl rfl rfl rfl rfl ⟨rfl, rfl, rfl, rfl, rfl⟩ rfl rfl rfl rfl rfl (by kernel_rfl) Tryz.func9 (by kernel_rfl)
    (of_decide_eq_true (by kernel_rfl)) (by unfold Func.isWrapper; first | (rw [if_pos (by decide +kernel)]; kernel_rfl) | (rw [if_neg (by decide +kernel)]; exact ⟨rfl, rfl⟩))
    (fun os started H enc _ => lifted os started H enc)

/-- ████ THE STATEMENT ████ -/
theorem proved : Rows.SendOnceSaid :=
  over
#print axioms proved
end Go.Proofs.YtgejcjcpchofiaaGreat.sendOnce
