/- ShutHoldsW ShutHolds -/
import Derived.Test.YtgejcjcpchofiaaGreatKGShutHolds
import Derived.Test.YtgejcjcpchofiaaGreatKPrimV
import Derived.Test.YtgejcjcpchofiaaGreatKUmod
import Derived.Test.YtgejcjcpchofiaaGreatRows
import Derived.WalkKit
import Derived.WalkSpells
import Derived.WalkLawsBesides
import Derived.ProofKit
import Derived.OpenShut
/-
  The walk of 'dormouselaw17.ShutHolds': the call returns true, in a world with at most new blocks.
-/
namespace Go.Proofs.YtgejcjcpchofiaaGreat.shutHolds
open Go.RowKit
set_option linter.unusedVariables false

def dH : HSt := ⟨⟨[], []⟩, fun _ => 0, [], false, 0, 0, 0⟩
def dM : HSt × HSt × List Int × List Int := (dH, dH, [], [])
def dW : Bool × HSt × HSt := (false, dH, dH)
def rest : List ACell := List.replicate 1800 .none
def cellsA (cl ct b0 b1 b2 : Int) : List ACell := [.head 1 9, .word 6, .word cl, .word ct, .word 0, .word 65, .word 0, .word 0, .word 0, .word 0, .none, .none, .none, .none, .none, .none, .head 1 9, .word 0, .word 0, .word 0, .word 0, .word 0, .word 0, .word 0, .word 0, .word 0, .none, .none, .none, .none, .none, .none, .head 2 3, .word b0, .word b1, .word b2, .none, .none, .none, .none, .none, .none, .none, .none, .none, .none, .none, .none, .none, .none, .none, .none, .none, .none, .none, .none, .none, .none, .none, .none, .none, .none, .none, .none, .head 4 10, .word 0, .word 0, .word 0, .word 0, .word 0, .word 0, .word 0, .word 0, .word 0, .word 0, .none, .none, .none, .none, .none, .head 4 10, .word 2, .word 0, .word 0, .word 0, .word 0, .word 0, .word 0, .word 0, .word 0, .word 0, .none, .none, .none, .none, .none, .none, .none, .none, .none, .none, .none, .none, .none, .none, .none, .none, .none, .none, .none, .none, .none, .none, .none, .none, .none, .none, .none, .none, .none]
def cellsW (cl ct b0 b1 b2 : Int) : List ACell := [.head 1 9, .word 6, .word cl, .word ct, .word 0, .word 65, .word 0, .word 0, .word 0, .word 0, .none, .none, .none, .none, .none, .none, .head 1 9, .word 0, .word 0, .word 0, .word 0, .word 0, .word 193, .word 193, .word 0, .word 0, .none, .none, .none, .none, .none, .none, .head 2 3, .word b0, .word b1, .word b2, .none, .none, .none, .none, .none, .none, .none, .none, .none, .none, .none, .none, .none, .none, .none, .none, .none, .none, .none, .none, .none, .none, .none, .none, .none, .none, .none, .none, .head 4 10, .word 0, .word 2, .word 0, .word 0, .word 0, .word 0, .word 0, .word 0, .word 0, .word 193, .none, .none, .none, .none, .none, .head 4 10, .word 2, .word 0, .word 0, .word 0, .word 0, .word 0, .word 0, .word 0, .word 0, .word 0, .none, .none, .none, .none, .none, .head 3 7, .word 129, .word 33, .word 0, .word 0, .word 10, .word 0, .word 0, .none, .none, .none, .none, .none, .none, .none, .none, .none, .none, .none, .none, .none, .none, .none, .none]
/-- The heap (either one): the first channel's closed and count (as words), and what it holds; nobody waits. -/
def G (B : HSt) (cl ct b0 b1 b2 : Int) : HSt := ⟨⟨B.a.l, cellsA cl ct b0 b1 b2 ++ rest⟩, B.col, [], false, 0, 0, 0⟩
/-- .. somebody waits at the other channel. -/
def H (B : HSt) (cl ct b0 b1 b2 : Int) : HSt := ⟨⟨B.a.l, cellsW cl ct b0 b1 b2 ++ rest⟩, B.col, [], false, 0, 0, 0⟩
theorem split2 {o : Option (HSt × HSt × List Int × List Int)} {d : HSt × HSt × List Int × List Int} {a b : List Int} (h : o.map (fun t => (t.2.2.1, t.2.2.2)) = some (a, b)) : o = some ((o.getD d).1, (o.getD d).2.1, a, b) := by
  cases o with
  | none => cases h
  | some t =>
    obtain ⟨s, u, a', b'⟩ := t
    injection h with h
    injection h with h1 h2
    subst h1; subst h2
    rfl
def M0 : Option (HSt × HSt × List Int × List Int) := law17_made.m 100 [3, 0] 1
def B0 : HSt := (M0.getD dM).1
def C0 : HSt := (M0.getD dM).2.1
theorem G_eq {s : HSt} {c : List ACell} (h : (s.a.c, s.g, s.ov, s.ph, s.sp, s.cy) = (c, [], false, 0, 0, 0)) : s = ⟨⟨s.a.l, c⟩, s.col, [], false, 0, 0, 0⟩ := by
  obtain ⟨⟨l, c'⟩, col, g, ov, ph, sp, cy⟩ := s
  simp only [Prod.mk.injEq] at h
  obtain ⟨rfl, rfl, rfl, rfl, rfl, rfl⟩ := h
  rfl
theorem splitW {o : Option (Bool × HSt × HSt)} {d : Bool × HSt × HSt} {b : Bool} {c : List ACell} (h : o.map (fun t => (t.1, t.2.1.a.c, t.2.1.g, t.2.1.ov, t.2.1.ph, t.2.1.sp, t.2.1.cy)) = some (b, c, [], false, 0, 0, 0)) : o = some (b, ⟨⟨(o.getD d).2.1.a.l, c⟩, (o.getD d).2.1.col, [], false, 0, 0, 0⟩, (o.getD d).2.2) := by
  cases o with
  | none => cases h
  | some t =>
    obtain ⟨b', s, u⟩ := t
    injection h with h
    have h1 := congrArg (·.1) h
    have h3 := congrArg (·.2) h
    simp only at h1 h3
    subst h1
    exact congrArg (fun s => some (b', s, u)) (G_eq h3)
theorem made0 : law17_made.m 100 [3, 0] 1 = some ((M0.getD dM).1, (M0.getD dM).2.1, [0, 16], [64, 80]) := (show law17_made.m 100 [3, 0] 1 = M0 from rfl).trans (split2 (o := M0) (d := dM) (by kernel_rfl))
theorem B0_is : B0 = G B0 0 0 0 0 0 := G_eq (by kernel_rfl)
theorem C0_is : C0 = G C0 0 0 0 0 0 := G_eq (by kernel_rfl)
theorem made_is : law17_made.m 100 [3, 0] 1 = some (G B0 0 0 0 0 0, G C0 0 0 0 0 0, [0, 16], [64, 80]) := by
  rw [← B0_is, ← C0_is]; exact made0
theorem awake_is : law17_awake.m 100 = some true := by decide +kernel
theorem gor_is (s u : HSt) : law17_gor.m 100 s u [0, 16] [64, 80] 0 = some (64, s, u) := by kernel_rfl
def PU (B : HSt) (v : Int) : Nat → HSt
  | 0 => G B 0 0 0 0 0
  | 1 => G B 0 2 v 0 0
  | 2 => G B 0 4 v v 0
  | _ => G B 0 6 v v v
def PS (B : HSt) (v : Int) : Nat → HSt
  | 0 => G B 0 0 0 0 0
  | 1 => G B 0 0 v 0 0
  | 2 => G B 0 0 v v 0
  | _ => G B 0 0 v v v
def PH (B : HSt) (v cl : Int) : Nat → HSt
  | 0 => H B cl 0 0 0 0
  | 1 => H B cl 2 v 0 0
  | 2 => H B cl 4 v v 0
  | _ => H B cl 6 v v v
theorem putref {s s2 : HSt} {v : Int} {n : Int} (h1 : ref11_Chan.m 100 s 0 = some (⟨3, 0, n, 0, 32, -1, -1, -1, -1⟩, 0, s)) (h2 : ref11_buffer.m 100 s (⟨3, 0, if n > 0 then n else 0, if (0 : Int) > 0 then 0 else 0, 32, -1, -1, -1, -1⟩ : Ch) = some (true, s)) (hn : decide ((if n > 0 then n else 0) ≥ (3 : Int)) = false) (hp : s.ph = 0) (hv : wdB v = true)
    (h5 : (bind2 (pStoreI 32 (Int.tmod (IntKind.i64.wrap ((Int.tmod (if (0 : Int) > 0 then 0 else 0) 3) + (if n > 0 then n else 0))) 3) v s) fun x80 s81 => bind2 (ref11_PutChan.m 100 s81 0 (⟨3, 0, IntKind.i64.wrap ((if n > 0 then n else 0) + 1), if (0 : Int) > 0 then 0 else 0, 32, -1, -1, -1, -1⟩ : Ch)) fun x106 s107 => some (x106, s107)) = some (0, s2)) : ref11_PutRing.m 100 s 0 v = some (0, s2) := by
  unfold ref11_PutRing.m
  rw [h1]
  simp only [bind3_some]
  rw [if_neg (by decide), if_neg (by rw [hn]; exact Bool.false_ne_true), h2]
  simp only [bind2_some, Bool.not_true]
  unfold ref11_PutRing.j1
  rw [if_neg (by decide), if_neg (show ¬ ((3 : Int) == 0) = true by decide), pStore_idle hp hv]
  exact h5
theorem putref_at (B : HSt) (v : Int) (hv : wdB v = true) (i : Nat) (h : i < 3) : ref11_PutRing.m 100 (PU B v i) 0 v = some (0, PU B v (i + 1)) := by
  have : i = 0 ∨ i = 1 ∨ i = 2 := by omega
  rcases this with rfl | rfl | rfl
  · exact putref (n := 0) (by kernel_rfl) (by kernel_rfl) (by kernel_rfl) rfl hv (by kernel_rfl)
  · exact putref (n := 1) (by kernel_rfl) (by kernel_rfl) (by kernel_rfl) rfl hv (by kernel_rfl)
  · exact putref (n := 2) (by kernel_rfl) (by kernel_rfl) (by kernel_rfl) rfl hv (by kernel_rfl)
theorem store_at (B : HSt) (v : Int) (hv : wdB v = true) (i : Nat) (h : i < 3) : pStore 32 (i : Int) v (PS B v i) = some (0, PS B v (i + 1)) := by
  have : i = 0 ∨ i = 1 ∨ i = 2 := by omega
  rcases this with rfl | rfl | rfl
  · exact (pStore_idle rfl hv).trans (by kernel_rfl)
  · exact (pStore_idle rfl hv).trans (by kernel_rfl)
  · exact (pStore_idle rfl hv).trans (by kernel_rfl)
theorem chan0 (B : HSt) (v : Int) : ref11_Chan.m 100 (PU B v 0) (atI [0, 16] (0 : Int)) = some (⟨3, 0, 0, 0, 32, -1, -1, -1, -1⟩, 0, PU B v 0) := by kernel_rfl
theorem putc0 (B : HSt) (v : Int) : pPutChan (atI [0, 16] (0 : Int)) (⟨3, 0, 0, 0, 32, -1, -1, -1, -1⟩ : Ch) (PS B v 0) = some (0, PU B v 0) := by kernel_rfl
def W0 (v : Int) : Option (Bool × HSt × HSt) := law17_wait.m 100 (PU B0 v 0) (PU C0 v 0) [0, 16] [64, 80] 64 [atI [0, 16] (1 : Int)] [false] 0 5
theorem wait0 (v : Int) : law17_wait.m 100 (PU B0 v 0) (PU C0 v 0) [0, 16] [64, 80] 64 [atI [0, 16] (1 : Int)] [false] 0 5 = some (true, PH ((W0 v).getD dW).2.1 v 0 0, ((W0 v).getD dW).2.2) := (show _ = W0 v from rfl).trans (splitW (o := W0 v) (d := dW) (c := cellsW 0 0 0 0 0 ++ rest) (by kernel_rfl))
theorem shut0 (B : HSt) (v : Int) : shut_Try.m 100 (PH B v 0 0) (IntKind.i64.wrap ((IntKind.i64.wrap (2 * (atI [0, 16] (0 : Int)))) + 1)) = some ([], 1, PH B v 2 0) := by kernel_rfl
theorem seen0 (B : HSt) (v : Int) : pChan (atI [0, 16] (0 : Int)) (PH B v 2 0) = some (⟨3, 1, 0, 0, 32, -1, -1, -1, -1⟩, 0) := by kernel_rfl
theorem all0 (B : HSt) (v : Int) : list_All.m 100 (PH B v 2 0) (atI [0, 16] (1 : Int)) false = some ([96], PH B v 2 0) := by kernel_rfl
theorem chan1 (B : HSt) (v : Int) : ref11_Chan.m 100 (PU B v 1) (atI [0, 16] (0 : Int)) = some (⟨3, 0, 1, 0, 32, -1, -1, -1, -1⟩, 0, PU B v 1) := by kernel_rfl
theorem putc1 (B : HSt) (v : Int) : pPutChan (atI [0, 16] (0 : Int)) (⟨3, 0, 1, 0, 32, -1, -1, -1, -1⟩ : Ch) (PS B v 1) = some (0, PU B v 1) := by kernel_rfl
def W1 (v : Int) : Option (Bool × HSt × HSt) := law17_wait.m 100 (PU B0 v 1) (PU C0 v 1) [0, 16] [64, 80] 64 [atI [0, 16] (1 : Int)] [false] 0 5
theorem wait1 (v : Int) : law17_wait.m 100 (PU B0 v 1) (PU C0 v 1) [0, 16] [64, 80] 64 [atI [0, 16] (1 : Int)] [false] 0 5 = some (true, PH ((W1 v).getD dW).2.1 v 0 1, ((W1 v).getD dW).2.2) := (show _ = W1 v from rfl).trans (splitW (o := W1 v) (d := dW) (c := cellsW 0 2 v 0 0 ++ rest) (by kernel_rfl))
theorem shut1 (B : HSt) (v : Int) : shut_Try.m 100 (PH B v 0 1) (IntKind.i64.wrap ((IntKind.i64.wrap (2 * (atI [0, 16] (0 : Int)))) + 1)) = some ([], 1, PH B v 2 1) := by kernel_rfl
theorem seen1 (B : HSt) (v : Int) : pChan (atI [0, 16] (0 : Int)) (PH B v 2 1) = some (⟨3, 1, 1, 0, 32, -1, -1, -1, -1⟩, 0) := by kernel_rfl
theorem all1 (B : HSt) (v : Int) : list_All.m 100 (PH B v 2 1) (atI [0, 16] (1 : Int)) false = some ([96], PH B v 2 1) := by kernel_rfl
theorem chan2 (B : HSt) (v : Int) : ref11_Chan.m 100 (PU B v 2) (atI [0, 16] (0 : Int)) = some (⟨3, 0, 2, 0, 32, -1, -1, -1, -1⟩, 0, PU B v 2) := by kernel_rfl
theorem putc2 (B : HSt) (v : Int) : pPutChan (atI [0, 16] (0 : Int)) (⟨3, 0, 2, 0, 32, -1, -1, -1, -1⟩ : Ch) (PS B v 2) = some (0, PU B v 2) := by kernel_rfl
def W2 (v : Int) : Option (Bool × HSt × HSt) := law17_wait.m 100 (PU B0 v 2) (PU C0 v 2) [0, 16] [64, 80] 64 [atI [0, 16] (1 : Int)] [false] 0 5
theorem wait2 (v : Int) : law17_wait.m 100 (PU B0 v 2) (PU C0 v 2) [0, 16] [64, 80] 64 [atI [0, 16] (1 : Int)] [false] 0 5 = some (true, PH ((W2 v).getD dW).2.1 v 0 2, ((W2 v).getD dW).2.2) := (show _ = W2 v from rfl).trans (splitW (o := W2 v) (d := dW) (c := cellsW 0 4 v v 0 ++ rest) (by kernel_rfl))
theorem shut2 (B : HSt) (v : Int) : shut_Try.m 100 (PH B v 0 2) (IntKind.i64.wrap ((IntKind.i64.wrap (2 * (atI [0, 16] (0 : Int)))) + 1)) = some ([], 1, PH B v 2 2) := by kernel_rfl
theorem seen2 (B : HSt) (v : Int) : pChan (atI [0, 16] (0 : Int)) (PH B v 2 2) = some (⟨3, 1, 2, 0, 32, -1, -1, -1, -1⟩, 0) := by kernel_rfl
theorem all2 (B : HSt) (v : Int) : list_All.m 100 (PH B v 2 2) (atI [0, 16] (1 : Int)) false = some ([96], PH B v 2 2) := by kernel_rfl
theorem chan3 (B : HSt) (v : Int) : ref11_Chan.m 100 (PU B v 3) (atI [0, 16] (0 : Int)) = some (⟨3, 0, 3, 0, 32, -1, -1, -1, -1⟩, 0, PU B v 3) := by kernel_rfl
theorem putc3 (B : HSt) (v : Int) : pPutChan (atI [0, 16] (0 : Int)) (⟨3, 0, 3, 0, 32, -1, -1, -1, -1⟩ : Ch) (PS B v 3) = some (0, PU B v 3) := by kernel_rfl
def W3 (v : Int) : Option (Bool × HSt × HSt) := law17_wait.m 100 (PU B0 v 3) (PU C0 v 3) [0, 16] [64, 80] 64 [atI [0, 16] (1 : Int)] [false] 0 5
theorem wait3 (v : Int) : law17_wait.m 100 (PU B0 v 3) (PU C0 v 3) [0, 16] [64, 80] 64 [atI [0, 16] (1 : Int)] [false] 0 5 = some (true, PH ((W3 v).getD dW).2.1 v 0 3, ((W3 v).getD dW).2.2) := (show _ = W3 v from rfl).trans (splitW (o := W3 v) (d := dW) (c := cellsW 0 6 v v v ++ rest) (by kernel_rfl))
theorem shut3 (B : HSt) (v : Int) : shut_Try.m 100 (PH B v 0 3) (IntKind.i64.wrap ((IntKind.i64.wrap (2 * (atI [0, 16] (0 : Int)))) + 1)) = some ([], 1, PH B v 2 3) := by kernel_rfl
theorem seen3 (B : HSt) (v : Int) : pChan (atI [0, 16] (0 : Int)) (PH B v 2 3) = some (⟨3, 1, 3, 0, 32, -1, -1, -1, -1⟩, 0) := by kernel_rfl
theorem all3 (B : HSt) (v : Int) : list_All.m 100 (PH B v 2 3) (atI [0, 16] (1 : Int)) false = some ([96], PH B v 2 3) := by kernel_rfl
theorem in0 : inR (0 : Int) ([0, 16] : List Int).length = true := rfl
theorem in1 : inR (1 : Int) ([0, 16] : List Int).length = true := rfl
theorem fin {k : Nat} {i1 n : Int} {s S S1 S2 u U' : HSt} {r : HSt → Int → Option Bool} (f1 : pPutChan (atI [0, 16] (0 : Int)) (⟨3, 0, n, 0, 32, -1, -1, -1, -1⟩ : Ch) s = some (0, S)) (f2 : ∀ s u, law17_gor.m k s u [0, 16] [64, 80] 0 = some (64, s, u))
    (f3 : law17_wait.m k S u [0, 16] [64, 80] 64 [atI [0, 16] (1 : Int)] [false] 0 5 = some (true, S1, U')) (f4 : shut_Try.m k S1 (IntKind.i64.wrap ((IntKind.i64.wrap (2 * (atI [0, 16] (0 : Int)))) + 1)) = some ([], 1, S2)) (f5 : pChan (atI [0, 16] (0 : Int)) S2 = some (⟨3, 1, n, 0, 32, -1, -1, -1, -1⟩, 0)) (f6 : list_All.m k S2 (atI [0, 16] (1 : Int)) false = some ([96], S2)) :
    ShutHolds.l4b i1 k n [0, 16] [64, 80] u 3 0 n 0 32 (-1) (-1) (-1) (-1) r s n = some true := by
  unfold ShutHolds.l4b
  rw [if_neg (by simp), if_pos in0, f1]
  simp only [bind2_some]
  rw [if_neg (by decide), if_pos in1]
  simp only [f2, bind3_some, f3, Bool.not_true]
  unfold ShutHolds.j5
  rw [if_neg (by decide), if_pos in0, f4]
  simp only [bind3_some]
  rw [f5]
  simp only [bind2_some]
  unfold ShutHolds.j6
  rw [if_pos (by decide), if_pos (by decide), if_pos (by decide), if_pos (by decide), if_pos (by simp), if_pos in1, f6]
  rfl
theorem wrap_next (i : Nat) (h : i < 10) : IntKind.i64.wrap ((i : Int) + 1) = ((i + 1 : Nat) : Int) := by
  have h2 : i = 0 ∨ i = 1 ∨ i = 2 ∨ i = 3 ∨ i = 4 ∨ i = 5 ∨ i = 6 ∨ i = 7 ∨ i = 8 ∨ i = 9 := by omega
  rcases h2 with rfl | rfl | rfl | rfl | rfl | rfl | rfl | rfl | rfl | rfl <;> rfl
theorem l4_at {n : Nat} {v : Int} (hn : n < 4) (hv : wdB v = true) : ∀ (d i f : Nat), i + d = n → d < f → ShutHolds.l4 v 100 (n : Int) [0, 16] [64, 80] (PU C0 v n) 3 0 (n : Int) 0 32 (-1) (-1) (-1) (-1) f (PS B0 v i) (i : Int) = some true
  | 0, i, f, hi, hf => by
    obtain ⟨f, rfl⟩ : ∃ g, f = g + 1 := ⟨f - 1, by omega⟩
    have hi : i = n := by omega
    subst hi
    have h1 : i = 0 ∨ i = 1 ∨ i = 2 ∨ i = 3 := by omega
    rcases h1 with rfl | rfl | rfl | rfl
    · exact fin (k := 100) (putc0 B0 v) gor_is (wait0 v) (shut0 _ v) (seen0 _ v) (all0 _ v)
    · exact fin (k := 100) (putc1 B0 v) gor_is (wait1 v) (shut1 _ v) (seen1 _ v) (all1 _ v)
    · exact fin (k := 100) (putc2 B0 v) gor_is (wait2 v) (shut2 _ v) (seen2 _ v) (all2 _ v)
    · exact fin (k := 100) (putc3 B0 v) gor_is (wait3 v) (shut3 _ v) (seen3 _ v) (all3 _ v)
  | d + 1, i, f, hi, hf => by
    obtain ⟨f, rfl⟩ : ∃ g, f = g + 1 := ⟨f - 1, by omega⟩
    have ih := l4_at hn hv d (i + 1) f (by omega) (by omega)
    show ShutHolds.l4b v 100 (n : Int) [0, 16] [64, 80] (PU C0 v n) 3 0 (n : Int) 0 32 (-1) (-1) (-1) (-1) (ShutHolds.l4 v 100 (n : Int) [0, 16] [64, 80] (PU C0 v n) 3 0 (n : Int) 0 32 (-1) (-1) (-1) (-1) f) (PS B0 v i) (i : Int) = some true
    unfold ShutHolds.l4b
    rw [if_pos (by simp; omega), store_at B0 v hv i (by omega)]
    simp only [bind2_some]
    rw [wrap_next i (by omega)]
    exact ih
theorem l2_at {n : Nat} {v : Int} (hn : n < 4) (hv : wdB v = true) : ∀ (d i f : Nat), i + d = n → d < f → ShutHolds.l2 v 100 (n : Int) (PS B0 v 0) [0, 16] [64, 80] f (PU C0 v i) (i : Int) = some true
  | 0, i, f, hi, hf => by
    obtain ⟨f, rfl⟩ : ∃ g, f = g + 1 := ⟨f - 1, by omega⟩
    have hi : i = n := by omega
    subst hi
    have ih := l4_at hn hv i 0 100 (by omega) (by omega)
    have hc : ref11_Chan.m 100 (PU C0 v i) (atI [0, 16] (0 : Int)) = some (⟨3, 0, (i : Int), 0, 32, -1, -1, -1, -1⟩, 0, PU C0 v i) := by
      have h1 : i = 0 ∨ i = 1 ∨ i = 2 ∨ i = 3 := by omega
      rcases h1 with rfl | rfl | rfl | rfl
      · exact chan0 C0 v
      · exact chan1 C0 v
      · exact chan2 C0 v
      · exact chan3 C0 v
    show ShutHolds.l2b v 100 (i : Int) (PS B0 v 0) [0, 16] [64, 80] (ShutHolds.l2 v 100 (i : Int) (PS B0 v 0) [0, 16] [64, 80] f) (PU C0 v i) (i : Int) = some true
    unfold ShutHolds.l2b
    rw [if_neg (by simp), if_pos in0, hc]
    simp only [bind3_some]
    exact ih
  | d + 1, i, f, hi, hf => by
    obtain ⟨f, rfl⟩ : ∃ g, f = g + 1 := ⟨f - 1, by omega⟩
    have ih := l2_at hn hv d (i + 1) f (by omega) (by omega)
    have hp : ref11_PutRing.m 100 (PU C0 v i) (atI [0, 16] (0 : Int)) v = some (0, PU C0 v (i + 1)) := putref_at C0 v hv i (by omega)
    show ShutHolds.l2b v 100 (n : Int) (PS B0 v 0) [0, 16] [64, 80] (ShutHolds.l2 v 100 (n : Int) (PS B0 v 0) [0, 16] [64, 80] f) (PU C0 v i) (i : Int) = some true
    unfold ShutHolds.l2b
    rw [if_pos (by simp; omega), if_pos in0, hp]
    simp only [bind2_some]
    rw [if_neg (by decide), wrap_next i (by omega)]
    exact ih
theorem pure (i0 i1 : Int) (hv : wdB i1 = true) : ShutHolds.m 100 i0 i1 = some true := by
  obtain ⟨n, hn, ex⟩ := u_mod i0 4 (by omega)
  simp only [Int.cast_ofNat_Int] at ex
  have ew : IntKind.i64.wrap (n : Int) = n := by
    have h2 : n = 0 ∨ n = 1 ∨ n = 2 ∨ n = 3 := by omega
    rcases h2 with rfl | rfl | rfl | rfl <;> rfl
  unfold ShutHolds.m
  rw [ex, ew]
  simp only [bind1_some, made_is, bind4_some, awake_is]
  rw [if_neg (by simp)]
  unfold ShutHolds.j1
  rw [if_neg (by simp)]
  exact l2_at hn hv n 0 100 (by omega) (by omega)
theorem walk (a0 : Int) (a1 : Int) (w0 : (Lit.int .i64 a0).wf = true) (w1 : (Lit.int .i64 a1).wf = true) (w : World) :
    Calls Tryz.prog 7 #[.int .i64 a0, .int .i64 a1] w fun e w' => e = .returned (.bool true) ∧ Below w.heap.size w w' := by
  refine (ShutHolds.ok (St.empty w) (pure _ _ ?_)).mono fun e w' ⟨he, h⟩ => ⟨he, h.old⟩
  have := wd_of_wf w1
  unfold Wd at this
  simp [wdB]; omega

end Go.Proofs.YtgejcjcpchofiaaGreat.shutHolds
/-
  'ShutHoldsSaid' ('dormouselaw17.ShutHolds'): for every input the law returns true, and each argument reads behind the call as it did before.
  Conditions: none beyond the given row's own.
-/
namespace Go.Proofs.YtgejcjcpchofiaaGreat.shutHolds
open Go.ChangeShapes Go.WideShapes Go.ChangeAt Go.RowKit
set_option linter.unusedVariables false      -- a walk need not use every 'w<i>' (that an integer argument fits its kind)

theorem own : ownKnob Tryz.prog.godebug = none := by kernel_rfl

/-! ### THE ROW's STEP: WRITTEN OUT: LEAVE IT -/
set_option maxRecDepth 100000 in
theorem lifted (os : Os) (started : os.Started) (H : Type) (enc : TypeId × Value → H) :
    ReturnsInHanded {} Tryz.checked os 7 .any (Rows.shutHoldsSpec.pre6 enc Tryz.prog Tryz.f7 Rows.shutHoldsRow.domain false) (Rows.shutHoldsSpec.post enc Tryz.prog Tryz.f7 false true false false) := by
  refine returnsInHanded_of_change (C := Tryz.checked) own started (by kernel_rfl) Tryz.func7
    (ChangeSpec.witness6 (enc := enc) (C := Tryz.checked) false ⟨#[], #[.int .i64 0, .int .i64 0], []⟩ 8 (by kernel_rfl) (by kernel_rfl) (by kernel_rfl) (by kernel_rfl)) ?_
  intro W base args ds gs before hval0 hW hcnd _
  have hval : ∀ (j : Nat) t v, Tryz.f7.params[j]? = some t → args[j]? = some v → Value.okWide Tryz.prog W .any base t v := hval0
  have hW' := hW
  obtain ⟨p, q, hA0, hV, rfl, hfz, hnd⟩ := hW
  have hA : DataW.TrodAll enc Tryz.prog W 0 (fun _ => true) true Tryz.f7.params.toList args.toList ds p := hA0
  rw [Tryz.params7] at hA hval
  obtain ⟨v0, vs0, d0, ds0, p0, q0, hargs, rfl, rfl, h0, r0⟩ := trodAll_cons hA
  obtain ⟨v1, vs1, d1, ds1, p1, q1, rfl, rfl, rfl, h1, r1⟩ := trodAll_cons r0
  obtain ⟨rfl, rfl, rfl⟩ := trodAll_nil r1
  obtain rfl : args = #[v0, v1] := by cases args; simp_all
  obtain ⟨rfl, rfl⟩ := trodVars_none hV
  obtain ⟨a0, rfl, rfl, rfl, w0⟩ := open_int Tryz.underlying3 (hval 0 3 v0 rfl rfl) h0
  obtain ⟨a1, rfl, rfl, rfl, w1⟩ := open_int Tryz.underlying3 (hval 1 3 v1 rfl rfl) h1
  clear hA0 hval0
  simp only [List.append_nil] at hW'
  refine (walk a0 a1 w0 w1 W).mono fun e W' ⟨he, hg⟩ => ?_
  subst he
  exact ⟨_, rfl, _, _, _, [], [], [], hW', (trodAll_cons_mk (shut_bool Tryz.underlying4 _) trodAll_mk0), (trodAll_cons_mk (shut_int Tryz.underlying3 w0) (trodAll_cons_mk (shut_int Tryz.underlying3 w1) trodAll_mk0)), rfl, hg.frame _, fun h => by cases h⟩

theorem over : Rows.shutHoldsRow.holds Tryz.pinned (OpenSpec.ofChange Rows.shutHoldsSpec) :=
  OpenClaim.holds_of_wide 7 Tryz.f7 rfl rfl rfl rfl rfl rfl rfl ⟨rfl, rfl, rfl, rfl, rfl⟩ rfl rfl rfl rfl rfl (by kernel_rfl) Tryz.func7 (by kernel_rfl)
    (of_decide_eq_true (by kernel_rfl)) (by unfold Func.isWrapper; first | (rw [if_pos (by decide +kernel)]; kernel_rfl) | (rw [if_neg (by decide +kernel)]; exact ⟨rfl, rfl⟩))
    (fun os started H enc _ => lifted os started H enc)

/-- ████ THE STATEMENT ████ -/
theorem proved : Rows.ShutHoldsSaid :=
  over
#print axioms proved
end Go.Proofs.YtgejcjcpchofiaaGreat.shutHolds
