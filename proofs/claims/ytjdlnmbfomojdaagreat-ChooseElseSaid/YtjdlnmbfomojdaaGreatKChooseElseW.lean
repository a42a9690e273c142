/- ChooseElseW ChooseElse -/
import Derived.Test.YtjdlnmbfomojdaaGreatKG18
import Derived.Test.YtjdlnmbfomojdaaGreatKSepLit
import Derived.Test.YtjdlnmbfomojdaaGreatRows
import Derived.WalkKit
import Derived.WalkSpells
import Derived.WalkLawsBesides
import Derived.ProofKit
import Derived.OpenShut
/-
  The walk of 'dormouselaw18.ChooseElse': the call returns true, in a world with at most new blocks.
-/
namespace Go.Proofs.YtjdlnmbfomojdaaGreat.chooseElse
open Go.RowKit
set_option linter.unusedVariables false

def ceS : HSt := match law18_made.m 100 [0] 1 with
  | some (s, _, _, _) => s
  | none => hNew 2
def ceG : Gr := ⟨0, 0, 0, 0, 1, 33, 8, 0, 0, 0⟩
theorem l6_same {G : Gr} {M : List Cs} {i3 r : Int} {k : Nat} {AT : List Int} {x22 : Int} (h : Int.tmod (if 0 > i3 then 0 else i3) (AT.length : Int) = Int.tmod (if 0 > r then 0 else r) (AT.length : Int)) : ∀ n, choose_Pick.l6 G M i3 k AT x22 n = choose_Pick.l6 G M r k AT x22 n := by
  intro n
  induction n with
  | zero => rfl
  | succ n ih =>
    show choose_Pick.l6b G M i3 k AT x22 (choose_Pick.l6 G M i3 k AT x22 n) = choose_Pick.l6b G M r k AT x22 (choose_Pick.l6 G M r k AT x22 n)
    rw [ih]
    funext s x
    unfold choose_Pick.l6b
    rw [h]
theorem pick_any {M : List Cs} {AT : List Int} {x22 ans : Int} {m : Nat} (hm : AT.length = m) (h0 : 0 < m) (h1 : ∀ d, choose_Pick.m 100 ceS ceG M d = choose_Pick.l6 ceG M d 100 AT x22 100 ceS 0) (h2 : ∀ r < m, choose_Pick.l6 ceG M ((r : Nat) : Int) 100 AT x22 100 ceS 0 = some (ans, ceS)) (d : Int) : choose_Pick.m 100 ceS ceG M d = some (ans, ceS) := by
  obtain ⟨e, he⟩ : ∃ e, (if 0 > d then 0 else d) = e := ⟨_, rfl⟩
  have e0 : 0 ≤ e := by rw [← he]; split <;> omega
  have b1 : 0 ≤ Int.tmod e m := Int.tmod_nonneg _ e0
  have b2 : Int.tmod e m < m := Int.tmod_lt_of_pos _ (by omega)
  have key : Int.tmod (if 0 > d then 0 else d) (AT.length : Int) = Int.tmod (if 0 > (((Int.tmod e m).toNat : Nat) : Int) then 0 else (((Int.tmod e m).toNat : Nat) : Int)) (AT.length : Int) := by
    rw [he, hm, if_neg (by omega), show (((Int.tmod e m).toNat : Nat) : Int) = Int.tmod e m by omega]
    rw [Int.tmod_eq_emod_of_nonneg e0, Int.tmod_eq_emod_of_nonneg (Int.emod_nonneg _ (by omega)), Int.emod_emod_of_dvd _ (Int.dvd_refl _)]
  rw [h1, l6_same key]
  exact h2 _ (by omega)
theorem pk_e (d : Int) : choose_Pick.m 100 ceS ceG ([(⟨1, 3, 0, 0⟩ : Cs)] : List Cs) d = some (0, ceS) := by
  refine pick_any (AT := ([0] : List Int)) (x22 := -1) (m := 1) rfl (by decide) (fun d => by kernel_rfl) (fun r hr => ?_) d
  match r, hr with
  | 0, _ => show choose_Pick.l6 ceG ([(⟨1, 3, 0, 0⟩ : Cs)] : List Cs) ((0 : Nat) : Int) 100 ([0] : List Int) (-1) 100 ceS 0 = some (0, ceS); kernel_rfl
theorem pk_a0 (d : Int) : choose_Pick.m 100 ceS ceG ([(⟨3, 0, 0, 0⟩ : Cs)] : List Cs) d = some (0, ceS) := by kernel_rfl
theorem pk_c0 (d : Int) : choose_Pick.m 100 ceS ceG ([] : List Cs) d = some (-1, ceS) := by kernel_rfl
theorem pk_d0 (d : Int) : choose_Pick.m 100 ceS ceG ([(⟨2, 2, 0, 0⟩ : Cs), (⟨3, 0, 0, 0⟩ : Cs)] : List Cs) d = some (0, ceS) := by
  refine pick_any (AT := ([0] : List Int)) (x22 := 1) (m := 1) rfl (by decide) (fun d => by kernel_rfl) (fun r hr => ?_) d
  match r, hr with
  | 0, _ => show choose_Pick.l6 ceG ([(⟨2, 2, 0, 0⟩ : Cs), (⟨3, 0, 0, 0⟩ : Cs)] : List Cs) ((0 : Nat) : Int) 100 ([0] : List Int) (1) 100 ceS 0 = some (0, ceS); kernel_rfl
theorem run0 (d : Int) : ChooseElse.m 100 d 0 = some true := by
  have s1 : ChooseElse.m 100 d 0 = bind2 (choose_Pick.m 100 ceS ceG ([(⟨3, 0, 0, 0⟩ : Cs)] : List Cs) d) fun x s => ChooseElse.j3 d 100 0 0 16 ([] : List Cs) s x := by kernel_rfl
  have s2 : ChooseElse.j3 d 100 0 0 16 ([] : List Cs) ceS 0 = bind2 (choose_Pick.m 100 ceS ceG ([] : List Cs) d) fun x s => bind2 (choose_Pick.m 100 s ceG ([(⟨2, 2, 0, 0⟩ : Cs), (⟨3, 0, 0, 0⟩ : Cs)] : List Cs) d) fun y u => ChooseElse.j4 d 100 0 0 16 ([] : List Cs) 0 x u y := by kernel_rfl
  have s3 : ChooseElse.j4 d 100 0 0 16 ([] : List Cs) 0 (-1) ceS 0 = bind2 (choose_Pick.m 100 ceS ceG ([(⟨1, 3, 0, 0⟩ : Cs)] : List Cs) d) fun x s => if x == 0 then some true else ChooseElse.j5 false := by kernel_rfl
  rw [s1, pk_a0]
  refine Eq.trans (show _ = ChooseElse.j3 d 100 0 0 16 ([] : List Cs) ceS 0 from rfl) ?_
  rw [s2, pk_c0]
  refine Eq.trans (show _ = bind2 (choose_Pick.m 100 ceS ceG ([(⟨2, 2, 0, 0⟩ : Cs), (⟨3, 0, 0, 0⟩ : Cs)] : List Cs) d) fun y u => ChooseElse.j4 d 100 0 0 16 ([] : List Cs) 0 (-1) u y from rfl) ?_
  rw [pk_d0]
  refine Eq.trans (show _ = ChooseElse.j4 d 100 0 0 16 ([] : List Cs) 0 (-1) ceS 0 from rfl) ?_
  rw [s3, pk_e]
  rfl
theorem pk_a1 (d : Int) : choose_Pick.m 100 ceS ceG ([(⟨1, 0, 0, 0⟩ : Cs), (⟨3, 0, 0, 0⟩ : Cs)] : List Cs) d = some (1, ceS) := by
  refine pick_any (AT := ([0] : List Int)) (x22 := 1) (m := 1) rfl (by decide) (fun d => by kernel_rfl) (fun r hr => ?_) d
  match r, hr with
  | 0, _ => show choose_Pick.l6 ceG ([(⟨1, 0, 0, 0⟩ : Cs), (⟨3, 0, 0, 0⟩ : Cs)] : List Cs) ((0 : Nat) : Int) 100 ([0] : List Int) (1) 100 ceS 0 = some (1, ceS); kernel_rfl
theorem pk_c1 (d : Int) : choose_Pick.m 100 ceS ceG ([(⟨1, 0, 0, 0⟩ : Cs)] : List Cs) d = some (-1, ceS) := by
  refine pick_any (AT := ([0] : List Int)) (x22 := -1) (m := 1) rfl (by decide) (fun d => by kernel_rfl) (fun r hr => ?_) d
  match r, hr with
  | 0, _ => show choose_Pick.l6 ceG ([(⟨1, 0, 0, 0⟩ : Cs)] : List Cs) ((0 : Nat) : Int) 100 ([0] : List Int) (-1) 100 ceS 0 = some (-1, ceS); kernel_rfl
theorem pk_d1 (d : Int) : choose_Pick.m 100 ceS ceG ([(⟨1, 0, 0, 0⟩ : Cs), (⟨2, 2, 0, 0⟩ : Cs), (⟨3, 0, 0, 0⟩ : Cs)] : List Cs) d = some (1, ceS) := by
  refine pick_any (AT := ([0, 1] : List Int)) (x22 := 2) (m := 2) rfl (by decide) (fun d => by kernel_rfl) (fun r hr => ?_) d
  match r, hr with
  | 0, _ => show choose_Pick.l6 ceG ([(⟨1, 0, 0, 0⟩ : Cs), (⟨2, 2, 0, 0⟩ : Cs), (⟨3, 0, 0, 0⟩ : Cs)] : List Cs) ((0 : Nat) : Int) 100 ([0, 1] : List Int) (2) 100 ceS 0 = some (1, ceS); kernel_rfl
  | 1, _ => show choose_Pick.l6 ceG ([(⟨1, 0, 0, 0⟩ : Cs), (⟨2, 2, 0, 0⟩ : Cs), (⟨3, 0, 0, 0⟩ : Cs)] : List Cs) ((1 : Nat) : Int) 100 ([0, 1] : List Int) (2) 100 ceS 0 = some (1, ceS); kernel_rfl
theorem run1 (d : Int) : ChooseElse.m 100 d 1 = some true := by
  have s1 : ChooseElse.m 100 d 1 = bind2 (choose_Pick.m 100 ceS ceG ([(⟨1, 0, 0, 0⟩ : Cs), (⟨3, 0, 0, 0⟩ : Cs)] : List Cs) d) fun x s => ChooseElse.j3 d 100 1 0 16 ([(⟨1, 0, 0, 0⟩ : Cs)] : List Cs) s x := by kernel_rfl
  have s2 : ChooseElse.j3 d 100 1 0 16 ([(⟨1, 0, 0, 0⟩ : Cs)] : List Cs) ceS 1 = bind2 (choose_Pick.m 100 ceS ceG ([(⟨1, 0, 0, 0⟩ : Cs)] : List Cs) d) fun x s => bind2 (choose_Pick.m 100 s ceG ([(⟨1, 0, 0, 0⟩ : Cs), (⟨2, 2, 0, 0⟩ : Cs), (⟨3, 0, 0, 0⟩ : Cs)] : List Cs) d) fun y u => ChooseElse.j4 d 100 1 0 16 ([(⟨1, 0, 0, 0⟩ : Cs)] : List Cs) 1 x u y := by kernel_rfl
  have s3 : ChooseElse.j4 d 100 1 0 16 ([(⟨1, 0, 0, 0⟩ : Cs)] : List Cs) 1 (-1) ceS 1 = bind2 (choose_Pick.m 100 ceS ceG ([(⟨1, 3, 0, 0⟩ : Cs)] : List Cs) d) fun x s => if x == 0 then some true else ChooseElse.j5 false := by kernel_rfl
  rw [s1, pk_a1]
  refine Eq.trans (show _ = ChooseElse.j3 d 100 1 0 16 ([(⟨1, 0, 0, 0⟩ : Cs)] : List Cs) ceS 1 from rfl) ?_
  rw [s2, pk_c1]
  refine Eq.trans (show _ = bind2 (choose_Pick.m 100 ceS ceG ([(⟨1, 0, 0, 0⟩ : Cs), (⟨2, 2, 0, 0⟩ : Cs), (⟨3, 0, 0, 0⟩ : Cs)] : List Cs) d) fun y u => ChooseElse.j4 d 100 1 0 16 ([(⟨1, 0, 0, 0⟩ : Cs)] : List Cs) 1 (-1) u y from rfl) ?_
  rw [pk_d1]
  refine Eq.trans (show _ = ChooseElse.j4 d 100 1 0 16 ([(⟨1, 0, 0, 0⟩ : Cs)] : List Cs) 1 (-1) ceS 1 from rfl) ?_
  rw [s3, pk_e]
  rfl
theorem pk_a2 (d : Int) : choose_Pick.m 100 ceS ceG ([(⟨1, 0, 0, 0⟩ : Cs), (⟨2, 1, 0, 0⟩ : Cs), (⟨3, 0, 0, 0⟩ : Cs)] : List Cs) d = some (2, ceS) := by
  refine pick_any (AT := ([0, 1] : List Int)) (x22 := 2) (m := 2) rfl (by decide) (fun d => by kernel_rfl) (fun r hr => ?_) d
  match r, hr with
  | 0, _ => show choose_Pick.l6 ceG ([(⟨1, 0, 0, 0⟩ : Cs), (⟨2, 1, 0, 0⟩ : Cs), (⟨3, 0, 0, 0⟩ : Cs)] : List Cs) ((0 : Nat) : Int) 100 ([0, 1] : List Int) (2) 100 ceS 0 = some (2, ceS); kernel_rfl
  | 1, _ => show choose_Pick.l6 ceG ([(⟨1, 0, 0, 0⟩ : Cs), (⟨2, 1, 0, 0⟩ : Cs), (⟨3, 0, 0, 0⟩ : Cs)] : List Cs) ((1 : Nat) : Int) 100 ([0, 1] : List Int) (2) 100 ceS 0 = some (2, ceS); kernel_rfl
theorem pk_c2 (d : Int) : choose_Pick.m 100 ceS ceG ([(⟨1, 0, 0, 0⟩ : Cs), (⟨2, 1, 0, 0⟩ : Cs)] : List Cs) d = some (-1, ceS) := by
  refine pick_any (AT := ([0, 1] : List Int)) (x22 := -1) (m := 2) rfl (by decide) (fun d => by kernel_rfl) (fun r hr => ?_) d
  match r, hr with
  | 0, _ => show choose_Pick.l6 ceG ([(⟨1, 0, 0, 0⟩ : Cs), (⟨2, 1, 0, 0⟩ : Cs)] : List Cs) ((0 : Nat) : Int) 100 ([0, 1] : List Int) (-1) 100 ceS 0 = some (-1, ceS); kernel_rfl
  | 1, _ => show choose_Pick.l6 ceG ([(⟨1, 0, 0, 0⟩ : Cs), (⟨2, 1, 0, 0⟩ : Cs)] : List Cs) ((1 : Nat) : Int) 100 ([0, 1] : List Int) (-1) 100 ceS 0 = some (-1, ceS); kernel_rfl
theorem pk_d2 (d : Int) : choose_Pick.m 100 ceS ceG ([(⟨1, 0, 0, 0⟩ : Cs), (⟨2, 1, 0, 0⟩ : Cs), (⟨2, 2, 0, 0⟩ : Cs), (⟨3, 0, 0, 0⟩ : Cs)] : List Cs) d = some (2, ceS) := by
  refine pick_any (AT := ([0, 1, 2] : List Int)) (x22 := 3) (m := 3) rfl (by decide) (fun d => by kernel_rfl) (fun r hr => ?_) d
  match r, hr with
  | 0, _ => show choose_Pick.l6 ceG ([(⟨1, 0, 0, 0⟩ : Cs), (⟨2, 1, 0, 0⟩ : Cs), (⟨2, 2, 0, 0⟩ : Cs), (⟨3, 0, 0, 0⟩ : Cs)] : List Cs) ((0 : Nat) : Int) 100 ([0, 1, 2] : List Int) (3) 100 ceS 0 = some (2, ceS); kernel_rfl
  | 1, _ => show choose_Pick.l6 ceG ([(⟨1, 0, 0, 0⟩ : Cs), (⟨2, 1, 0, 0⟩ : Cs), (⟨2, 2, 0, 0⟩ : Cs), (⟨3, 0, 0, 0⟩ : Cs)] : List Cs) ((1 : Nat) : Int) 100 ([0, 1, 2] : List Int) (3) 100 ceS 0 = some (2, ceS); kernel_rfl
  | 2, _ => show choose_Pick.l6 ceG ([(⟨1, 0, 0, 0⟩ : Cs), (⟨2, 1, 0, 0⟩ : Cs), (⟨2, 2, 0, 0⟩ : Cs), (⟨3, 0, 0, 0⟩ : Cs)] : List Cs) ((2 : Nat) : Int) 100 ([0, 1, 2] : List Int) (3) 100 ceS 0 = some (2, ceS); kernel_rfl
theorem run2 (d : Int) : ChooseElse.m 100 d 2 = some true := by
  have s1 : ChooseElse.m 100 d 2 = bind2 (choose_Pick.m 100 ceS ceG ([(⟨1, 0, 0, 0⟩ : Cs), (⟨2, 1, 0, 0⟩ : Cs), (⟨3, 0, 0, 0⟩ : Cs)] : List Cs) d) fun x s => ChooseElse.j3 d 100 2 0 16 ([(⟨1, 0, 0, 0⟩ : Cs), (⟨2, 1, 0, 0⟩ : Cs)] : List Cs) s x := by kernel_rfl
  have s2 : ChooseElse.j3 d 100 2 0 16 ([(⟨1, 0, 0, 0⟩ : Cs), (⟨2, 1, 0, 0⟩ : Cs)] : List Cs) ceS 2 = bind2 (choose_Pick.m 100 ceS ceG ([(⟨1, 0, 0, 0⟩ : Cs), (⟨2, 1, 0, 0⟩ : Cs)] : List Cs) d) fun x s => bind2 (choose_Pick.m 100 s ceG ([(⟨1, 0, 0, 0⟩ : Cs), (⟨2, 1, 0, 0⟩ : Cs), (⟨2, 2, 0, 0⟩ : Cs), (⟨3, 0, 0, 0⟩ : Cs)] : List Cs) d) fun y u => ChooseElse.j4 d 100 2 0 16 ([(⟨1, 0, 0, 0⟩ : Cs), (⟨2, 1, 0, 0⟩ : Cs)] : List Cs) 2 x u y := by kernel_rfl
  have s3 : ChooseElse.j4 d 100 2 0 16 ([(⟨1, 0, 0, 0⟩ : Cs), (⟨2, 1, 0, 0⟩ : Cs)] : List Cs) 2 (-1) ceS 2 = bind2 (choose_Pick.m 100 ceS ceG ([(⟨1, 3, 0, 0⟩ : Cs)] : List Cs) d) fun x s => if x == 0 then some true else ChooseElse.j5 false := by kernel_rfl
  rw [s1, pk_a2]
  refine Eq.trans (show _ = ChooseElse.j3 d 100 2 0 16 ([(⟨1, 0, 0, 0⟩ : Cs), (⟨2, 1, 0, 0⟩ : Cs)] : List Cs) ceS 2 from rfl) ?_
  rw [s2, pk_c2]
  refine Eq.trans (show _ = bind2 (choose_Pick.m 100 ceS ceG ([(⟨1, 0, 0, 0⟩ : Cs), (⟨2, 1, 0, 0⟩ : Cs), (⟨2, 2, 0, 0⟩ : Cs), (⟨3, 0, 0, 0⟩ : Cs)] : List Cs) d) fun y u => ChooseElse.j4 d 100 2 0 16 ([(⟨1, 0, 0, 0⟩ : Cs), (⟨2, 1, 0, 0⟩ : Cs)] : List Cs) 2 (-1) u y from rfl) ?_
  rw [pk_d2]
  refine Eq.trans (show _ = ChooseElse.j4 d 100 2 0 16 ([(⟨1, 0, 0, 0⟩ : Cs), (⟨2, 1, 0, 0⟩ : Cs)] : List Cs) 2 (-1) ceS 2 from rfl) ?_
  rw [s3, pk_e]
  rfl
theorem pk_a3 (d : Int) : choose_Pick.m 100 ceS ceG ([(⟨1, 0, 0, 0⟩ : Cs), (⟨2, 1, 0, 0⟩ : Cs), (⟨1, 0, 0, 0⟩ : Cs), (⟨3, 0, 0, 0⟩ : Cs)] : List Cs) d = some (3, ceS) := by
  refine pick_any (AT := ([0, 1, 2] : List Int)) (x22 := 3) (m := 3) rfl (by decide) (fun d => by kernel_rfl) (fun r hr => ?_) d
  match r, hr with
  | 0, _ => show choose_Pick.l6 ceG ([(⟨1, 0, 0, 0⟩ : Cs), (⟨2, 1, 0, 0⟩ : Cs), (⟨1, 0, 0, 0⟩ : Cs), (⟨3, 0, 0, 0⟩ : Cs)] : List Cs) ((0 : Nat) : Int) 100 ([0, 1, 2] : List Int) (3) 100 ceS 0 = some (3, ceS); kernel_rfl
  | 1, _ => show choose_Pick.l6 ceG ([(⟨1, 0, 0, 0⟩ : Cs), (⟨2, 1, 0, 0⟩ : Cs), (⟨1, 0, 0, 0⟩ : Cs), (⟨3, 0, 0, 0⟩ : Cs)] : List Cs) ((1 : Nat) : Int) 100 ([0, 1, 2] : List Int) (3) 100 ceS 0 = some (3, ceS); kernel_rfl
  | 2, _ => show choose_Pick.l6 ceG ([(⟨1, 0, 0, 0⟩ : Cs), (⟨2, 1, 0, 0⟩ : Cs), (⟨1, 0, 0, 0⟩ : Cs), (⟨3, 0, 0, 0⟩ : Cs)] : List Cs) ((2 : Nat) : Int) 100 ([0, 1, 2] : List Int) (3) 100 ceS 0 = some (3, ceS); kernel_rfl
theorem pk_c3 (d : Int) : choose_Pick.m 100 ceS ceG ([(⟨1, 0, 0, 0⟩ : Cs), (⟨2, 1, 0, 0⟩ : Cs), (⟨1, 0, 0, 0⟩ : Cs)] : List Cs) d = some (-1, ceS) := by
  refine pick_any (AT := ([0, 1, 2] : List Int)) (x22 := -1) (m := 3) rfl (by decide) (fun d => by kernel_rfl) (fun r hr => ?_) d
  match r, hr with
  | 0, _ => show choose_Pick.l6 ceG ([(⟨1, 0, 0, 0⟩ : Cs), (⟨2, 1, 0, 0⟩ : Cs), (⟨1, 0, 0, 0⟩ : Cs)] : List Cs) ((0 : Nat) : Int) 100 ([0, 1, 2] : List Int) (-1) 100 ceS 0 = some (-1, ceS); kernel_rfl
  | 1, _ => show choose_Pick.l6 ceG ([(⟨1, 0, 0, 0⟩ : Cs), (⟨2, 1, 0, 0⟩ : Cs), (⟨1, 0, 0, 0⟩ : Cs)] : List Cs) ((1 : Nat) : Int) 100 ([0, 1, 2] : List Int) (-1) 100 ceS 0 = some (-1, ceS); kernel_rfl
  | 2, _ => show choose_Pick.l6 ceG ([(⟨1, 0, 0, 0⟩ : Cs), (⟨2, 1, 0, 0⟩ : Cs), (⟨1, 0, 0, 0⟩ : Cs)] : List Cs) ((2 : Nat) : Int) 100 ([0, 1, 2] : List Int) (-1) 100 ceS 0 = some (-1, ceS); kernel_rfl
theorem pk_d3 (d : Int) : choose_Pick.m 100 ceS ceG ([(⟨1, 0, 0, 0⟩ : Cs), (⟨2, 1, 0, 0⟩ : Cs), (⟨1, 0, 0, 0⟩ : Cs), (⟨2, 2, 0, 0⟩ : Cs), (⟨3, 0, 0, 0⟩ : Cs)] : List Cs) d = some (3, ceS) := by
  refine pick_any (AT := ([0, 1, 2, 3] : List Int)) (x22 := 4) (m := 4) rfl (by decide) (fun d => by kernel_rfl) (fun r hr => ?_) d
  match r, hr with
  | 0, _ => show choose_Pick.l6 ceG ([(⟨1, 0, 0, 0⟩ : Cs), (⟨2, 1, 0, 0⟩ : Cs), (⟨1, 0, 0, 0⟩ : Cs), (⟨2, 2, 0, 0⟩ : Cs), (⟨3, 0, 0, 0⟩ : Cs)] : List Cs) ((0 : Nat) : Int) 100 ([0, 1, 2, 3] : List Int) (4) 100 ceS 0 = some (3, ceS); kernel_rfl
  | 1, _ => show choose_Pick.l6 ceG ([(⟨1, 0, 0, 0⟩ : Cs), (⟨2, 1, 0, 0⟩ : Cs), (⟨1, 0, 0, 0⟩ : Cs), (⟨2, 2, 0, 0⟩ : Cs), (⟨3, 0, 0, 0⟩ : Cs)] : List Cs) ((1 : Nat) : Int) 100 ([0, 1, 2, 3] : List Int) (4) 100 ceS 0 = some (3, ceS); kernel_rfl
  | 2, _ => show choose_Pick.l6 ceG ([(⟨1, 0, 0, 0⟩ : Cs), (⟨2, 1, 0, 0⟩ : Cs), (⟨1, 0, 0, 0⟩ : Cs), (⟨2, 2, 0, 0⟩ : Cs), (⟨3, 0, 0, 0⟩ : Cs)] : List Cs) ((2 : Nat) : Int) 100 ([0, 1, 2, 3] : List Int) (4) 100 ceS 0 = some (3, ceS); kernel_rfl
  | 3, _ => show choose_Pick.l6 ceG ([(⟨1, 0, 0, 0⟩ : Cs), (⟨2, 1, 0, 0⟩ : Cs), (⟨1, 0, 0, 0⟩ : Cs), (⟨2, 2, 0, 0⟩ : Cs), (⟨3, 0, 0, 0⟩ : Cs)] : List Cs) ((3 : Nat) : Int) 100 ([0, 1, 2, 3] : List Int) (4) 100 ceS 0 = some (3, ceS); kernel_rfl
theorem run3 (d : Int) : ChooseElse.m 100 d 3 = some true := by
  have s1 : ChooseElse.m 100 d 3 = bind2 (choose_Pick.m 100 ceS ceG ([(⟨1, 0, 0, 0⟩ : Cs), (⟨2, 1, 0, 0⟩ : Cs), (⟨1, 0, 0, 0⟩ : Cs), (⟨3, 0, 0, 0⟩ : Cs)] : List Cs) d) fun x s => ChooseElse.j3 d 100 3 0 16 ([(⟨1, 0, 0, 0⟩ : Cs), (⟨2, 1, 0, 0⟩ : Cs), (⟨1, 0, 0, 0⟩ : Cs)] : List Cs) s x := by kernel_rfl
  have s2 : ChooseElse.j3 d 100 3 0 16 ([(⟨1, 0, 0, 0⟩ : Cs), (⟨2, 1, 0, 0⟩ : Cs), (⟨1, 0, 0, 0⟩ : Cs)] : List Cs) ceS 3 = bind2 (choose_Pick.m 100 ceS ceG ([(⟨1, 0, 0, 0⟩ : Cs), (⟨2, 1, 0, 0⟩ : Cs), (⟨1, 0, 0, 0⟩ : Cs)] : List Cs) d) fun x s => bind2 (choose_Pick.m 100 s ceG ([(⟨1, 0, 0, 0⟩ : Cs), (⟨2, 1, 0, 0⟩ : Cs), (⟨1, 0, 0, 0⟩ : Cs), (⟨2, 2, 0, 0⟩ : Cs), (⟨3, 0, 0, 0⟩ : Cs)] : List Cs) d) fun y u => ChooseElse.j4 d 100 3 0 16 ([(⟨1, 0, 0, 0⟩ : Cs), (⟨2, 1, 0, 0⟩ : Cs), (⟨1, 0, 0, 0⟩ : Cs)] : List Cs) 3 x u y := by kernel_rfl
  have s3 : ChooseElse.j4 d 100 3 0 16 ([(⟨1, 0, 0, 0⟩ : Cs), (⟨2, 1, 0, 0⟩ : Cs), (⟨1, 0, 0, 0⟩ : Cs)] : List Cs) 3 (-1) ceS 3 = bind2 (choose_Pick.m 100 ceS ceG ([(⟨1, 3, 0, 0⟩ : Cs)] : List Cs) d) fun x s => if x == 0 then some true else ChooseElse.j5 false := by kernel_rfl
  rw [s1, pk_a3]
  refine Eq.trans (show _ = ChooseElse.j3 d 100 3 0 16 ([(⟨1, 0, 0, 0⟩ : Cs), (⟨2, 1, 0, 0⟩ : Cs), (⟨1, 0, 0, 0⟩ : Cs)] : List Cs) ceS 3 from rfl) ?_
  rw [s2, pk_c3]
  refine Eq.trans (show _ = bind2 (choose_Pick.m 100 ceS ceG ([(⟨1, 0, 0, 0⟩ : Cs), (⟨2, 1, 0, 0⟩ : Cs), (⟨1, 0, 0, 0⟩ : Cs), (⟨2, 2, 0, 0⟩ : Cs), (⟨3, 0, 0, 0⟩ : Cs)] : List Cs) d) fun y u => ChooseElse.j4 d 100 3 0 16 ([(⟨1, 0, 0, 0⟩ : Cs), (⟨2, 1, 0, 0⟩ : Cs), (⟨1, 0, 0, 0⟩ : Cs)] : List Cs) 3 (-1) u y from rfl) ?_
  rw [pk_d3]
  refine Eq.trans (show _ = ChooseElse.j4 d 100 3 0 16 ([(⟨1, 0, 0, 0⟩ : Cs), (⟨2, 1, 0, 0⟩ : Cs), (⟨1, 0, 0, 0⟩ : Cs)] : List Cs) 3 (-1) ceS 3 from rfl) ?_
  rw [s3, pk_e]
  rfl
theorem pure (i0 i1 : Int) : ChooseElse.m 100 i0 i1 = some true := by
  obtain ⟨b, hb, eb⟩ := u_mod i1 4 (by omega)
  have h : ChooseElse.m 100 i0 ((b : Nat) : Int) = some true := by
    match b, hb with
    | 0, _ => exact run0 i0
    | 1, _ => exact run1 i0
    | 2, _ => exact run2 i0
    | 3, _ => exact run3 i0
  have e2 := u_same b 4 hb (by omega)
  unfold ChooseElse.m at h ⊢
  simp only [Int.cast_ofNat_Int] at *
  rw [e2] at h
  rw [eb]
  exact h
theorem walk (a0 : Int) (a1 : Int) (w0 : (Lit.int .i64 a0).wf = true) (w1 : (Lit.int .i64 a1).wf = true) (w : World) :
    Calls Tryz.prog 3 #[.int .i64 a0, .int .i64 a1] w fun e w' => e = .returned (.bool true) ∧ Below w.heap.size w w' := by
  exact (ChooseElse.ok (St.empty w) (pure _ _)).mono fun e w' ⟨he, h⟩ => ⟨he, h.old⟩

end Go.Proofs.YtjdlnmbfomojdaaGreat.chooseElse
/-
  'ChooseElseSaid' ('dormouselaw18.ChooseElse'): for every input the law returns true, and each argument reads behind the call as it did before.
  Conditions: none beyond the given row's own.
-/
namespace Go.Proofs.YtjdlnmbfomojdaaGreat.chooseElse
open Go.ChangeShapes Go.WideShapes Go.ChangeAt Go.RowKit
set_option linter.unusedVariables false      -- a walk need not use every 'w<i>' (that an integer argument fits its kind)

theorem own : ownKnob Tryz.prog.godebug = none := by kernel_rfl

/-! ### THE ROW's STEP: WRITTEN OUT: LEAVE IT -/
set_option maxRecDepth 100000 in
theorem lifted (os : Os) (started : os.Started) (H : Type) (enc : TypeId × Value → H) :
    ReturnsInHanded {} Tryz.checked os 3 .any (Rows.chooseElseSpec.pre6 enc Tryz.prog Tryz.f3 Rows.chooseElseRow.domain false) (Rows.chooseElseSpec.post enc Tryz.prog Tryz.f3 false true false false) := by
  refine returnsInHanded_of_change (C := Tryz.checked) own started (by kernel_rfl) Tryz.func3
    (ChangeSpec.witness6 (enc := enc) (C := Tryz.checked) false ⟨#[], #[.int .i64 0, .int .i64 0], []⟩ 8 (by kernel_rfl) (by kernel_rfl) (by kernel_rfl) (by kernel_rfl)) ?_
  intro W base args ds gs before hval0 hW hcnd _
  have hval : ∀ (j : Nat) t v, Tryz.f3.params[j]? = some t → args[j]? = some v → Value.okWide Tryz.prog W .any base t v := hval0
  have hW' := hW
  obtain ⟨p, q, hA0, hV, rfl, hfz, hnd⟩ := hW
  have hA : DataW.TrodAll enc Tryz.prog W 0 (fun _ => true) true Tryz.f3.params.toList args.toList ds p := hA0
  rw [Tryz.params3] at hA hval
  obtain ⟨v0, vs0, d0, ds0, p0, q0, hargs, rfl, rfl, h0, r0⟩ := trodAll_cons hA
  obtain ⟨v1, vs1, d1, ds1, p1, q1, rfl, rfl, rfl, h1, r1⟩ := trodAll_cons r0
  obtain ⟨rfl, rfl, rfl⟩ := trodAll_nil r1
  obtain rfl : args = #[v0, v1] := by cases args; simp_all
  obtain ⟨rfl, rfl⟩ := trodVars_none hV
  obtain ⟨a0, rfl, rfl, rfl, w0⟩ := open_int Tryz.underlying3 (hval 0 3 v0 rfl rfl) h0
  obtain ⟨a1, rfl, rfl, rfl, w1⟩ := open_int Tryz.underlying3 (hval 1 3 v1 rfl rfl) h1
  clear hA0 hval0
  simp only [List.append_nil] at hW'
  refine (walk a0 a1 w0 w1 W).mono fun e W' ⟨he, hg⟩ => ?_
  subst he
  exact ⟨_, rfl, _, _, _, [], [], [], hW', (trodAll_cons_mk (shut_bool Tryz.underlying4 _) trodAll_mk0), (trodAll_cons_mk (shut_int Tryz.underlying3 w0) (trodAll_cons_mk (shut_int Tryz.underlying3 w1) trodAll_mk0)), rfl, hg.frame _, fun h => by cases h⟩

theorem over : Rows.chooseElseRow.holds Tryz.pinned (OpenSpec.ofChange Rows.chooseElseSpec) :=
  OpenClaim.holds_of_wide 3 Tryz.f3 rfl rfl rfl rfl rfl rfl rfl ⟨rfl, rfl, rfl, rfl, rfl⟩ rfl rfl rfl rfl rfl (by kernel_rfl) Tryz.func3 (by kernel_rfl)
    (of_decide_eq_true (by kernel_rfl)) (by unfold Func.isWrapper; first | (rw [if_pos (by decide +kernel)]; kernel_rfl) | (rw [if_neg (by decide +kernel)]; exact ⟨rfl, rfl⟩))
    (fun os started H enc _ => lifted os started H enc)

/-- ████ THE STATEMENT ████ -/
theorem proved : Rows.ChooseElseSaid :=
  over
#print axioms proved
end Go.Proofs.YtjdlnmbfomojdaaGreat.chooseElse
