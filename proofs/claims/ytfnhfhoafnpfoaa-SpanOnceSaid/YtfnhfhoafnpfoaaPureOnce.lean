/- One class after another: what is allotted, and freed, in order. -/
import Derived.Test.YtfnhfhoafnpfoaaPure6
namespace Go.Proofs.Ytfnhfhoafnpfoaa
def qN (c : Nat) : Nat := [8, 4, 2, 1].getD c 0
/-- n rows, behind i slots of class c. -/
def fill (n c i : Nat) : List SRow := (List.range n).map fun r =>
  if r < i / qN c then ((c : Int), List.replicate (qN c) true)
  else if r = i / qN c ∧ i % qN c ≠ 0 then ((c : Int), List.replicate (i % qN c) true ++ List.replicate (qN c - i % qN c) false) else noRow
def onceB (n c i : Nat) : Bool :=
  decide (sAlloc c (fill n c i) = some (i / qN c, i % qN c, fill n c (i + 1))) && decide (sUsed (fill n c (i + 1)) (i / qN c : Nat) (i % qN c : Nat) = true) &&
  decide (sFree (fill n c (i + 1)) (i / qN c : Nat) (i % qN c : Nat) = fill n c i) && decide (sUsed (fill n c i) (i / qN c : Nat) (i % qN c : Nat) = false)
def onceA (n c : Nat) : Bool :=
  decide (sAlloc c (fill n c (n * qN c)) = none) && decide (sWords (fill n c (n * qN c)) = n * 32) && decide (fill n c 0 = sNew n) && decide (sWords (sNew n) = 0) && decide (sClass (sNew n) 0 = -1)
set_option maxRecDepth 100000 in
theorem once_all : ((List.range 10).all fun n => decide (n < 2) || (List.range 4).all fun c => onceA n c && (List.range (n * qN c)).all fun i => onceB n c i) = true := by decide +kernel
theorem once {n c i : Nat} (h2 : 2 ≤ n) (h9 : n ≤ 9) (hc : c < 4) (hi : i < n * qN c) :
    sAlloc c (fill n c i) = some (i / qN c, i % qN c, fill n c (i + 1)) ∧ sUsed (fill n c (i + 1)) (i / qN c : Nat) (i % qN c : Nat) = true ∧ sFree (fill n c (i + 1)) (i / qN c : Nat) (i % qN c : Nat) = fill n c i ∧ sUsed (fill n c i) (i / qN c : Nat) (i % qN c : Nat) = false := by
  have h := once_all
  rw [List.all_eq_true] at h
  have h1 := h n (List.mem_range.2 (by omega))
  rw [decide_eq_false (by omega), Bool.false_or, List.all_eq_true] at h1
  have h3 := h1 c (List.mem_range.2 hc)
  rw [Bool.and_eq_true, List.all_eq_true] at h3
  have h4 := h3.2 i (List.mem_range.2 hi)
  simpa [onceB, and_assoc] using h4
theorem once0 {n c : Nat} (h2 : 2 ≤ n) (h9 : n ≤ 9) (hc : c < 4) :
    sAlloc c (fill n c (n * qN c)) = none ∧ sWords (fill n c (n * qN c)) = n * 32 ∧ fill n c 0 = sNew n ∧ sWords (sNew n) = 0 ∧ sClass (sNew n) 0 = -1 := by
  have h := once_all
  rw [List.all_eq_true] at h
  have h1 := h n (List.mem_range.2 (by omega))
  rw [decide_eq_false (by omega), Bool.false_or, List.all_eq_true] at h1
  have h3 := h1 c (List.mem_range.2 hc)
  rw [Bool.and_eq_true] at h3
  simpa [onceA, and_assoc] using h3.1
end Go.Proofs.Ytfnhfhoafnpfoaa
