/- HeapFinalsW -/
import Derived.Test.YtjdlnmbfomojdaaKG09f
import Derived.Test.YtjdlnmbfomojdaaKHfB1
import Derived.Test.YtjdlnmbfomojdaaKHfB2
import Derived.Test.YtjdlnmbfomojdaaKHfB3
import Derived.Test.YtjdlnmbfomojdaaKHfB4
import Derived.Test.YtjdlnmbfomojdaaKHfB5
import Derived.Test.YtjdlnmbfomojdaaKHfB13
import Derived.Test.YtjdlnmbfomojdaaRows
import Derived.WalkKit
import Derived.WalkSpells
import Derived.WalkLawsBesides
/-
  The walk of 'dormouselaw09.HeapFinals': the call returns true, in a world with at most new blocks.
-/
namespace Go.Proofs.Ytjdlnmbfomojdaa.heapFinals
open Go.RowKit
set_option linter.unusedVariables false

theorem allS_mem : ∀ (m : Nat) (p : List Bool → Bool), allS m p = true → ∀ l : List Bool, l.length = m → p l = true
  | 0, p, h, l, hl => by rw [List.eq_nil_of_length_eq_zero hl]; exact h
  | m + 1, p, h, [], hl => by cases hl
  | m + 1, p, h, true :: l, hl => allS_mem m _ (Bool.and_eq_true _ _ ▸ h : _ ∧ _).1 l (by simpa using hl)
  | m + 1, p, h, false :: l, hl => allS_mem m _ (Bool.and_eq_true _ _ ▸ h : _ ∧ _).2 l (by simpa using hl)
theorem split5 {p : Nat} {M : List Bool} (h : M.length = p + 5) : ∃ pre l, M = pre ++ l ∧ pre.length = p ∧ l.length = 5 := ⟨M.take p, M.drop p, (List.take_append_drop _ _).symm, by simp; omega, by simp; omega⟩
theorem bcons {M : List Bool} {n : Nat} (h : M.length = n + 1) : ∃ x L, M = x :: L ∧ L.length = n := by
  match M, h with
  | x :: L, h => exact ⟨x, L, rfl, by simpa using h⟩
theorem all0 (M : List Bool) (h : M.length = 1) : hfOk 0 M = true := allS_mem 1 _ hf_0_x M h
theorem all1 (M : List Bool) (h : M.length = 2) : hfOk 1 M = true := allS_mem 2 _ hf_1_x M h
theorem all2 (M : List Bool) (h : M.length = 3) : hfOk 2 M = true := allS_mem 3 _ hf_2_x M h
theorem all3 (M : List Bool) (h : M.length = 4) : hfOk 3 M = true := allS_mem 4 _ hf_3_x M h
theorem all4 (M : List Bool) (h : M.length = 5) : hfOk 4 M = true := allS_mem 5 _ hf_4_x M h
theorem pre5 (b0 : Bool) : allS 5 (fun l => hfOk 5 ([b0] ++ l)) = true :=
  match b0 with
  | true => hf_5_1
  | false => hf_5_0
theorem all5 (M : List Bool) (h : M.length = 6) : hfOk 5 M = true := by
  obtain ⟨pre, l, rfl, hp, hl⟩ := split5 (p := 1) h
  obtain ⟨b0, c0, rfl, h0⟩ := bcons (n := 0) hp
  obtain rfl := List.eq_nil_of_length_eq_zero h0
  exact allS_mem 5 _ (pre5 b0) l hl
theorem pre6 (b0 b1 : Bool) : allS 5 (fun l => hfOk 6 ([b0, b1] ++ l)) = true :=
  match b0, b1 with
  | true, true => hf_6_11
  | true, false => hf_6_10
  | false, true => hf_6_01
  | false, false => hf_6_00
theorem all6 (M : List Bool) (h : M.length = 7) : hfOk 6 M = true := by
  obtain ⟨pre, l, rfl, hp, hl⟩ := split5 (p := 2) h
  obtain ⟨b0, c0, rfl, h0⟩ := bcons (n := 1) hp
  obtain ⟨b1, c1, rfl, h1⟩ := bcons (n := 0) h0
  obtain rfl := List.eq_nil_of_length_eq_zero h1
  exact allS_mem 5 _ (pre6 b0 b1) l hl
theorem pre7 (b0 b1 b2 : Bool) : allS 5 (fun l => hfOk 7 ([b0, b1, b2] ++ l)) = true :=
  match b0, b1, b2 with
  | true, true, true => hf_7_111
  | true, true, false => hf_7_110
  | true, false, true => hf_7_101
  | true, false, false => hf_7_100
  | false, true, true => hf_7_011
  | false, true, false => hf_7_010
  | false, false, true => hf_7_001
  | false, false, false => hf_7_000
theorem all7 (M : List Bool) (h : M.length = 8) : hfOk 7 M = true := by
  obtain ⟨pre, l, rfl, hp, hl⟩ := split5 (p := 3) h
  obtain ⟨b0, c0, rfl, h0⟩ := bcons (n := 2) hp
  obtain ⟨b1, c1, rfl, h1⟩ := bcons (n := 1) h0
  obtain ⟨b2, c2, rfl, h2⟩ := bcons (n := 0) h1
  obtain rfl := List.eq_nil_of_length_eq_zero h2
  exact allS_mem 5 _ (pre7 b0 b1 b2) l hl
theorem pre8 (b0 b1 b2 b3 : Bool) : allS 5 (fun l => hfOk 8 ([b0, b1, b2, b3] ++ l)) = true :=
  match b0, b1, b2, b3 with
  | true, true, true, true => hf_8_1111
  | true, true, true, false => hf_8_1110
  | true, true, false, true => hf_8_1101
  | true, true, false, false => hf_8_1100
  | true, false, true, true => hf_8_1011
  | true, false, true, false => hf_8_1010
  | true, false, false, true => hf_8_1001
  | true, false, false, false => hf_8_1000
  | false, true, true, true => hf_8_0111
  | false, true, true, false => hf_8_0110
  | false, true, false, true => hf_8_0101
  | false, true, false, false => hf_8_0100
  | false, false, true, true => hf_8_0011
  | false, false, true, false => hf_8_0010
  | false, false, false, true => hf_8_0001
  | false, false, false, false => hf_8_0000
theorem all8 (M : List Bool) (h : M.length = 9) : hfOk 8 M = true := by
  obtain ⟨pre, l, rfl, hp, hl⟩ := split5 (p := 4) h
  obtain ⟨b0, c0, rfl, h0⟩ := bcons (n := 3) hp
  obtain ⟨b1, c1, rfl, h1⟩ := bcons (n := 2) h0
  obtain ⟨b2, c2, rfl, h2⟩ := bcons (n := 1) h1
  obtain ⟨b3, c3, rfl, h3⟩ := bcons (n := 0) h2
  obtain rfl := List.eq_nil_of_length_eq_zero h3
  exact allS_mem 5 _ (pre8 b0 b1 b2 b3) l hl
theorem pre9 (b0 b1 b2 b3 b4 : Bool) : allS 5 (fun l => hfOk 9 ([b0, b1, b2, b3, b4] ++ l)) = true :=
  match b0, b1, b2, b3, b4 with
  | true, true, true, true, true => hf_9_11111
  | true, true, true, true, false => hf_9_11110
  | true, true, true, false, true => hf_9_11101
  | true, true, true, false, false => hf_9_11100
  | true, true, false, true, true => hf_9_11011
  | true, true, false, true, false => hf_9_11010
  | true, true, false, false, true => hf_9_11001
  | true, true, false, false, false => hf_9_11000
  | true, false, true, true, true => hf_9_10111
  | true, false, true, true, false => hf_9_10110
  | true, false, true, false, true => hf_9_10101
  | true, false, true, false, false => hf_9_10100
  | true, false, false, true, true => hf_9_10011
  | true, false, false, true, false => hf_9_10010
  | true, false, false, false, true => hf_9_10001
  | true, false, false, false, false => hf_9_10000
  | false, true, true, true, true => hf_9_01111
  | false, true, true, true, false => hf_9_01110
  | false, true, true, false, true => hf_9_01101
  | false, true, true, false, false => hf_9_01100
  | false, true, false, true, true => hf_9_01011
  | false, true, false, true, false => hf_9_01010
  | false, true, false, false, true => hf_9_01001
  | false, true, false, false, false => hf_9_01000
  | false, false, true, true, true => hf_9_00111
  | false, false, true, true, false => hf_9_00110
  | false, false, true, false, true => hf_9_00101
  | false, false, true, false, false => hf_9_00100
  | false, false, false, true, true => hf_9_00011
  | false, false, false, true, false => hf_9_00010
  | false, false, false, false, true => hf_9_00001
  | false, false, false, false, false => hf_9_00000
theorem all9 (M : List Bool) (h : M.length = 10) : hfOk 9 M = true := by
  obtain ⟨pre, l, rfl, hp, hl⟩ := split5 (p := 5) h
  obtain ⟨b0, c0, rfl, h0⟩ := bcons (n := 4) hp
  obtain ⟨b1, c1, rfl, h1⟩ := bcons (n := 3) h0
  obtain ⟨b2, c2, rfl, h2⟩ := bcons (n := 2) h1
  obtain ⟨b3, c3, rfl, h3⟩ := bcons (n := 1) h2
  obtain ⟨b4, c4, rfl, h4⟩ := bcons (n := 0) h3
  obtain rfl := List.eq_nil_of_length_eq_zero h4
  exact allS_mem 5 _ (pre9 b0 b1 b2 b3 b4) l hl
theorem all (a : Nat) (ha : a < 10) (M : List Bool) (h : M.length = a + 1) : hfOk a M = true := by
  match a, ha, h with
  | 0, _, h => exact all0 M h
  | 1, _, h => exact all1 M h
  | 2, _, h => exact all2 M h
  | 3, _, h => exact all3 M h
  | 4, _, h => exact all4 M h
  | 5, _, h => exact all5 M h
  | 6, _, h => exact all6 M h
  | 7, _, h => exact all7 M h
  | 8, _, h => exact all8 M h
  | 9, _, h => exact all9 M h
def padM (M : List Bool) (n : Nat) : List Bool := (List.range n).map fun i => M.getD i false
theorem pad_len (M : List Bool) (n : Nat) : (padM M n).length = n := by simp [padM]
theorem pad_at (M : List Bool) (n : Nat) {x : Int} (h0 : 0 ≤ x) (h1 : x < n) : atB (padM M n) x = M.getD x.toNat false := by
  have h2 : x.toNat < n := by omega
  unfold atB padM
  rw [List.getD_eq_getElem?_getD, List.getElem?_map, List.getElem?_range h2]
  rfl
theorem pad_key (M : List Bool) (n : Nat) {x : Int} (hx : x < n) (J : Bool → Option Bool) : (if decide (x < (M.length : Int)) = true then (if inR x M.length = true then J (atB M x) else none) else J false) = (if decide (x < ((padM M n).length : Int)) = true then (if inR x (padM M n).length = true then J (atB (padM M n) x) else none) else J false) := by
  rw [pad_len]
  by_cases h0 : 0 ≤ x
  · rw [if_pos (show decide (x < (n : Int)) = true by simpa using hx), if_pos (show inR x n = true by simp [inR, h0, hx]), pad_at M n h0 hx]
    by_cases h1 : x < (M.length : Int)
    · rw [if_pos (by simpa using h1), if_pos (by simp [inR, h0, h1])]; rfl
    · rw [if_neg (by simpa using h1)]
      have : M.getD x.toNat false = false := by rw [List.getD_eq_getElem?_getD, List.getElem?_eq_none (by omega)]; rfl
      rw [this]
  · rw [if_pos (show decide (x < (M.length : Int)) = true by rw [decide_eq_true_eq]; omega), if_pos (show decide (x < (n : Int)) = true by simpa using hx), if_neg (show ¬ inR x M.length = true by simp [inR, h0]), if_neg (show ¬ inR x n = true by simp [inR, h0])]
theorem l6_pad (M : List Bool) (n k : Nat) : ∀ i, HeapFinals.l6 M k (n : Int) i = HeapFinals.l6 (padM M n) k (n : Int) i := by
  intro i
  induction i with
  | zero => rfl
  | succ i ih =>
    show HeapFinals.l6b M k (n : Int) (HeapFinals.l6 M k (n : Int) i) = HeapFinals.l6b (padM M n) k (n : Int) (HeapFinals.l6 (padM M n) k (n : Int) i)
    rw [ih]
    funext L s x y
    unfold HeapFinals.l6b
    by_cases hx : x < (n : Int)
    · rw [if_pos (by simpa using hx), if_pos (by simpa using hx)]
      refine congrArg (bind3 _) (funext fun a1 => funext fun a2 => funext fun a3 => congrArg (bind3 _) (funext fun a4 => funext fun a5 => funext fun a6 => congrArg (bind2 _) (funext fun a7 => funext fun a8 => ?_)))
      exact pad_key M n hx fun z => HeapFinals.j7 L x y (HeapFinals.l6 (padM M n) k (n : Int) i) a1 a8 z
    · rw [if_neg (by simpa using hx), if_neg (by simpa using hx)]
theorem wrap_i (x : Int) (h : 0 ≤ x) (h2 : x < 1000) : IntKind.i64.wrap x = x := by rw [IntKind.wrap_i64]; omega
set_option maxRecDepth 100000 in
theorem pure (i0 : Int) (M : List Bool) : HeapFinals.m 400 i0 M = some true := by
  obtain ⟨a, ha, ea⟩ := u_mod i0 10 (by omega)
  have h := of_decide_eq_true (all a ha (padM M (a + 1)) (pad_len _ _))
  have e1 := u_same a 10 ha (by omega)
  have w1 := wrap_i (a : Int) (by omega) (by omega)
  have w2 := wrap_i (1 + (a : Int)) (by omega) (by omega)
  simp only [Int.cast_ofNat_Int] at e1 ea
  unfold HeapFinals.m HeapFinals.j1 at h ⊢
  rw [e1, w1, w2, show 1 + (a : Int) = ((a + 1 : Nat) : Int) by omega] at h
  rw [ea, w1, w2, show 1 + (a : Int) = ((a + 1 : Nat) : Int) by omega]
  simp only [bind1, Option.bind_some] at h ⊢
  rw [l6_pad M (a + 1)]
  exact h
theorem walk (a0 : Int) (a1 : Option Addr) (len1 cap1 : Nat) (z1 : List Bool) (w : World) (w0 : (Lit.int .i64 a0).wf = true) (w1 : ArgBools w (.slice a1 len1 cap1) z1) :
    Calls Try.prog 7 #[.int .i64 a0, .slice a1 len1 cap1] w fun e w' => e = .returned (.bool true) ∧ Below w.heap.size w w' := by
  obtain ⟨_, p', c', e, _⟩ := id w1
  injection e with e1 e2 e3
  subst e2
  exact (HeapFinals.ok w1 (St.empty w) (pure _ _)).mono fun e w' ⟨he, h⟩ => ⟨he, h.old⟩

end Go.Proofs.Ytjdlnmbfomojdaa.heapFinals
