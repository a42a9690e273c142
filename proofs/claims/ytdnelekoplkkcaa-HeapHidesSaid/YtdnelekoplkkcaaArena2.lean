/- Package arena: Kind, Len, Words, Used, place, Load; a nil one. -/
import Derived.Test.YtdnelekoplkkcaaArena
namespace Go.Proofs.Ytdnelekoplkkcaa
open Go.RowKit

theorem arena_Words (b : Nat) (s : ASt) (F : List Nat) (w : World) (hS : ArenaAt w b s F) :
    Calls Try.prog 55 #[.pointer (some ⟨b, 0, none⟩)] w fun e w' => e = .returned (.int .i64 s.c.length) ∧ w = w' := by
  obtain ⟨sb, g, Fs, hb, hs, hc, hF, hok, -⟩ := hS
  have c1 := hb.cell 1
  simp at c1
  clear hb hs hc hF hok
  go_enter Try.func55, Try.ntmps55
  go_wp2
  go_ret
  exact ⟨rfl, rfl⟩
theorem arena_Kind (b : Nat) (s : ASt) (F : List Nat) (a : Int) (w : World) (hS : ArenaAt w b s F) :
    Calls Try.prog 33 #[.pointer (some ⟨b, 0, none⟩), .int .i64 a] w fun e w' => e = .returned (.int .i64 (aKind s.c a)) ∧ Below w.heap.size w w' := by
  go_enter Try.func33, Try.ntmps33
  have HS := Lib.hid hS
  clear hS
  go_wp2_with fail
  refine (arena_head _ _ _ _ _ HS.out).mono ?_
  rintro e w1 ⟨rfl, hb1⟩
  unfold headV
  go_wp2
  go_ret
  exact ⟨rfl, by have := hb1.size; (repeat' (first | assumption | exact Below.refl _ _ | refine Below.drew ?_ | (refine Below.setCell ?_ ?_ _; rotate_left; focus (first | omega | (simp; done) | (simp; omega))) | (refine Below.alloc ?_ ?_ _; rotate_left; focus (first | omega | (simp; done) | (simp; omega)))))⟩
theorem arena_Len (b : Nat) (s : ASt) (F : List Nat) (a : Int) (w : World) (hS : ArenaAt w b s F) :
    Calls Try.prog 89 #[.pointer (some ⟨b, 0, none⟩), .int .i64 a] w fun e w' => e = .returned (.int .i64 (aLen s.c a)) ∧ Below w.heap.size w w' := by
  go_enter Try.func89, Try.ntmps89
  have HS := Lib.hid hS
  clear hS
  go_wp2_with fail
  refine (arena_head _ _ _ _ _ HS.out).mono ?_
  rintro e w1 ⟨rfl, hb1⟩
  unfold headV
  go_wp2
  go_ret
  exact ⟨rfl, by have := hb1.size; (repeat' (first | assumption | exact Below.refl _ _ | refine Below.drew ?_ | (refine Below.setCell ?_ ?_ _; rotate_left; focus (first | omega | (simp; done) | (simp; omega))) | (refine Below.alloc ?_ ?_ _; rotate_left; focus (first | omega | (simp; done) | (simp; omega)))))⟩

def placeV (s : ASt) (a i : Int) : Value := .tuple #[.int .i64 (if aErr a i s = 0 then a + 1 + i else 0), .int .i64 (aErr a i s)]
set_option maxHeartbeats 1000000 in
theorem arena_place (b : Nat) (s : ASt) (F : List Nat) (a i : Int) (w : World) (hS : ArenaAt w b s F) :
    Calls Try.prog 69 #[.pointer (some ⟨b, 0, none⟩), .int .i64 a, .int .i64 i] w fun e w' => e = .returned (placeV s a i) ∧ Below w.heap.size w w' := by
  have hz := hS.size
  have hok : AOk s := by obtain ⟨sb, g, Fs, hb, hs, hc, hF, hok, -⟩ := hS; exact hok
  cases h : aHead s.c a with
  | none =>
    have he : placeV s a i = .tuple #[.int .i64 0, .int .i64 8] := by unfold placeV aErr; rw [h]; rfl
    rw [he]
    have hh := headV_none h
    have HS := Lib.hid hS
    have HH := Lib.hid hh
    clear hS hh hz hok he h
    go_enter Try.func69, Try.ntmps69
    go_wp2_with fail
    refine (arena_head _ _ _ _ _ HS.out).mono ?_
    rintro e w1 ⟨rfl, hb1⟩
    rw [HH.out]
    go_wp2
    go_ret2
    exact ⟨rfl, by have := hb1.size; (repeat' (first | assumption | exact Below.refl _ _ | refine Below.drew ?_ | (refine Below.setCell ?_ ?_ _; rotate_left; focus (first | omega | (simp; done) | (simp; omega))) | (refine Below.alloc ?_ ?_ _; rotate_left; focus (first | omega | (simp; done) | (simp; omega)))))⟩
  | some kn =>
    obtain ⟨k, n⟩ := kn
    obtain ⟨p, rfl, hp⟩ := aHead_some h
    obtain ⟨-, -, -, -, -, -, n0, -, hl, -⟩ := head_geo hok hp
    have hh := headV_some h
    have HS := Lib.hid hS
    have HH := Lib.hid hh
    by_cases h0 : i < 0
    · have he : placeV s p i = .tuple #[.int .i64 0, .int .i64 1] := by unfold placeV aErr; rw [h]; simp only [if_neg (show ¬ (0 ≤ i ∧ i < n) by omega)]; rfl
      rw [he]
      clear hS hh hz hok he h hp hl n0
      go_enter Try.func69, Try.ntmps69
      go_wp2_with fail
      refine (arena_head _ _ _ _ _ HS.out).mono ?_
      rintro e w1 ⟨rfl, hb1⟩
      rw [HH.out]
      go_wp2
      go_ret2
      exact ⟨rfl, by have := hb1.size; (repeat' (first | assumption | exact Below.refl _ _ | refine Below.drew ?_ | (refine Below.setCell ?_ ?_ _; rotate_left; focus (first | omega | (simp; done) | (simp; omega))) | (refine Below.alloc ?_ ?_ _; rotate_left; focus (first | omega | (simp; done) | (simp; omega)))))⟩
    · by_cases h1 : n ≤ i
      · have he : placeV s p i = .tuple #[.int .i64 0, .int .i64 1] := by unfold placeV aErr; rw [h]; simp only [if_neg (show ¬ (0 ≤ i ∧ i < n) by omega)]; rfl
        rw [he]
        clear hS hh hz hok he h hp hl n0
        go_enter Try.func69, Try.ntmps69
        go_wp2_with fail
        refine (arena_head _ _ _ _ _ HS.out).mono ?_
        rintro e w1 ⟨rfl, hb1⟩
        rw [HH.out]
        go_wp2
        go_ret2
        exact ⟨rfl, by have := hb1.size; (repeat' (first | assumption | exact Below.refl _ _ | refine Below.drew ?_ | (refine Below.setCell ?_ ?_ _; rotate_left; focus (first | omega | (simp; done) | (simp; omega))) | (refine Below.alloc ?_ ?_ _; rotate_left; focus (first | omega | (simp; done) | (simp; omega)))))⟩
      · have he : placeV s p i = .tuple #[.int .i64 (p + 1 + i), .int .i64 0] := by unfold placeV aErr; rw [h]; simp only [if_pos (show 0 ≤ i ∧ i < n by omega)]; rfl
        rw [he]
        have d1 : IntKind.i64.wrap ((p : Int) + 1) = (p : Int) + 1 := IntWalk.i64_in _ (by omega)
        have d2 : IntKind.i64.wrap ((p : Int) + 1 + i) = (p : Int) + 1 + i := IntWalk.i64_in _ (by omega)
        clear hS hh hz hok he h hp hl n0
        go_enter Try.func69, Try.ntmps69
        go_wp2_with fail
        refine (arena_head _ _ _ _ _ HS.out).mono ?_
        rintro e w1 ⟨rfl, hb1⟩
        rw [HH.out]
        go_wp2
        go_ret2
        exact ⟨rfl, by have := hb1.size; (repeat' (first | assumption | exact Below.refl _ _ | refine Below.drew ?_ | (refine Below.setCell ?_ ?_ _; rotate_left; focus (first | omega | (simp; done) | (simp; omega))) | (refine Below.alloc ?_ ?_ _; rotate_left; focus (first | omega | (simp; done) | (simp; omega)))))⟩

def loadV (s : ASt) (a i : Int) : Value := .tuple #[.int .i64 (aWord a i s), .int .i64 (aErr a i s)]
set_option maxHeartbeats 1000000 in
theorem arena_Load (b : Nat) (s : ASt) (F : List Nat) (a i : Int) (w : World) (hS : ArenaAt w b s F) :
    Calls Try.prog 50 #[.pointer (some ⟨b, 0, none⟩), .int .i64 a, .int .i64 i] w fun e w' => e = .returned (loadV s a i) ∧ Below w.heap.size w w' := by
  have hz := hS.size
  by_cases he : aErr a i s = 0
  · have hok : AOk s := by obtain ⟨sb, g, Fs, hb, hs, hc, hF, hok, -⟩ := hS; exact hok
    have hpv : placeV s a i = .tuple #[.int .i64 (a + 1 + i), .int .i64 0] := by unfold placeV; rw [he]; rfl
    have hlv : loadV s a i = .tuple #[.int .i64 (aWord a i s), .int .i64 0] := by unfold loadV; rw [he]
    obtain ⟨p, j, k, n, rfl, rfl, hp, hj⟩ := err_zero he
    obtain ⟨x, hx⟩ := err_word hok hp hj
    have hwd : aWord p j s = x := by unfold aWord; rw [if_pos he]; simp only [Int.toNat_natCast]; rw [hx]; rfl
    have hlt := (List.getElem?_eq_some_iff.1 hx).1
    rw [hlv, hwd]
    rw [show (p : Int) + 1 + j = ((p + 1 + j : Nat) : Int) by omega] at hpv
    generalize p + 1 + j = q at *
    have HS := Lib.hid hS
    have HP := Lib.hid hpv
    have HX := Lib.hid hx
    have q0 : (0 : Int) ≤ q := by omega
    have q1 : (q : Int) < s.c.length := by omega
    clear hS hpv hlv hwd hp hj hok he hx
    go_enter Try.func50, Try.ntmps50
    go_wp2_with fail
    refine (arena_place _ _ _ _ _ _ HS.out).mono ?_
    rintro e w1 ⟨rfl, hb1⟩
    rw [HP.out]
    obtain ⟨sb, g, Fs, hb, hs, hc, hF, hok, -⟩ := HS.out.keep (Keeps.of_below hb1 []) (by simp)
    have c1 := hb.cell 1
    simp at c1
    have d := hc.cell q
    rw [aCells_get, HX.out] at d
    simp [ACell.val] at d
    clear hb hs hc hF hok
    go_wp2
    go_ret2
    exact ⟨rfl, hb1⟩
  · have hpv : placeV s a i = .tuple #[.int .i64 0, .int .i64 (aErr a i s)] := by unfold placeV; rw [if_neg he]
    have hlv : loadV s a i = .tuple #[.int .i64 0, .int .i64 (aErr a i s)] := by unfold loadV aWord; rw [if_neg he]
    rw [hlv]
    have HS := Lib.hid hS
    have HP := Lib.hid hpv
    have e1 : (aErr a i s == 0) = false := by rw [beq_eq_false_iff_ne]; exact he
    generalize aErr a i s = E at *
    clear hS hpv hlv
    go_enter Try.func50, Try.ntmps50
    go_wp2_with fail
    refine (arena_place _ _ _ _ _ _ HS.out).mono ?_
    rintro e w1 ⟨rfl, hb1⟩
    rw [HP.out]
    go_wp2
    go_ret2
    exact ⟨rfl, hb1⟩

/-- A call that gives r and turns the arena at b to s', and nothing else. -/
def ArenaDoes (r : Ending) (b : Nat) (s' : ASt) (F : List Nat) (w : World) (e : Ending) (w' : World) : Prop := e = r ∧ ArenaAt w' b s' F ∧ Keeps F w w'

set_option maxHeartbeats 1000000 in
theorem arena_Store (b : Nat) (s : ASt) (F : List Nat) (a i x : Int) (w : World) (hS : ArenaAt w b s F) :
    Calls Try.prog 61 #[.pointer (some ⟨b, 0, none⟩), .int .i64 a, .int .i64 i, .int .i64 x] w (ArenaDoes (.returned (.int .i64 (aErr a i s))) b (aStoreS a i x s) F w) := by
  have hz := hS.size
  by_cases he : aErr a i s = 0
  · have hok : AOk s := by obtain ⟨sb, g, Fs, hb, hs, hc, hF, hok, -⟩ := hS; exact hok
    have hst := store_ok hok a i x
    have hpv : placeV s a i = .tuple #[.int .i64 (a + 1 + i), .int .i64 0] := by unfold placeV; rw [he]; rfl
    have hss : aStoreS a i x s = ⟨s.l, s.c.set (a.toNat + 1 + i.toNat) (.word x)⟩ := by unfold aStoreS; rw [if_pos he]
    obtain ⟨p, j, k, n, rfl, rfl, hp, hj⟩ := err_zero he
    obtain ⟨y, hy⟩ := err_word hok hp hj
    have hlt := (List.getElem?_eq_some_iff.1 hy).1
    rw [he]
    simp only [Int.toNat_natCast] at hss
    rw [hss] at hst ⊢
    rw [show (p : Int) + 1 + j = ((p + 1 + j : Nat) : Int) by omega] at hpv
    generalize p + 1 + j = q at *
    have HS := Lib.hid hS
    have HP := Lib.hid hpv
    have HY := Lib.hid hy
    have HT := Lib.hid hst
    have q0 : (0 : Int) ≤ q := by omega
    have q1 : (q : Int) < s.c.length := by omega
    clear hS hpv hp hj hok he hy hst hss
    go_enter Try.func61, Try.ntmps61
    go_wp2_with fail
    refine (arena_place _ _ _ _ _ _ HS.out).mono ?_
    rintro e w1 ⟨rfl, hb1⟩
    rw [HP.out]
    have HA := Lib.hid (HS.out.keep (Keeps.of_below hb1 []) (by simp))
    obtain ⟨sb, g, Fs, hb, hs, hc, hF, hok, n1, n2, n3⟩ := HA.out
    have c1 := hb.cell 1
    simp at c1
    have d := hc.cell q
    rw [aCells_get, HY.out] at d
    simp [ACell.val] at d
    have fz := hc.free q
    have HB := Lib.hid hb
    have HSP := Lib.hid hs
    have HC := Lib.hid hc
    have HF := Lib.hid hF
    have HN := Lib.hid (And.intro n1 (And.intro n2 n3))
    have HK := Lib.hid hb1
    clear hb hs hc hF hok n1 n2 n3 hb1
    go_wp2
    go_ret
    obtain ⟨n1, n2, n3⟩ := HN.out
    refine ⟨rfl, ⟨sb, g, Fs, ?_, ?_, ?_, HF.out, HT.out.1, n1, n2, n3⟩, ?_⟩
    · have := HB.out.far (p := ⟨g, q, none⟩) n3 (ACell.word x).val
      simpa [ACell.val] using this
    · exact HSP.out.keep ((Keeps.refl [g] _).set (by simp) _) (by intro i hi; simp; rintro rfl; exact n2 hi)
    · have := HC.out.set q (ACell.word x).val
      rw [aCells_set] at this
      exact this
    · exact (Keeps.of_below HK.out F).set (by rw [HF.out]; simp) _
  · have hpv : placeV s a i = .tuple #[.int .i64 0, .int .i64 (aErr a i s)] := by unfold placeV; rw [if_neg he]
    have hss : aStoreS a i x s = s := by unfold aStoreS; rw [if_neg he]
    rw [hss]
    have HS := Lib.hid hS
    have HP := Lib.hid hpv
    have e1 : (aErr a i s == 0) = false := by rw [beq_eq_false_iff_ne]; exact he
    generalize aErr a i s = E at *
    clear hS hpv hss
    go_enter Try.func61, Try.ntmps61
    go_wp2_with fail
    refine (arena_place _ _ _ _ _ _ HS.out).mono ?_
    rintro e w1 ⟨rfl, hb1⟩
    rw [HP.out]
    go_wp2
    go_ret
    exact ⟨rfl, HS.out.keep (Keeps.of_below hb1 []) (by simp), Keeps.of_below hb1 F⟩

/-! A nil one. -/
theorem arena_Words_nil (w : World) : Calls Try.prog 55 #[.pointer none] w fun e w' => e = .returned (.int .i64 0) ∧ w = w' := by
  go_enter Try.func55, Try.ntmps55
  go_wp2
  go_ret
  exact ⟨rfl, rfl⟩
theorem arena_Kind_nil (a : Int) (w : World) : Calls Try.prog 33 #[.pointer none, .int .i64 a] w fun e w' => e = .returned (.int .i64 0) ∧ Below w.heap.size w w' := by
  go_enter Try.func33, Try.ntmps33
  go_wp2_with fail
  refine (arena_head_nil _ _).mono ?_
  rintro e w1 ⟨rfl, hb1⟩
  go_wp2
  go_ret
  exact ⟨rfl, by have := hb1.size; (repeat' (first | assumption | exact Below.refl _ _ | refine Below.drew ?_ | (refine Below.setCell ?_ ?_ _; rotate_left; focus (first | omega | (simp; done) | (simp; omega))) | (refine Below.alloc ?_ ?_ _; rotate_left; focus (first | omega | (simp; done) | (simp; omega)))))⟩
theorem arena_Len_nil (a : Int) (w : World) : Calls Try.prog 89 #[.pointer none, .int .i64 a] w fun e w' => e = .returned (.int .i64 0) ∧ Below w.heap.size w w' := by
  go_enter Try.func89, Try.ntmps89
  go_wp2_with fail
  refine (arena_head_nil _ _).mono ?_
  rintro e w1 ⟨rfl, hb1⟩
  go_wp2
  go_ret
  exact ⟨rfl, by have := hb1.size; (repeat' (first | assumption | exact Below.refl _ _ | refine Below.drew ?_ | (refine Below.setCell ?_ ?_ _; rotate_left; focus (first | omega | (simp; done) | (simp; omega))) | (refine Below.alloc ?_ ?_ _; rotate_left; focus (first | omega | (simp; done) | (simp; omega)))))⟩
theorem arena_place_nil (a i : Int) (w : World) : Calls Try.prog 69 #[.pointer none, .int .i64 a, .int .i64 i] w fun e w' => e = .returned (.tuple #[.int .i64 0, .int .i64 2]) ∧ Below w.heap.size w w' := by
  go_enter Try.func69, Try.ntmps69
  go_wp2_with fail
  refine (arena_head_nil _ _).mono ?_
  rintro e w1 ⟨rfl, hb1⟩
  go_wp2
  go_ret2
  exact ⟨rfl, by have := hb1.size; (repeat' (first | assumption | exact Below.refl _ _ | refine Below.drew ?_ | (refine Below.setCell ?_ ?_ _; rotate_left; focus (first | omega | (simp; done) | (simp; omega))) | (refine Below.alloc ?_ ?_ _; rotate_left; focus (first | omega | (simp; done) | (simp; omega)))))⟩
theorem arena_Load_nil (a i : Int) (w : World) : Calls Try.prog 50 #[.pointer none, .int .i64 a, .int .i64 i] w fun e w' => e = .returned (.tuple #[.int .i64 0, .int .i64 2]) ∧ Below w.heap.size w w' := by
  go_enter Try.func50, Try.ntmps50
  go_wp2_with fail
  refine (arena_place_nil _ _ _).mono ?_
  rintro e w1 ⟨rfl, hb1⟩
  go_wp2
  go_ret2
  exact ⟨rfl, hb1⟩
theorem arena_Store_nil (a i x : Int) (w : World) : Calls Try.prog 61 #[.pointer none, .int .i64 a, .int .i64 i, .int .i64 x] w fun e w' => e = .returned (.int .i64 2) ∧ Below w.heap.size w w' := by
  go_enter Try.func61, Try.ntmps61
  go_wp2_with fail
  refine (arena_place_nil _ _ _).mono ?_
  rintro e w1 ⟨rfl, hb1⟩
  go_wp2
  go_ret
  exact ⟨rfl, hb1⟩
theorem arena_Free_nil (a : Int) (w : World) : Calls Try.prog 80 #[.pointer none, .int .i64 a] w fun e w' => e = .returned (.int .i64 2) ∧ Below w.heap.size w w' := by
  go_enter Try.func80, Try.ntmps80
  go_wp2_with fail
  refine (arena_head_nil _ _).mono ?_
  rintro e w1 ⟨rfl, hb1⟩
  go_wp2
  go_ret
  exact ⟨rfl, by have := hb1.size; (repeat' (first | assumption | exact Below.refl _ _ | refine Below.drew ?_ | (refine Below.setCell ?_ ?_ _; rotate_left; focus (first | omega | (simp; done) | (simp; omega))) | (refine Below.alloc ?_ ?_ _; rotate_left; focus (first | omega | (simp; done) | (simp; omega)))))⟩
theorem arena_Alloc_nil (k n : Int) (w : World) : Calls Try.prog 58 #[.pointer none, .int .i64 k, .int .i64 n] w fun e w' => e = .returned (.tuple #[.int .i64 0, .int .i64 2]) ∧ Below w.heap.size w w' := by
  go_enter Try.func58, Try.ntmps58
  go_wp2_with fail
  refine (class_Of _ _).mono ?_
  rintro e w1 ⟨rfl, hb1⟩
  go_wp2
  go_ret2
  exact ⟨rfl, hb1⟩
theorem arena_Objects_nil (w : World) : Calls Try.prog 25 #[.pointer none] w fun e w' => e = .returned (.slice none 0 0) ∧ w = w' := by
  go_enter Try.func25, Try.ntmps25
  go_wp2_with fail
  refine (arena_Words_nil _).mono ?_
  rintro e w1 ⟨rfl, rfl⟩
  go_wp2
  refine wp_loop_rounds 1 ?_
  rw [rounds_succ]
  go_wp2
  go_ret
  exact ⟨rfl, rfl⟩
end Go.Proofs.Ytdnelekoplkkcaa
