/- Package arena: Free. -/
import Derived.Test.YtdnelekoplkkcaaArena3
namespace Go.Proofs.Ytdnelekoplkkcaa
open Go.RowKit

/-- What Free reads before it frees the slot. -/
def FreePre (W : World) (b sb g : Nat) (s : ASt) (Fs : List Nat) (wr : World) : Prop :=
  Below W.heap.size W wr ∧ SpanAt wr sb s.l Fs ∧ Blk wr b 107 #[.pointer (some ⟨sb, 0, none⟩), .slice (some ⟨g, 0, none⟩) s.c.length s.c.length] ∧ Blk wr g 20 (aCells s.c)
theorem FreePre.next {W : World} {b sb g : Nat} {s : ASt} {Fs : List Nat} {w w' : World} (h : Hid (FreePre W b sb g s Fs w)) (hb : Below w.heap.size w w') : Hid (FreePre W b sb g s Fs w') ∧ w'.cell? ⟨b, 0, none⟩ = some (.pointer (some ⟨sb, 0, none⟩)) := by
  obtain ⟨h1, h2, h3, h4⟩ := h.out
  have h3' := (Keeps.of_below hb []).blk h3 (by simp)
  exact ⟨⟨h1.trans (hb.mono h1.size), h2.keep (Keeps.of_below hb []) (by simp), h3', (Keeps.of_below hb []).blk h4 (by simp)⟩, by simpa using h3'.cell 0⟩
theorem freeP_Class {W : World} {b sb g : Nat} {s : ASt} {Fs : List Nat} {w : World} (h : Hid (FreePre W b sb g s Fs w)) (i : Nat) (k : Int) (hk : sClass s.l i = k) :
    Calls Try.prog 99 #[.pointer (some ⟨sb, 0, none⟩), .int .i64 i] w fun e w' => e = .returned (.int .i64 k) ∧ w = w' := by
  rw [← hk]; exact span_Class _ _ _ _ _ h.out.2.1
/-- The state behind the freed slot. -/
def FreePost (W : World) (b sb g : Nat) (s : ASt) (l' : List SRow) (Fs : List Nat) (wr : World) : Prop :=
  Keeps Fs W wr ∧ SpanAt wr sb l' Fs ∧ Blk wr b 107 #[.pointer (some ⟨sb, 0, none⟩), .slice (some ⟨g, 0, none⟩) s.c.length s.c.length] ∧ Blk wr g 20 (aCells s.c)
theorem freeP_Free {W : World} {b sb g : Nat} {s : ASt} {Fs : List Nat} {w : World} (h : Hid (FreePre W b sb g s Fs w)) (i u : Nat) (hn : b ∉ Fs ∧ g ∉ Fs ∧ b ≠ g) :
    Calls Try.prog 98 #[.pointer (some ⟨sb, 0, none⟩), .int .i64 i, .int .i64 u] w fun e w' => e = .returned (.bool (sUsed s.l i u)) ∧ Hid (FreePost W b sb g s (sFree s.l i u) Fs w') ∧ w'.cell? ⟨b, 0, none⟩ = some (.pointer (some ⟨sb, 0, none⟩)) := by
  obtain ⟨h1, h2, h3, h4⟩ := h.out
  refine (span_Free _ _ _ _ _ _ h2).mono fun e w' ⟨he, hs, hk⟩ => ⟨he, ⟨(Keeps.of_below h1 Fs).trans hk (fun i hi => .inl hi), hs, hk.blk h3 hn.1, hk.blk h4 hn.2.1⟩, by simpa using (hk.blk h3 hn.1).cell 0⟩

set_option maxHeartbeats 4000000 in
theorem arena_Free (b : Nat) (s : ASt) (F : List Nat) (a : Int) (w : World) (hS : ArenaAt w b s F) :
    Calls Try.prog 80 #[.pointer (some ⟨b, 0, none⟩), .int .i64 a] w (ArenaDoes (.returned (.int .i64 (aFreeE a s))) b (aFreeS a s) F w) := by
  have HS := Lib.hid hS
  have hsz := hS.size
  have hok0 : AOk s := by obtain ⟨sb, g, Fs, hb, hs, hc, hF, hok, -⟩ := hS; exact hok
  cases h : aHead s.c a with
  | none =>
    have he : aFreeE a s = 8 := by unfold aFreeE; rw [h]; rfl
    have hs : aFreeS a s = s := by unfold aFreeS; rw [h]
    rw [he, hs]
    have HH := Lib.hid (headV_none h)
    clear hS hsz hok0 he hs h
    go_enter Try.func80, Try.ntmps80
    go_wp2_with fail
    refine (arena_head _ _ _ _ _ HS.out).mono ?_
    rintro e w1 ⟨rfl, hb1⟩
    rw [HH.out]
    have hk : Keeps [] w (w1.alloc (.cells #[.int .i64 0, .int .i64 0] 90)) := (Keeps.of_below hb1 []).alloc _
    have HK := Lib.hid hk
    clear hk hb1
    go_wp2
    go_ret
    exact ⟨rfl, HS.out.keep HK.out (by simp), HK.out.mono (by simp)⟩
  | some kn =>
    obtain ⟨k, n⟩ := kn
    obtain ⟨p, rfl, hp⟩ := aHead_some h
    obtain ⟨g1, g2, g3, g4, g5, g6, g7, g8, g9, g10, g11⟩ := head_geo hok0 hp
    obtain ⟨aok, alen, allen⟩ := free_ok hok0 p
    have he : aFreeE p s = 0 := by unfold aFreeE; rw [h]; rfl
    have hs : aFreeS p s = ⟨sFree s.l (p / 32 : Nat) (p % 32 / nW s.l (p / 32) : Nat), aFill s.c p .none (n.toNat + 1)⟩ := by unfold aFreeS; rw [h]; simp only [Int.toNat_natCast]
    rw [hs] at aok alen
    rw [he, hs]
    have HH := Lib.hid (headV_some h)
    obtain ⟨i, hi⟩ : ∃ i : Nat, p / 32 = i := ⟨_, rfl⟩
    obtain ⟨r, hr⟩ : ∃ r : Nat, p % 32 = r := ⟨_, rfl⟩
    obtain ⟨W, hW⟩ : ∃ W : Nat, nW s.l i = W := ⟨_, rfl⟩
    obtain ⟨u, hu⟩ : ∃ u : Nat, r / W = u := ⟨_, rfl⟩
    rw [hr, hi, hW, hu] at aok alen ⊢
    rw [hi] at g4 g5 g6 g8 g1
    rw [hW] at g4 g5 g6 g8
    obtain ⟨m, rfl⟩ := Int.eq_ofNat_of_zero_le g7
    simp only [Int.toNat_natCast] at aok alen g8 g9 ⊢
    have HA := Lib.hid (And.intro aok alen)
    have HC4 := Lib.hid g4
    have p4 : p < 4096 := by omega
    have q1 : (p : Int) / 32 = (i : Int) := by omega
    have q2 : (p : Int) % 32 = (r : Int) := by omega
    have q1' : (p : Int).tdiv 32 = (i : Int) := by rw [Int.tdiv_eq_ediv_of_nonneg (by omega)]; exact q1
    have q2' : (p : Int).tmod 32 = (r : Int) := by rw [Int.tmod_eq_emod_of_nonneg (by omega)]; exact q2
    have q3 : (r : Int) / (W : Int) = (u : Int) := by rw [← hu]; exact (Int.natCast_ediv _ _).symm
    have q3' : (r : Int).tdiv (W : Int) = (u : Int) := by rw [Int.tdiv_eq_ediv_of_nonneg (by omega)]; exact q3
    have r32 : r < 32 := by omega
    have u32 : u ≤ r := by rw [← hu]; exact Nat.div_le_self _ _
    have w1 : IntKind.i64.wrap (i : Int) = i := IntWalk.i64_in _ (by omega)
    have w2 : IntKind.i64.wrap (u : Int) = u := IntWalk.i64_in _ (by omega)
    have w3 : IntKind.i64.wrap (r : Int) = r := IntWalk.i64_in _ (by omega)
    have W0 : ¬ (W : Int) = 0 := by omega
    have W1 : ¬ W = 0 := by omega
    have Q := Lib.hid (And.intro w1 (And.intro w2 (And.intro w3 (And.intro q1' (And.intro q2' q3')))))
    have pm : p + 1 + m ≤ s.c.length := g9
    have l4 : s.c.length ≤ 4096 := by omega
    have m32 : m < 32 := by omega
    clear hS hsz hok0 he hs h hp g1 g2 g3 g4 g5 g6 g7 g8 g9 g10 g11 aok alen allen hi hr hW hu q2 q3 q1' q2' q3' w1 w2 w3
    go_enter Try.func80, Try.ntmps80
    go_wp2_with fail
    refine (arena_head _ _ _ _ _ HS.out).mono ?_
    rintro e w1 ⟨rfl, hb1⟩
    rw [HH.out]
    obtain ⟨W', hWe⟩ : ∃ W', w1.alloc (.cells #[.int .i64 k, .int .i64 m] 90) = W' := ⟨_, rfl⟩
    have K1 : Keeps [] w W' := by rw [← hWe]; exact (Keeps.of_below hb1 []).alloc _
    have hB : Blk W' w1.heap.size 90 #[.int .i64 k, .int .i64 m] := by rw [← hWe]; exact Blk.new _ _ _
    have HS1 := Lib.hid (HS.out.keep K1 (by simp))
    obtain ⟨sb, g, Fs, hb, hs, hc, hF, hok, hn⟩ := HS1.out
    have hh := hB.cell 1
    simp at hh
    have c0 := hb.cell 0
    simp at c0
    have hne : w1.heap.size ∉ F := fun hm => by have := HS.out.lt _ hm; have := hb1.size; omega
    have P0 : Hid (FreePre W' b sb g s Fs W') := ⟨Below.refl _ _, hs, hb, hc⟩
    obtain ⟨P1, c1⟩ := FreePre.next P0 (Below.refl _ _).drew
    have HHB := Lib.hid hB
    have HK1 := Lib.hid K1
    have HN := Lib.hid hn
    have HF := Lib.hid hF
    have HNE := Lib.hid hne
    clear hb hs hc hF hok hn K1 hB hb1 hne
    go_wp2
    obtain ⟨w1, w2, w3, q1', q2', q3'⟩ := Q.out
    go_region_held3 (fun (w' : World) => w'.cell? ⟨b, 0, none⟩ = some (.pointer (some ⟨sb, 0, none⟩))) (first | assumption | go_keep)
      (first
        | (go_at_call 99; refine (freeP_Class (by assumption) i _ rfl).mono ?_; rintro e wa ⟨rfl, rfl⟩)
        | (go_at_call 75; refine (class_Words _ _).mono ?_; rintro e wb ⟨rfl, hbw⟩; rw [HC4.out]; obtain ⟨Pb, cb⟩ := FreePre.next (by assumption) hbw)
        | (go_at_call 98; refine (freeP_Free (by assumption) i u HN.out).mono ?_; rintro e wc ⟨rfl, Pc, cc⟩))
    have hpc := Lib.hid (show Hid (FreePost W' b sb g s (sFree s.l i u) Fs _) by assumption)
    obtain ⟨K5, S5, B5, C5⟩ := hpc.out.out
    have H5 := K5.blk HHB.out (by intro hm; exact HNE.out (by rw [HF.out]; simp [hm]))
    have e5 := H5.cell 1
    simp at e5
    have K6 := Lib.hid (show Keeps F w _ from (HK1.out.mono (G := F) (by simp)).trans K5 (by intro i hi; rw [HF.out]; simp [hi]))
    clear w1 w2 w3 q1' q2' q3' H5 K5
    have S6 := Lib.hid S5
    have B6 := Lib.hid B5
    have C6 := Lib.hid C5
    clear S5 B5 C5 hh c0 c1 P0 P1 q1 W0 W1 r32 u32
    go_wp2
    go_loopw [42] (fun iv wr => ∃ k' : Nat, k' ≤ m + 1 ∧ iv = .int .i64 k' ∧ Hid (Blk wr b 107 #[.pointer (some ⟨sb, 0, none⟩), .slice (some ⟨g, 0, none⟩) s.c.length s.c.length] ∧ Blk wr g 20 (aCells (aFill s.c p .none k')) ∧ SpanAt wr sb (sFree s.l i u) Fs ∧ Keeps F w wr)) (fun iv _ => m + 1 - (intOf iv).toNat)
    case atStart => exact ⟨0, by omega, rfl, B6.out, C6.out, S6.out, K6.out⟩
    case round =>
      obtain ⟨k', hk, rfl, hrr⟩ := hrel
      clear hpc e5
      obtain ⟨hB4, hC4, hS4, hK4⟩ := hrr.out
      by_cases hlt : k' < m + 1
      · have c1' := hB4.cell 1
        simp at c1'
        obtain ⟨z, hz⟩ : ∃ z : Nat, p + k' = z := ⟨_, rfl⟩
        have hzi : (p : Int) + (k' : Int) = (z : Int) := by omega
        have z0 : (0 : Int) ≤ z := by omega
        have z1 : (z : Int) < s.c.length := by omega
        have d' := hC4.cell z
        have fz' := hC4.free z
        obtain ⟨dv', hdv'⟩ : ∃ v, (aCells (aFill s.c p .none k'))[z]? = some v := by
          rw [aCells_get]; exact ⟨_, by rw [List.getElem?_eq_getElem (by rw [aFill_len]; omega)]; rfl⟩
        rw [hdv'] at d'
        clear hrr hdv'
        have HZ := Lib.hid hz
        have B4 := Lib.hid hB4
        have C4 := Lib.hid hC4
        have S4 := Lib.hid hS4
        have K4 := Lib.hid hK4
        clear hz hB4 hC4 hS4 hK4
        go_wp2
        go_roundw
        case rel =>
          obtain ⟨n1, n2, n3⟩ := HN.out
          refine ⟨k' + 1, by omega, by go_num, ?_, ?_, ?_, ?_⟩
          · exact B4.out.far (p := ⟨g, z, none⟩) n3 _
          · have := C4.out.set z ACell.none.val
            rw [aCells_set, ← HZ.out] at this
            rw [← HZ.out]
            exact this
          · exact S4.out.keep ((Keeps.refl [g] _).set (by simp) _) (by intro i hi; simp; rintro rfl; exact n2 hi)
          · exact K4.out.set (by rw [HF.out]; simp) _
        case measure => simp [intOf]; omega
      · have hkm : k' = m + 1 := by omega
        subst hkm
        clear hrr
        have B4 := Lib.hid hB4
        have C4 := Lib.hid hC4
        have S4 := Lib.hid hS4
        have K4 := Lib.hid hK4
        clear hB4 hC4 hS4 hK4
        go_wp2
        go_ret
        obtain ⟨n1, n2, n3⟩ := HN.out
        obtain ⟨aok, alen⟩ := HA.out
        refine ⟨rfl, ⟨sb, g, Fs, ?_, S4.out, C4.out, HF.out, aok, n1, n2, n3⟩, K4.out⟩
        simp only
        rw [alen]
        exact B4.out
end Go.Proofs.Ytdnelekoplkkcaa
