/- Arena3 Arena4 Arena5 -/
import Derived.Test.YtdnelekoplkkcaaKSpan5
import Derived.Laws.MakeOwn
/- Package arena: Alloc, Free. -/
namespace Go.Proofs.Ytdnelekoplkkcaa
open Go.RowKit

theorem arena_fill_head (c : List ACell) (k n : Int) (p : Nat) : (aCells c).setIfInBounds p (.iface 90 (.agg #[.int .i64 k, .int .i64 n])) = aCells (c.set p (.head k n)) := aCells_set c p (.head k n)

set_option maxHeartbeats 2000000 in
theorem arena_Alloc_bad (b : Nat) (s : ASt) (F : List Nat) (kind n : Int) (w : World) (hS : ArenaAt w b s F) (h : aBad kind n = true) :
    Calls Try.prog 58 #[.pointer (some ⟨b, 0, none⟩), .int .i64 kind, .int .i64 n] w (ArenaDoes (.returned (.tuple #[.int .i64 0, .int .i64 1])) b s F w) := by
  have HS := Lib.hid hS
  clear hS
  by_cases h1 : kind < 1
  · clear h
    go_enter Try.func58, Try.ntmps58
    go_wp2_with fail
    refine (class_Of _ _).mono ?_
    rintro e w1 ⟨rfl, hb1⟩
    go_wp2
    go_ret2
    exact ⟨rfl, HS.out.keep (Keeps.of_below hb1 []) (by simp), Keeps.of_below hb1 F⟩
  · by_cases h6 : 6 < kind
    · clear h
      go_enter Try.func58, Try.ntmps58
      go_wp2_with fail
      refine (class_Of _ _).mono ?_
      rintro e w1 ⟨rfl, hb1⟩
      go_wp2
      go_ret2
      exact ⟨rfl, HS.out.keep (Keeps.of_below hb1 []) (by simp), Keeps.of_below hb1 F⟩
    · have hf : cFits n = false := by
        unfold aBad at h
        rw [decide_eq_false h1, decide_eq_false h6] at h
        simpa using h
      clear h
      go_enter Try.func58, Try.ntmps58
      go_wp2_with fail
      refine (class_Of _ _).mono ?_
      rintro e w1 ⟨rfl, hb1⟩
      go_wp2
      go_ret2
      exact ⟨rfl, HS.out.keep (Keeps.of_below hb1 []) (by simp), Keeps.of_below hb1 F⟩

set_option maxHeartbeats 2000000 in
theorem arena_Alloc_room (b : Nat) (s : ASt) (F : List Nat) (kind n : Int) (w : World) (hS : ArenaAt w b s F) (h : aBad kind n = false) (hr : sAlloc (cOf n) s.l = none) :
    Calls Try.prog 58 #[.pointer (some ⟨b, 0, none⟩), .int .i64 kind, .int .i64 n] w (ArenaDoes (.returned (.tuple #[.int .i64 0, .int .i64 9])) b s F w) := by
  have HS := Lib.hid hS
  obtain ⟨k1, k6, hf⟩ := aBad_no h
  have hd : decide (6 < kind) = false := by simp; omega
  have hd1 : decide (kind < 1) = false := by simp; omega
  have hv : sAllocV (cOf n) s.l = .tuple #[.int .i64 0, .int .i64 0, .bool false] := by unfold sAllocV; rw [hr]
  have hl : sAllocL (cOf n) s.l = s.l := by unfold sAllocL; rw [hr]
  have HV := Lib.hid hv
  have HL := Lib.hid hl
  clear hS h hr hv hl
  go_enter Try.func58, Try.ntmps58
  go_wp2_with fail
  refine (class_Of _ _).mono ?_
  rintro e w1 ⟨rfl, hb1⟩
  rw [hf]
  have HS1 := Lib.hid (HS.out.keep (Keeps.of_below hb1 []) (by simp))
  obtain ⟨sb, g, Fs, hb, hs, hc, hF, hok, n1, n2, n3⟩ := HS1.out
  have c0 := hb.cell 0
  simp at c0
  have HSP := Lib.hid hs
  have HB := Lib.hid hb
  have HC := Lib.hid hc
  have HN := Lib.hid (And.intro hF (And.intro hok (And.intro n1 (And.intro n2 n3))))
  have HK := Lib.hid hb1
  clear hb hs hc hF hok n1 n2 n3 hb1
  go_wp2_with fail
  refine (span_Alloc _ _ _ _ _ HSP.out).mono ?_
  rintro e w2 ⟨rfl, hs2, hk2⟩
  rw [HV.out]
  rw [HL.out] at hs2
  go_wp2
  go_ret2
  obtain ⟨hF, hok, n1, n2, n3⟩ := HN.out
  exact ⟨rfl, ⟨sb, g, Fs, hk2.blk HB.out n1, hs2, hk2.blk HC.out n2, hF, hok, n1, n2, n3⟩, (Keeps.of_below HK.out F).trans hk2 (by intro i hi; rw [hF]; simp [hi])⟩

set_option maxHeartbeats 4000000 in
theorem arena_Alloc_ok (b : Nat) (s : ASt) (F : List Nat) (kind n : Int) (w : World) (hS : ArenaAt w b s F) (h : aBad kind n = false) (i t : Nat) (l' : List SRow) (hr : sAlloc (cOf n) s.l = some (i, t, l')) (p : Nat) (s' : ASt) (ha : aAlloc kind n s = some (p, s')) :
    Calls Try.prog 58 #[.pointer (some ⟨b, 0, none⟩), .int .i64 kind, .int .i64 n] w (ArenaDoes (.returned (.tuple #[.int .i64 p, .int .i64 0])) b s' F w) := by
  have HS := Lib.hid hS
  have hsz := hS.size
  obtain ⟨k1, k6, hf⟩ := aBad_no h
  obtain ⟨n0, n32, cc0, cc3, nW'⟩ := cOf_fits hf
  have hd : decide (6 < kind) = false := by simp; omega
  have hd1 : decide (kind < 1) = false := by simp; omega
  have hv : sAllocV (cOf n) s.l = .tuple #[.int .i64 i, .int .i64 t, .bool true] := by unfold sAllocV; rw [hr]
  have hl : sAllocL (cOf n) s.l = l' := by unfold sAllocL; rw [hr]
  have hok0 : AOk s := by obtain ⟨sb, g, Fs, hb, hs, hc, hF, hok, -⟩ := hS; exact hok
  obtain ⟨aok, alen, allen, apn⟩ := alloc_ok hok0 h ha
  have fa := alloc_facts hok0.rows hr
  obtain ⟨gW, gs, gc⟩ := ws_geo cc0 cc3
  have gt := slot_fit fa.slot gs
  have ilt := fa.lt
  unfold aAlloc at ha
  rw [hr] at ha
  injection ha with ha
  injection ha with e1 e2
  generalize hWd : (cWords (cOf n)).toNat = W at *
  obtain ⟨q, hq⟩ : ∃ q : Nat, t * W = q := ⟨_, rfl⟩
  have hqi : (t : Int) * (W : Int) = (q : Int) := by rw [← hq]; simp
  rw [hq] at e1 e2 gt
  rw [e1] at e2
  have hpi : (i : Int) * 32 + (q : Int) = ((p : Nat) : Int) := by omega
  obtain ⟨m, rfl⟩ := Int.eq_ofNat_of_zero_le n0
  simp only [Int.toNat_natCast] at e2 apn nW'
  have HV := Lib.hid hv
  have HL := Lib.hid hl
  have HCW := Lib.hid gc
  have HE := Lib.hid e2
  have HA := Lib.hid (And.intro aok alen)
  have i128 : i < 128 := by omega
  have plt : (p : Int) < s.c.length := by omega
  have p0 : (0 : Int) ≤ p := by omega
  have pm : p + 1 + m ≤ s.c.length := apn
  have l4 : s.c.length ≤ 4096 := by omega
  clear hS h hr hv hl hok0 aok alen allen apn fa gs gc gW gt hq hWd cc0 cc3 e1 e2 k1 k6 hsz
  go_enter Try.func58, Try.ntmps58
  go_wp2_with fail
  refine (class_Of _ _).mono ?_
  rintro e w1 ⟨rfl, hb1⟩
  rw [hf]
  have HS1 := Lib.hid (HS.out.keep (Keeps.of_below hb1 []) (by simp))
  obtain ⟨sb, g, Fs, hb, hs, hc, hF, hok, n1, n2, n3⟩ := HS1.out
  have c0 := hb.cell 0
  simp at c0
  have HSP := Lib.hid hs
  have HB := Lib.hid hb
  have HC := Lib.hid hc
  have HN := Lib.hid (And.intro hF (And.intro n1 (And.intro n2 n3)))
  have HK := Lib.hid hb1
  clear hb hs hc hF hok n1 n2 n3 hb1
  go_wp2_with fail
  refine (span_Alloc _ _ _ _ _ HSP.out).mono ?_
  rintro e w2 ⟨rfl, hs2, hk2⟩
  rw [HV.out]
  rw [HL.out] at hs2
  have K2 := Lib.hid (show Keeps F w w2 from (Keeps.of_below HK.out F).trans hk2 (by intro i hi; rw [HN.out.1]; simp [hi]))
  have S2 := Lib.hid hs2
  have B2 := Lib.hid (hk2.blk HB.out HN.out.2.1)
  have C2 := Lib.hid (hk2.blk HC.out HN.out.2.2.1)
  clear hs2 hk2 c0
  go_wp2_with fail
  refine (class_Words _ _).mono ?_
  rintro e w3 ⟨rfl, hb3⟩
  rw [HCW.out]
  have K3 := Lib.hid (K2.out.next hb3)
  have S3 := Lib.hid (S2.out.keep (Keeps.of_below hb3 []) (by simp))
  have hB3 := (Keeps.of_below hb3 []).blk B2.out (by simp)
  have hC3 := (Keeps.of_below hb3 []).blk C2.out (by simp)
  have c1 := hB3.cell 1
  simp at c1
  have d := hC3.cell p
  have fz := hC3.free p
  obtain ⟨dv, hdv⟩ : ∃ v, (aCells s.c)[p]? = some v := by rw [aCells_get]; exact ⟨_, by rw [List.getElem?_eq_getElem (by omega)]; rfl⟩
  rw [hdv] at d
  have B3 := Lib.hid hB3
  have C3 := Lib.hid hC3
  clear hB3 hC3 hdv hb3
  go_wp2
  go_loopw [64] (fun iv wr => ∃ k : Nat, k ≤ m ∧ iv = .int .i64 k ∧ Hid (Blk wr b 107 #[.pointer (some ⟨sb, 0, none⟩), .slice (some ⟨g, 0, none⟩) s.c.length s.c.length] ∧ Blk wr g 20 (aCells (aFill (s.c.set p (.head kind m)) (p + 1) (.word 0) k)) ∧ SpanAt wr sb l' Fs ∧ Keeps F w wr)) (fun iv _ => m - (intOf iv).toNat)
  case atStart =>
    obtain ⟨hF, n1, n2, n3⟩ := HN.out
    refine ⟨0, by omega, rfl, ?_, ?_, ?_, ?_⟩
    · exact B3.out.far (p := ⟨g, p, none⟩) n3 _
    · have := C3.out.set p (ACell.head kind m).val
      rw [aCells_set] at this
      exact this
    · exact S3.out.keep ((Keeps.refl [g] _).set (by simp) _) (by intro i hi; simp; rintro rfl; exact n2 hi)
    · exact K3.out.set (by rw [hF]; simp) _
  case round =>
    obtain ⟨k, hk, rfl, hrr⟩ := hrel
    obtain ⟨hB4, hC4, hS4, hK4⟩ := hrr.out
    by_cases hlt : k < m
    · have c1' := hB4.cell 1
      simp at c1'
      obtain ⟨z, hz⟩ : ∃ z : Nat, p + 1 + k = z := ⟨_, rfl⟩
      have hzi : (p : Int) + 1 + (k : Int) = (z : Int) := by omega
      have z0 : (0 : Int) ≤ z := by omega
      have z1 : (z : Int) < s.c.length := by omega
      have d' := hC4.cell z
      have fz' := hC4.free z
      obtain ⟨dv', hdv'⟩ : ∃ v, (aCells (aFill (s.c.set p (.head kind m)) (p + 1) (.word 0) k))[z]? = some v := by
        rw [aCells_get]; exact ⟨_, by rw [List.getElem?_eq_getElem (by rw [aFill_len, List.length_set]; omega)]; rfl⟩
      rw [hdv'] at d'
      clear hrr hdv'
      have HZ := Lib.hid hz
      have B4 := Lib.hid hB4
      have C4 := Lib.hid hC4
      have S4 := Lib.hid hS4
      have K4 := Lib.hid hK4
      clear hz hB4 hC4 hS4 hK4 c1 d fz B3 C3 S3 K3
      go_wp2
      go_roundw
      case rel =>
        obtain ⟨hF, n1, n2, n3⟩ := HN.out
        refine ⟨k + 1, by omega, by go_num, ?_, ?_, ?_, ?_⟩
        · exact B4.out.far (p := ⟨g, z, none⟩) n3 _
        · have := C4.out.set z (ACell.word 0).val
          rw [aCells_set, ← HZ.out] at this
          rw [← HZ.out]
          exact this
        · exact S4.out.keep ((Keeps.refl [g] _).set (by simp) _) (by intro i hi; simp; rintro rfl; exact n2 hi)
        · exact K4.out.set (by rw [hF]; simp) _
      case measure => simp [intOf]; omega
    · have hkm : k = m := by omega
      subst hkm
      clear hrr
      have B4 := Lib.hid hB4
      have C4 := Lib.hid hC4
      have S4 := Lib.hid hS4
      have K4 := Lib.hid hK4
      clear hB4 hC4 hS4 hK4 c1 d fz B3 C3 S3 K3
      go_wp2
      go_ret2
      obtain ⟨hF, n1, n2, n3⟩ := HN.out
      obtain ⟨aok, alen⟩ := HA.out
      have hE := HE.out
      subst hE
      simp only at alen
      refine ⟨rfl, ⟨sb, g, Fs, ?_, S4.out, C4.out, hF, aok, n1, n2, n3⟩, K4.out⟩
      simp only
      rw [alen]
      exact B4.out

theorem arena_Alloc (b : Nat) (s : ASt) (F : List Nat) (kind n : Int) (w : World) (hS : ArenaAt w b s F) :
    Calls Try.prog 58 #[.pointer (some ⟨b, 0, none⟩), .int .i64 kind, .int .i64 n] w (ArenaDoes (.returned (aAllocV kind n s)) b (aAllocS kind n s) F w) := by
  unfold aAllocV aAllocS
  cases h : aBad kind n with
  | true => exact arena_Alloc_bad b s F kind n w hS h
  | false =>
    simp only [Bool.false_eq_true, if_false]
    cases hr : sAlloc (cOf n) s.l with
    | none =>
      have ha : aAlloc kind n s = none := by unfold aAlloc; rw [hr]
      rw [ha]
      exact arena_Alloc_room b s F kind n w hS h hr
    | some x =>
      obtain ⟨i, t, l'⟩ := x
      cases ha : aAlloc kind n s with
      | none => unfold aAlloc at ha; rw [hr] at ha; cases ha
      | some y =>
        obtain ⟨p, s'⟩ := y
        exact arena_Alloc_ok b s F kind n w hS h i t l' hr p s' ha
end Go.Proofs.Ytdnelekoplkkcaa
/- Package arena: Free. -/
namespace Go.Proofs.Ytdnelekoplkkcaa
open Go.RowKit

/-- What Free reads before it frees the slot. -/
def FreePre (W : World) (b sb g : Nat) (s : ASt) (Fs : List Nat) (wr : World) : Prop :=
  Below W.heap.size W wr ∧ SpanAt wr sb s.l Fs ∧ Blk wr b 107 #[.pointer (some ⟨sb, 0, none⟩), .slice (some ⟨g, 0, none⟩) s.c.length s.c.length] ∧ Blk wr g 20 (aCells s.c)
theorem FreePre.next {W : World} {b sb g : Nat} {s : ASt} {Fs : List Nat} {w w' : World} (h : Hid (FreePre W b sb g s Fs w)) (hb : Below w.heap.size w w') : Hid (FreePre W b sb g s Fs w') ∧ w'.cell? ⟨b, 0, none⟩ = some (.pointer (some ⟨sb, 0, none⟩)) := by
  obtain ⟨h1, h2, h3, h4⟩ := h.out
  have h3' := (Keeps.of_below hb []).blk h3 (by simp)
  exact ⟨⟨h1.trans (hb.mono h1.size), h2.keep (Keeps.of_below hb []) (by simp), h3', (Keeps.of_below hb []).blk h4 (by simp)⟩, by simpa using h3'.cell 0⟩
theorem freeP_Class {W : World} {b sb g : Nat} {s : ASt} {Fs : List Nat} {w : World} (h : Hid (FreePre W b sb g s Fs w)) (i : Nat) (k : Int) (hk : sClass s.l i = k) :
    Calls Try.prog 99 #[.pointer (some ⟨sb, 0, none⟩), .int .i64 i] w fun e w' => e = .returned (.int .i64 k) ∧ w = w' := by
  rw [← hk]; exact span_Class _ _ _ _ _ h.out.2.1
/-- The state behind the freed slot. -/
def FreePost (W : World) (b sb g : Nat) (s : ASt) (l' : List SRow) (Fs : List Nat) (wr : World) : Prop :=
  Keeps Fs W wr ∧ SpanAt wr sb l' Fs ∧ Blk wr b 107 #[.pointer (some ⟨sb, 0, none⟩), .slice (some ⟨g, 0, none⟩) s.c.length s.c.length] ∧ Blk wr g 20 (aCells s.c)
theorem freeP_Free {W : World} {b sb g : Nat} {s : ASt} {Fs : List Nat} {w : World} (h : Hid (FreePre W b sb g s Fs w)) (i u : Nat) (hn : b ∉ Fs ∧ g ∉ Fs ∧ b ≠ g) :
    Calls Try.prog 98 #[.pointer (some ⟨sb, 0, none⟩), .int .i64 i, .int .i64 u] w fun e w' => e = .returned (.bool (sUsed s.l i u)) ∧ Hid (FreePost W b sb g s (sFree s.l i u) Fs w') ∧ w'.cell? ⟨b, 0, none⟩ = some (.pointer (some ⟨sb, 0, none⟩)) := by
  obtain ⟨h1, h2, h3, h4⟩ := h.out
  refine (span_Free _ _ _ _ _ _ h2).mono fun e w' ⟨he, hs, hk⟩ => ⟨he, ⟨(Keeps.of_below h1 Fs).trans hk (fun i hi => .inl hi), hs, hk.blk h3 hn.1, hk.blk h4 hn.2.1⟩, by simpa using (hk.blk h3 hn.1).cell 0⟩

set_option maxHeartbeats 4000000 in
theorem arena_Free (b : Nat) (s : ASt) (F : List Nat) (a : Int) (w : World) (hS : ArenaAt w b s F) :
    Calls Try.prog 80 #[.pointer (some ⟨b, 0, none⟩), .int .i64 a] w (ArenaDoes (.returned (.int .i64 (aFreeE a s))) b (aFreeS a s) F w) := by
  have HS := Lib.hid hS
  have hsz := hS.size
  have hok0 : AOk s := by obtain ⟨sb, g, Fs, hb, hs, hc, hF, hok, -⟩ := hS; exact hok
  cases h : aHead s.c a with
  | none =>
    have he : aFreeE a s = 8 := by unfold aFreeE; rw [h]; rfl
    have hs : aFreeS a s = s := by unfold aFreeS; rw [h]
    rw [he, hs]
    have HH := Lib.hid (headV_none h)
    clear hS hsz hok0 he hs h
    go_enter Try.func80, Try.ntmps80
    go_wp2_with fail
    refine (arena_head _ _ _ _ _ HS.out).mono ?_
    rintro e w1 ⟨rfl, hb1⟩
    rw [HH.out]
    have hk : Keeps [] w (w1.alloc (.cells #[.int .i64 0, .int .i64 0] 90)) := (Keeps.of_below hb1 []).alloc _
    have HK := Lib.hid hk
    clear hk hb1
    go_wp2
    go_ret
    exact ⟨rfl, HS.out.keep HK.out (by simp), HK.out.mono (by simp)⟩
  | some kn =>
    obtain ⟨k, n⟩ := kn
    obtain ⟨p, rfl, hp⟩ := aHead_some h
    obtain ⟨g1, g2, g3, g4, g5, g6, g7, g8, g9, g10, g11⟩ := head_geo hok0 hp
    obtain ⟨aok, alen, allen⟩ := free_ok hok0 p
    have he : aFreeE p s = 0 := by unfold aFreeE; rw [h]; rfl
    have hs : aFreeS p s = ⟨sFree s.l (p / 32 : Nat) (p % 32 / nW s.l (p / 32) : Nat), aFill s.c p .none (n.toNat + 1)⟩ := by unfold aFreeS; rw [h]; simp only [Int.toNat_natCast]
    rw [hs] at aok alen
    rw [he, hs]
    have HH := Lib.hid (headV_some h)
    obtain ⟨i, hi⟩ : ∃ i : Nat, p / 32 = i := ⟨_, rfl⟩
    obtain ⟨r, hr⟩ : ∃ r : Nat, p % 32 = r := ⟨_, rfl⟩
    obtain ⟨W, hW⟩ : ∃ W : Nat, nW s.l i = W := ⟨_, rfl⟩
    obtain ⟨u, hu⟩ : ∃ u : Nat, r / W = u := ⟨_, rfl⟩
    rw [hr, hi, hW, hu] at aok alen ⊢
    rw [hi] at g4 g5 g6 g8 g1
    rw [hW] at g4 g5 g6 g8
    obtain ⟨m, rfl⟩ := Int.eq_ofNat_of_zero_le g7
    simp only [Int.toNat_natCast] at aok alen g8 g9 ⊢
    have HA := Lib.hid (And.intro aok alen)
    have HC4 := Lib.hid g4
    have p4 : p < 4096 := by omega
    have q1 : (p : Int) / 32 = (i : Int) := by omega
    have q2 : (p : Int) % 32 = (r : Int) := by omega
    have q1' : (p : Int).tdiv 32 = (i : Int) := by rw [Int.tdiv_eq_ediv_of_nonneg (by omega)]; exact q1
    have q2' : (p : Int).tmod 32 = (r : Int) := by rw [Int.tmod_eq_emod_of_nonneg (by omega)]; exact q2
    have q3 : (r : Int) / (W : Int) = (u : Int) := by rw [← hu]; exact (Int.natCast_ediv _ _).symm
    have q3' : (r : Int).tdiv (W : Int) = (u : Int) := by rw [Int.tdiv_eq_ediv_of_nonneg (by omega)]; exact q3
    have r32 : r < 32 := by omega
    have u32 : u ≤ r := by rw [← hu]; exact Nat.div_le_self _ _
    have w1 : IntKind.i64.wrap (i : Int) = i := IntWalk.i64_in _ (by omega)
    have w2 : IntKind.i64.wrap (u : Int) = u := IntWalk.i64_in _ (by omega)
    have w3 : IntKind.i64.wrap (r : Int) = r := IntWalk.i64_in _ (by omega)
    have W0 : ¬ (W : Int) = 0 := by omega
    have W1 : ¬ W = 0 := by omega
    have Q := Lib.hid (And.intro w1 (And.intro w2 (And.intro w3 (And.intro q1' (And.intro q2' q3')))))
    have pm : p + 1 + m ≤ s.c.length := g9
    have l4 : s.c.length ≤ 4096 := by omega
    have m32 : m < 32 := by omega
    clear hS hsz hok0 he hs h hp g1 g2 g3 g4 g5 g6 g7 g8 g9 g10 g11 aok alen allen hi hr hW hu q2 q3 q1' q2' q3' w1 w2 w3
    go_enter Try.func80, Try.ntmps80
    go_wp2_with fail
    refine (arena_head _ _ _ _ _ HS.out).mono ?_
    rintro e w1 ⟨rfl, hb1⟩
    rw [HH.out]
    obtain ⟨W', hWe⟩ : ∃ W', w1.alloc (.cells #[.int .i64 k, .int .i64 m] 90) = W' := ⟨_, rfl⟩
    have K1 : Keeps [] w W' := by rw [← hWe]; exact (Keeps.of_below hb1 []).alloc _
    have hB : Blk W' w1.heap.size 90 #[.int .i64 k, .int .i64 m] := by rw [← hWe]; exact Blk.new _ _ _
    have HS1 := Lib.hid (HS.out.keep K1 (by simp))
    obtain ⟨sb, g, Fs, hb, hs, hc, hF, hok, hn⟩ := HS1.out
    have hh := hB.cell 1
    simp at hh
    have c0 := hb.cell 0
    simp at c0
    have hne : w1.heap.size ∉ F := fun hm => by have := HS.out.lt _ hm; have := hb1.size; omega
    have P0 : Hid (FreePre W' b sb g s Fs W') := ⟨Below.refl _ _, hs, hb, hc⟩
    obtain ⟨P1, c1⟩ := FreePre.next P0 (Below.refl _ _).drew
    have HHB := Lib.hid hB
    have HK1 := Lib.hid K1
    have HN := Lib.hid hn
    have HF := Lib.hid hF
    have HNE := Lib.hid hne
    clear hb hs hc hF hok hn K1 hB hb1 hne
    go_wp2
    obtain ⟨w1, w2, w3, q1', q2', q3'⟩ := Q.out
    go_region_held3 (fun (w' : World) => w'.cell? ⟨b, 0, none⟩ = some (.pointer (some ⟨sb, 0, none⟩))) (first | assumption | go_keep)
      (first
        | (go_at_call 99; refine (freeP_Class (by assumption) i _ rfl).mono ?_; rintro e wa ⟨rfl, rfl⟩)
        | (go_at_call 75; refine (class_Words _ _).mono ?_; rintro e wb ⟨rfl, hbw⟩; rw [HC4.out]; obtain ⟨Pb, cb⟩ := FreePre.next (by assumption) hbw)
        | (go_at_call 98; refine (freeP_Free (by assumption) i u HN.out).mono ?_; rintro e wc ⟨rfl, Pc, cc⟩))
    have hpc := Lib.hid (show Hid (FreePost W' b sb g s (sFree s.l i u) Fs _) by assumption)
    obtain ⟨K5, S5, B5, C5⟩ := hpc.out.out
    have H5 := K5.blk HHB.out (by intro hm; exact HNE.out (by rw [HF.out]; simp [hm]))
    have e5 := H5.cell 1
    simp at e5
    have K6 := Lib.hid (show Keeps F w _ from (HK1.out.mono (G := F) (by simp)).trans K5 (by intro i hi; rw [HF.out]; simp [hi]))
    clear w1 w2 w3 q1' q2' q3' H5 K5
    have S6 := Lib.hid S5
    have B6 := Lib.hid B5
    have C6 := Lib.hid C5
    clear S5 B5 C5 hh c0 c1 P0 P1 q1 W0 W1 r32 u32
    go_wp2
    go_loopw [42] (fun iv wr => ∃ k' : Nat, k' ≤ m + 1 ∧ iv = .int .i64 k' ∧ Hid (Blk wr b 107 #[.pointer (some ⟨sb, 0, none⟩), .slice (some ⟨g, 0, none⟩) s.c.length s.c.length] ∧ Blk wr g 20 (aCells (aFill s.c p .none k')) ∧ SpanAt wr sb (sFree s.l i u) Fs ∧ Keeps F w wr)) (fun iv _ => m + 1 - (intOf iv).toNat)
    case atStart => exact ⟨0, by omega, rfl, B6.out, C6.out, S6.out, K6.out⟩
    case round =>
      obtain ⟨k', hk, rfl, hrr⟩ := hrel
      clear hpc e5
      obtain ⟨hB4, hC4, hS4, hK4⟩ := hrr.out
      by_cases hlt : k' < m + 1
      · have c1' := hB4.cell 1
        simp at c1'
        obtain ⟨z, hz⟩ : ∃ z : Nat, p + k' = z := ⟨_, rfl⟩
        have hzi : (p : Int) + (k' : Int) = (z : Int) := by omega
        have z0 : (0 : Int) ≤ z := by omega
        have z1 : (z : Int) < s.c.length := by omega
        have d' := hC4.cell z
        have fz' := hC4.free z
        obtain ⟨dv', hdv'⟩ : ∃ v, (aCells (aFill s.c p .none k'))[z]? = some v := by
          rw [aCells_get]; exact ⟨_, by rw [List.getElem?_eq_getElem (by rw [aFill_len]; omega)]; rfl⟩
        rw [hdv'] at d'
        clear hrr hdv'
        have HZ := Lib.hid hz
        have B4 := Lib.hid hB4
        have C4 := Lib.hid hC4
        have S4 := Lib.hid hS4
        have K4 := Lib.hid hK4
        clear hz hB4 hC4 hS4 hK4
        go_wp2
        go_roundw
        case rel =>
          obtain ⟨n1, n2, n3⟩ := HN.out
          refine ⟨k' + 1, by omega, by go_num, ?_, ?_, ?_, ?_⟩
          · exact B4.out.far (p := ⟨g, z, none⟩) n3 _
          · have := C4.out.set z ACell.none.val
            rw [aCells_set, ← HZ.out] at this
            rw [← HZ.out]
            exact this
          · exact S4.out.keep ((Keeps.refl [g] _).set (by simp) _) (by intro i hi; simp; rintro rfl; exact n2 hi)
          · exact K4.out.set (by rw [HF.out]; simp) _
        case measure => simp [intOf]; omega
      · have hkm : k' = m + 1 := by omega
        subst hkm
        clear hrr
        have B4 := Lib.hid hB4
        have C4 := Lib.hid hC4
        have S4 := Lib.hid hS4
        have K4 := Lib.hid hK4
        clear hB4 hC4 hS4 hK4
        go_wp2
        go_ret
        obtain ⟨n1, n2, n3⟩ := HN.out
        obtain ⟨aok, alen⟩ := HA.out
        refine ⟨rfl, ⟨sb, g, Fs, ?_, S4.out, C4.out, HF.out, aok, n1, n2, n3⟩, K4.out⟩
        simp only
        rw [alen]
        exact B4.out
end Go.Proofs.Ytdnelekoplkkcaa
/- Package arena: Objects, New. -/
namespace Go.Proofs.Ytdnelekoplkkcaa
open Go.RowKit

theorem info_int7 : (Try.prog.info? 3).map (fun i => (i.zero, i.size, i.bytes)) = some (some (.int .i64 0), 1, 8) := by kernel_rfl
theorem info_any : (Try.prog.info? 20).map (fun i => (i.zero, i.size, i.bytes)) = some (some .nilIface, 1, 16) := by kernel_rfl

/-- The places of all objects below k. -/
def objsTo (c : List ACell) (k : Nat) : List Nat := (List.range k).filter fun p => (aHead c p).isSome
theorem objs_succ (c : List ACell) (k : Nat) : objsTo c (k + 1) = objsTo c k ++ if (aHead c k).isSome then [k] else [] := by
  unfold objsTo
  rw [List.range_succ, List.filter_append]
  congr 1
  simp [List.filter_cons]
theorem objs_le (c : List ACell) (k : Nat) : (objsTo c k).length ≤ k := Nat.le_trans (List.length_filter_le _ _) (by simp)
def natV (l : List Nat) : List Value := l.map fun (p : Nat) => .int .i64 p

/-- A call that gives a list of its own, and turns nothing. -/
def GivesInts (l : List Nat) (w : World) (e : Ending) (w' : World) : Prop := ∃ v, e = .returned v ∧ w'.ownsRow 0 3 1 v l.length (natV l) ∧ Keeps [] w w' ∧ Hid (∀ g, v.ownBlock = some g → w.heap.size ≤ g)

set_option maxHeartbeats 2000000 in
theorem arena_Objects (b : Nat) (s : ASt) (F : List Nat) (w : World) (hS : ArenaAt w b s F) :
    Calls Try.prog 25 #[.pointer (some ⟨b, 0, none⟩)] w (GivesInts (aObjects s.c) w) := by
  obtain ⟨i0, hi, hz0, hz1, hz2⟩ := info_parts info_int7
  have hsz := hS.size
  have l4 : s.c.length ≤ 4096 := by omega
  have HS := Lib.hid hS
  clear hS hsz
  go_enter Try.func25, Try.ntmps25
  go_wp2_with fail
  refine (arena_Words _ _ _ _ HS.out).mono ?_
  rintro e w1 ⟨rfl, rfl⟩
  go_wp2
  go_loopw [3, 9] (fun v iv wr => ∃ k : Nat, k ≤ s.c.length ∧ iv = .int .i64 k ∧ Hid (wr.ownsRow 0 3 1 v (objsTo s.c k).length (natV (objsTo s.c k)) ∧ Keeps [] w wr) ∧ Hid (∀ g, v.ownBlock = some g → w.heap.size ≤ g)) (fun _ iv _ => s.c.length - (intOf iv).toNat)
  case atStart => exact ⟨0, by omega, rfl, ⟨World.ownsRow_nil _ _ _ _, Keeps.refl _ _⟩, by intro g hg; cases hg⟩
  case round =>
    obtain ⟨k, hk, rfl, hown, hfr⟩ := hrel
    by_cases hlt : k < s.c.length
    · have HSr := Lib.hid (HS.out.keep hown.out.2 (by simp))
      have hsu := objs_succ s.c k
      have hle := objs_le s.c k
      cases hd : aHead s.c k with
      | none =>
        rw [hd] at hsu
        have HH := Lib.hid (headV_none hd)
        have HSU := Lib.hid hsu
        clear hsu hd
        go_wp2_with fail
        refine (arena_head _ _ _ _ _ HSr.out).mono ?_
        rintro e w2 ⟨rfl, hb2⟩
        rw [HH.out]
        have HB2 := Lib.hid hb2
        clear hb2
        go_wp2
        go_roundw
        case rel =>
          refine ⟨k + 1, by omega, by go_num, ⟨?_, (hown.out.2.next HB2.out).alloc _⟩, hfr⟩
          have e : objsTo s.c (k + 1) = objsTo s.c k := by rw [HSU.out]; simp
          rw [e]
          exact ((Keeps.of_below HB2.out []).alloc _).own hown.out.1 (by simp)
        case measure => simp [intOf]; omega
      | some kn =>
        obtain ⟨kk, nn⟩ := kn
        rw [hd] at hsu
        have HH := Lib.hid (headV_some hd)
        have HSU := Lib.hid hsu
        have HD := Lib.hid hd
        clear hsu hd
        go_wp2_with fail
        refine (arena_head _ _ _ _ _ HSr.out).mono ?_
        rintro e w2 ⟨rfl, hb2⟩
        rw [HH.out]
        have hk2 : Keeps [] w (w2.alloc (.cells #[.int .i64 kk, .int .i64 nn] 90)) := (hown.out.2.next hb2).alloc _
        have hown2 := ((Keeps.of_below hb2 []).alloc (.cells #[.int .i64 kk, .int .i64 nn] 90)).own hown.out.1 (by simp)
        have HK2 := Lib.hid hk2
        obtain ⟨W, hW⟩ : ∃ W, w2.alloc (.cells #[.int .i64 kk, .int .i64 nn] 90) = W := ⟨_, rfl⟩
        rw [hW] at hown2
        rw [hW] at HK2
        clear hk2 hb2
        go_wp2_with (at_builtin; refine wpList_append_own_at _ rfl _ _ 55 rfl 0 3 i0 (.int .i64 0) 1 8 Try.underlying55 hi hz0 hz1 hz2 rfl (by decide) _ _ _ rfl (hown2.alloc _) ⟨W.heap.size, 0, none⟩ 1 1 [.int .i64 k] rfl rfl (cell_one_new _ _ _) ?c2 ?c3 ?c4 ?c5 ?_)
        case c2 => first | rfl | (intro u hu; simp at hu; subst hu; rfl)
        case c3 => unfold maxLen; omega
        case c4 => omega
        case c5 => omega
        intro v' w3 hown3 hg3 _ hat
        have hfr3 : Hid (∀ g, v'.ownBlock = some g → w.heap.size ≤ g) := by
          intro g hg
          rcases hat with h | h
          · exact hfr.out g (by rw [← h]; exact hg)
          · rw [hg] at h; injection h with h; have := HK2.out.size; (try simp at h); omega
        have HK3 := Lib.hid (show Keeps [] w w3 from (HK2.out.alloc _).grown hg3 (fun k hk => .inr (hfr.out k hk)))
        obtain ⟨g, cap, hv, -⟩ := own_form hown3 (by omega)
        subst hv
        have O3 := Lib.hid hown3
        clear hg3 hat hown2 hown3 hW
        go_wp2
        go_roundw
        case rel =>
          refine ⟨k + 1, by omega, by go_num, ⟨?_, HK3.out⟩, hfr3⟩
          have e : objsTo s.c (k + 1) = objsTo s.c k ++ [k] := by rw [HSU.out]; simp
          rw [e]
          have := O3.out
          simpa [natV] using this
        case measure => simp [intOf]; omega
    · have hkn : k = s.c.length := by omega
      subst hkn
      go_wp2
      go_ret
      exact ⟨_, rfl, hown.out.1, hown.out.2, hfr⟩

theorem made_any (m : Nat) : madeCells #[Value.nilIface] m = aCells (List.replicate m .none) := by
  apply Array.ext_getElem?
  intro j
  rw [aCells_get]
  unfold madeCells
  simp [List.getElem?_replicate, Array.getElem?_map, Array.getElem?_range]
  split <;> simp [ACell.val, Nat.mod_one]

def GivesArena (s : ASt) (w : World) (e : Ending) (w' : World) : Prop :=
  ∃ b F, e = .returned (.tuple #[.pointer (some ⟨b, 0, none⟩), .int .i64 0]) ∧ ArenaAt w' b s F ∧ Keeps [] w w' ∧ ∀ i ∈ F, w.heap.size ≤ i

theorem arena_New_no (n : Int) (hn : n < 2 ∨ 128 < n) (w : World) :
    Calls Try.prog 57 #[.int .i64 n] w fun e w' => e = .returned (.tuple #[.pointer none, .int .i64 1]) ∧ w = w' := by
  go_enter Try.func57, Try.ntmps57
  go_wp2_with fail
  refine (span_New_no n hn _).mono ?_
  rintro e w1 ⟨rfl, rfl⟩
  go_wp2
  go_ret2
  exact ⟨rfl, rfl⟩

set_option maxHeartbeats 1000000 in
theorem arena_New (n : Nat) (h2 : 2 ≤ n) (h128 : n ≤ 128) (w : World) :
    Calls Try.prog 57 #[.int .i64 n] w (GivesArena (aNew n) w) := by
  obtain ⟨i0, hi, hz0, hz1, hz2⟩ := info_parts info_any
  obtain ⟨m, hm⟩ : ∃ m : Nat, 32 * n = m := ⟨_, rfl⟩
  have hmi : (n : Int) * 32 = (m : Int) := by omega
  have hmk : ∀ W : World, (Instr.makeSlice 105 (.int .i64 (m : Int)) (.int .i64 (m : Int))).run Try.prog W = .ok (.slice (some ⟨W.heap.size, 0, none⟩) m m) (W.alloc (.cells (aCells (List.replicate m .none)) 20)) := by
    intro W
    have hr := run_make (P := Try.prog) W 105 20 i0 .nilIface Try.underlying105 hi hz0 .i64 .i64 m m (by omega) (by omega) (by rw [hz2]; omega) (by omega)
    rw [hz1] at hr
    simp only [Int.toNat_natCast, Nat.mul_one] at hr
    rw [hr, ← made_any]
    rfl
  have HM := Lib.hid hm
  clear hm
  go_enter Try.func57, Try.ntmps57
  go_wp2_with fail
  refine (span_New n h2 h128 _).mono ?_
  rintro e w1 ⟨rfl, Fs, hs, hk, hf⟩
  have HS := Lib.hid hs
  have HK := Lib.hid hk
  have HF := Lib.hid hf
  clear hs hk hf
  go_wp2
  go_ret2
  have hl := HS.out.lt
  have hsz := HK.out.size
  have hml : (aNew n).c.length = m := by rw [← HM.out]; simp [aNew]
  refine ⟨w1.heap.size + 1, (w1.heap.size + 1) :: w1.heap.size :: Fs, rfl, ⟨w.heap.size, w1.heap.size, Fs, ?_, ?_, ?_, rfl, aNew_ok n, ?_, ?_, by omega⟩, (HK.out.alloc _).alloc _, ?_⟩
  · rw [hml]
    have := Blk.new (w1.alloc (.cells (aCells (List.replicate m .none)) 20)) 107 #[.pointer (some ⟨w.heap.size, 0, none⟩), .slice (some ⟨w1.heap.size, 0, none⟩) m m]
    simpa using this
  · exact HS.out.keep (((Keeps.refl [] _).alloc _).alloc _) (by simp)
  · have : (aNew n).c = List.replicate m .none := by rw [← HM.out]; rfl
    rw [this]
    exact (Blk.new _ _ _).alloc _
  · intro h; have := hl _ h; omega
  · intro h; have := hl _ h; omega
  · intro i hi
    simp at hi
    rcases hi with rfl | rfl | hi
    · omega
    · omega
    · exact HF.out i hi
end Go.Proofs.Ytdnelekoplkkcaa
