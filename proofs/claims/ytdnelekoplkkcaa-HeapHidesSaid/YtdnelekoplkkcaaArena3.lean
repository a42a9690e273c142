/- Package arena: Alloc, Free. -/
import Derived.Test.YtdnelekoplkkcaaArena2
namespace Go.Proofs.Ytdnelekoplkkcaa
open Go.RowKit

theorem arena_fill_head (c : List ACell) (k n : Int) (p : Nat) : (aCells c).setIfInBounds p (.iface 90 (.agg #[.int .i64 k, .int .i64 n])) = aCells (c.set p (.head k n)) := aCells_set c p (.head k n)

set_option maxHeartbeats 2000000 in
theorem arena_Alloc_bad (b : Nat) (s : ASt) (F : List Nat) (kind n : Int) (w : World) (hS : ArenaAt w b s F) (h : aBad kind n = true) :
    Calls Try.prog 58 #[.pointer (some ⟨b, 0, none⟩), .int .i64 kind, .int .i64 n] w (ArenaDoes (.returned (.tuple #[.int .i64 0, .int .i64 1])) b s F w) := by
  have HS := Lib.hid hS
  clear hS
  by_cases h1 : kind < 1
  · clear h
    go_enter Try.func58, Try.ntmps58
    go_wp2_with fail
    refine (class_Of _ _).mono ?_
    rintro e w1 ⟨rfl, hb1⟩
    go_wp2
    go_ret2
    exact ⟨rfl, HS.out.keep (Keeps.of_below hb1 []) (by simp), Keeps.of_below hb1 F⟩
  · by_cases h6 : 6 < kind
    · clear h
      go_enter Try.func58, Try.ntmps58
      go_wp2_with fail
      refine (class_Of _ _).mono ?_
      rintro e w1 ⟨rfl, hb1⟩
      go_wp2
      go_ret2
      exact ⟨rfl, HS.out.keep (Keeps.of_below hb1 []) (by simp), Keeps.of_below hb1 F⟩
    · have hf : cFits n = false := by
        unfold aBad at h
        rw [decide_eq_false h1, decide_eq_false h6] at h
        simpa using h
      clear h
      go_enter Try.func58, Try.ntmps58
      go_wp2_with fail
      refine (class_Of _ _).mono ?_
      rintro e w1 ⟨rfl, hb1⟩
      go_wp2
      go_ret2
      exact ⟨rfl, HS.out.keep (Keeps.of_below hb1 []) (by simp), Keeps.of_below hb1 F⟩

set_option maxHeartbeats 2000000 in
theorem arena_Alloc_room (b : Nat) (s : ASt) (F : List Nat) (kind n : Int) (w : World) (hS : ArenaAt w b s F) (h : aBad kind n = false) (hr : sAlloc (cOf n) s.l = none) :
    Calls Try.prog 58 #[.pointer (some ⟨b, 0, none⟩), .int .i64 kind, .int .i64 n] w (ArenaDoes (.returned (.tuple #[.int .i64 0, .int .i64 9])) b s F w) := by
  have HS := Lib.hid hS
  obtain ⟨k1, k6, hf⟩ := aBad_no h
  have hd : decide (6 < kind) = false := by simp; omega
  have hd1 : decide (kind < 1) = false := by simp; omega
  have hv : sAllocV (cOf n) s.l = .tuple #[.int .i64 0, .int .i64 0, .bool false] := by unfold sAllocV; rw [hr]
  have hl : sAllocL (cOf n) s.l = s.l := by unfold sAllocL; rw [hr]
  have HV := Lib.hid hv
  have HL := Lib.hid hl
  clear hS h hr hv hl
  go_enter Try.func58, Try.ntmps58
  go_wp2_with fail
  refine (class_Of _ _).mono ?_
  rintro e w1 ⟨rfl, hb1⟩
  rw [hf]
  have HS1 := Lib.hid (HS.out.keep (Keeps.of_below hb1 []) (by simp))
  obtain ⟨sb, g, Fs, hb, hs, hc, hF, hok, n1, n2, n3⟩ := HS1.out
  have c0 := hb.cell 0
  simp at c0
  have HSP := Lib.hid hs
  have HB := Lib.hid hb
  have HC := Lib.hid hc
  have HN := Lib.hid (And.intro hF (And.intro hok (And.intro n1 (And.intro n2 n3))))
  have HK := Lib.hid hb1
  clear hb hs hc hF hok n1 n2 n3 hb1
  go_wp2_with fail
  refine (span_Alloc _ _ _ _ _ HSP.out).mono ?_
  rintro e w2 ⟨rfl, hs2, hk2⟩
  rw [HV.out]
  rw [HL.out] at hs2
  go_wp2
  go_ret2
  obtain ⟨hF, hok, n1, n2, n3⟩ := HN.out
  exact ⟨rfl, ⟨sb, g, Fs, hk2.blk HB.out n1, hs2, hk2.blk HC.out n2, hF, hok, n1, n2, n3⟩, (Keeps.of_below HK.out F).trans hk2 (by intro i hi; rw [hF]; simp [hi])⟩

set_option maxHeartbeats 4000000 in
theorem arena_Alloc_ok (b : Nat) (s : ASt) (F : List Nat) (kind n : Int) (w : World) (hS : ArenaAt w b s F) (h : aBad kind n = false) (i t : Nat) (l' : List SRow) (hr : sAlloc (cOf n) s.l = some (i, t, l')) (p : Nat) (s' : ASt) (ha : aAlloc kind n s = some (p, s')) :
    Calls Try.prog 58 #[.pointer (some ⟨b, 0, none⟩), .int .i64 kind, .int .i64 n] w (ArenaDoes (.returned (.tuple #[.int .i64 p, .int .i64 0])) b s' F w) := by
  have HS := Lib.hid hS
  have hsz := hS.size
  obtain ⟨k1, k6, hf⟩ := aBad_no h
  obtain ⟨n0, n32, cc0, cc3, nW'⟩ := cOf_fits hf
  have hd : decide (6 < kind) = false := by simp; omega
  have hd1 : decide (kind < 1) = false := by simp; omega
  have hv : sAllocV (cOf n) s.l = .tuple #[.int .i64 i, .int .i64 t, .bool true] := by unfold sAllocV; rw [hr]
  have hl : sAllocL (cOf n) s.l = l' := by unfold sAllocL; rw [hr]
  have hok0 : AOk s := by obtain ⟨sb, g, Fs, hb, hs, hc, hF, hok, -⟩ := hS; exact hok
  obtain ⟨aok, alen, allen, apn⟩ := alloc_ok hok0 h ha
  have fa := alloc_facts hok0.rows hr
  obtain ⟨gW, gs, gc⟩ := ws_geo cc0 cc3
  have gt := slot_fit fa.slot gs
  have ilt := fa.lt
  unfold aAlloc at ha
  rw [hr] at ha
  injection ha with ha
  injection ha with e1 e2
  generalize hWd : (cWords (cOf n)).toNat = W at *
  obtain ⟨q, hq⟩ : ∃ q : Nat, t * W = q := ⟨_, rfl⟩
  have hqi : (t : Int) * (W : Int) = (q : Int) := by rw [← hq]; simp
  rw [hq] at e1 e2 gt
  rw [e1] at e2
  have hpi : (i : Int) * 32 + (q : Int) = ((p : Nat) : Int) := by omega
  obtain ⟨m, rfl⟩ := Int.eq_ofNat_of_zero_le n0
  simp only [Int.toNat_natCast] at e2 apn nW'
  have HV := Lib.hid hv
  have HL := Lib.hid hl
  have HCW := Lib.hid gc
  have HE := Lib.hid e2
  have HA := Lib.hid (And.intro aok alen)
  have i128 : i < 128 := by omega
  have plt : (p : Int) < s.c.length := by omega
  have p0 : (0 : Int) ≤ p := by omega
  have pm : p + 1 + m ≤ s.c.length := apn
  have l4 : s.c.length ≤ 4096 := by omega
  clear hS h hr hv hl hok0 aok alen allen apn fa gs gc gW gt hq hWd cc0 cc3 e1 e2 k1 k6 hsz
  go_enter Try.func58, Try.ntmps58
  go_wp2_with fail
  refine (class_Of _ _).mono ?_
  rintro e w1 ⟨rfl, hb1⟩
  rw [hf]
  have HS1 := Lib.hid (HS.out.keep (Keeps.of_below hb1 []) (by simp))
  obtain ⟨sb, g, Fs, hb, hs, hc, hF, hok, n1, n2, n3⟩ := HS1.out
  have c0 := hb.cell 0
  simp at c0
  have HSP := Lib.hid hs
  have HB := Lib.hid hb
  have HC := Lib.hid hc
  have HN := Lib.hid (And.intro hF (And.intro n1 (And.intro n2 n3)))
  have HK := Lib.hid hb1
  clear hb hs hc hF hok n1 n2 n3 hb1
  go_wp2_with fail
  refine (span_Alloc _ _ _ _ _ HSP.out).mono ?_
  rintro e w2 ⟨rfl, hs2, hk2⟩
  rw [HV.out]
  rw [HL.out] at hs2
  have K2 := Lib.hid (show Keeps F w w2 from (Keeps.of_below HK.out F).trans hk2 (by intro i hi; rw [HN.out.1]; simp [hi]))
  have S2 := Lib.hid hs2
  have B2 := Lib.hid (hk2.blk HB.out HN.out.2.1)
  have C2 := Lib.hid (hk2.blk HC.out HN.out.2.2.1)
  clear hs2 hk2 c0
  go_wp2_with fail
  refine (class_Words _ _).mono ?_
  rintro e w3 ⟨rfl, hb3⟩
  rw [HCW.out]
  have K3 := Lib.hid (K2.out.next hb3)
  have S3 := Lib.hid (S2.out.keep (Keeps.of_below hb3 []) (by simp))
  have hB3 := (Keeps.of_below hb3 []).blk B2.out (by simp)
  have hC3 := (Keeps.of_below hb3 []).blk C2.out (by simp)
  have c1 := hB3.cell 1
  simp at c1
  have d := hC3.cell p
  have fz := hC3.free p
  obtain ⟨dv, hdv⟩ : ∃ v, (aCells s.c)[p]? = some v := by rw [aCells_get]; exact ⟨_, by rw [List.getElem?_eq_getElem (by omega)]; rfl⟩
  rw [hdv] at d
  have B3 := Lib.hid hB3
  have C3 := Lib.hid hC3
  clear hB3 hC3 hdv hb3
  go_wp2
  go_loopw [64] (fun iv wr => ∃ k : Nat, k ≤ m ∧ iv = .int .i64 k ∧ Hid (Blk wr b 107 #[.pointer (some ⟨sb, 0, none⟩), .slice (some ⟨g, 0, none⟩) s.c.length s.c.length] ∧ Blk wr g 20 (aCells (aFill (s.c.set p (.head kind m)) (p + 1) (.word 0) k)) ∧ SpanAt wr sb l' Fs ∧ Keeps F w wr)) (fun iv _ => m - (intOf iv).toNat)
  case atStart =>
    obtain ⟨hF, n1, n2, n3⟩ := HN.out
    refine ⟨0, by omega, rfl, ?_, ?_, ?_, ?_⟩
    · exact B3.out.far (p := ⟨g, p, none⟩) n3 _
    · have := C3.out.set p (ACell.head kind m).val
      rw [aCells_set] at this
      exact this
    · exact S3.out.keep ((Keeps.refl [g] _).set (by simp) _) (by intro i hi; simp; rintro rfl; exact n2 hi)
    · exact K3.out.set (by rw [hF]; simp) _
  case round =>
    obtain ⟨k, hk, rfl, hrr⟩ := hrel
    obtain ⟨hB4, hC4, hS4, hK4⟩ := hrr.out
    by_cases hlt : k < m
    · have c1' := hB4.cell 1
      simp at c1'
      obtain ⟨z, hz⟩ : ∃ z : Nat, p + 1 + k = z := ⟨_, rfl⟩
      have hzi : (p : Int) + 1 + (k : Int) = (z : Int) := by omega
      have z0 : (0 : Int) ≤ z := by omega
      have z1 : (z : Int) < s.c.length := by omega
      have d' := hC4.cell z
      have fz' := hC4.free z
      obtain ⟨dv', hdv'⟩ : ∃ v, (aCells (aFill (s.c.set p (.head kind m)) (p + 1) (.word 0) k))[z]? = some v := by
        rw [aCells_get]; exact ⟨_, by rw [List.getElem?_eq_getElem (by rw [aFill_len, List.length_set]; omega)]; rfl⟩
      rw [hdv'] at d'
      clear hrr hdv'
      have HZ := Lib.hid hz
      have B4 := Lib.hid hB4
      have C4 := Lib.hid hC4
      have S4 := Lib.hid hS4
      have K4 := Lib.hid hK4
      clear hz hB4 hC4 hS4 hK4 c1 d fz B3 C3 S3 K3
      go_wp2
      go_roundw
      case rel =>
        obtain ⟨hF, n1, n2, n3⟩ := HN.out
        refine ⟨k + 1, by omega, by go_num, ?_, ?_, ?_, ?_⟩
        · exact B4.out.far (p := ⟨g, z, none⟩) n3 _
        · have := C4.out.set z (ACell.word 0).val
          rw [aCells_set, ← HZ.out] at this
          rw [← HZ.out]
          exact this
        · exact S4.out.keep ((Keeps.refl [g] _).set (by simp) _) (by intro i hi; simp; rintro rfl; exact n2 hi)
        · exact K4.out.set (by rw [hF]; simp) _
      case measure => simp [intOf]; omega
    · have hkm : k = m := by omega
      subst hkm
      clear hrr
      have B4 := Lib.hid hB4
      have C4 := Lib.hid hC4
      have S4 := Lib.hid hS4
      have K4 := Lib.hid hK4
      clear hB4 hC4 hS4 hK4 c1 d fz B3 C3 S3 K3
      go_wp2
      go_ret2
      obtain ⟨hF, n1, n2, n3⟩ := HN.out
      obtain ⟨aok, alen⟩ := HA.out
      have hE := HE.out
      subst hE
      simp only at alen
      refine ⟨rfl, ⟨sb, g, Fs, ?_, S4.out, C4.out, hF, aok, n1, n2, n3⟩, K4.out⟩
      simp only
      rw [alen]
      exact B4.out

theorem arena_Alloc (b : Nat) (s : ASt) (F : List Nat) (kind n : Int) (w : World) (hS : ArenaAt w b s F) :
    Calls Try.prog 58 #[.pointer (some ⟨b, 0, none⟩), .int .i64 kind, .int .i64 n] w (ArenaDoes (.returned (aAllocV kind n s)) b (aAllocS kind n s) F w) := by
  unfold aAllocV aAllocS
  cases h : aBad kind n with
  | true => exact arena_Alloc_bad b s F kind n w hS h
  | false =>
    simp only [Bool.false_eq_true, if_false]
    cases hr : sAlloc (cOf n) s.l with
    | none =>
      have ha : aAlloc kind n s = none := by unfold aAlloc; rw [hr]
      rw [ha]
      exact arena_Alloc_room b s F kind n w hS h hr
    | some x =>
      obtain ⟨i, t, l'⟩ := x
      cases ha : aAlloc kind n s with
      | none => unfold aAlloc at ha; rw [hr] at ha; cases ha
      | some y =>
        obtain ⟨p, s'⟩ := y
        exact arena_Alloc_ok b s F kind n w hS h i t l' hr p s' ha
end Go.Proofs.Ytdnelekoplkkcaa
