/- Package heap: Shade, Store, Alloc. -/
import Derived.Test.YtdnelekoplkkcaaSepHeap
namespace Go.Proofs.Ytdnelekoplkkcaa
open Go.RowKit
set_option linter.unusedVariables false
section
variable {w0 w : World} {F0 : List Nat} {ps : List Piece} {b ab mb lb : Nat} {h : HSt}

theorem push_form (p : Int) (h : HSt) : hPush p h = { h with g := (hPush p h).g, ov := (hPush p h).ov } := by unfold hPush; split <;> rfl
set_option maxHeartbeats 1000000 in
theorem h_Shade (hs : St w0 F0 (HeapP b ab h :: ps) w) (p : Int) (hp : Wd p) :
    Calls Try.prog 41 #[.pointer (some ⟨b, 0, none⟩), .int .i64 p] w fun e w' => e = .returned (.tuple #[]) ∧ St w0 F0 (HeapP b ab (hShade p h) :: ps) w' := by
  have ok := hs.heapOk
  have ho := isObj_kind ok.a p
  by_cases h1 : h.ph = 1
  · cases hO : isObj h.a p with
    | false =>
      have hE : hShade p h = h := by unfold hShade hWhite; rw [hO]; simp
      rw [hE]
      rw [hO] at ho
      have hk : aKind h.a.c p = 0 := by simpa using ho.symm
      have HK := Lib.hid (And.intro hk h1)
      clear ho hO hE ok h1 hk
      obtain ⟨ok, mb, lb, h2⟩ := hs.openH
      have c0 := (h2.hcell (k := 0) rfl).1
      have c3 := (h2.hcell (k := 0) rfl).2.2.2.1
      rw [HK.out.2] at c3
      clear h2 ok
      go_enter Try.func41, Try.ntmps41
      go_wp2_with fail
      refine (ha_Kind hs _).mono ?_
      rintro e w1 ⟨rfl, h1⟩
      rw [HK.out.1]
      go_wp2
      ((try simp only [Exit.inBlock, Exit.then]); refine bodyPost_ret (results_none rfl _ _ _) rfl ?_)
      exact ⟨rfl, h1⟩
    | true =>
      rw [hO] at ho
      have hk : (aKind h.a.c p == 0) = false := by simpa using ho.symm
      have hcl : hColour h p = h.col p := by unfold hColour; rw [hO]; rfl
      by_cases hc : h.col p = 0
      · have hE : hShade p h = hPush p { h with col := upd h.col p 1 } := by unfold hShade hWhite; rw [hO, hc, h1]; rfl
        have okE := ok.shade p
        rw [hE] at okE
        rw [hE]
        obtain ⟨r0, r1⟩ := isObj_range hO
        have r2 : p < 4096 := by have := ok.len; have := ok.a.len; omega
        have g8 := ok.gl
        have HK := Lib.hid (And.intro hk (And.intro h1 (hcl.trans hc)))
        clear ho hO hE ok h1 hk hcl hc r1
        obtain ⟨ok, mb0, lb0, h2⟩ := hs.openH
        have c0 := (h2.hcell (k := 0) rfl).1
        have c3 := (h2.hcell (k := 0) rfl).2.2.2.1
        rw [HK.out.2.1] at c3
        clear h2
        go_enter Try.func41, Try.ntmps41
        go_wp2_with fail
        refine (ha_Kind hs _).mono ?_
        rintro e w1 ⟨rfl, h1⟩
        have hk := HK.out.1
        go_wp2_with fail
        refine (h_Colour h1 _ hp).mono ?_
        rintro e w2 ⟨rfl, h2⟩
        rw [HK.out.2.2]
        clear hk c0 c3 hs h1
        obtain ⟨-, mb, lb, h3⟩ := h2.openH
        have c1 := (h3.hcell (k := 0) rfl).2.1
        go_wp2_with (at_mapUpdate; refine wpList_colSet rfl _ _ _ rfl h3.pick2 rfl p 1 r0 r2 (by unfold Wd; omega) rfl rfl ?_)
        intro w3 h4
        have c2 := h4.cell 1 rfl 2 rfl
        clear h2 h3 c1
        go_wp2_with fail
        refine (g_Push (h := { h with col := upd h.col p 1 }) h4.pick3 g8 _).mono ?_
        rintro e w4 ⟨⟨r, rfl⟩, h5⟩
        go_wp2
        go_end0
        refine ⟨rfl, St.closeH (mb := mb) (lb := lb) ?_ okE⟩
        rw [push_form]
        exact h5.pick3.pick3.swap2
      · have hE : hShade p h = h := by unfold hShade hWhite; rw [decide_eq_false hc]; simp
        rw [hE]
        have hne : (h.col p == 0) = false := by simpa using hc
        have HK := Lib.hid (And.intro hk (And.intro h1 hcl))
        have HN := Lib.hid hne
        clear ho hO hE ok h1 hk hcl hc hne
        obtain ⟨ok, mb0, lb0, h2⟩ := hs.openH
        have c0 := (h2.hcell (k := 0) rfl).1
        have c3 := (h2.hcell (k := 0) rfl).2.2.2.1
        rw [HK.out.2.1] at c3
        clear h2 ok
        go_enter Try.func41, Try.ntmps41
        go_wp2_with fail
        refine (ha_Kind hs _).mono ?_
        rintro e w1 ⟨rfl, h1⟩
        have hk := HK.out.1
        go_wp2_with fail
        refine (h_Colour h1 _ hp).mono ?_
        rintro e w2 ⟨rfl, h2⟩
        rw [HK.out.2.2]
        have hn1 := HN.out
        have hn2 : (h.col p != 0) = true := by simp [bne, hn1]
        go_wp2
        ((try simp only [Exit.inBlock, Exit.then]); refine bodyPost_ret (results_none rfl _ _ _) rfl ?_)
        exact ⟨rfl, h2⟩
  · have hE : hShade p h = h := by unfold hShade hWhite; rw [decide_eq_false h1]; simp
    rw [hE]
    obtain ⟨ok, mb, lb, h2⟩ := hs.openH
    have c3 := (h2.hcell (k := 0) rfl).2.2.2.1
    have hn1 : (h.ph == 1) = false := by simpa using h1
    have hn2 : (h.ph != 1) = true := by simp [bne, hn1]
    clear h2 ok ho hE h1
    generalize h.ph = ph at *
    go_enter Try.func41, Try.ntmps41
    go_wp2
    ((try simp only [Exit.inBlock, Exit.then]); refine bodyPost_ret (results_none rfl _ _ _) rfl ?_)
    exact ⟨rfl, hs⟩

theorem ha_Store (hs : St w0 F0 (HeapP b ab h :: ps) w) (p i x : Int) (hx : Wd x) :
    Calls Try.prog 61 #[.pointer (some ⟨ab, 0, none⟩), .int .i64 p, .int .i64 i, .int .i64 x] w fun e w' => e = .returned (.int .i64 (aErr p i h.a)) ∧ St w0 F0 (HeapP b ab { h with a := aStoreS p i x h.a } :: ps) w' := by
  obtain ⟨ok, mb, lb, hs⟩ := hs.openH
  exact (a_Store hs.pick1 p i x).mono fun e w' ⟨he, k⟩ => ⟨he, St.closeH (h := { h with a := aStoreS p i x h.a }) k.pick1 (ok.storeA p i hx)⟩
theorem vAt_wd {x : Int} (hx : Wd x) : Wd (vAt x) := by unfold Wd at *; unfold vAt; split <;> omega

theorem h_Store (hs : St w0 F0 (HeapP b ab h :: ps) w) (p i x : Int) (hx : Wd x) :
    Calls Try.prog 35 #[.pointer (some ⟨b, 0, none⟩), .int .i64 p, .int .i64 i, .int .i64 x] w fun e w' => e = .returned (.int .i64 (aErr p i h.a)) ∧ St w0 F0 (HeapP b ab (hStore p i x h) :: ps) w' := by
  unfold hStore
  by_cases he : aErr p i h.a = 0
  · rw [if_pos he, he]
    have HE := Lib.hid he
    clear he
    unfold hShadeW
    cases hv : vIsPtr x with
    | false =>
      simp only [Bool.false_eq_true, if_false]
      have HV := Lib.hid hv
      clear hv
      go_enter Try.func35, Try.ntmps35
      go_wp2_with fail
      refine (h_Arena hs).mono ?_
      rintro e w1 ⟨rfl, rfl⟩
      go_wp2_with fail
      refine (ha_Store hs _ _ _ hx).mono ?_
      rintro e w1 ⟨rfl, h1⟩
      rw [HE.out]
      go_wp2_with fail
      refine (value_IsPtr _ _).mono ?_
      rintro e w2 ⟨rfl, rfl⟩
      rw [HV.out]
      go_wp2
      go_ret
      exact ⟨rfl, h1⟩
    | true =>
      simp only [if_true]
      have HV := Lib.hid hv
      clear hv
      go_enter Try.func35, Try.ntmps35
      go_wp2_with fail
      refine (h_Arena hs).mono ?_
      rintro e w1 ⟨rfl, rfl⟩
      go_wp2_with fail
      refine (ha_Store hs _ _ _ hx).mono ?_
      rintro e w1 ⟨rfl, h1⟩
      rw [HE.out]
      go_wp2_with fail
      refine (value_IsPtr _ _).mono ?_
      rintro e w2 ⟨rfl, rfl⟩
      rw [HV.out]
      go_wp2_with fail
      refine (value_At _ hx _).mono ?_
      rintro e w2 ⟨rfl, rfl⟩
      go_wp2_with fail
      refine (h_Shade h1 _ (vAt_wd hx)).mono ?_
      rintro e w2 ⟨rfl, h2⟩
      go_wp2
      go_ret
      exact ⟨rfl, h2⟩
  · rw [if_neg he]
    have he1 : (aErr p i h.a == 0) = false := by simpa using he
    have he2 : (aErr p i h.a != 0) = true := by simp [bne, he1]
    have HE := Lib.hid (And.intro he1 he2)
    have hsn : aStoreS p i x h.a = h.a := store_no he
    have HSN := Lib.hid hsn
    clear he he1 he2 hsn
    go_enter Try.func35, Try.ntmps35
    go_wp2_with fail
    refine (h_Arena hs).mono ?_
    rintro e w1 ⟨rfl, rfl⟩
    go_wp2_with fail
    refine (ha_Store hs _ _ _ hx).mono ?_
    rintro e w1 ⟨rfl, h1⟩
    rw [HSN.out] at h1
    obtain ⟨he1, he2⟩ := HE.out
    go_wp2
    go_ret
    exact ⟨rfl, h1⟩

theorem upd_upd (f : Int → Int) (p a b : Int) : upd (upd f p a) p b = upd f p b := by funext x; unfold upd; split <;> rfl

set_option maxHeartbeats 1000000 in
theorem h_Alloc (hs : St w0 F0 (HeapP b ab h :: ps) w) (kind n : Int) :
    Calls Try.prog 29 #[.pointer (some ⟨b, 0, none⟩), .int .i64 kind, .int .i64 n] w fun e w' => e = .returned (aAllocV kind n h.a) ∧ St w0 F0 (HeapP b ab (hAlloc kind n h) :: ps) w' := by
  obtain ⟨ok, mb, lb, h2⟩ := hs.openH
  have okE := ok.alloc kind n
  have c0 := (h2.hcell (k := 0) rfl).1
  clear hs
  by_cases hbad : ∃ er : Int, aAllocV kind n h.a = .tuple #[.int .i64 0, .int .i64 er] ∧ ¬ er = 0
  · obtain ⟨er, hv, her⟩ := hbad
    have hst : aAllocS kind n h.a = h.a ∧ hAlloc kind n h = h := by
      unfold aAllocV at hv
      unfold aAllocS hAlloc
      split
      · exact ⟨rfl, rfl⟩
      · rename_i hb
        rw [if_neg hb] at hv
        cases ha : aAlloc kind n h.a with
        | none => exact ⟨rfl, rfl⟩
        | some x => rw [ha] at hv; simp at hv; exact absurd hv.2.symm her
    rw [hst.2, hv]
    have he1 : (er == 0) = false := by simpa using her
    have he2 : (er != 0) = true := by simp [bne, he1]
    have HV := Lib.hid (And.intro hv hst.1)
    clear hv hst her okE
    go_enter Try.func29, Try.ntmps29
    go_wp2_with fail
    refine (a_Alloc h2.pick1 _ _).mono ?_
    rintro e w1 ⟨rfl, h3⟩
    rw [HV.out.1]
    rw [HV.out.2] at h3
    go_wp2
    go_ret2
    exact ⟨rfl, h3.pick1.closeH ok⟩
  · have hgood : ∃ (p : Nat) (s' : ASt), aBad kind n = false ∧ aAlloc kind n h.a = some (p, s') := by
      unfold aAllocV at hbad
      cases hb : aBad kind n with
      | true => rw [hb] at hbad; exact absurd ⟨1, rfl, by omega⟩ hbad
      | false =>
        cases ha : aAlloc kind n h.a with
        | none => rw [hb, ha] at hbad; exact absurd ⟨9, rfl, by omega⟩ hbad
        | some x => exact ⟨x.1, x.2, rfl, rfl⟩
    obtain ⟨p, s', hb, ha⟩ := hgood
    have m := alloc_more ok.a hb ha
    have hlt := m.lt
    have p4 : (p : Int) < 4096 := by have := ok.len; have := ok.a.len; omega
    have p0 : (0 : Int) ≤ p := by omega
    have hv : aAllocV kind n h.a = .tuple #[.int .i64 p, .int .i64 0] := by unfold aAllocV; rw [hb, ha]; rfl
    have hS : aAllocS kind n h.a = s' := by unfold aAllocS; rw [hb, ha]; rfl
    have hH : hAlloc kind n h = { h with a := s', col := upd h.col p (if h.ph = 0 then 0 else 2) } := by unfold hAlloc; rw [hb, ha]; rfl
    rw [hH] at okE
    rw [hH, hv]
    have HV := Lib.hid (And.intro hv hS)
    clear hv hS hH hb ha m hlt hbad ok
    by_cases h0 : h.ph = 0
    · rw [if_pos h0] at okE ⊢
      have H0 := Lib.hid h0
      clear h0
      go_enter Try.func29, Try.ntmps29
      go_wp2_with fail
      refine (a_Alloc h2.pick1 _ _).mono ?_
      rintro e w1 ⟨rfl, h3⟩
      rw [HV.out.1]
      rw [HV.out.2] at h3
      have c1 := h3.cell 1 rfl 1 rfl
      clear h2 c0
      go_wp2_with (at_mapUpdate; refine wpList_colSet rfl _ _ _ rfl h3.pick2 rfl p 2 p0 p4 (by unfold Wd; omega) rfl rfl ?_)
      intro w2 h4
      have c1 := h4.cell 2 rfl 1 rfl
      have c3 := h4.cell 2 rfl 3 rfl
      rw [H0.out] at c3
      clear h3
      go_wp2_with (at_mapUpdate; refine wpList_colSet rfl _ _ _ rfl h4 rfl p 0 p0 p4 (by unfold Wd; omega) rfl rfl ?_)
      intro w3 h5
      go_wp2
      go_ret2
      refine ⟨rfl, St.closeH (mb := mb) (lb := lb) (h := { h with a := s', col := upd h.col p 0 }) ?_ okE⟩
      have h6 : St w0 F0 (heapB b ab mb lb h :: ColP mb (upd (upd h.col p 2) p 0) :: ArenaP ab s' :: GreyP lb h.g h.ov :: ps) w3 := h5.pick2
      rw [upd_upd] at h6
      exact h6.swap1
    · rw [if_neg h0] at okE ⊢
      have he1 : (h.ph == 0) = false := by simpa using h0
      have H0 := Lib.hid he1
      clear h0 he1
      go_enter Try.func29, Try.ntmps29
      go_wp2_with fail
      refine (a_Alloc h2.pick1 _ _).mono ?_
      rintro e w1 ⟨rfl, h3⟩
      rw [HV.out.1]
      rw [HV.out.2] at h3
      have c1 := h3.cell 1 rfl 1 rfl
      clear h2 c0
      go_wp2_with (at_mapUpdate; refine wpList_colSet rfl _ _ _ rfl h3.pick2 rfl p 2 p0 p4 (by unfold Wd; omega) rfl rfl ?_)
      intro w2 h4
      have c3 := h4.cell 2 rfl 3 rfl
      have he1 := H0.out
      clear h3
      go_wp2
      go_ret2
      exact ⟨rfl, St.closeH (mb := mb) (lb := lb) (h := { h with a := s', col := upd h.col p 2 }) (by
        have h6 : St w0 F0 (heapB b ab mb lb h :: ColP mb (upd h.col p 2) :: ArenaP ab s' :: GreyP lb h.g h.ov :: ps) w2 := h4.pick2
        exact h6.swap1) okE⟩
end
end Go.Proofs.Ytdnelekoplkkcaa
