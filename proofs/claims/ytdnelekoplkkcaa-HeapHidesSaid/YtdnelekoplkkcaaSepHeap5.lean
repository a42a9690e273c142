/- Package heap: next, scan, lost. -/
import Derived.Test.YtdnelekoplkkcaaSepHeap4
namespace Go.Proofs.Ytdnelekoplkkcaa
open Go.RowKit
set_option linter.unusedVariables false
theorem find_at {α : Type} {q : α → Bool} {l : List α} {k : Nat} (hk : k < l.length) (h : ∀ x ∈ l.take k, q x = false) (hq : q l[k] = true) : l.find? q = some l[k] := by
  rw [List.find?_eq_some_iff_append]
  refine ⟨hq, l.take k, l.drop (k + 1), ?_, fun x hx => by simp [h x hx]⟩
  have := List.take_append_drop k l
  rw [List.drop_eq_getElem_cons hk] at this
  exact this.symm
theorem find_no {α : Type} {q : α → Bool} {l : List α} (h : ∀ x ∈ l, q x = false) : l.find? q = none := by
  rw [List.find?_eq_none]; intro x hx; simp [h x hx]
theorem take_all {q : Int → Bool} {l : List Int} {k : Nat} (hk : k < l.length) (h : ∀ x ∈ l.take k, q x = false) (hq : q l[k] = false) : ∀ x ∈ l.take (k + 1), q x = false := by
  intro x hx
  rw [List.take_succ_eq_append_getElem hk] at hx
  rcases List.mem_append.1 hx with hx | hx
  · exact h x hx
  · simp at hx; subst hx; exact hq
theorem hObjs_wd {s : ASt} (hok : AOk s) (hl : s.l.length ≤ 128) : ∀ x ∈ hObjs s, 0 ≤ x ∧ x < 4096 := by
  intro x hx
  obtain ⟨r0, r1⟩ := isObj_range (hObjs_mem hx)
  have := hok.len
  omega
theorem hObjs_len {s : ASt} : (hObjs s).length ≤ s.c.length := by
  unfold hObjs aObjects
  rw [List.length_map]
  exact Nat.le_trans (List.length_filter_le _ _) (by simp)
section
variable {w0 w : World} {F0 : List Nat} {ps : List Piece} {b ab mb lb : Nat} {h : HSt}
theorem g_Pop_none {ov : Bool} (hs : St w0 F0 (GreyP lb [] ov :: ps) w) :
    Calls Try.prog 94 #[.pointer (some ⟨lb, 0, none⟩)] w fun e w' => e = .returned (.tuple #[.int .i64 0, .bool false]) ∧ St w0 F0 (GreyP lb [] ov :: ps) w' :=
  hs.call (p' := GreyP lb [] ov) fun F h1 => grey_Pop_none _ _ _ _ h1
theorem g_Pop {L : List Int} {x : Int} {ov : Bool} (hs : St w0 F0 (GreyP lb (L ++ [x]) ov :: ps) w) :
    Calls Try.prog 94 #[.pointer (some ⟨lb, 0, none⟩)] w fun e w' => e = .returned (.tuple #[.int .i64 x, .bool true]) ∧ St w0 F0 (GreyP lb L ov :: ps) w' :=
  hs.call (p' := GreyP lb L ov) fun F h1 => grey_Pop _ _ _ _ _ _ h1
theorem g_Over {L : List Int} {ov : Bool} (hs : St w0 F0 (GreyP lb L ov :: ps) w) :
    Calls Try.prog 95 #[.pointer (some ⟨lb, 0, none⟩)] w fun e w' => e = .returned (.bool ov) ∧ w = w' := by
  obtain ⟨F, h1⟩ := hs.head; exact grey_Over _ _ _ _ _ h1
theorem g_Settle {L : List Int} {ov : Bool} (hs : St w0 F0 (GreyP lb L ov :: ps) w) :
    Calls Try.prog 96 #[.pointer (some ⟨lb, 0, none⟩)] w fun e w' => e = .returned (.tuple #[]) ∧ St w0 F0 (GreyP lb L false :: ps) w' :=
  hs.call (p' := GreyP lb L false) fun F h1 => grey_Settle _ _ _ _ _ h1

def nextV (o : Option Int) : Value := match o with | some p => .tuple #[.int .i64 p, .bool true] | none => .tuple #[.int .i64 0, .bool false]
set_option maxHeartbeats 2000000 in
theorem h_next (hs : St w0 F0 (HeapP b ab h :: ps) w) :
    Calls Try.prog 76 #[.pointer (some ⟨b, 0, none⟩)] w fun e w' => e = .returned (nextV (hNext h).1) ∧ St w0 F0 (HeapP b ab (hNext h).2 :: ps) w' := by
  obtain ⟨okn, -, -, -, -⟩ := hs.heapOk.next
  obtain ⟨ok, mb, lb, h1⟩ := hs.openH
  have c2 := (h1.hcell (k := 0) rfl).2.2.1
  rcases List.eq_nil_or_concat h.g with hg | ⟨L, x, hg⟩
  · cases hov : h.ov with
    | false =>
      have hn : hNext h = (none, h) := by unfold hNext; rw [hg]; simp only [List.getLast?_nil]; rw [hov]; rfl
      rw [hn]
      rw [hg, hov] at h1
      have HG := Lib.hid (And.intro hg hov)
      clear hs hn okn hg hov
      go_enter Try.func76, Try.ntmps76
      go_wp2_with fail
      refine (g_Pop_none h1.pick3).mono ?_
      rintro e w1 ⟨rfl, h2⟩
      have c2 := (St.hcell (k := 1) h2 rfl).2.2.1
      clear h1
      go_wp2_with fail
      refine (g_Over h2).mono ?_
      rintro e w1 ⟨rfl, rfl⟩
      go_wp2
      go_ret2
      refine ⟨rfl, St.closeH (mb := mb) (lb := lb) ?_ ok⟩
      rw [HG.out.1, HG.out.2]
      exact h2.back3
    | true =>
      rw [hg, hov] at h1
      obtain ⟨n, hnl⟩ : ∃ n, (hObjs h.a).length = n := ⟨_, rfl⟩
      have hn4 : n ≤ 4096 := by have := hObjs_len (s := h.a); have := ok.len; have := ok.a.len; omega
      have HO := Lib.hid (hObjs_wd ok.a ok.len.2)
      have HN := Lib.hid hnl
      have HG := Lib.hid (And.intro hg hov)
      have OK := Lib.hid (And.intro ok okn)
      clear hs okn hg hov hnl ok
      go_enter Try.func76, Try.ntmps76
      go_wp2_with fail
      refine (g_Pop_none h1.pick3).mono ?_
      rintro e w1 ⟨rfl, h2⟩
      have c2 := (St.hcell (k := 1) h2 rfl).2.2.1
      have c0 := (St.hcell (k := 1) h2 rfl).1
      clear h1
      go_wp2_with fail
      refine (g_Over h2).mono ?_
      rintro e w1 ⟨rfl, rfl⟩
      have h3 : St w0 F0 (HeapP b ab h :: ps) w1 := St.closeH (mb := mb) (lb := lb) (by rw [HG.out.1, HG.out.2]; exact h2.back3) OK.out.1
      clear h2 c2
      go_wp2_with fail
      refine (ha_Objects h3).mono ?_
      rintro e w2 ⟨v, rfl, h4⟩
      obtain ⟨_, pv, cv, rfl, hp⟩ := h4.shape 0 rfl
      rw [HN.out] at h4 hp
      rw [HN.out]
      have HP := Lib.hid hp
      clear h3 c0 hp
      go_wp2
      go_loopw [30] (fun iv wr => ∃ k : Nat, k ≤ n ∧ iv = .int .i64 k ∧ St w0 F0 (RowP (.slice pv n cv) (hObjs h.a) :: HeapP b ab h :: ps) wr ∧ Hid (∀ x ∈ (hObjs h.a).take k, decide (h.col x = 1) = false)) (fun iv _ => n - (intOf iv).toNat)
      case atStart => exact ⟨0, by omega, rfl, h4, by intro x hx; simp at hx⟩
      case round =>
        obtain ⟨k, hk, rfl, h5, hall⟩ := hrel
        clear h4
        by_cases hlt : k < n
        · obtain ⟨g, rfl⟩ := HP.out.resolve_left (by omega)
          have hkl : k < (hObjs h.a).length := by rw [HN.out]; exact hlt
          have cc := h5.num 0 rfl k hkl
          obtain ⟨x0, x1⟩ := HO.out _ (List.getElem_mem hkl)
          have hob := hObjs_mem (List.getElem_mem hkl)
          have hcol : hColour h (hObjs h.a)[k] = h.col (hObjs h.a)[k] := by unfold hColour; rw [hob]; rfl
          have HC := Lib.hid hcol
          obtain ⟨x, hx⟩ : ∃ x, (hObjs h.a)[k] = x := ⟨_, rfl⟩
          rw [hx] at cc x0 x1 HC
          have HX := Lib.hid hx
          have i0 : (0 : Int) ≤ k := by omega
          have i1 : (k : Int) < n := by omega
          clear hob hcol hx
          by_cases h1c : h.col x = 1
          · have H1 := Lib.hid h1c
            clear h1c
            go_wp2_with fail
            refine (h_Colour h5.pick1 x (by unfold Wd; omega)).mono ?_
            rintro e w3 ⟨rfl, h6⟩
            rw [HC.out, H1.out]
            go_wp2
            go_ret2
            have hf : hNext h = (some x, h) := by
              unfold hNext; rw [HG.out.1]; simp only [List.getLast?_nil]; rw [HG.out.2]
              have := find_at (q := fun p => decide (h.col p = 1)) hkl hall.out (by rw [HX.out]; simpa using H1.out)
              rw [HX.out] at this
              rw [this]; rfl
            rw [hf]
            exact ⟨rfl, h6.pick1.drop⟩
          · have hb1 : (h.col x == 1) = false := by simpa using h1c
            have H1 := Lib.hid hb1
            have HT := Lib.hid (take_all (q := fun p => decide (h.col p = 1)) hkl hall.out (by rw [HX.out]; simpa using h1c))
            clear h1c hb1 hall
            go_wp2_with fail
            refine (h_Colour h5.pick1 x (by unfold Wd; omega)).mono ?_
            rintro e w3 ⟨rfl, h6⟩
            rw [HC.out]
            have hb1 := H1.out
            clear h5 cc
            go_wp2
            go_roundw
            case rel => exact ⟨k + 1, by omega, by go_num, h6.pick1, HT⟩
            case measure => simp [intOf]; omega
        · have hkn : k = n := by omega
          subst hkn
          obtain ⟨mb2, lb2, h6⟩ := (h5.pick1.openH).2
          have c2 := (h6.hcell (k := 0) rfl).2.2.1
          rw [HG.out.1, HG.out.2] at h6
          go_wp2_with fail
          refine (g_Settle h6.pick3).mono ?_
          rintro e w3 ⟨rfl, h7⟩
          clear h5 h6 c2
          go_wp2
          go_ret2
          have hf : hNext h = (none, { h with ov := false }) := by
            unfold hNext; rw [HG.out.1]; simp only [List.getLast?_nil]; rw [HG.out.2]
            have := find_no (q := fun p => decide (h.col p = 1)) (l := hObjs h.a) (by have := hall.out; rw [List.take_of_length_le (by rw [HN.out]; omega)] at this; exact this)
            rw [this]; rfl
          have okn := OK.out.2
          rw [hf] at okn ⊢
          refine ⟨rfl, St.closeH (mb := mb2) (lb := lb2) (h := { h with ov := false }) ?_ okn⟩
          rw [show ({ h with ov := false } : HSt).g = [] from HG.out.1]
          exact (h7.back3.pick4.drop)
  · rw [List.concat_eq_append] at hg
    have hn : hNext h = (some x, { h with g := L }) := by
      unfold hNext; rw [hg, List.getLast?_append]; simp
    rw [hn] at okn ⊢
    rw [hg] at h1
    clear hs hn hg
    go_enter Try.func76, Try.ntmps76
    go_wp2_with fail
    refine (g_Pop h1.pick3).mono ?_
    rintro e w1 ⟨rfl, h2⟩
    go_wp2
    go_ret2
    exact ⟨rfl, St.closeH (mb := mb) (lb := lb) (h := { h with g := L }) h2.back3 okn⟩

set_option maxHeartbeats 2000000 in
theorem h_scan (hs : St w0 F0 (HeapP b ab h :: ps) w) (p : Int) :
    Calls Try.prog 77 #[.pointer (some ⟨b, 0, none⟩), .int .i64 p] w fun e w' => e = .returned (.tuple #[]) ∧ St w0 F0 (HeapP b ab (hScan p h) :: ps) w' := by
  have ok := hs.heapOk
  have hko := isObj_kind ok.a p
  cases hO : isObj h.a p with
  | false =>
    have hsc : hScan p h = h := by unfold hScan; rw [hO]; rfl
    rw [hO] at hko
    have hk : aKind h.a.c p = 0 := by simpa using hko.symm
    rw [hsc]
    have HK := Lib.hid hk
    clear hsc hk hko hO ok
    go_enter Try.func77, Try.ntmps77
    go_wp2_with fail
    refine (h_object hs _).mono ?_
    rintro e w1 ⟨v, rfl, h1⟩
    rw [HK.out, show objV 0 p v = .tuple #[.agg #[.int .i64 0, .int .i64 0, .slice none 0 0], .bool false] from rfl]
    go_wp2
    ((try simp only [Exit.inBlock, Exit.then]); refine bodyPost_ret (results_none rfl _ _ _) rfl ?_)
    exact ⟨rfl, h1.drop.alloc _⟩
  | true =>
    have hsc : hScan p h = hBlack p (hShadesW (aWords h.a p) h) := by unfold hScan; rw [hO]; rfl
    rw [hO] at hko
    have hk : ¬ aKind h.a.c p = 0 := by simpa using hko.symm
    obtain ⟨r0, r1⟩ := isObj_range hO
    have r4 : p < 4096 := by have := ok.len; have := ok.a.len; omega
    have okE := ok.scan p
    rw [hsc] at okE ⊢
    have hwd := aWords_wd ok.wd p
    obtain ⟨n, hn⟩ : ∃ n, (aWords h.a p).length = n := ⟨_, rfl⟩
    have hn32 : n < 32 := by have := alen_bd ok.a p; rw [aWords_len] at hn; omega
    have HK := Lib.hid hk
    have HN := Lib.hid hn
    have HW := Lib.hid hwd
    have OKE := Lib.hid okE
    clear hsc hk hko hO ok okE hn hwd r1
    go_enter Try.func77, Try.ntmps77
    go_wp2_with fail
    refine (h_object hs _).mono ?_
    rintro e w1 ⟨v, rfl, h1⟩
    obtain ⟨_, pv, cv, rfl, hp⟩ := h1.shape 0 rfl
    rw [HN.out] at h1 hp
    rw [HN.out, show objV (aKind h.a.c p) p (.slice pv n cv) = .tuple #[.agg #[.int .i64 (aKind h.a.c p), .int .i64 p, .slice pv n cv], .bool true] by unfold objV; rw [if_neg HK.out]; rfl]
    have HP := Lib.hid hp
    have h2 := (h1.alloc (.cells #[.int .i64 (aKind h.a.c p), .int .i64 p, .slice pv n cv] 125))
    clear h1 hp hs
    go_wp2
    go_loopw [19] (fun iv wr => ∃ k : Nat, k ≤ n ∧ iv = .int .i64 k ∧ St w0 F0 (RowP (.slice pv n cv) (aWords h.a p) :: HeapP b ab (hShadesW ((aWords h.a p).take k) h) :: ps) wr) (fun iv _ => n - (intOf iv).toNat)
    case atStart => exact ⟨0, by omega, rfl, h2⟩
    case round =>
      obtain ⟨k, hk, rfl, h3⟩ := hrel
      clear h2
      by_cases hlt : k < n
      · obtain ⟨g, rfl⟩ := HP.out.resolve_left (by omega)
        have hkl : k < (aWords h.a p).length := by rw [HN.out]; exact hlt
        have cc := h3.num 0 rfl k hkl
        have hw := HW.out _ (List.getElem_mem hkl)
        have HS := Lib.hid (show hShadesW ((aWords h.a p).take (k + 1)) h = hShadeW (aWords h.a p)[k] (hShadesW ((aWords h.a p).take k) h) by rw [List.take_succ_eq_append_getElem hkl, shadesW_snoc])
        have i0 : (0 : Int) ≤ k := by omega
        have i1 : (k : Int) < n := by omega
        generalize (aWords h.a p)[k] = x at *
        cases hv : vIsPtr x with
        | false =>
          have HV := Lib.hid hv
          clear hv
          go_wp2_with fail
          refine (value_IsPtr _ _).mono ?_
          rintro e w3 ⟨rfl, rfl⟩
          rw [HV.out]
          go_wp2
          go_roundw
          case rel => exact ⟨k + 1, by omega, by go_num, by rw [HS.out]; unfold hShadeW; rw [HV.out]; exact h3⟩
          case measure => simp [intOf]; omega
        | true =>
          have HV := Lib.hid hv
          clear hv
          go_wp2_with fail
          refine (value_IsPtr _ _).mono ?_
          rintro e w3 ⟨rfl, rfl⟩
          rw [HV.out]
          go_wp2_with fail
          refine (value_At _ hw _).mono ?_
          rintro e w3 ⟨rfl, rfl⟩
          go_wp2_with fail
          refine (h_Shade h3.pick1 _ (vAt_wd hw)).mono ?_
          rintro e w4 ⟨rfl, h4⟩
          clear h3 cc
          go_wp2
          go_roundw
          case rel => exact ⟨k + 1, by omega, by go_num, by rw [HS.out]; unfold hShadeW; rw [HV.out]; exact h4.pick1⟩
          case measure => simp [intOf]; omega
      · have hkn : k = n := by omega
        subst hkn
        rw [List.take_of_length_le (by rw [HN.out]; omega)] at h3
        obtain ⟨-, mb, lb, h4⟩ := h3.pick1.openH
        have c1 := (h4.hcell (k := 0) rfl).2.1
        clear h3
        go_wp2_with (at_mapUpdate; refine wpList_colSet rfl _ _ _ rfl h4.pick2 rfl p 2 r0 r4 (by unfold Wd; omega) rfl rfl ?_)
        intro w5 h5
        go_wp2
        go_end0
        refine ⟨rfl, St.closeH (mb := mb) (lb := lb) (h := hBlack p (hShadesW (aWords h.a p) h)) ?_ OKE.out⟩
        exact h5.back2.pick4.drop
end
end Go.Proofs.Ytdnelekoplkkcaa
