/- SepHeap7 SepHeap8 -/
import Derived.Test.YtdnelekoplkkcaaKSepHeap
import Derived.Deep.QuietTactic
import Derived.BigQuiet
/- Package heap: lost, mark. -/
namespace Go.Proofs.Ytdnelekoplkkcaa
open Go.RowKit
set_option linter.unusedVariables false
section
variable {w0 w : World} {F0 : List Nat} {ps : List Piece} {b ab mb lb : Nat} {h : HSt}
def zeroThing : Value := .agg #[.int .i64 0, .int .i64 0, .slice none 0 0]
def LostPost (w0 : World) (F0 : List Nat) (b ab : Nat) (h : HSt) (ps : List Piece) (e : Ending) (w' : World) : Prop :=
  (∃ p v, hLost h = some p ∧ e = .returned (.tuple #[thingV 5 p v, .bool true]) ∧ St w0 F0 (RowP v (aWords h.a p) :: HeapP b ab h :: ps) w') ∨
  (hLost h = none ∧ e = .returned (.tuple #[zeroThing, .bool false]) ∧ St w0 F0 (HeapP b ab h :: ps) w')
theorem isLost_false {h : HSt} {p : Int} (hh : ¬ aKind h.a.c p = 5 ∨ ¬ h.col p = 0 ∨ ¬ 1 < (aWords h.a p).length ∨ (aWords h.a p).getD 1 0 = 0) : isLost h p = false := by
  unfold isLost
  rcases hh with hh | hh | hh | hh
  · rw [decide_eq_false hh]; simp
  · rw [decide_eq_false hh]; simp
  · rw [decide_eq_false hh]; simp
  · rw [hh]; simp
set_option maxRecDepth 100000 in
set_option maxHeartbeats 8000000 in
theorem h_lost (hs : St w0 F0 (HeapP b ab h :: ps) w) :
    Calls Try.prog 78 #[.pointer (some ⟨b, 0, none⟩)] w (LostPost w0 F0 b ab h ps) := by
  have ok := hs.heapOk
  obtain ⟨n, hnl⟩ : ∃ n, (hObjs h.a).length = n := ⟨_, rfl⟩
  have hn4 : n ≤ 4096 := by have := hObjs_len (s := h.a); have := ok.len; have := ok.a.len; omega
  have HO := Lib.hid (hObjs_wd ok.a ok.len.2)
  have HN := Lib.hid hnl
  have OK := Lib.hid ok
  obtain ⟨rb, hrb⟩ : ∃ rb, w.heap.size = rb := ⟨_, rfl⟩
  have h1 := (hs.new #[.int .i64 0, .int .i64 0, .slice none 0 0] 125).pick1
  rw [hrb] at h1
  obtain ⟨mb0, lb0, h2⟩ := h1.openH.2
  have c0 := (h2.hcell (k := 0) rfl).1
  clear hs hnl ok h2
  go_enter Try.func78, Try.ntmps78
  go_wp2_with fail
  refine (ha_Objects h1).mono ?_
  rintro e w2 ⟨v, rfl, h4⟩
  obtain ⟨_, pv, cv, rfl, hp⟩ := h4.shape 0 rfl
  rw [HN.out] at h4 hp
  rw [HN.out]
  have HP := Lib.hid hp
  clear h1 c0 hp hrb
  go_wp2
  go_loopw [14] (fun iv wr => ∃ k : Nat, k ≤ n ∧ iv = .int .i64 k ∧ St w0 F0 (RowP (.slice pv n cv) (hObjs h.a) :: HeapP b ab h :: BlkP rb 125 #[.int .i64 0, .int .i64 0, .slice none 0 0] :: ps) wr ∧ Hid (∀ x ∈ (hObjs h.a).take k, isLost h x = false)) (fun iv _ => n - (intOf iv).toNat)
  case atStart => exact ⟨0, by omega, rfl, h4, by intro x hx; simp at hx⟩
  case round =>
    obtain ⟨k, hk, rfl, h5, hall⟩ := hrel
    clear h4
    by_cases hlt : k < n
    · obtain ⟨g, rfl⟩ := HP.out.resolve_left (by omega)
      have hkl : k < (hObjs h.a).length := by rw [HN.out]; exact hlt
      have cc := h5.num 0 rfl k hkl
      obtain ⟨x0, x1⟩ := HO.out _ (List.getElem_mem hkl)
      have hob := hObjs_mem (List.getElem_mem hkl)
      have hko := isObj_kind OK.out.a (hObjs h.a)[k]
      have hcol : hColour h (hObjs h.a)[k] = h.col (hObjs h.a)[k] := by unfold hColour; rw [hob]; rfl
      have hk0 : ¬ aKind h.a.c (hObjs h.a)[k] = 0 := by rw [hob] at hko; simpa using hko.symm
      obtain ⟨x, hx⟩ : ∃ x, (hObjs h.a)[k] = x := ⟨_, rfl⟩
      have HT := Lib.hid (fun (hq : isLost h x = false) => take_all (q := isLost h) hkl hall.out (by rw [hx]; exact hq))
      have HF := Lib.hid (fun (hq : isLost h x = true) => (show hLost h = some x by unfold hLost; have := find_at (q := isLost h) hkl hall.out (by rw [hx]; exact hq); rw [hx] at this; exact this))
      have hwx : Wd x := by unfold Wd; rw [← hx]; omega
      rw [hx] at cc hcol hk0 x0 x1
      have HC := Lib.hid hcol
      have HK0 := Lib.hid hk0
      have i0 : (0 : Int) ≤ k := by omega
      have i1 : (k : Int) < n := by omega
      clear hob hko hcol hx hk0 hall hkl
      by_cases k5 : aKind h.a.c x = 5
      · have K5 := Lib.hid k5
        clear k5
        go_wp2_with fail
        refine (h_look h5.pick1 x).mono ?_
        rintro e w3 ⟨vw, rfl, h6⟩
        obtain ⟨_, pw, cw, rfl, hpw⟩ := h6.shape 0 rfl
        obtain ⟨m, hm⟩ : ∃ m, (aWords h.a x).length = m := ⟨_, rfl⟩
        have hm32 : m < 32 := by have := alen_bd OK.out.a x; rw [aWords_len] at hm; omega
        rw [hm] at h6 hpw
        rw [K5.out, hm, show lookV 5 x (.slice pw m cw) = .iface 145 (.agg #[.int .i64 5, .int .i64 x, .slice pw m cw]) from rfl]
        have HM := Lib.hid hm
        have HPW := Lib.hid hpw
        obtain ⟨bb, hbb⟩ : ∃ bb, w3.heap.size = bb := ⟨_, rfl⟩
        have h7 := h6.new #[.int .i64 5, .int .i64 x, .slice pw m cw] 145
        rw [hbb] at h7
        clear h5 h6 cc hm hpw
        by_cases c0 : h.col x = 0
        · have C0 := Lib.hid c0
          by_cases hm1 : 1 < m
          · obtain ⟨gw, rfl⟩ := HPW.out.resolve_left (by omega)
            have hml : 1 < (aWords h.a x).length := by rw [HM.out]; exact hm1
            obtain ⟨y, hy⟩ : ∃ y, (aWords h.a x)[1] = y := ⟨_, rfl⟩
            have hyd : (aWords h.a x).getD 1 0 = y := by rw [List.getD_eq_getElem?_getD, List.getElem?_eq_getElem hml, hy]; rfl
            have HY := Lib.hid (And.intro hy (And.intro hyd hml))
            have mi : (1 : Int) < (m : Int) := by omega
            clear c0 hy hyd
            go_wp2_with fail
            refine (h_Colour (h7.pick2) x hwx).mono ?_
            rintro e w4 ⟨rfl, h8⟩
            rw [HC.out, C0.out]
            have e2 : w4.cell? ⟨bb, 2, none⟩ = some (.slice (some ⟨gw, 0, none⟩) m cw) := h8.cell 1 rfl 2 rfl
            have e3 := h8.num 2 rfl 1 HY.out.2.2
            rw [HY.out.1] at e3
            clear h7
            by_cases y0 : y = 0
            · subst y0
              go_wp2
              go_roundw
              case rel => exact ⟨k + 1, by omega, by go_num, h8.pick1.drop.pick1.drop.pick1, HT.out (isLost_false (.inr (.inr (.inr HY.out.2.1))))⟩
              case measure => simp [intOf]; omega
            · have yb : (y == 0) = false := by simpa using y0
              have yb2 : (y != 0) = true := by simp [bne, yb]
              have hlost := HF.out (by unfold isLost; rw [K5.out, C0.out, HY.out.2.1, HM.out, decide_eq_true hm1]; simp [y0])
              have HL := Lib.hid hlost
              have a0 : w4.cell? ⟨bb, 0, none⟩ = some (.int .i64 5) := h8.cell 1 rfl 0 rfl
              have a1 : w4.cell? ⟨bb, 1, none⟩ = some (.int .i64 x) := h8.cell 1 rfl 1 rfl
              have r0 : w4.cell? ⟨rb, 0, none⟩ = some (.int .i64 0) := h8.cell 4 rfl 0 rfl
              have r1 : w4.cell? ⟨rb, 1, none⟩ = some (.int .i64 0) := h8.cell 4 rfl 1 rfl
              have r2 : w4.cell? ⟨rb, 2, none⟩ = some (.slice none 0 0) := h8.cell 4 rfl 2 rfl
              have f0 := h8.free 4 rfl 0
              have f1 := h8.free 4 rfl 1
              have f2 := h8.free 4 rfl 2
              clear y0 hlost
              go_wp2
              (try simp only [Exit.inBlock, Exit.then])
              refine bodyPost_ret (v := .tuple #[.agg #[.int .i64 5, .int .i64 x, .slice (some ⟨gw, 0, none⟩) m cw], .bool true]) (by rw [results_cell_tmp rfl]; go_simp) rfl ?_
              refine .inl ⟨x, _, HL.out, rfl, ?_⟩
              exact (((h8.pick4.set 0 _).set 1 _).set 2 _).drop.pick1.drop.pick1.pick2.drop
          · have hmi : ¬ (1 : Int) < (m : Int) := by omega
            clear c0
            go_wp2_with fail
            refine (h_Colour (h7.pick2) x hwx).mono ?_
            rintro e w4 ⟨rfl, h8⟩
            rw [HC.out, C0.out]
            have e2 : w4.cell? ⟨bb, 2, none⟩ = some (.slice pw m cw) := h8.cell 1 rfl 2 rfl
            clear h7
            go_wp2
            go_roundw
            case rel => exact ⟨k + 1, by omega, by go_num, h8.pick1.drop.pick1.drop.pick1, HT.out (isLost_false (.inr (.inr (.inl (by rw [HM.out]; exact hm1)))))⟩
            case measure => simp [intOf]; omega
        · have cb : (h.col x == 0) = false := by simpa using c0
          have CB := Lib.hid (And.intro c0 cb)
          clear c0 cb
          go_wp2_with fail
          refine (h_Colour (h7.pick2) x hwx).mono ?_
          rintro e w4 ⟨rfl, h8⟩
          rw [HC.out]
          have cb := CB.out.2
          clear h7
          go_wp2
          go_roundw
          case rel => exact ⟨k + 1, by omega, by go_num, h8.pick1.drop.pick1.drop.pick1, HT.out (isLost_false (.inr (.inl CB.out.1)))⟩
          case measure => simp [intOf]; omega
      · have K5 := Lib.hid k5
        clear k5
        go_wp2_with fail
        refine (h_look h5.pick1 x).mono ?_
        rintro e w3 ⟨vw, rfl, h6⟩
        rw [show lookV (aKind h.a.c x) x vw = .iface 125 (thingV (aKind h.a.c x) x vw) by unfold lookV; rw [if_neg HK0.out, if_neg K5.out]]
        have h7 := (h6.alloc (.cells #[.int .i64 0, .int .i64 0, .slice none 0 0] 145))
        clear h5 h6 cc
        go_wp2
        go_roundw
        case rel => exact ⟨k + 1, by omega, by go_num, h7.drop.pick1, HT.out (isLost_false (.inl K5.out))⟩
        case measure => simp [intOf]; omega
    · have hkn : k = n := by omega
      subst hkn
      have hlost : hLost h = none := find_no (q := isLost h) (l := hObjs h.a) (by have := hall.out; rw [List.take_of_length_le (by rw [HN.out]; omega)] at this; exact this)
      have HL := Lib.hid hlost
      have r0 : wr.cell? ⟨rb, 0, none⟩ = some (.int .i64 0) := h5.cell 2 rfl 0 rfl
      have r1 : wr.cell? ⟨rb, 1, none⟩ = some (.int .i64 0) := h5.cell 2 rfl 1 rfl
      have r2 : wr.cell? ⟨rb, 2, none⟩ = some (.slice none 0 0) := h5.cell 2 rfl 2 rfl
      have f0 := h5.free 2 rfl 0
      have f1 := h5.free 2 rfl 1
      have f2 := h5.free 2 rfl 2
      clear hlost
      go_wp2
      (try simp only [Exit.inBlock, Exit.then])
      refine bodyPost_ret (v := .tuple #[.agg #[.int .i64 0, .int .i64 0, .slice none 0 0], .bool false]) (by rw [results_cell_tmp rfl]; go_simp) rfl ?_
      refine .inr ⟨HL.out, rfl, ?_⟩
      exact (((h5.pick2.set 0 _).set 1 _).set 2 _).drop.drop

set_option maxRecDepth 100000 in
set_option maxHeartbeats 4000000 in
theorem h_mark (hs : St w0 F0 (HeapP b ab h :: ps) w) :
    Calls Try.prog 59 #[.pointer (some ⟨b, 0, none⟩)] w fun e w' => ∃ v, e = .returned v ∧ St w0 F0 (GonesP v (hMark h).1 :: HeapP b ab (hMark h).2 :: ps) w' := by
  have okE := hs.heapOk.mark
  cases hn : hNext h with
  | mk o h1 =>
  cases o with
  | some p =>
    have hm : hMark h = ([], hScan p h1) := by unfold hMark; rw [hn]
    have HN := Lib.hid hn
    rw [hm]
    clear hn hm okE
    go_enter Try.func59, Try.ntmps59
    go_wp2_with fail
    refine (h_next hs).mono ?_
    rintro e w1 ⟨rfl, h2⟩
    rw [HN.out] at h2 ⊢
    simp only [nextV]
    go_wp2_with fail
    refine (h_scan h2 _).mono ?_
    rintro e w2 ⟨rfl, h3⟩
    go_wp2
    go_ret
    exact ⟨_, rfl, h3.nilG⟩
  | none =>
    have HN := Lib.hid hn
    obtain ⟨okn, -, -, -, -⟩ := hs.heapOk.next
    rw [hn] at okn
    simp only at okn
    cases hl : hLost h1 with
    | some p =>
      have hm : hMark h = ([gnOf h1 true p], hShade p { h1 with a := aStoreS p 1 0 h1.a }) := by unfold hMark; rw [hn]; simp only; rw [hl]
      obtain ⟨l1, l2, -, -, -⟩ := lost_obj hl
      have hgn : gnOf h1 true p = ⟨5, p, aWords h1.a p, true⟩ := by unfold gnOf; rw [l2]
      rw [hgn] at hm
      obtain ⟨r0, r1⟩ := isObj_range l1
      have hwp : Wd p := by have := okn.len; have := okn.a.len; unfold Wd; omega
      have HL := Lib.hid hl
      have HM := Lib.hid hm
      rw [hm]
      clear hn hm hl okE l1 l2 r0 r1 hgn okn
      go_enter Try.func59, Try.ntmps59
      go_wp2_with fail
      refine (h_next hs).mono ?_
      rintro e w1 ⟨rfl, h2⟩
      rw [HN.out] at h2 ⊢
      simp only [nextV]
      go_wp2_with fail
      refine (h_lost h2).mono ?_
      rintro e w2 (⟨p', v, hp', rfl, h3⟩ | ⟨hno, rfl, h3⟩)
      · rw [HL.out] at hp'
        injection hp' with hp'
        subst hp'
        obtain ⟨_, pw, cw, rfl, -⟩ := h3.shape 0 rfl
        obtain ⟨m, hml⟩ : ∃ m, (aWords h1.a p).length = m := ⟨_, rfl⟩
        rw [hml] at h3 ⊢
        rw [show thingV 5 p (.slice pw m cw) = .agg #[.int .i64 5, .int .i64 p, .slice pw m cw] from rfl]
        obtain ⟨tb, htb⟩ : ∃ tb, w2.heap.size = tb := ⟨_, rfl⟩
        have h4 := h3.new #[.int .i64 5, .int .i64 p, .slice pw m cw] 125
        rw [htb] at h4
        clear hs h2 h3 hml
        go_wp2
        have h5 := h4.pick2.drew
        obtain ⟨mb2, lb2, h6⟩ := h5.openH.2
        have z0 := (h6.hcell (k := 0) rfl).1
        have z1 : (w2.alloc (.cells #[.int .i64 5, .int .i64 p, .slice pw m cw] 125)).drew.cell? ⟨tb, 1, none⟩ = some (.int .i64 p) := h5.cell 1 rfl 1 rfl
        clear h6 mb2 lb2
        go_region_held3 (fun (w' : World) => w'.cell? ⟨b, 0, none⟩ = some (.pointer (some ⟨ab, 0, none⟩)) ∧ w'.cell? ⟨tb, 1, none⟩ = some (.int .i64 p)) (first | assumption | (refine ⟨?_, ?_⟩ <;> assumption) | go_keep)
          (first
            | (go_at_call 61; refine (ha_Store h5 _ _ _ (by unfold Wd; omega)).mono ?_; rintro e w7 ⟨rfl, h7⟩; obtain ⟨mb3, lb3, h8⟩ := h7.openH.2; have y0 := (h8.hcell (k := 0) rfl).1; have y1 : w7.cell? ⟨tb, 1, none⟩ = some (.int .i64 p) := h7.cell 1 rfl 1 rfl))
        go_wp2_with fail
        refine (h_Shade (show St w0 F0 (HeapP b ab _ :: BlkP tb _ _ :: RowP _ _ :: ps) _ by assumption) p hwp).mono ?_
        rintro e w8 ⟨rfl, h9⟩
        have a0 : w8.cell? ⟨tb, 0, none⟩ = some (.int .i64 5) := h9.cell 1 rfl 0 rfl
        have a1 : w8.cell? ⟨tb, 1, none⟩ = some (.int .i64 p) := h9.cell 1 rfl 1 rfl
        have a2 : w8.cell? ⟨tb, 2, none⟩ = some (.slice pw m cw) := h9.cell 1 rfl 2 rfl
        go_wp2
        go_ret
        refine ⟨_, rfl, ?_⟩
        exact (St.oneG ⟨5, p, aWords h1.a p, true⟩ (h9.pick2)).pick2.drop
      · rw [HL.out] at hno; cases hno
    | none =>
      have hm : hMark h = ([], { h1 with ph := 2, sp := 0 }) := by unfold hMark; rw [hn]; simp only; rw [hl]
      rw [hm] at okE ⊢
      have HL := Lib.hid hl
      have OK := Lib.hid okE
      clear hn hm hl okE okn
      go_enter Try.func59, Try.ntmps59
      go_wp2_with fail
      refine (h_next hs).mono ?_
      rintro e w1 ⟨rfl, h2⟩
      rw [HN.out] at h2 ⊢
      simp only [nextV]
      go_wp2_with fail
      refine (h_lost h2).mono ?_
      rintro e w2 (⟨p', v, hp', rfl, h3⟩ | ⟨hno, rfl, h3⟩)
      · rw [HL.out] at hp'; cases hp'
      · simp only [zeroThing]
        have h4 := h3.alloc (.cells #[.int .i64 0, .int .i64 0, .slice none 0 0] 125)
        obtain ⟨mb2, lb2, h6⟩ := h4.openH.2
        have c3 := (h6.hcell (k := 0) rfl).2.2.2.1
        have c4 := (h6.hcell (k := 0) rfl).2.2.2.2.1
        have f3 := h6.free 0 rfl 3
        have f4 := h6.free 0 rfl 4
        clear hs h2 h3 h4 hno
        go_wp2
        go_ret
        refine ⟨_, rfl, St.nilG (St.closeH (mb := mb2) (lb := lb2) (h := { h1 with ph := 2, sp := 0 }) ?_ OK.out)⟩
        exact (h6.set 3 (.int .i64 2)).set 4 (.int .i64 0)
end
end Go.Proofs.Ytdnelekoplkkcaa
/- Package heap: sweep, Step. -/
namespace Go.Proofs.Ytdnelekoplkkcaa
open Go.RowKit
set_option linter.unusedVariables false

theorem hObjs_nodup (s : ASt) : (hObjs s).Nodup := by
  unfold hObjs aObjects
  rw [List.nodup_iff_pairwise_ne, List.pairwise_map]
  have := List.Pairwise.filter (fun p : Nat => (aHead s.c p).isSome) (List.nodup_iff_pairwise_ne.1 (List.nodup_range (n := s.c.length)))
  exact this.imp (fun h e => h (by omega))
theorem nodup_at {l : List Int} (h : l.Nodup) {k : Nat} (hk : k < l.length) : l[k] ∉ l.take k := by
  intro hm
  have e := List.take_append_drop k l
  rw [List.drop_eq_getElem_cons hk] at e
  have h2 : (l.take k ++ l[k] :: l.drop (k + 1)).Nodup := by rw [e]; exact h
  rw [List.nodup_append] at h2
  exact h2.2.2 l[k] hm l[k] List.mem_cons_self rfl
/-- Another object's words stand when one is freed. -/
theorem words_free {s : ASt} (hok : AOk s) {p q : Int} (hne : q ≠ p) (ho : isObj s q = true) : aWords (aFreeS p s) q = aWords s q ∧ aKind (aFreeS p s).c q = aKind s.c q ∧ isObj (aFreeS p s) q = true := by
  have hh := head_free hok p q
  rw [if_neg hne] at hh
  refine ⟨?_, by unfold aKind; rw [hh], by unfold isObj; rw [hh]; exact ho⟩
  have hl : aLen (aFreeS p s).c q = aLen s.c q := by unfold aLen; rw [hh]
  unfold aWords
  rw [hl]
  apply List.map_congr_left
  intro j hj
  rw [List.mem_range] at hj
  congr 1
  obtain ⟨q', k, n, rfl, hq⟩ := isObj_some ho
  have hln : aLen s.c (q' : Int) = n := by unfold aLen; rw [aHead_nat hq]
  rw [hln] at hj
  cases e : aHead s.c p with
  | none =>
    have : aFreeS p s = s := by unfold aFreeS; rw [e]
    rw [this]
  | some kn =>
    obtain ⟨k', n'⟩ := kn
    obtain ⟨p', rfl, hp⟩ := aHead_some e
    have m := free_more hok hp
    have := m.apart q' (1 + j) k n hq (fun e => hne (by omega)) (by omega)
    have hn0 := m.n0
    simp only [Int.toNat_natCast]
    rw [m.get, if_neg (by omega)]
theorem words_frees {s : ASt} (hok : AOk s) (l : List Int) {q : Int} (hq : q ∉ l) (ho : isObj s q = true) : aWords (l.foldl (fun s p => aFreeS p s) s) q = aWords s q ∧ aKind (l.foldl (fun s p => aFreeS p s) s).c q = aKind s.c q ∧ isObj (l.foldl (fun s p => aFreeS p s) s) q = true := by
  induction l generalizing s with
  | nil => exact ⟨rfl, rfl, ho⟩
  | cons p l ih =>
    obtain ⟨a, b, c⟩ := words_free hok (p := p) (fun e => hq (by simp [e])) ho
    obtain ⟨a', b', c'⟩ := ih (free_ok hok p).1 (fun e => hq (by simp [e])) c
    exact ⟨a'.trans a, b'.trans b, c'⟩
def goneB (h : HSt) (p : Int) : Bool := decide (p / 32 = h.sp) && decide (h.col p = 0)
def goneTo (h : HSt) (k : Nat) : List Int := ((hObjs h.a).take k).filter (goneB h)
def sweptTo (h : HSt) (k : Nat) : HSt := { h with a := (goneTo h k).foldl (fun s p => aFreeS p s) h.a }
theorem goneTo_succ (h : HSt) {k : Nat} (hk : k < (hObjs h.a).length) : goneTo h (k + 1) = goneTo h k ++ if goneB h (hObjs h.a)[k] then [(hObjs h.a)[k]] else [] := by
  unfold goneTo
  rw [List.take_succ_eq_append_getElem hk, List.filter_append]
  congr 1
  cases hb : goneB h (hObjs h.a)[k] <;> simp [hb]
theorem updM_same {f : Int → Int} {p : Int} (h : f p = 0) : updM f p 0 = f := by
  funext x; unfold updM; split
  · rename_i e; rw [e, h]
  · rfl
section
variable {w0 w : World} {F0 : List Nat} {ps : List Piece} {b ab mb lb : Nat} {h : HSt}
set_option maxRecDepth 100000 in
set_option maxHeartbeats 8000000 in
theorem h_sweep (hs : St w0 F0 (HeapP b ab h :: ps) w) (h2 : h.ph = 2) :
    Calls Try.prog 60 #[.pointer (some ⟨b, 0, none⟩)] w fun e w' => ∃ v, e = .returned v ∧ St w0 F0 (GonesP v (hSweep h).1 :: HeapP b ab (hSweep h).2 :: ps) w' := by
  have ok := hs.heapOk
  have okE := ok.sweep h2
  have hg : h.g = [] := ok.gnil (by omega)
  obtain ⟨n, hnl⟩ : ∃ n, (hObjs h.a).length = n := ⟨_, rfl⟩
  have hn4 : n ≤ 4096 := by have := hObjs_len (s := h.a); have := ok.len; have := ok.a.len; omega
  have HO := Lib.hid (hObjs_wd ok.a ok.len.2)
  have HN := Lib.hid hnl
  have OK := Lib.hid ok
  have OKE := Lib.hid okE
  have HG := Lib.hid hg
  have HP2 := Lib.hid h2
  have sp0 := ok.sp0
  have spn := ok.spn h2
  have hm128 := ok.len.2
  have hcl := ok.a.len
  obtain ⟨mb0, lb0, h1⟩ := hs.openH.2
  have c0 := (h1.hcell (k := 0) rfl).1
  clear hnl okE ok h1 h2 hg
  go_enter Try.func60, Try.ntmps60
  go_wp2_with fail
  refine (ha_Objects hs).mono ?_
  rintro e w2 ⟨v, rfl, h4⟩
  obtain ⟨_, pv, cv, rfl, hp⟩ := h4.shape 0 rfl
  rw [HN.out] at h4 hp
  rw [HN.out]
  have HP := Lib.hid hp
  have h5 := h4.nilG
  clear hs c0 hp h4
  go_wp2
  go_loopw [3, 14] (fun v3 iv wr => ∃ (k : Nat) (v' : Value), k ≤ n ∧ iv = .int .i64 k ∧ v3 = v' ∧ St w0 F0 (GonesP v' ((goneTo h k).map (gnOf h false)) :: RowP (.slice pv n cv) (hObjs h.a) :: HeapP b ab (sweptTo h k) :: ps) wr) (fun _ iv _ => n - (intOf iv).toNat)
  case atStart => exact ⟨0, _, by omega, rfl, rfl, h5⟩
  case round =>
    obtain ⟨k, v3, hk, rfl, hv3, h6⟩ := hrel
    subst hv3
    obtain ⟨hm3, p3, c3, hv3, -⟩ := h6.shapeG (k := 0) rfl
    obtain ⟨n3, hn3⟩ : ∃ n3, ((goneTo h k).map (gnOf h false)).length = n3 := ⟨_, rfl⟩
    rw [hn3] at hv3
    subst hv3
    clear hm3 hn3
    clear h5
    by_cases hlt : k < n
    · obtain ⟨g, rfl⟩ := HP.out.resolve_left (by omega)
      have hkl : k < (hObjs h.a).length := by rw [HN.out]; exact hlt
      have cc := h6.num 1 rfl k hkl
      obtain ⟨x0, x1⟩ := HO.out _ (List.getElem_mem hkl)
      have hob := hObjs_mem (List.getElem_mem hkl)
      have hnt : (hObjs h.a)[k] ∉ goneTo h k := fun hm => nodup_at (hObjs_nodup h.a) hkl (List.mem_filter.1 hm).1
      obtain ⟨ew, ek, eo⟩ := words_frees OK.out.a (goneTo h k) hnt hob
      have hsucc := goneTo_succ h hkl
      obtain ⟨x, hx⟩ : ∃ x, (hObjs h.a)[k] = x := ⟨_, rfl⟩
      rw [hx] at cc x0 x1 hob ew ek eo hsucc
      have hwx : Wd x := by unfold Wd; omega
      have okS := h6.pick2.heapOk
      have hk0 : ¬ aKind (sweptTo h k).a.c x = 0 := by
        have := isObj_kind okS.a x
        rw [show isObj (sweptTo h k).a x = true from eo] at this
        simpa using this.symm
      have hcol : hColour (sweptTo h k) x = h.col x := by unfold hColour; rw [show isObj (sweptTo h k).a x = true from eo]; rfl
      have HK0 := Lib.hid hk0
      have HC := Lib.hid hcol
      have HS := Lib.hid hsucc
      have HE := Lib.hid (And.intro ew (And.intro ek eo))
      have OKS := Lib.hid okS
      have i0 : (0 : Int) ≤ k := by omega
      have i1 : (k : Int) < n := by omega
      clear hob hnt ew ek eo hsucc hx hk0 hcol okS hkl
      go_wp2_with fail
      refine (h_object h6.pick2 x).mono ?_
      rintro e w3 ⟨vw, rfl, h7⟩
      obtain ⟨_, pw, cw, rfl, -⟩ := h7.shape 0 rfl
      obtain ⟨kd, hkd⟩ : ∃ kd, aKind (sweptTo h k).a.c x = kd := ⟨_, rfl⟩
      obtain ⟨m, hm⟩ : ∃ m, (aWords (sweptTo h k).a x).length = m := ⟨_, rfl⟩
      rw [show objV (aKind (sweptTo h k).a.c x) x (.slice pw (aWords (sweptTo h k).a x).length cw) = .tuple #[.agg #[.int .i64 kd, .int .i64 x, .slice pw m cw], .bool true] by unfold objV; rw [if_neg HK0.out, hkd, hm]; rfl]
      rw [hm] at h7
      have HKD := Lib.hid hkd
      obtain ⟨tb, htb⟩ : ∃ tb, w3.heap.size = tb := ⟨_, rfl⟩
      have h8 := h7.new #[.int .i64 kd, .int .i64 x, .slice pw m cw] 125
      rw [htb] at h8
      obtain ⟨mb1, lb1, h9⟩ := h8.pick2.openH.2
      have c4 : _ = some (Value.int .i64 h.sp) := (h9.hcell (k := 0) rfl).2.2.2.2.1
      clear h6 h7 h9 cc hm hkd
      by_cases hq : x / 32 = h.sp
      · have HQ := Lib.hid hq
        by_cases hc0 : h.col x = 0
        · have HC0 := Lib.hid hc0
          have hgb : goneB h x = true := by unfold goneB; rw [hq, hc0]; simp
          have HGB := Lib.hid hgb
          have hs1 : goneTo h (k + 1) = goneTo h k ++ [x] := by rw [HS.out, hgb]; rfl
          have HS1 := Lib.hid hs1
          clear hc0 hgb hs1
          go_wp2_with fail
          refine (h_Colour h8.pick2 x hwx).mono ?_
          rintro e w4 ⟨rfl, h10⟩
          rw [HC.out, HC0.out]
          have t0 : w4.cell? ⟨tb, 0, none⟩ = some (.int .i64 kd) := h10.cell 1 rfl 0 rfl
          have t2 : w4.cell? ⟨tb, 2, none⟩ = some (.slice pw m cw) := h10.cell 1 rfl 2 rfl
          have h11 : St w0 F0 (GonesP (.slice p3 n3 c3) ((goneTo h k).map (gnOf h false)) :: RowP (.slice pw m cw) (gnOf h false x).words :: BlkP tb 125 #[.int .i64 kd, .int .i64 x, .slice pw m cw] :: HeapP b ab (sweptTo h k) :: RowP (.slice (some ⟨g, 0, none⟩) n cv) (hObjs h.a) :: ps) w4 := by
            rw [show (gnOf h false x).words = aWords (sweptTo h k).a x from HE.out.1.symm]
            exact h10.pick2.pick3.swap2
          have hgl : ((goneTo h k).map (gnOf h false)).length ≤ k := by
            rw [List.length_map]; unfold goneTo; exact Nat.le_trans (List.length_filter_le _ _) (by simp; omega)
          obtain ⟨gl, hgll⟩ : ∃ gl, ((goneTo h k).map (gnOf h false)).length = gl := ⟨_, rfl⟩
          have hgl4 : gl < 1000000 := by omega
          have HGL := Lib.hid hgll
          have hkx : (gnOf h false x).kind = kd := by show aKind h.a.c x = kd; rw [← HKD.out]; exact HE.out.2.1.symm
          have HKX := Lib.hid hkx
          clear h8 h10 c4 hgl hgll hkx
          go_wp2_with (at_builtin; refine wpList_growG (y := gnOf h false x) gl HGL.out hgl4 rfl _ _ rfl h11 ?_ rfl rfl rfl ?_)
          · rw [HKX.out]; rfl
          · intro gg cg w5 h12
            obtain ⟨mb2, lb2, h13⟩ := h12.pick2.openH.2
            have c0 := (h13.hcell (k := 0) rfl).1
            clear h11 h13 t0 t2
            go_wp2_with fail
            refine (ha_Free h12.pick2 x (by rw [show (sweptTo h k).g = [] from HG.out]; simp)).mono ?_
            rintro e w6 ⟨rfl, h14⟩
            have okF := h14.heapOk
            obtain ⟨mb3, lb3, h15⟩ := h14.openH.2
            have c1 := (h15.hcell (k := 0) rfl).2.1
            clear h12 c0
            go_wp2_with (at_delete; refine wpList_colDel rfl _ _ rfl h15.pick2 rfl x hwx rfl ?_)
            intro w7 h16
            have h17 : St w0 F0 (HeapP b ab (sweptTo h (k + 1)) :: GonesP (.slice (some ⟨gg, 0, none⟩) (gl + 1) cg) ((goneTo h k).map (gnOf h false) ++ [gnOf h false x]) :: BlkP tb 125 #[.int .i64 kd, .int .i64 x, .slice pw m cw] :: RowP (.slice (some ⟨g, 0, none⟩) n cv) (hObjs h.a) :: ps) w7 := by
              have e : sweptTo h (k + 1) = { sweptTo h k with a := aFreeS x (sweptTo h k).a } := by unfold sweptTo; rw [HS1.out, List.foldl_append]; rfl
              rw [e]
              refine St.closeH (mb := mb3) (lb := lb3) (h := { sweptTo h k with a := aFreeS x (sweptTo h k).a }) ?_ okF
              have h18 := h16.back2
              rw [updM_same (show ({ sweptTo h k with a := aFreeS x (sweptTo h k).a } : HSt).col x = 0 from HC0.out)] at h18
              exact h18
            clear h14 h15 h16 c1
            go_wp2
            go_roundw
            case rel =>
              refine ⟨k + 1, _, by omega, by go_num, rfl, ?_⟩
              rw [HS1.out, List.map_append]
              exact h17.pick2.drop.pick2.pick2
            case measure => simp [intOf]; omega
        · have cb : (h.col x == 0) = false := by simpa using hc0
          have cb2 : (h.col x != 0) = true := by simp [bne, cb]
          have CB := Lib.hid (And.intro cb cb2)
          have hs1 : goneTo h (k + 1) = goneTo h k := by rw [HS.out]; unfold goneB; rw [decide_eq_false hc0]; simp
          have HS1 := Lib.hid (show goneTo h (k + 1) = goneTo h k ∧ sweptTo h (k + 1) = sweptTo h k from ⟨hs1, by unfold sweptTo; rw [hs1]⟩)
          clear cb cb2 hc0 hs1
          go_wp2_with fail
          refine (h_Colour h8.pick2 x hwx).mono ?_
          rintro e w4 ⟨rfl, h10⟩
          rw [HC.out]
          obtain ⟨cb, cb2⟩ := CB.out
          clear h8 c4
          go_wp2
          go_roundw
          case rel =>
            refine ⟨k + 1, _, by omega, by go_num, rfl, ?_⟩
            rw [HS1.out.1, HS1.out.2]
            exact h10.pick1.drop.pick1.drop.back2
          case measure => simp [intOf]; omega
      · have qb : (x / 32 == h.sp) = false := by simpa using hq
        have qb2 : (x / 32 != h.sp) = true := by simp [bne, qb]
        have hs1 : goneTo h (k + 1) = goneTo h k := by rw [HS.out]; unfold goneB; rw [decide_eq_false hq]; simp
        have HS1 := Lib.hid (show goneTo h (k + 1) = goneTo h k ∧ sweptTo h (k + 1) = sweptTo h k from ⟨hs1, by unfold sweptTo; rw [hs1]⟩)
        clear hs1 hq
        go_wp2
        go_roundw
        case rel =>
          refine ⟨k + 1, _, by omega, by go_num, rfl, ?_⟩
          rw [HS1.out.1, HS1.out.2]
          exact h8.drop.drop.back2
        case measure => simp [intOf]; omega
    · have hkn : k = n := by omega
      subst hkn
      have hgt : goneTo h k = hGone h := by unfold goneTo hGone; rw [List.take_of_length_le (by rw [HN.out]; omega)]; rfl
      have HGT := Lib.hid hgt
      obtain ⟨mb1, lb1, h7⟩ := h6.pick2.openH.2
      have c4 : wr.cell? ⟨b, 4, none⟩ = some (.int .i64 h.sp) := (h7.hcell (k := 0) rfl).2.2.2.2.1
      have f4 := h7.free 0 rfl 4
      have h8 := h7.set 4 (.int .i64 (h.sp + 1))
      have e0 : (wr.setCell ⟨b, 4, none⟩ (.int .i64 (h.sp + 1))).cell? ⟨b, 0, none⟩ = some (.pointer (some ⟨ab, 0, none⟩)) := h8.cell 0 rfl 0 rfl
      have e4 : (wr.setCell ⟨b, 4, none⟩ (.int .i64 (h.sp + 1))).cell? ⟨b, 4, none⟩ = some (.int .i64 (h.sp + 1)) := h8.cell 0 rfl 4 rfl
      have e5 : (wr.setCell ⟨b, 4, none⟩ (.int .i64 (h.sp + 1))).cell? ⟨b, 5, none⟩ = some (.int .i64 h.cy) := h8.cell 0 rfl 5 rfl
      have hlen : (sweptTo h k).a.c.length = 32 * h.a.l.length := by
        have := (frees_len OK.out.a (goneTo h k)).2.1
        rw [show (sweptTo h k).a = (goneTo h k).foldl (fun s p => aFreeS p s) h.a from rfl, this]; exact hcl
      obtain ⟨L, hL⟩ : ∃ L : Nat, h.a.l.length = L := ⟨_, rfl⟩
      have HL := Lib.hid hL
      rw [hL] at spn hm128 hlen
      have hlc : ((sweptTo h k).a.c.length : Int) = 32 * (L : Int) := by rw [hlen]; simp
      obtain ⟨N, hN⟩ : ∃ N : Nat, (sweptTo h k).a.c.length = N := ⟨_, rfl⟩
      rw [hN] at hlc
      have HNN := Lib.hid hN
      clear hgt h6 h7 hcl hL hN
      go_wp2
      have t3 : IntKind.i64.wrap ((N : Int).tdiv 32) = (L : Int) := by
        rw [hlc, show (32 * (L : Int)).tdiv 32 = (L : Int) from Int.mul_tdiv_cancel_left _ (by decide)]
        exact IntWalk.i64_in _ (by omega)
      go_quiet ((go_at_call 55; exact Calls.quiet_of_same ((a_Words (h8.drewN _).pick1).mono fun _ _ ⟨x, y⟩ => ⟨by rw [x, HNN.out], y.symm⟩)))
      have h9 := h8.drewN nq
      have f3 := h9.free 0 rfl 3
      have d3 := h9.cell 0 rfl 3 rfl
      have f5 := h9.free 0 rfl 5
      have d5 := h9.cell 0 rfl 5 rfl
      by_cases hlast : L ≤ h.sp + 1
      · have hsw : hSweep h = ((hGone h).map (gnOf h false), { sweptTo h k with sp := h.sp + 1, ph := 0, cy := wrap64 (h.cy + 1) }) := by
          unfold hSweep sweptTo; simp only; rw [if_pos (by rw [HL.out]; omega), HGT.out]
        have HSW := Lib.hid hsw
        clear hsw
        go_wp2
        go_ret
        refine ⟨_, rfl, ?_⟩
        have okE := OKE.out
        rw [HSW.out] at okE ⊢
        rw [← HGT.out]
        have h10 := (h9.set 3 (.int .i64 0)).set 5 (.int .i64 (wrap64 (h.cy + 1)))
        have h11 : St w0 F0 (HeapP b ab { sweptTo h k with sp := h.sp + 1, ph := 0, cy := wrap64 (h.cy + 1) } :: GonesP (.slice p3 n3 c3) ((goneTo h k).map (gnOf h false)) :: RowP (.slice pv k cv) (hObjs h.a) :: ps) _ := St.closeH (mb := mb1) (lb := lb1) (h := { sweptTo h k with sp := h.sp + 1, ph := 0, cy := wrap64 (h.cy + 1) }) h10 okE
        exact (h11.pick2.drop.pick1)
      · have hsw : hSweep h = ((hGone h).map (gnOf h false), { sweptTo h k with sp := h.sp + 1 }) := by
          unfold hSweep sweptTo; simp only; rw [if_neg (by rw [HL.out]; omega), HGT.out]
        have HSW := Lib.hid hsw
        clear hsw
        go_wp2
        go_ret
        refine ⟨_, rfl, ?_⟩
        have okE := OKE.out
        rw [HSW.out] at okE ⊢
        rw [← HGT.out]
        have h11 : St w0 F0 (HeapP b ab { sweptTo h k with sp := h.sp + 1 } :: GonesP (.slice p3 n3 c3) ((goneTo h k).map (gnOf h false)) :: RowP (.slice pv k cv) (hObjs h.a) :: ps) _ := St.closeH (mb := mb1) (lb := lb1) (h := { sweptTo h k with sp := h.sp + 1 }) h9 okE
        exact (h11.pick2.drop.pick1)

theorem h_Step (hs : St w0 F0 (HeapP b ab h :: ps) w) :
    Calls Try.prog 30 #[.pointer (some ⟨b, 0, none⟩)] w fun e w' => ∃ v, e = .returned v ∧ St w0 F0 (GonesP v (hStep h).1 :: HeapP b ab (hStep h).2 :: ps) w' := by
  rcases hs.heapOk.phs with h0 | h1 | h2
  · have e : hStep h = ([], h) := by unfold hStep; rw [h0]; rfl
    rw [e]
    have H0 := Lib.hid h0
    clear e h0
    go_enter Try.func30, Try.ntmps30
    go_wp2_with fail
    refine (h_Phase hs).mono ?_
    rintro e w1 ⟨rfl, rfl⟩
    rw [H0.out]
    go_wp2
    go_ret
    exact ⟨_, rfl, hs.nilG⟩
  · have e : hStep h = hMark h := by unfold hStep; rw [h1]; rfl
    rw [e]
    have H0 := Lib.hid h1
    clear e h1
    go_enter Try.func30, Try.ntmps30
    go_wp2_with fail
    refine (h_Phase hs).mono ?_
    rintro e w1 ⟨rfl, rfl⟩
    rw [H0.out]
    go_wp2_with fail
    refine (h_mark hs).mono ?_
    rintro e w1 ⟨v, rfl, h3⟩
    go_wp2
    go_ret
    exact ⟨_, rfl, h3⟩
  · have e : hStep h = hSweep h := by unfold hStep; rw [h2]; rfl
    rw [e]
    have H0 := Lib.hid h2
    clear e h2
    go_enter Try.func30, Try.ntmps30
    go_wp2_with fail
    refine (h_Phase hs).mono ?_
    rintro e w1 ⟨rfl, rfl⟩
    rw [H0.out]
    go_wp2_with fail
    refine (h_sweep hs H0.out).mono ?_
    rintro e w1 ⟨v, rfl, h3⟩
    go_wp2
    go_ret
    exact ⟨_, rfl, h3⟩
end
end Go.Proofs.Ytdnelekoplkkcaa
