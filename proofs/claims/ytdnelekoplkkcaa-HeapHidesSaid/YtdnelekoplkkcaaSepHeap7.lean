/- Package heap: lost, mark. -/
import Derived.Test.YtdnelekoplkkcaaSepHeap6
namespace Go.Proofs.Ytdnelekoplkkcaa
open Go.RowKit
set_option linter.unusedVariables false
section
variable {w0 w : World} {F0 : List Nat} {ps : List Piece} {b ab mb lb : Nat} {h : HSt}
def zeroThing : Value := .agg #[.int .i64 0, .int .i64 0, .slice none 0 0]
def LostPost (w0 : World) (F0 : List Nat) (b ab : Nat) (h : HSt) (ps : List Piece) (e : Ending) (w' : World) : Prop :=
  (∃ p v, hLost h = some p ∧ e = .returned (.tuple #[thingV 5 p v, .bool true]) ∧ St w0 F0 (RowP v (aWords h.a p) :: HeapP b ab h :: ps) w') ∨
  (hLost h = none ∧ e = .returned (.tuple #[zeroThing, .bool false]) ∧ St w0 F0 (HeapP b ab h :: ps) w')
theorem isLost_false {h : HSt} {p : Int} (hh : ¬ aKind h.a.c p = 5 ∨ ¬ h.col p = 0 ∨ ¬ 1 < (aWords h.a p).length ∨ (aWords h.a p).getD 1 0 = 0) : isLost h p = false := by
  unfold isLost
  rcases hh with hh | hh | hh | hh
  · rw [decide_eq_false hh]; simp
  · rw [decide_eq_false hh]; simp
  · rw [decide_eq_false hh]; simp
  · rw [hh]; simp
set_option maxRecDepth 100000 in
set_option maxHeartbeats 8000000 in
theorem h_lost (hs : St w0 F0 (HeapP b ab h :: ps) w) :
    Calls Try.prog 78 #[.pointer (some ⟨b, 0, none⟩)] w (LostPost w0 F0 b ab h ps) := by
  have ok := hs.heapOk
  obtain ⟨n, hnl⟩ : ∃ n, (hObjs h.a).length = n := ⟨_, rfl⟩
  have hn4 : n ≤ 4096 := by have := hObjs_len (s := h.a); have := ok.len; have := ok.a.len; omega
  have HO := Lib.hid (hObjs_wd ok.a ok.len.2)
  have HN := Lib.hid hnl
  have OK := Lib.hid ok
  obtain ⟨rb, hrb⟩ : ∃ rb, w.heap.size = rb := ⟨_, rfl⟩
  have h1 := (hs.new #[.int .i64 0, .int .i64 0, .slice none 0 0] 125).pick1
  rw [hrb] at h1
  obtain ⟨mb0, lb0, h2⟩ := h1.openH.2
  have c0 := (h2.hcell (k := 0) rfl).1
  clear hs hnl ok h2
  go_enter Try.func78, Try.ntmps78
  go_wp2_with fail
  refine (ha_Objects h1).mono ?_
  rintro e w2 ⟨v, rfl, h4⟩
  obtain ⟨_, pv, cv, rfl, hp⟩ := h4.shape 0 rfl
  rw [HN.out] at h4 hp
  rw [HN.out]
  have HP := Lib.hid hp
  clear h1 c0 hp hrb
  go_wp2
  go_loopw [14] (fun iv wr => ∃ k : Nat, k ≤ n ∧ iv = .int .i64 k ∧ St w0 F0 (RowP (.slice pv n cv) (hObjs h.a) :: HeapP b ab h :: BlkP rb 125 #[.int .i64 0, .int .i64 0, .slice none 0 0] :: ps) wr ∧ Hid (∀ x ∈ (hObjs h.a).take k, isLost h x = false)) (fun iv _ => n - (intOf iv).toNat)
  case atStart => exact ⟨0, by omega, rfl, h4, by intro x hx; simp at hx⟩
  case round =>
    obtain ⟨k, hk, rfl, h5, hall⟩ := hrel
    clear h4
    by_cases hlt : k < n
    · obtain ⟨g, rfl⟩ := HP.out.resolve_left (by omega)
      have hkl : k < (hObjs h.a).length := by rw [HN.out]; exact hlt
      have cc := h5.num 0 rfl k hkl
      obtain ⟨x0, x1⟩ := HO.out _ (List.getElem_mem hkl)
      have hob := hObjs_mem (List.getElem_mem hkl)
      have hko := isObj_kind OK.out.a (hObjs h.a)[k]
      have hcol : hColour h (hObjs h.a)[k] = h.col (hObjs h.a)[k] := by unfold hColour; rw [hob]; rfl
      have hk0 : ¬ aKind h.a.c (hObjs h.a)[k] = 0 := by rw [hob] at hko; simpa using hko.symm
      obtain ⟨x, hx⟩ : ∃ x, (hObjs h.a)[k] = x := ⟨_, rfl⟩
      have HT := Lib.hid (fun (hq : isLost h x = false) => take_all (q := isLost h) hkl hall.out (by rw [hx]; exact hq))
      have HF := Lib.hid (fun (hq : isLost h x = true) => (show hLost h = some x by unfold hLost; have := find_at (q := isLost h) hkl hall.out (by rw [hx]; exact hq); rw [hx] at this; exact this))
      have hwx : Wd x := by unfold Wd; rw [← hx]; omega
      rw [hx] at cc hcol hk0 x0 x1
      have HC := Lib.hid hcol
      have HK0 := Lib.hid hk0
      have i0 : (0 : Int) ≤ k := by omega
      have i1 : (k : Int) < n := by omega
      clear hob hko hcol hx hk0 hall hkl
      by_cases k5 : aKind h.a.c x = 5
      · have K5 := Lib.hid k5
        clear k5
        go_wp2_with fail
        refine (h_look h5.pick1 x).mono ?_
        rintro e w3 ⟨vw, rfl, h6⟩
        obtain ⟨_, pw, cw, rfl, hpw⟩ := h6.shape 0 rfl
        obtain ⟨m, hm⟩ : ∃ m, (aWords h.a x).length = m := ⟨_, rfl⟩
        have hm32 : m < 32 := by have := alen_bd OK.out.a x; rw [aWords_len] at hm; omega
        rw [hm] at h6 hpw
        rw [K5.out, hm, show lookV 5 x (.slice pw m cw) = .iface 145 (.agg #[.int .i64 5, .int .i64 x, .slice pw m cw]) from rfl]
        have HM := Lib.hid hm
        have HPW := Lib.hid hpw
        obtain ⟨bb, hbb⟩ : ∃ bb, w3.heap.size = bb := ⟨_, rfl⟩
        have h7 := h6.new #[.int .i64 5, .int .i64 x, .slice pw m cw] 145
        rw [hbb] at h7
        clear h5 h6 cc hm hpw
        by_cases c0 : h.col x = 0
        · have C0 := Lib.hid c0
          by_cases hm1 : 1 < m
          · obtain ⟨gw, rfl⟩ := HPW.out.resolve_left (by omega)
            have hml : 1 < (aWords h.a x).length := by rw [HM.out]; exact hm1
            obtain ⟨y, hy⟩ : ∃ y, (aWords h.a x)[1] = y := ⟨_, rfl⟩
            have hyd : (aWords h.a x).getD 1 0 = y := by rw [List.getD_eq_getElem?_getD, List.getElem?_eq_getElem hml, hy]; rfl
            have HY := Lib.hid (And.intro hy (And.intro hyd hml))
            have mi : (1 : Int) < (m : Int) := by omega
            clear c0 hy hyd
            go_wp2_with fail
            refine (h_Colour (h7.pick2) x hwx).mono ?_
            rintro e w4 ⟨rfl, h8⟩
            rw [HC.out, C0.out]
            have e2 : w4.cell? ⟨bb, 2, none⟩ = some (.slice (some ⟨gw, 0, none⟩) m cw) := h8.cell 1 rfl 2 rfl
            have e3 := h8.num 2 rfl 1 HY.out.2.2
            rw [HY.out.1] at e3
            clear h7
            by_cases y0 : y = 0
            · subst y0
              go_wp2
              go_roundw
              case rel => exact ⟨k + 1, by omega, by go_num, h8.pick1.drop.pick1.drop.pick1, HT.out (isLost_false (.inr (.inr (.inr HY.out.2.1))))⟩
              case measure => simp [intOf]; omega
            · have yb : (y == 0) = false := by simpa using y0
              have yb2 : (y != 0) = true := by simp [bne, yb]
              have hlost := HF.out (by unfold isLost; rw [K5.out, C0.out, HY.out.2.1, HM.out, decide_eq_true hm1]; simp [y0])
              have HL := Lib.hid hlost
              have a0 : w4.cell? ⟨bb, 0, none⟩ = some (.int .i64 5) := h8.cell 1 rfl 0 rfl
              have a1 : w4.cell? ⟨bb, 1, none⟩ = some (.int .i64 x) := h8.cell 1 rfl 1 rfl
              have r0 : w4.cell? ⟨rb, 0, none⟩ = some (.int .i64 0) := h8.cell 4 rfl 0 rfl
              have r1 : w4.cell? ⟨rb, 1, none⟩ = some (.int .i64 0) := h8.cell 4 rfl 1 rfl
              have r2 : w4.cell? ⟨rb, 2, none⟩ = some (.slice none 0 0) := h8.cell 4 rfl 2 rfl
              have f0 := h8.free 4 rfl 0
              have f1 := h8.free 4 rfl 1
              have f2 := h8.free 4 rfl 2
              clear y0 hlost
              go_wp2
              (try simp only [Exit.inBlock, Exit.then])
              refine bodyPost_ret (v := .tuple #[.agg #[.int .i64 5, .int .i64 x, .slice (some ⟨gw, 0, none⟩) m cw], .bool true]) (by rw [results_cell_tmp rfl]; go_simp) rfl ?_
              refine .inl ⟨x, _, HL.out, rfl, ?_⟩
              exact (((h8.pick4.set 0 _).set 1 _).set 2 _).drop.pick1.drop.pick1.pick2.drop
          · have hmi : ¬ (1 : Int) < (m : Int) := by omega
            clear c0
            go_wp2_with fail
            refine (h_Colour (h7.pick2) x hwx).mono ?_
            rintro e w4 ⟨rfl, h8⟩
            rw [HC.out, C0.out]
            have e2 : w4.cell? ⟨bb, 2, none⟩ = some (.slice pw m cw) := h8.cell 1 rfl 2 rfl
            clear h7
            go_wp2
            go_roundw
            case rel => exact ⟨k + 1, by omega, by go_num, h8.pick1.drop.pick1.drop.pick1, HT.out (isLost_false (.inr (.inr (.inl (by rw [HM.out]; exact hm1)))))⟩
            case measure => simp [intOf]; omega
        · have cb : (h.col x == 0) = false := by simpa using c0
          have CB := Lib.hid (And.intro c0 cb)
          clear c0 cb
          go_wp2_with fail
          refine (h_Colour (h7.pick2) x hwx).mono ?_
          rintro e w4 ⟨rfl, h8⟩
          rw [HC.out]
          have cb := CB.out.2
          clear h7
          go_wp2
          go_roundw
          case rel => exact ⟨k + 1, by omega, by go_num, h8.pick1.drop.pick1.drop.pick1, HT.out (isLost_false (.inr (.inl CB.out.1)))⟩
          case measure => simp [intOf]; omega
      · have K5 := Lib.hid k5
        clear k5
        go_wp2_with fail
        refine (h_look h5.pick1 x).mono ?_
        rintro e w3 ⟨vw, rfl, h6⟩
        rw [show lookV (aKind h.a.c x) x vw = .iface 125 (thingV (aKind h.a.c x) x vw) by unfold lookV; rw [if_neg HK0.out, if_neg K5.out]]
        have h7 := (h6.alloc (.cells #[.int .i64 0, .int .i64 0, .slice none 0 0] 145))
        clear h5 h6 cc
        go_wp2
        go_roundw
        case rel => exact ⟨k + 1, by omega, by go_num, h7.drop.pick1, HT.out (isLost_false (.inl K5.out))⟩
        case measure => simp [intOf]; omega
    · have hkn : k = n := by omega
      subst hkn
      have hlost : hLost h = none := find_no (q := isLost h) (l := hObjs h.a) (by have := hall.out; rw [List.take_of_length_le (by rw [HN.out]; omega)] at this; exact this)
      have HL := Lib.hid hlost
      have r0 : wr.cell? ⟨rb, 0, none⟩ = some (.int .i64 0) := h5.cell 2 rfl 0 rfl
      have r1 : wr.cell? ⟨rb, 1, none⟩ = some (.int .i64 0) := h5.cell 2 rfl 1 rfl
      have r2 : wr.cell? ⟨rb, 2, none⟩ = some (.slice none 0 0) := h5.cell 2 rfl 2 rfl
      have f0 := h5.free 2 rfl 0
      have f1 := h5.free 2 rfl 1
      have f2 := h5.free 2 rfl 2
      clear hlost
      go_wp2
      (try simp only [Exit.inBlock, Exit.then])
      refine bodyPost_ret (v := .tuple #[.agg #[.int .i64 0, .int .i64 0, .slice none 0 0], .bool false]) (by rw [results_cell_tmp rfl]; go_simp) rfl ?_
      refine .inr ⟨HL.out, rfl, ?_⟩
      exact (((h5.pick2.set 0 _).set 1 _).set 2 _).drop.drop

set_option maxRecDepth 100000 in
set_option maxHeartbeats 4000000 in
theorem h_mark (hs : St w0 F0 (HeapP b ab h :: ps) w) :
    Calls Try.prog 59 #[.pointer (some ⟨b, 0, none⟩)] w fun e w' => ∃ v, e = .returned v ∧ St w0 F0 (GonesP v (hMark h).1 :: HeapP b ab (hMark h).2 :: ps) w' := by
  have okE := hs.heapOk.mark
  cases hn : hNext h with
  | mk o h1 =>
  cases o with
  | some p =>
    have hm : hMark h = ([], hScan p h1) := by unfold hMark; rw [hn]
    have HN := Lib.hid hn
    rw [hm]
    clear hn hm okE
    go_enter Try.func59, Try.ntmps59
    go_wp2_with fail
    refine (h_next hs).mono ?_
    rintro e w1 ⟨rfl, h2⟩
    rw [HN.out] at h2 ⊢
    simp only [nextV]
    go_wp2_with fail
    refine (h_scan h2 _).mono ?_
    rintro e w2 ⟨rfl, h3⟩
    go_wp2
    go_ret
    exact ⟨_, rfl, h3.nilG⟩
  | none =>
    have HN := Lib.hid hn
    obtain ⟨okn, -, -, -, -⟩ := hs.heapOk.next
    rw [hn] at okn
    simp only at okn
    cases hl : hLost h1 with
    | some p =>
      have hm : hMark h = ([gnOf h1 true p], hShade p { h1 with a := aStoreS p 1 0 h1.a }) := by unfold hMark; rw [hn]; simp only; rw [hl]
      obtain ⟨l1, l2, -, -, -⟩ := lost_obj hl
      have hgn : gnOf h1 true p = ⟨5, p, aWords h1.a p, true⟩ := by unfold gnOf; rw [l2]
      rw [hgn] at hm
      obtain ⟨r0, r1⟩ := isObj_range l1
      have hwp : Wd p := by have := okn.len; have := okn.a.len; unfold Wd; omega
      have HL := Lib.hid hl
      have HM := Lib.hid hm
      rw [hm]
      clear hn hm hl okE l1 l2 r0 r1 hgn okn
      go_enter Try.func59, Try.ntmps59
      go_wp2_with fail
      refine (h_next hs).mono ?_
      rintro e w1 ⟨rfl, h2⟩
      rw [HN.out] at h2 ⊢
      simp only [nextV]
      go_wp2_with fail
      refine (h_lost h2).mono ?_
      rintro e w2 (⟨p', v, hp', rfl, h3⟩ | ⟨hno, rfl, h3⟩)
      · rw [HL.out] at hp'
        injection hp' with hp'
        subst hp'
        obtain ⟨_, pw, cw, rfl, -⟩ := h3.shape 0 rfl
        obtain ⟨m, hml⟩ : ∃ m, (aWords h1.a p).length = m := ⟨_, rfl⟩
        rw [hml] at h3 ⊢
        rw [show thingV 5 p (.slice pw m cw) = .agg #[.int .i64 5, .int .i64 p, .slice pw m cw] from rfl]
        obtain ⟨tb, htb⟩ : ∃ tb, w2.heap.size = tb := ⟨_, rfl⟩
        have h4 := h3.new #[.int .i64 5, .int .i64 p, .slice pw m cw] 125
        rw [htb] at h4
        clear hs h2 h3 hml
        go_wp2
        have h5 := h4.pick2.drew
        obtain ⟨mb2, lb2, h6⟩ := h5.openH.2
        have z0 := (h6.hcell (k := 0) rfl).1
        have z1 : (w2.alloc (.cells #[.int .i64 5, .int .i64 p, .slice pw m cw] 125)).drew.cell? ⟨tb, 1, none⟩ = some (.int .i64 p) := h5.cell 1 rfl 1 rfl
        clear h6 mb2 lb2
        go_region_held3 (fun (w' : World) => w'.cell? ⟨b, 0, none⟩ = some (.pointer (some ⟨ab, 0, none⟩)) ∧ w'.cell? ⟨tb, 1, none⟩ = some (.int .i64 p)) (first | assumption | (refine ⟨?_, ?_⟩ <;> assumption) | go_keep)
          (first
            | (go_at_call 61; refine (ha_Store h5 _ _ _ (by unfold Wd; omega)).mono ?_; rintro e w7 ⟨rfl, h7⟩; obtain ⟨mb3, lb3, h8⟩ := h7.openH.2; have y0 := (h8.hcell (k := 0) rfl).1; have y1 : w7.cell? ⟨tb, 1, none⟩ = some (.int .i64 p) := h7.cell 1 rfl 1 rfl))
        go_wp2_with fail
        refine (h_Shade (show St w0 F0 (HeapP b ab _ :: BlkP tb _ _ :: RowP _ _ :: ps) _ by assumption) p hwp).mono ?_
        rintro e w8 ⟨rfl, h9⟩
        have a0 : w8.cell? ⟨tb, 0, none⟩ = some (.int .i64 5) := h9.cell 1 rfl 0 rfl
        have a1 : w8.cell? ⟨tb, 1, none⟩ = some (.int .i64 p) := h9.cell 1 rfl 1 rfl
        have a2 : w8.cell? ⟨tb, 2, none⟩ = some (.slice pw m cw) := h9.cell 1 rfl 2 rfl
        go_wp2
        go_ret
        refine ⟨_, rfl, ?_⟩
        exact (St.oneG ⟨5, p, aWords h1.a p, true⟩ (h9.pick2)).pick2.drop
      · rw [HL.out] at hno; cases hno
    | none =>
      have hm : hMark h = ([], { h1 with ph := 2, sp := 0 }) := by unfold hMark; rw [hn]; simp only; rw [hl]
      rw [hm] at okE ⊢
      have HL := Lib.hid hl
      have OK := Lib.hid okE
      clear hn hm hl okE okn
      go_enter Try.func59, Try.ntmps59
      go_wp2_with fail
      refine (h_next hs).mono ?_
      rintro e w1 ⟨rfl, h2⟩
      rw [HN.out] at h2 ⊢
      simp only [nextV]
      go_wp2_with fail
      refine (h_lost h2).mono ?_
      rintro e w2 (⟨p', v, hp', rfl, h3⟩ | ⟨hno, rfl, h3⟩)
      · rw [HL.out] at hp'; cases hp'
      · simp only [zeroThing]
        have h4 := h3.alloc (.cells #[.int .i64 0, .int .i64 0, .slice none 0 0] 125)
        obtain ⟨mb2, lb2, h6⟩ := h4.openH.2
        have c3 := (h6.hcell (k := 0) rfl).2.2.2.1
        have c4 := (h6.hcell (k := 0) rfl).2.2.2.2.1
        have f3 := h6.free 0 rfl 3
        have f4 := h6.free 0 rfl 4
        clear hs h2 h3 h4 hno
        go_wp2
        go_ret
        refine ⟨_, rfl, St.nilG (St.closeH (mb := mb2) (lb := lb2) (h := { h1 with ph := 2, sp := 0 }) ?_ OK.out)⟩
        exact (h6.set 3 (.int .i64 2)).set 4 (.int .i64 0)
end
end Go.Proofs.Ytdnelekoplkkcaa
