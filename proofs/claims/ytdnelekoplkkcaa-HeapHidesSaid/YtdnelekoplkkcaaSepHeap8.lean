/- Package heap: sweep, Step. -/
import Derived.Test.YtdnelekoplkkcaaSepHeap7
import Derived.Deep.QuietTactic
import Derived.BigQuiet
namespace Go.Proofs.Ytdnelekoplkkcaa
open Go.RowKit
set_option linter.unusedVariables false

theorem hObjs_nodup (s : ASt) : (hObjs s).Nodup := by
  unfold hObjs aObjects
  rw [List.nodup_iff_pairwise_ne, List.pairwise_map]
  have := List.Pairwise.filter (fun p : Nat => (aHead s.c p).isSome) (List.nodup_iff_pairwise_ne.1 (List.nodup_range (n := s.c.length)))
  exact this.imp (fun h e => h (by omega))
theorem nodup_at {l : List Int} (h : l.Nodup) {k : Nat} (hk : k < l.length) : l[k] ∉ l.take k := by
  intro hm
  have e := List.take_append_drop k l
  rw [List.drop_eq_getElem_cons hk] at e
  have h2 : (l.take k ++ l[k] :: l.drop (k + 1)).Nodup := by rw [e]; exact h
  rw [List.nodup_append] at h2
  exact h2.2.2 l[k] hm l[k] List.mem_cons_self rfl
/-- Another object's words stand when one is freed. -/
theorem words_free {s : ASt} (hok : AOk s) {p q : Int} (hne : q ≠ p) (ho : isObj s q = true) : aWords (aFreeS p s) q = aWords s q ∧ aKind (aFreeS p s).c q = aKind s.c q ∧ isObj (aFreeS p s) q = true := by
  have hh := head_free hok p q
  rw [if_neg hne] at hh
  refine ⟨?_, by unfold aKind; rw [hh], by unfold isObj; rw [hh]; exact ho⟩
  have hl : aLen (aFreeS p s).c q = aLen s.c q := by unfold aLen; rw [hh]
  unfold aWords
  rw [hl]
  apply List.map_congr_left
  intro j hj
  rw [List.mem_range] at hj
  congr 1
  obtain ⟨q', k, n, rfl, hq⟩ := isObj_some ho
  have hln : aLen s.c (q' : Int) = n := by unfold aLen; rw [aHead_nat hq]
  rw [hln] at hj
  cases e : aHead s.c p with
  | none =>
    have : aFreeS p s = s := by unfold aFreeS; rw [e]
    rw [this]
  | some kn =>
    obtain ⟨k', n'⟩ := kn
    obtain ⟨p', rfl, hp⟩ := aHead_some e
    have m := free_more hok hp
    have := m.apart q' (1 + j) k n hq (fun e => hne (by omega)) (by omega)
    have hn0 := m.n0
    simp only [Int.toNat_natCast]
    rw [m.get, if_neg (by omega)]
theorem words_frees {s : ASt} (hok : AOk s) (l : List Int) {q : Int} (hq : q ∉ l) (ho : isObj s q = true) : aWords (l.foldl (fun s p => aFreeS p s) s) q = aWords s q ∧ aKind (l.foldl (fun s p => aFreeS p s) s).c q = aKind s.c q ∧ isObj (l.foldl (fun s p => aFreeS p s) s) q = true := by
  induction l generalizing s with
  | nil => exact ⟨rfl, rfl, ho⟩
  | cons p l ih =>
    obtain ⟨a, b, c⟩ := words_free hok (p := p) (fun e => hq (by simp [e])) ho
    obtain ⟨a', b', c'⟩ := ih (free_ok hok p).1 (fun e => hq (by simp [e])) c
    exact ⟨a'.trans a, b'.trans b, c'⟩
def goneB (h : HSt) (p : Int) : Bool := decide (p / 32 = h.sp) && decide (h.col p = 0)
def goneTo (h : HSt) (k : Nat) : List Int := ((hObjs h.a).take k).filter (goneB h)
def sweptTo (h : HSt) (k : Nat) : HSt := { h with a := (goneTo h k).foldl (fun s p => aFreeS p s) h.a }
theorem goneTo_succ (h : HSt) {k : Nat} (hk : k < (hObjs h.a).length) : goneTo h (k + 1) = goneTo h k ++ if goneB h (hObjs h.a)[k] then [(hObjs h.a)[k]] else [] := by
  unfold goneTo
  rw [List.take_succ_eq_append_getElem hk, List.filter_append]
  congr 1
  cases hb : goneB h (hObjs h.a)[k] <;> simp [hb]
theorem updM_same {f : Int → Int} {p : Int} (h : f p = 0) : updM f p 0 = f := by
  funext x; unfold updM; split
  · rename_i e; rw [e, h]
  · rfl
section
variable {w0 w : World} {F0 : List Nat} {ps : List Piece} {b ab mb lb : Nat} {h : HSt}
set_option maxRecDepth 100000 in
set_option maxHeartbeats 8000000 in
theorem h_sweep (hs : St w0 F0 (HeapP b ab h :: ps) w) (h2 : h.ph = 2) :
    Calls Try.prog 60 #[.pointer (some ⟨b, 0, none⟩)] w fun e w' => ∃ v, e = .returned v ∧ St w0 F0 (GonesP v (hSweep h).1 :: HeapP b ab (hSweep h).2 :: ps) w' := by
  have ok := hs.heapOk
  have okE := ok.sweep h2
  have hg : h.g = [] := ok.gnil (by omega)
  obtain ⟨n, hnl⟩ : ∃ n, (hObjs h.a).length = n := ⟨_, rfl⟩
  have hn4 : n ≤ 4096 := by have := hObjs_len (s := h.a); have := ok.len; have := ok.a.len; omega
  have HO := Lib.hid (hObjs_wd ok.a ok.len.2)
  have HN := Lib.hid hnl
  have OK := Lib.hid ok
  have OKE := Lib.hid okE
  have HG := Lib.hid hg
  have HP2 := Lib.hid h2
  have sp0 := ok.sp0
  have spn := ok.spn h2
  have hm128 := ok.len.2
  have hcl := ok.a.len
  obtain ⟨mb0, lb0, h1⟩ := hs.openH.2
  have c0 := (h1.hcell (k := 0) rfl).1
  clear hnl okE ok h1 h2 hg
  go_enter Try.func60, Try.ntmps60
  go_wp2_with fail
  refine (ha_Objects hs).mono ?_
  rintro e w2 ⟨v, rfl, h4⟩
  obtain ⟨_, pv, cv, rfl, hp⟩ := h4.shape 0 rfl
  rw [HN.out] at h4 hp
  rw [HN.out]
  have HP := Lib.hid hp
  have h5 := h4.nilG
  clear hs c0 hp h4
  go_wp2
  go_loopw [3, 14] (fun v3 iv wr => ∃ (k : Nat) (v' : Value), k ≤ n ∧ iv = .int .i64 k ∧ v3 = v' ∧ St w0 F0 (GonesP v' ((goneTo h k).map (gnOf h false)) :: RowP (.slice pv n cv) (hObjs h.a) :: HeapP b ab (sweptTo h k) :: ps) wr) (fun _ iv _ => n - (intOf iv).toNat)
  case atStart => exact ⟨0, _, by omega, rfl, rfl, h5⟩
  case round =>
    obtain ⟨k, v3, hk, rfl, hv3, h6⟩ := hrel
    subst hv3
    obtain ⟨hm3, p3, c3, hv3, -⟩ := h6.shapeG (k := 0) rfl
    obtain ⟨n3, hn3⟩ : ∃ n3, ((goneTo h k).map (gnOf h false)).length = n3 := ⟨_, rfl⟩
    rw [hn3] at hv3
    subst hv3
    clear hm3 hn3
    clear h5
    by_cases hlt : k < n
    · obtain ⟨g, rfl⟩ := HP.out.resolve_left (by omega)
      have hkl : k < (hObjs h.a).length := by rw [HN.out]; exact hlt
      have cc := h6.num 1 rfl k hkl
      obtain ⟨x0, x1⟩ := HO.out _ (List.getElem_mem hkl)
      have hob := hObjs_mem (List.getElem_mem hkl)
      have hnt : (hObjs h.a)[k] ∉ goneTo h k := fun hm => nodup_at (hObjs_nodup h.a) hkl (List.mem_filter.1 hm).1
      obtain ⟨ew, ek, eo⟩ := words_frees OK.out.a (goneTo h k) hnt hob
      have hsucc := goneTo_succ h hkl
      obtain ⟨x, hx⟩ : ∃ x, (hObjs h.a)[k] = x := ⟨_, rfl⟩
      rw [hx] at cc x0 x1 hob ew ek eo hsucc
      have hwx : Wd x := by unfold Wd; omega
      have okS := h6.pick2.heapOk
      have hk0 : ¬ aKind (sweptTo h k).a.c x = 0 := by
        have := isObj_kind okS.a x
        rw [show isObj (sweptTo h k).a x = true from eo] at this
        simpa using this.symm
      have hcol : hColour (sweptTo h k) x = h.col x := by unfold hColour; rw [show isObj (sweptTo h k).a x = true from eo]; rfl
      have HK0 := Lib.hid hk0
      have HC := Lib.hid hcol
      have HS := Lib.hid hsucc
      have HE := Lib.hid (And.intro ew (And.intro ek eo))
      have OKS := Lib.hid okS
      have i0 : (0 : Int) ≤ k := by omega
      have i1 : (k : Int) < n := by omega
      clear hob hnt ew ek eo hsucc hx hk0 hcol okS hkl
      go_wp2_with fail
      refine (h_object h6.pick2 x).mono ?_
      rintro e w3 ⟨vw, rfl, h7⟩
      obtain ⟨_, pw, cw, rfl, -⟩ := h7.shape 0 rfl
      obtain ⟨kd, hkd⟩ : ∃ kd, aKind (sweptTo h k).a.c x = kd := ⟨_, rfl⟩
      obtain ⟨m, hm⟩ : ∃ m, (aWords (sweptTo h k).a x).length = m := ⟨_, rfl⟩
      rw [show objV (aKind (sweptTo h k).a.c x) x (.slice pw (aWords (sweptTo h k).a x).length cw) = .tuple #[.agg #[.int .i64 kd, .int .i64 x, .slice pw m cw], .bool true] by unfold objV; rw [if_neg HK0.out, hkd, hm]; rfl]
      rw [hm] at h7
      have HKD := Lib.hid hkd
      obtain ⟨tb, htb⟩ : ∃ tb, w3.heap.size = tb := ⟨_, rfl⟩
      have h8 := h7.new #[.int .i64 kd, .int .i64 x, .slice pw m cw] 125
      rw [htb] at h8
      obtain ⟨mb1, lb1, h9⟩ := h8.pick2.openH.2
      have c4 : _ = some (Value.int .i64 h.sp) := (h9.hcell (k := 0) rfl).2.2.2.2.1
      clear h6 h7 h9 cc hm hkd
      by_cases hq : x / 32 = h.sp
      · have HQ := Lib.hid hq
        by_cases hc0 : h.col x = 0
        · have HC0 := Lib.hid hc0
          have hgb : goneB h x = true := by unfold goneB; rw [hq, hc0]; simp
          have HGB := Lib.hid hgb
          have hs1 : goneTo h (k + 1) = goneTo h k ++ [x] := by rw [HS.out, hgb]; rfl
          have HS1 := Lib.hid hs1
          clear hc0 hgb hs1
          go_wp2_with fail
          refine (h_Colour h8.pick2 x hwx).mono ?_
          rintro e w4 ⟨rfl, h10⟩
          rw [HC.out, HC0.out]
          have t0 : w4.cell? ⟨tb, 0, none⟩ = some (.int .i64 kd) := h10.cell 1 rfl 0 rfl
          have t2 : w4.cell? ⟨tb, 2, none⟩ = some (.slice pw m cw) := h10.cell 1 rfl 2 rfl
          have h11 : St w0 F0 (GonesP (.slice p3 n3 c3) ((goneTo h k).map (gnOf h false)) :: RowP (.slice pw m cw) (gnOf h false x).words :: BlkP tb 125 #[.int .i64 kd, .int .i64 x, .slice pw m cw] :: HeapP b ab (sweptTo h k) :: RowP (.slice (some ⟨g, 0, none⟩) n cv) (hObjs h.a) :: ps) w4 := by
            rw [show (gnOf h false x).words = aWords (sweptTo h k).a x from HE.out.1.symm]
            exact h10.pick2.pick3.swap2
          have hgl : ((goneTo h k).map (gnOf h false)).length ≤ k := by
            rw [List.length_map]; unfold goneTo; exact Nat.le_trans (List.length_filter_le _ _) (by simp; omega)
          obtain ⟨gl, hgll⟩ : ∃ gl, ((goneTo h k).map (gnOf h false)).length = gl := ⟨_, rfl⟩
          have hgl4 : gl < 1000000 := by omega
          have HGL := Lib.hid hgll
          have hkx : (gnOf h false x).kind = kd := by show aKind h.a.c x = kd; rw [← HKD.out]; exact HE.out.2.1.symm
          have HKX := Lib.hid hkx
          clear h8 h10 c4 hgl hgll hkx
          go_wp2_with (at_builtin; refine wpList_growG (y := gnOf h false x) gl HGL.out hgl4 rfl _ _ rfl h11 ?_ rfl rfl rfl ?_)
          · rw [HKX.out]; rfl
          · intro gg cg w5 h12
            obtain ⟨mb2, lb2, h13⟩ := h12.pick2.openH.2
            have c0 := (h13.hcell (k := 0) rfl).1
            clear h11 h13 t0 t2
            go_wp2_with fail
            refine (ha_Free h12.pick2 x (by rw [show (sweptTo h k).g = [] from HG.out]; simp)).mono ?_
            rintro e w6 ⟨rfl, h14⟩
            have okF := h14.heapOk
            obtain ⟨mb3, lb3, h15⟩ := h14.openH.2
            have c1 := (h15.hcell (k := 0) rfl).2.1
            clear h12 c0
            go_wp2_with (at_delete; refine wpList_colDel rfl _ _ rfl h15.pick2 rfl x hwx rfl ?_)
            intro w7 h16
            have h17 : St w0 F0 (HeapP b ab (sweptTo h (k + 1)) :: GonesP (.slice (some ⟨gg, 0, none⟩) (gl + 1) cg) ((goneTo h k).map (gnOf h false) ++ [gnOf h false x]) :: BlkP tb 125 #[.int .i64 kd, .int .i64 x, .slice pw m cw] :: RowP (.slice (some ⟨g, 0, none⟩) n cv) (hObjs h.a) :: ps) w7 := by
              have e : sweptTo h (k + 1) = { sweptTo h k with a := aFreeS x (sweptTo h k).a } := by unfold sweptTo; rw [HS1.out, List.foldl_append]; rfl
              rw [e]
              refine St.closeH (mb := mb3) (lb := lb3) (h := { sweptTo h k with a := aFreeS x (sweptTo h k).a }) ?_ okF
              have h18 := h16.back2
              rw [updM_same (show ({ sweptTo h k with a := aFreeS x (sweptTo h k).a } : HSt).col x = 0 from HC0.out)] at h18
              exact h18
            clear h14 h15 h16 c1
            go_wp2
            go_roundw
            case rel =>
              refine ⟨k + 1, _, by omega, by go_num, rfl, ?_⟩
              rw [HS1.out, List.map_append]
              exact h17.pick2.drop.pick2.pick2
            case measure => simp [intOf]; omega
        · have cb : (h.col x == 0) = false := by simpa using hc0
          have cb2 : (h.col x != 0) = true := by simp [bne, cb]
          have CB := Lib.hid (And.intro cb cb2)
          have hs1 : goneTo h (k + 1) = goneTo h k := by rw [HS.out]; unfold goneB; rw [decide_eq_false hc0]; simp
          have HS1 := Lib.hid (show goneTo h (k + 1) = goneTo h k ∧ sweptTo h (k + 1) = sweptTo h k from ⟨hs1, by unfold sweptTo; rw [hs1]⟩)
          clear cb cb2 hc0 hs1
          go_wp2_with fail
          refine (h_Colour h8.pick2 x hwx).mono ?_
          rintro e w4 ⟨rfl, h10⟩
          rw [HC.out]
          obtain ⟨cb, cb2⟩ := CB.out
          clear h8 c4
          go_wp2
          go_roundw
          case rel =>
            refine ⟨k + 1, _, by omega, by go_num, rfl, ?_⟩
            rw [HS1.out.1, HS1.out.2]
            exact h10.pick1.drop.pick1.drop.back2
          case measure => simp [intOf]; omega
      · have qb : (x / 32 == h.sp) = false := by simpa using hq
        have qb2 : (x / 32 != h.sp) = true := by simp [bne, qb]
        have hs1 : goneTo h (k + 1) = goneTo h k := by rw [HS.out]; unfold goneB; rw [decide_eq_false hq]; simp
        have HS1 := Lib.hid (show goneTo h (k + 1) = goneTo h k ∧ sweptTo h (k + 1) = sweptTo h k from ⟨hs1, by unfold sweptTo; rw [hs1]⟩)
        clear hs1 hq
        go_wp2
        go_roundw
        case rel =>
          refine ⟨k + 1, _, by omega, by go_num, rfl, ?_⟩
          rw [HS1.out.1, HS1.out.2]
          exact h8.drop.drop.back2
        case measure => simp [intOf]; omega
    · have hkn : k = n := by omega
      subst hkn
      have hgt : goneTo h k = hGone h := by unfold goneTo hGone; rw [List.take_of_length_le (by rw [HN.out]; omega)]; rfl
      have HGT := Lib.hid hgt
      obtain ⟨mb1, lb1, h7⟩ := h6.pick2.openH.2
      have c4 : wr.cell? ⟨b, 4, none⟩ = some (.int .i64 h.sp) := (h7.hcell (k := 0) rfl).2.2.2.2.1
      have f4 := h7.free 0 rfl 4
      have h8 := h7.set 4 (.int .i64 (h.sp + 1))
      have e0 : (wr.setCell ⟨b, 4, none⟩ (.int .i64 (h.sp + 1))).cell? ⟨b, 0, none⟩ = some (.pointer (some ⟨ab, 0, none⟩)) := h8.cell 0 rfl 0 rfl
      have e4 : (wr.setCell ⟨b, 4, none⟩ (.int .i64 (h.sp + 1))).cell? ⟨b, 4, none⟩ = some (.int .i64 (h.sp + 1)) := h8.cell 0 rfl 4 rfl
      have e5 : (wr.setCell ⟨b, 4, none⟩ (.int .i64 (h.sp + 1))).cell? ⟨b, 5, none⟩ = some (.int .i64 h.cy) := h8.cell 0 rfl 5 rfl
      have hlen : (sweptTo h k).a.c.length = 32 * h.a.l.length := by
        have := (frees_len OK.out.a (goneTo h k)).2.1
        rw [show (sweptTo h k).a = (goneTo h k).foldl (fun s p => aFreeS p s) h.a from rfl, this]; exact hcl
      obtain ⟨L, hL⟩ : ∃ L : Nat, h.a.l.length = L := ⟨_, rfl⟩
      have HL := Lib.hid hL
      rw [hL] at spn hm128 hlen
      have hlc : ((sweptTo h k).a.c.length : Int) = 32 * (L : Int) := by rw [hlen]; simp
      obtain ⟨N, hN⟩ : ∃ N : Nat, (sweptTo h k).a.c.length = N := ⟨_, rfl⟩
      rw [hN] at hlc
      have HNN := Lib.hid hN
      clear hgt h6 h7 hcl hL hN
      go_wp2
      have t3 : IntKind.i64.wrap ((N : Int).tdiv 32) = (L : Int) := by
        rw [hlc, show (32 * (L : Int)).tdiv 32 = (L : Int) from Int.mul_tdiv_cancel_left _ (by decide)]
        exact IntWalk.i64_in _ (by omega)
      go_quiet ((go_at_call 55; exact Calls.quiet_of_same ((a_Words (h8.drewN _).pick1).mono fun _ _ ⟨x, y⟩ => ⟨by rw [x, HNN.out], y.symm⟩)))
      have h9 := h8.drewN nq
      have f3 := h9.free 0 rfl 3
      have d3 := h9.cell 0 rfl 3 rfl
      have f5 := h9.free 0 rfl 5
      have d5 := h9.cell 0 rfl 5 rfl
      by_cases hlast : L ≤ h.sp + 1
      · have hsw : hSweep h = ((hGone h).map (gnOf h false), { sweptTo h k with sp := h.sp + 1, ph := 0, cy := wrap64 (h.cy + 1) }) := by
          unfold hSweep sweptTo; simp only; rw [if_pos (by rw [HL.out]; omega), HGT.out]
        have HSW := Lib.hid hsw
        clear hsw
        go_wp2
        go_ret
        refine ⟨_, rfl, ?_⟩
        have okE := OKE.out
        rw [HSW.out] at okE ⊢
        rw [← HGT.out]
        have h10 := (h9.set 3 (.int .i64 0)).set 5 (.int .i64 (wrap64 (h.cy + 1)))
        have h11 : St w0 F0 (HeapP b ab { sweptTo h k with sp := h.sp + 1, ph := 0, cy := wrap64 (h.cy + 1) } :: GonesP (.slice p3 n3 c3) ((goneTo h k).map (gnOf h false)) :: RowP (.slice pv k cv) (hObjs h.a) :: ps) _ := St.closeH (mb := mb1) (lb := lb1) (h := { sweptTo h k with sp := h.sp + 1, ph := 0, cy := wrap64 (h.cy + 1) }) h10 okE
        exact (h11.pick2.drop.pick1)
      · have hsw : hSweep h = ((hGone h).map (gnOf h false), { sweptTo h k with sp := h.sp + 1 }) := by
          unfold hSweep sweptTo; simp only; rw [if_neg (by rw [HL.out]; omega), HGT.out]
        have HSW := Lib.hid hsw
        clear hsw
        go_wp2
        go_ret
        refine ⟨_, rfl, ?_⟩
        have okE := OKE.out
        rw [HSW.out] at okE ⊢
        rw [← HGT.out]
        have h11 : St w0 F0 (HeapP b ab { sweptTo h k with sp := h.sp + 1 } :: GonesP (.slice p3 n3 c3) ((goneTo h k).map (gnOf h false)) :: RowP (.slice pv k cv) (hObjs h.a) :: ps) _ := St.closeH (mb := mb1) (lb := lb1) (h := { sweptTo h k with sp := h.sp + 1 }) h9 okE
        exact (h11.pick2.drop.pick1)

theorem h_Step (hs : St w0 F0 (HeapP b ab h :: ps) w) :
    Calls Try.prog 30 #[.pointer (some ⟨b, 0, none⟩)] w fun e w' => ∃ v, e = .returned v ∧ St w0 F0 (GonesP v (hStep h).1 :: HeapP b ab (hStep h).2 :: ps) w' := by
  rcases hs.heapOk.phs with h0 | h1 | h2
  · have e : hStep h = ([], h) := by unfold hStep; rw [h0]; rfl
    rw [e]
    have H0 := Lib.hid h0
    clear e h0
    go_enter Try.func30, Try.ntmps30
    go_wp2_with fail
    refine (h_Phase hs).mono ?_
    rintro e w1 ⟨rfl, rfl⟩
    rw [H0.out]
    go_wp2
    go_ret
    exact ⟨_, rfl, hs.nilG⟩
  · have e : hStep h = hMark h := by unfold hStep; rw [h1]; rfl
    rw [e]
    have H0 := Lib.hid h1
    clear e h1
    go_enter Try.func30, Try.ntmps30
    go_wp2_with fail
    refine (h_Phase hs).mono ?_
    rintro e w1 ⟨rfl, rfl⟩
    rw [H0.out]
    go_wp2_with fail
    refine (h_mark hs).mono ?_
    rintro e w1 ⟨v, rfl, h3⟩
    go_wp2
    go_ret
    exact ⟨_, rfl, h3⟩
  · have e : hStep h = hSweep h := by unfold hStep; rw [h2]; rfl
    rw [e]
    have H0 := Lib.hid h2
    clear e h2
    go_enter Try.func30, Try.ntmps30
    go_wp2_with fail
    refine (h_Phase hs).mono ?_
    rintro e w1 ⟨rfl, rfl⟩
    rw [H0.out]
    go_wp2_with fail
    refine (h_sweep hs H0.out).mono ?_
    rintro e w1 ⟨v, rfl, h3⟩
    go_wp2
    go_ret
    exact ⟨_, rfl, h3⟩
end
end Go.Proofs.Ytdnelekoplkkcaa
