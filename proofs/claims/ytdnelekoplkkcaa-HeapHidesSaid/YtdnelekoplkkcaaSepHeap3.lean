/- Package heap: New, Phase, Begin, look, object. -/
import Derived.Test.YtdnelekoplkkcaaSepHeap2
import Derived.Laws.ResultCell
namespace Go.Proofs.Ytdnelekoplkkcaa
open Go.RowKit
set_option linter.unusedVariables false
section
variable {w0 w : World} {F0 : List Nat} {ps : List Piece} {b ab mb lb : Nat} {h : HSt}

theorem g_New {ps : List Piece} (hs : St w0 F0 ps w) : Calls Try.prog 54 #[] w fun e w' => ∃ lb, e = .returned (.pointer (some ⟨lb, 0, none⟩)) ∧ St w0 F0 (GreyP lb [] false :: ps) w' :=
  (grey_New w).mono fun e w' ⟨he, F, a, k, f⟩ => ⟨_, he, hs.push (p := GreyP w.heap.size [] false) (k.below) ⟨F, a, fun i hi => (f i hi).elim (by simp) id⟩⟩

set_option maxHeartbeats 1000000 in
theorem h_New {n : Nat} (hn2 : 2 ≤ n) (hn : n ≤ 128) (hs : St w0 F0 ps w) :
    Calls Try.prog 27 #[.int .i64 n] w fun e w' => ∃ b ab, e = .returned (.tuple #[.pointer (some ⟨b, 0, none⟩), .int .i64 0]) ∧ St w0 F0 (HeapP b ab (hNew n) :: ps) w' := by
  have hmm := @run_makeMap Try.prog
  go_enter Try.func27, Try.ntmps27
  go_wp2_with fail
  refine (a_New hs n hn2 hn).mono ?_
  rintro e w1 ⟨ab, rfl, h1⟩
  go_wp2_with fail
  refine (g_New h1.newMap).mono ?_
  rintro e w2 ⟨lb, rfl, h2⟩
  go_wp2
  go_ret2
  refine ⟨_, ab, rfl, ?_⟩
  have h3 := h2.new #[.pointer (some ⟨ab, 0, none⟩), .map (some w1.heap.size), .pointer (some ⟨lb, 0, none⟩), .int .i64 0, .int .i64 0, .int .i64 0] 87
  exact St.closeH (h := hNew n) h3.pick3.pick3.pick2.swap1 (HOk.new n hn2 hn)
theorem h_New_no (n : Int) (hn : n < 2 ∨ 128 < n) (w : World) :
    Calls Try.prog 27 #[.int .i64 n] w fun e w' => e = .returned (.tuple #[.pointer none, .int .i64 1]) ∧ w = w' := by
  go_enter Try.func27, Try.ntmps27
  go_wp2_with fail
  refine (arena_New_no n hn _).mono ?_
  rintro e w1 ⟨rfl, rfl⟩
  go_wp2
  go_ret2
  exact ⟨rfl, rfl⟩

theorem shades_snoc (l : List Int) (p : Int) (h : HSt) : hShades (l ++ [p]) h = hShade p (hShades l h) := by simp [hShades]
theorem shadesW_snoc (l : List Int) (p : Int) (h : HSt) : hShadesW (l ++ [p]) h = hShadeW p (hShadesW l h) := by simp [hShadesW]
end
/-- A piece that shows the numbers L behind the slice v. -/
structure Sees (R : Piece) (v : Value) (L : List Int) : Prop where
  row : ∀ {w : World} {F : List Nat}, R.at' w F → w.ownsRow 0 3 1 v L.length (iV L)
theorem Sees.shape {R : Piece} {v : Value} {L : List Int} (hR : Sees R v L) {w0 w : World} {F0 : List Nat} {ps : List Piece} (h : St w0 F0 ps w) (k : Nat) (hk : ps[k]? = some R) : L.length ≤ maxLen ∧ ∃ p c, v = .slice p L.length c ∧ (L.length = 0 ∨ ∃ g, p = some ⟨g, 0, none⟩) := by
  obtain ⟨G, h1⟩ := h.get k hk; exact own_shape (hR.row h1)
theorem Sees.num {R : Piece} {L : List Int} {g n c : Nat} (hR : Sees R (.slice (some ⟨g, 0, none⟩) n c) L) {w0 w : World} {F0 : List Nat} {ps : List Piece} (h : St w0 F0 ps w) (k : Nat) (hk : ps[k]? = some R) (i : Nat) (hi : i < L.length) : w.cell? ⟨g, i, none⟩ = some (.int .i64 L[i]) := by
  obtain ⟨G, h1⟩ := h.get k hk; exact own_num (hR.row h1) i hi
theorem sees_row (v : Value) (L : List Int) : Sees (RowP v L) v L := ⟨fun h => h.1⟩
theorem sees_take {g n c : Nat} {L : List Int} (k : Nat) (hk : k ≤ L.length) : Sees (RowP (.slice (some ⟨g, 0, none⟩) n c) L) (.slice (some ⟨g, 0, none⟩) k c) (L.take k) := ⟨fun {w F} h => by
  have h := h.1
  have hl : (L.take k).length = k := by simp; omega
  rw [hl]
  refine ⟨by simp [iV]; omega, ?_⟩
  rcases h.2 with ⟨e, _⟩ | ⟨g', cap, cs, e, h2, h3, h4, h5, h6, h7⟩
  · cases e
  · injection e with e1 e2 e3
    injection e1 with e1
    injection e1 with e1
    subst e1; subst e3
    refine .inr ⟨g, c, cs, rfl, h2, h3, by omega, h5, h6, ?_⟩
    have := congrArg (List.take k) h7
    rw [List.take_take] at this
    simp only [Nat.mul_one] at this ⊢
    rw [Nat.min_eq_left hk] at this
    rw [this]; simp [iV, List.map_take]⟩
section
variable {w0 w : World} {F0 : List Nat} {ps : List Piece} {b ab mb lb : Nat} {h : HSt}
set_option maxHeartbeats 2000000 in
theorem h_BeginR {R : Piece} {v : Value} {L : List Int} (hR : Sees R v L) (hs : St w0 F0 (HeapP b ab h :: R :: ps) w) (hL : ∀ x ∈ L, Wd x) :
    Calls Try.prog 23 #[.pointer (some ⟨b, 0, none⟩), v] w fun e w' => e = .returned (.int .i64 (hBeginE h)) ∧ St w0 F0 (HeapP b ab (hBegin L h) :: R :: ps) w' := by
  have hmm := @run_makeMap Try.prog
  obtain ⟨hlm, p, c, rfl, hp⟩ := hR.shape hs 1 rfl
  unfold maxLen at hlm
  have HP := Lib.hid hp
  have HR := Lib.hid hR
  have HW := Lib.hid hL
  obtain ⟨ok, mb, lb, h1⟩ := hs.openH
  have c3 := (h1.hcell (k := 0) rfl).2.2.2.1
  clear hp hL hR
  unfold hBegin hBeginE
  by_cases h0 : h.ph = 0
  · rw [if_pos h0, if_pos h0]
    rw [h0] at c3
    have okc := ok.clear h0
    have f1 := h1.free 0 rfl 1
    clear h0 ok hs
    go_enter Try.func23, Try.ntmps23
    go_wp2_with fail
    refine (g_New h1.newMap).mono ?_
    rintro e w2 ⟨lb2, rfl, h2⟩
    have d1 := h2.cell 2 rfl 1 rfl
    have d2 := h2.cell 2 rfl 2 rfl
    have d3 := h2.cell 2 rfl 3 rfl
    have f1 := h2.free 2 rfl 1
    have f2 := h2.free 2 rfl 2
    have f3 := h2.free 2 rfl 3
    clear h1 c3
    go_wp2
    have h3 := ((h2.pick2.set 1 (.map (some w.heap.size))).set 2 (.pointer (some ⟨lb2, 0, none⟩))).set 3 (.int .i64 1)
    have h4 := h3.pick4.drop.pick4.drop.pick3.pick3.pick2.swap1
    have h5 : St w0 F0 (HeapP b ab { h with col := fun _ => 0, g := [], ov := false, ph := 1 } :: R :: ps) _ := St.closeH (h := { h with col := fun _ => 0, g := [], ov := false, ph := 1 }) h4 okc
    clear h2 h3 h4 d1 d2 d3 f1 f2 f3
    obtain ⟨hc, hhc⟩ : ∃ hc : HSt, ({ h with col := fun _ => 0, g := [], ov := false, ph := 1 } : HSt) = hc := ⟨_, rfl⟩
    rw [hhc] at h5
    have HH := Lib.hid hhc
    clear hhc
    go_loopw [29] (fun iv wr => ∃ k : Nat, k ≤ L.length ∧ iv = .int .i64 k ∧ St w0 F0 (HeapP b ab (hShades (L.take k) hc) :: R :: ps) wr) (fun iv _ => L.length - (intOf iv).toNat)
    case atStart => exact ⟨0, by omega, rfl, h5⟩
    case round =>
      obtain ⟨k, hk, rfl, h6⟩ := hrel
      clear h5
      by_cases hlt : k < L.length
      · obtain ⟨g, rfl⟩ := HP.out.resolve_left (by omega)
        have cc := HR.out.num h6 1 rfl k hlt
        have hw := HW.out L[k] (List.getElem_mem hlt)
        have HS := Lib.hid (show hShades (L.take (k + 1)) hc = hShade L[k] (hShades (L.take k) hc) by rw [List.take_succ_eq_append_getElem hlt, shades_snoc])
        have i0 : (0 : Int) ≤ k := by omega
        have i1 : (k : Int) < L.length := by omega
        generalize L[k] = x at *
        go_wp2_with fail
        refine (h_Shade h6 x hw).mono ?_
        rintro e w3 ⟨rfl, h7⟩
        clear h6 cc
        go_wp2
        go_roundw
        case rel => exact ⟨k + 1, by omega, by go_num, by rw [HS.out]; exact h7⟩
        case measure => simp [intOf]; omega
      · have hkl : k = L.length := by omega
        subst hkl
        go_wp2
        go_ret
        rw [List.take_length, ← HH.out] at h6
        exact ⟨rfl, h6⟩
  · rw [if_neg h0, if_neg h0]
    have e1 : (h.ph == 0) = false := by simpa using h0
    have e2 : (h.ph != 0) = true := by simp [bne, e1]
    clear h0 h1 ok
    go_enter Try.func23, Try.ntmps23
    go_wp2
    go_ret
    exact ⟨rfl, hs⟩
theorem h_Begin {v : Value} {L : List Int} (hs : St w0 F0 (HeapP b ab h :: RowP v L :: ps) w) (hL : ∀ x ∈ L, Wd x) :
    Calls Try.prog 23 #[.pointer (some ⟨b, 0, none⟩), v] w fun e w' => e = .returned (.int .i64 (hBeginE h)) ∧ St w0 F0 (HeapP b ab (hBegin L h) :: RowP v L :: ps) w' := h_BeginR (sees_row v L) hs hL
end

@[go_sem] theorem as_bb (v : Value) (w : World) : (Instr.typeAssert (.iface 145 v) 20 145 true).run Try.prog w = .ok (.tuple #[v, .bool true]) w := by kernel_rfl
@[go_sem] theorem as_tb (v : Value) (w : World) : (Instr.typeAssert (.iface 125 v) 20 145 true).run Try.prog w = .ok (.tuple #[.agg #[.int .i64 0, .int .i64 0, .slice none 0 0], .bool false]) w := by kernel_rfl
@[go_sem] theorem as_nb (w : World) : (Instr.typeAssert .nilIface 20 145 true).run Try.prog w = .ok (.tuple #[.agg #[.int .i64 0, .int .i64 0, .slice none 0 0], .bool false]) w := by kernel_rfl
@[go_sem] theorem as_tt (v : Value) (w : World) : (Instr.typeAssert (.iface 125 v) 20 125 true).run Try.prog w = .ok (.tuple #[v, .bool true]) w := by kernel_rfl
@[go_sem] theorem as_bt (v : Value) (w : World) : (Instr.typeAssert (.iface 145 v) 20 125 true).run Try.prog w = .ok (.tuple #[.agg #[.int .i64 0, .int .i64 0, .slice none 0 0], .bool false]) w := by kernel_rfl
@[go_sem] theorem as_nt (w : World) : (Instr.typeAssert .nilIface 20 125 true).run Try.prog w = .ok (.tuple #[.agg #[.int .i64 0, .int .i64 0, .slice none 0 0], .bool false]) w := by kernel_rfl
def thingV (k p : Int) (v : Value) : Value := .agg #[.int .i64 k, .int .i64 p, v]
def lookV (k p : Int) (v : Value) : Value := if k = 0 then .nilIface else if k = 5 then .iface 145 (thingV k p v) else .iface 125 (thingV k p v)

theorem word_at {s : ASt} {p : Int} {j : Nat} (hj : j < (aWords s p).length) : aErr p j s = 0 ∧ aWord p j s = (aWords s p)[j] := by
  rw [aWords_len] at hj
  have hn : ∃ k n, aHead s.c p = some (k, n) ∧ (j : Int) < n := by
    unfold aLen at hj
    cases e : aHead s.c p with
    | none => rw [e] at hj; simp at hj
    | some kn => rw [e] at hj; exact ⟨kn.1, kn.2, rfl, by simp only at hj; omega⟩
  obtain ⟨k, n, hk, hlt⟩ := hn
  have he : aErr p j s = 0 := by unfold aErr; rw [hk]; simp only [if_pos (show 0 ≤ (j : Int) ∧ (j : Int) < n by omega)]
  refine ⟨he, ?_⟩
  unfold aWord; rw [he, if_pos rfl]
  simp [aWords]
theorem alen_bd {s : ASt} (hok : AOk s) (p : Int) : 0 ≤ aLen s.c p ∧ aLen s.c p < 32 := by
  unfold aLen
  cases e : aHead s.c p with
  | none => simp
  | some kn =>
    obtain ⟨k, n⟩ := kn
    obtain ⟨q, rfl, hq⟩ := aHead_some e
    obtain ⟨i, u, _, hu, _, _, h0, hx, _⟩ := hok.head q k n hq
    have := (used_geo hok.rows hu).2.1
    simp only
    omega
section
variable {w0 w : World} {F0 : List Nat} {ps : List Piece} {b ab mb lb : Nat} {h : HSt}
set_option maxRecDepth 100000 in
set_option maxHeartbeats 2000000 in
theorem h_look (hs : St w0 F0 (HeapP b ab h :: ps) w) (p : Int) :
    Calls Try.prog 97 #[.pointer (some ⟨b, 0, none⟩), .int .i64 p] w fun e w' => ∃ v, e = .returned (lookV (aKind h.a.c p) p v) ∧ St w0 F0 (RowP v (aWords h.a p) :: HeapP b ab h :: ps) w' := by
  have ok := hs.heapOk
  obtain ⟨l0, l1⟩ := alen_bd ok.a p
  obtain ⟨n, hn⟩ := Int.eq_ofNat_of_zero_le l0
  have hwl : (aWords h.a p).length = n := by rw [aWords_len, hn]; simp
  have HN := Lib.hid hn
  have HL := Lib.hid hwl
  have n32 : n < 32 := by omega
  clear hn hwl l0 l1 ok
  obtain ⟨ok, mb0, lb0, h1⟩ := hs.openH
  have c0 := (h1.hcell (k := 0) rfl).1
  clear h1 ok mb0 lb0
  go_enter Try.func97, Try.ntmps97
  go_wp2_with fail
  refine (ha_Kind hs _).mono ?_
  rintro e w1 ⟨rfl, h1⟩
  obtain ⟨k, hk⟩ : ∃ k, aKind h.a.c p = k := ⟨_, rfl⟩
  rw [hk]
  have HK0 := Lib.hid hk
  clear hk
  obtain ⟨tb, htb⟩ : ∃ tb, w1.heap.size = tb := ⟨_, rfl⟩
  have h2 := h1.new #[.int .i64 k, .int .i64 p, .slice none 0 0] 125
  rw [htb] at h2
  obtain ⟨ok, mb0, lb0, h3⟩ := (h2.pick1).openH
  have c0 := (h3.hcell (k := 0) rfl).1
  clear hs h1 h3 ok mb0 lb0
  go_wp2_with fail
  refine (ha_Len h2.pick1 _).mono ?_
  rintro e w2 ⟨rfl, h3⟩
  rw [HN.out]
  clear h2 c0
  have h4 := h3.nil
  clear h3 htb
  go_wp2
  go_loopw [23] (fun iv wr => ∃ (j : Nat) (v : Value), j ≤ n ∧ iv = .int .i64 j ∧ St w0 F0 (RowP v ((aWords h.a p).take j) :: HeapP b ab h :: BlkP tb 125 #[.int .i64 k, .int .i64 p, v] :: ps) wr) (fun iv _ => n - (intOf iv).toNat)
  case atStart => exact ⟨0, _, by omega, rfl, h4⟩
  case round =>
    obtain ⟨j, v, hj, rfl, h5⟩ := hrel
    clear h4
    by_cases hlt : j < n
    · obtain ⟨e0, e1⟩ := word_at (s := h.a) (p := p) (j := j) (by rw [HL.out]; exact hlt)
      have HE := Lib.hid (And.intro e0 e1)
      have hT : (aWords h.a p).take (j + 1) = (aWords h.a p).take j ++ [(aWords h.a p)[j]'(by rw [HL.out]; exact hlt)] := List.take_succ_eq_append_getElem _
      have HT := Lib.hid hT
      generalize (aWords h.a p)[j]'(by rw [HL.out]; exact hlt) = x at *
      obtain ⟨ok, mb0, lb0, h6⟩ := (h5.pick1).openH
      have c0 := (h6.hcell (k := 0) rfl).1
      clear e0 e1 hT h6 ok mb0 lb0
      go_wp2_with fail
      refine (ha_Load h5.pick1 _ _).mono ?_
      rintro e w3 ⟨rfl, h6⟩
      have hx := HE.out.2
      unfold loadV
      rw [HE.out.1, hx]
      have h7 := h6.pick1
      have d2 := h7.cell 2 rfl 2 rfl
      clear h5 h6 c0 hx
      have hlt2 : ((aWords h.a p).take j).length = j := by rw [List.length_take, HL.out]; omega
      have HLT := Lib.hid hlt2
      clear hlt2
      go_wp2_with (at_builtin; refine wpList_growN j HLT.out (by omega) rfl _ _ rfl h7 rfl rfl rfl ?_)
      · intro gv cv w4 h8
        rw [← HT.out] at h8
        have d2' := h8.cell 2 rfl 2 rfl
        have f2 := h8.free 2 rfl 2
        clear h7 d2
        go_wp2
        go_roundw
        case rel => exact ⟨j + 1, _, by omega, by go_num, (h8.pick2.set 2 (.slice (some ⟨gv, 0, none⟩) (j + 1) cv)).back2⟩
        case measure => simp [intOf]; omega
    · have hjn : j = n := by omega
      subst hjn
      rw [List.take_of_length_le (by rw [HL.out]; omega)] at h5
      have d0 := h5.cell 2 rfl 0 rfl
      have d1 := h5.cell 2 rfl 1 rfl
      have d2 := h5.cell 2 rfl 2 rfl
      obtain ⟨_, pv, cv, rfl, -⟩ := h5.shape 0 rfl
      have h6 := h5.pick2.drop
      by_cases k0 : k = 0
      · subst k0
        go_wp2
        go_ret
        exact ⟨_, by rw [HK0.out]; rfl, h6⟩
      · by_cases k5 : k = 5
        · subst k5
          go_wp2
          go_ret
          exact ⟨_, by rw [HK0.out]; rfl, h6⟩
        · have b0 : (k == 0) = false := by simpa using k0
          have b5 : (k == 5) = false := by simpa using k5
          have HK := Lib.hid (And.intro k0 k5)
          clear k0 k5
          go_wp2
          go_ret
          exact ⟨_, by rw [HK0.out]; unfold lookV; rw [if_neg HK.out.1, if_neg HK.out.2]; rfl, h6⟩
end
end Go.Proofs.Ytdnelekoplkkcaa
