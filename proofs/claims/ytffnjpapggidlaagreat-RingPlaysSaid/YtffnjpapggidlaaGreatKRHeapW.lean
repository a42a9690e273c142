/- RHeapW -/
import Derived.Test.YtffnjpapggidlaaGreatKRHeap
import Derived.Test.YtffnjpapggidlaaGreatKPrimV
import Derived.Test.YtffnjpapggidlaaGreatKEvMap
import Derived.Test.YtffnjpapggidlaaGreatKRowG
/- The reference heap's own fields, as its own functions turn them: the list of grey ones, a colour, the phase. -/
namespace Go.Proofs.YtffnjpapggidlaaGreat
open Go.RowKit
set_option linter.unusedVariables false
set_option linter.unusedSimpArgs false
section
variable {w0 w : World} {F0 : List Nat} {ps : List Piece} {b ab sb g cb gl : Nat} {s s' : HSt}
/-! ### The list -/
theorem St.openRL {L : List Int} {ov : Bool} (h : St w0 F0 (RListP gl L ov :: ps) w) : L.length ≤ 8 ∧ ∃ lv, St w0 F0 (BlkP gl 178 #[lv, .bool ov] :: RowP lv L :: ps) w := by
  obtain ⟨F, ⟨F1, F2, rfl, ⟨lv, hb, hown, hl, hF⟩, h2, hd⟩, k, h3⟩ := h
  have hne := own_type hown hb (by decide)
  subst hF
  refine ⟨hl, lv, _, ⟨[gl], lv.ownBlock.toList ++ F2, rfl, ⟨hb, rfl⟩, ⟨lv.ownBlock.toList, F2, rfl, ⟨hown, rfl⟩, h2, fun i hi => hd i (List.mem_cons_of_mem _ hi)⟩, ?_⟩, k, h3⟩
  intro i hi hm
  simp only [List.mem_singleton] at hi
  subst hi
  rcases List.mem_append.1 hm with hm | hm
  · have := Option.mem_toList.1 hm
    exact hne i this rfl
  · exact hd i (by simp) hm
theorem St.closeRL {L : List Int} {ov : Bool} {lv : Value} (h : St w0 F0 (BlkP gl 178 #[lv, .bool ov] :: RowP lv L :: ps) w) (hl : L.length ≤ 8) : St w0 F0 (RListP gl L ov :: ps) w := by
  obtain ⟨F, ⟨F1, F2, rfl, ⟨hb, rfl⟩, ⟨F3, F4, rfl, ⟨hown, rfl⟩, h4, hd4⟩, hd⟩, k, h3⟩ := h
  refine ⟨_, ⟨gl :: lv.ownBlock.toList, F4, rfl, ⟨lv, hb, hown, hl, rfl⟩, h4, ?_⟩, k, h3⟩
  intro i hi hm
  rcases List.mem_cons.1 hi with rfl | hi
  · exact hd i (by simp) (List.mem_append_right _ hm)
  · exact hd4 i hi hm
theorem St.rhG {k : Nat} (hs : St w0 F0 ps w) (hk : ps[k]? = some (RHeapP b ab sb g cb s)) : ∃ gl, w.cell? ⟨b, 2, none⟩ = some (.pointer (some ⟨gl, 0, none⟩)) := by
  obtain ⟨G, ok, gl, hsep⟩ := hs.get k hk
  obtain ⟨_, h0⟩ := hsep.get 0 rfl
  exact ⟨gl, (h0.1.cell 2).trans rfl⟩
theorem St.rhsp {k : Nat} (hs : St w0 F0 ps w) (hk : ps[k]? = some (RHeapP b ab sb g cb s)) : w.cell? ⟨b, 4, none⟩ = some (.int .i64 s.sp) := by
  obtain ⟨G, ok, gl, hsep⟩ := hs.get k hk
  obtain ⟨_, h0⟩ := hsep.get 0 rfl
  exact (h0.1.cell 4).trans rfl
theorem ptr_same {x y : Nat} (h1 : w.cell? ⟨b, 2, none⟩ = some (.pointer (some ⟨x, 0, none⟩))) (h2 : w.cell? ⟨b, 2, none⟩ = some (.pointer (some ⟨y, 0, none⟩))) : x = y := by
  rw [h1] at h2
  injection h2 with h2; injection h2 with h2; injection h2 with h2; injection h2
theorem St.rhOv {k : Nat} (hg : w.cell? ⟨b, 2, none⟩ = some (.pointer (some ⟨gl, 0, none⟩))) (hs : St w0 F0 ps w) (hk : ps[k]? = some (RHeapP b ab sb g cb s)) : w.cell? ⟨gl, 1, none⟩ = some (.bool s.ov) := by
  obtain ⟨G, ok, gl', hsep⟩ := hs.get k hk
  obtain ⟨_, h0⟩ := hsep.get 0 rfl
  obtain ⟨_, h3⟩ := hsep.get 3 rfl
  have e := ptr_same hg ((h0.1.cell 2).trans rfl)
  subst e
  obtain ⟨lv, hb, _⟩ := h3
  exact (hb.cell 1).trans rfl
def pPop (s : HSt) : Option (Int × Bool × HSt) := match s.g.getLast? with | some x => some (x, true, { s with g := s.g.dropLast }) | none => some (0, false, s)
theorem q_Pop (hg : w.cell? ⟨b, 2, none⟩ = some (.pointer (some ⟨gl, 0, none⟩))) {x : Int} {y : Bool} (hs : St w0 F0 (RHeapP b ab sb g cb s :: ps) w) (hx : pPop s = some (x, y, s')) :
    Calls Tryz.prog 228 #[.pointer (some ⟨gl, 0, none⟩)] w fun e w' => e = .returned (.tuple #[.int .i64 x, .bool y]) ∧ St w0 F0 (RHeapP b ab sb g cb s' :: ps) w' := by
  have okn := hs.rheapOk.next
  obtain ⟨ok, gl', h1⟩ := hs.openRH
  have e := ptr_same hg (h1.rhcell (k := 0) rfl).2.2.1
  subst e
  unfold pPop at hx
  rcases List.eq_nil_or_concat s.g with hgn | ⟨L, z, hgn⟩
  · rw [hgn] at hx
    simp only [List.getLast?_nil, Option.some.injEq, Prod.mk.injEq] at hx
    obtain ⟨rfl, rfl, rfl⟩ := hx
    have h2 := h1.pick3
    rw [hgn] at h2
    refine (h2.call (p' := RListP gl [] s.ov) fun F hF => rlist_Pop_none _ _ _ _ hF).mono ?_
    rintro e w1 ⟨rfl, h3⟩
    refine ⟨rfl, St.closeRH (gl := gl) ?_ ok⟩
    rw [hgn]
    exact h3.back3
  · rw [List.concat_eq_append] at hgn
    have hl : s.g.getLast? = some z := by rw [hgn]; simp
    have hd : s.g.dropLast = L := by rw [hgn]; simp
    unfold hNext at okn
    rw [hl, hd] at okn hx
    simp only [Option.some.injEq, Prod.mk.injEq] at hx
    obtain ⟨rfl, rfl, rfl⟩ := hx
    have h2 := h1.pick3
    rw [hgn] at h2
    refine (h2.call (p' := RListP gl L s.ov) fun F hF => rlist_Pop _ _ _ _ _ _ hF).mono ?_
    rintro e w1 ⟨rfl, h3⟩
    exact ⟨rfl, St.closeRH (gl := gl) (h := { s with g := L }) h3.back3 okn.1⟩
end
section
variable {w0 w : World} {F0 : List Nat} {ps : List Piece} {b ab sb g cb gl : Nat} {s s' : HSt}
theorem q_ShadeW {p : Int} (hs : St w0 F0 (RHeapP b ab sb g cb s :: ps) w) (hx : pShade p s = some s') :
    Calls Tryz.prog 115 #[.pointer (some ⟨b, 0, none⟩), .int .i64 p] w fun e w' => e = .returned (.tuple #[]) ∧ St w0 F0 (RHeapP b ab sb g cb s' :: ps) w' := by
  unfold pShade at hx
  split at hx
  · injection hx with hx
    subst hx
    exact rh_Shade hs p
  · cases hx
end
def pAStore (p i x : Int) (s : HSt) : Option (Int × HSt) := if wdB x then some (aErr p i s.a, { s with a := aStoreS p i x s.a }) else none
section
variable {w0 w : World} {F0 : List Nat} {ps : List Piece} {b ab sb g cb gl : Nat} {s s' : HSt}
theorem q_AStore {p i x e0 : Int} (hs : St w0 F0 (RHeapP b ab sb g cb s :: ps) w) (hx : pAStore p i x s = some (e0, s')) :
    Calls Tryz.prog 47 #[.pointer (some ⟨ab, 0, none⟩), .int .i64 p, .int .i64 i, .int .i64 x] w fun e w' => e = .returned (.int .i64 e0) ∧ St w0 F0 (RHeapP b ab sb g cb s' :: ps) w' := by
  unfold pAStore at hx
  split at hx
  · rename_i hw
    simp only [Option.some.injEq, Prod.mk.injEq] at hx
    obtain ⟨rfl, rfl⟩ := hx
    exact rha_Store hs p i x (wdB_spec hw)
  · cases hx
end
/-! ### The phase, the span, the cycles -/
/-- The reference's spans, of which the classes' slice is known. -/
def RSpanX (gc cc : Nat) (w : World) (b : Nat) (l : List SRow) (F : List Nat) : Prop :=
  ∃ g2 c2, Blk w b 261 #[.slice (some ⟨gc, 0, none⟩) l.length cc, .slice (some ⟨g2, 0, none⟩) l.length c2] ∧ RCls w gc cc l ∧ RSlots w g2 c2 l ∧ cc ≤ maxLen ∧ c2 ≤ maxLen ∧ F = [b, gc, g2] ∧ l.length ≤ 128 ∧ (∀ r ∈ l, RowOk r) ∧ b ≠ gc ∧ b ≠ g2 ∧ gc ≠ g2
def RSpanXP (gc cc b : Nat) (l : List SRow) : Piece where
  at' w F := RSpanX gc cc w b l F
  keep := by
    rintro w w' F G ⟨g2, c2, h1, h2, h3, m1, m2, rfl, r⟩ k hd
    exact ⟨g2, c2, k.blk h1 (hd _ (by simp)), h2.keep k (hd _ (by simp)), h3.keep k (hd _ (by simp)), m1, m2, rfl, r⟩
  lt := by
    rintro w F ⟨g2, c2, h1, h2, h3, r⟩
    exact RSpanAt.lt ⟨gc, cc, g2, c2, h1, h2, h3, r⟩
/-- The reference's heap but for its own block. -/
def RRestP (ab sb g cb gl gc cc : Nat) (h : HSt) : Piece :=
  ExP fun W : List Int => WithP (RW h.a W ∧ AOk h.a) (SepP [BlkP ab 176 #[.pointer (some ⟨sb, 0, none⟩), .slice (some ⟨g, 0, none⟩) h.a.c.length h.a.c.length], RSpanXP gc cc sb h.a.l, BlkP g 3 (iA W), BlkP cb 3 (iA (cols h.col h.a.c.length)), RListP gl h.g h.ov])
def okTo (h : HSt) (ph sp cy : Int) : Bool := (decide (ph = 1) || h.g.isEmpty) && (decide (ph = 0) || decide (ph = 1) || decide (ph = 2)) && decide (0 ≤ sp) && (!decide (ph = 2) || decide (sp < h.a.l.length)) && decide (sp ≤ h.a.l.length)
theorem okTo_ok {h : HSt} (k : HOk h) {ph sp cy : Int} (e : okTo h ph sp cy = true) : HOk { h with ph := ph, sp := sp, cy := cy } := by
  unfold okTo at e
  simp only [Bool.and_eq_true, Bool.or_eq_true, Bool.not_eq_true', decide_eq_true_eq, decide_eq_false_iff_not] at e
  obtain ⟨⟨⟨⟨e1, e2⟩, e3⟩, e4⟩, e5⟩ := e
  refine ⟨k.a, k.wd, k.gl, k.gin, ?_, k.cols, k.far, ?_, e3, ?_, e5, k.len⟩
  · intro hp
    rcases e1 with h | h
    · exact absurd h hp
    · exact List.isEmpty_iff.1 h
  · rcases e2 with (h | h) | h
    · exact .inl h
    · exact .inr (.inl h)
    · exact .inr (.inr h)
  · intro hp
    rcases e4 with h | h
    · exact absurd hp h
    · exact h
section
variable {w0 w : World} {F0 : List Nat} {ps : List Piece} {b ab sb g cb gl gc cc : Nat} {s s' : HSt}
theorem St.openSX {l : List SRow} (h : St w0 F0 (RSpanP sb l :: ps) w) : ∃ gc cc, St w0 F0 (RSpanXP gc cc sb l :: ps) w := by
  obtain ⟨F, ⟨F1, F2, rfl, ⟨g1, c1, g2, c2, r⟩, h2, hd⟩, k, h3⟩ := h
  exact ⟨g1, c1, F1 ++ F2, ⟨F1, F2, rfl, ⟨g2, c2, r⟩, h2, hd⟩, k, h3⟩
theorem St.closeSX {l : List SRow} (h : St w0 F0 (RSpanXP gc cc sb l :: ps) w) : St w0 F0 (RSpanP sb l :: ps) w := by
  obtain ⟨F, ⟨F1, F2, rfl, ⟨g2, c2, r⟩, h2, hd⟩, k, h3⟩ := h
  exact ⟨F1 ++ F2, ⟨F1, F2, rfl, ⟨gc, cc, g2, c2, r⟩, h2, hd⟩, k, h3⟩
theorem St.openRH2 (hs : St w0 F0 (RHeapP b ab sb g cb s :: ps) w) : HOk s ∧ ∃ gl gc cc, St w0 F0 (BlkP b 83 #[.pointer (some ⟨ab, 0, none⟩), .slice (some ⟨cb, 0, none⟩) s.a.c.length s.a.c.length, .pointer (some ⟨gl, 0, none⟩), .int .i64 s.ph, .int .i64 s.sp, .int .i64 s.cy] :: RRestP ab sb g cb gl gc cc s :: ps) w := by
  obtain ⟨ok, gl, h1⟩ := hs.openRH
  obtain ⟨W, hW, hok, _, _, h2⟩ := h1.pick1.openR
  obtain ⟨gc, cc, h3⟩ := h2.pick1.openSX
  refine ⟨ok, gl, gc, cc, ?_⟩
  have h4 : St w0 F0 ([BlkP ab 176 #[.pointer (some ⟨sb, 0, none⟩), .slice (some ⟨g, 0, none⟩) s.a.c.length s.a.c.length], RSpanXP gc cc sb s.a.l, BlkP g 3 (iA W), BlkP cb 3 (iA (cols s.col s.a.c.length)), RListP gl s.g s.ov] ++ rheapB b ab cb gl s.a.c.length s :: ps) w := h3.pick1.pick3.back5
  exact (St.ex.2 ⟨W, St.with.2 ⟨⟨hW, hok⟩, St.sep.2 h4⟩⟩ : St w0 F0 (RRestP ab sb g cb gl gc cc s :: rheapB b ab cb gl s.a.c.length s :: ps) w).pick1
theorem St.closeRH2 {ph sp cy : Int} (hs : St w0 F0 (BlkP b 83 #[.pointer (some ⟨ab, 0, none⟩), .slice (some ⟨cb, 0, none⟩) s.a.c.length s.a.c.length, .pointer (some ⟨gl, 0, none⟩), .int .i64 ph, .int .i64 sp, .int .i64 cy] :: RRestP ab sb g cb gl gc cc s :: ps) w) (ok : HOk s) (e : okTo s ph sp cy = true) : St w0 F0 (RHeapP b ab sb g cb { s with ph := ph, sp := sp, cy := cy } :: ps) w := by
  obtain ⟨W, h1⟩ := St.ex.1 hs.pick1
  obtain ⟨⟨hW, hok⟩, h1⟩ := St.with.1 h1
  have h2 := St.sep.1 h1
  have h3 : St w0 F0 (RSpanP sb s.a.l :: _) w := (St.pick1 h2).closeSX
  have h4 := St.closeR (h3.pick1) hW hok
  refine St.closeRH (gl := gl) (h := { s with ph := ph, sp := sp, cy := cy }) ?_ (okTo_ok ok e)
  exact h4.pick3
theorem St.rrA {k : Nat} (hs : St w0 F0 ps w) (hk : ps[k]? = some (RRestP ab sb g cb gl gc cc s)) : w.cell? ⟨ab, 0, none⟩ = some (.pointer (some ⟨sb, 0, none⟩)) := by
  obtain ⟨G, W, _, hsep⟩ := hs.get k hk
  obtain ⟨_, h0⟩ := hsep.get 0 rfl
  exact (h0.1.cell 0).trans rfl
theorem St.rrC {k : Nat} (hs : St w0 F0 ps w) (hk : ps[k]? = some (RRestP ab sb g cb gl gc cc s)) : w.cell? ⟨sb, 0, none⟩ = some (.slice (some ⟨gc, 0, none⟩) s.a.l.length cc) := by
  obtain ⟨G, W, _, hsep⟩ := hs.get k hk
  obtain ⟨_, h0⟩ := hsep.get 1 rfl
  obtain ⟨g2, c2, hb, _⟩ := h0
  exact (hb.cell 0).trans rfl
end
/-! ### Stores -/
section
variable {w0 w : World} {F0 : List Nat} {ps : List Piece} {b ab sb g cb gl : Nat} {s s' : HSt} {n : Nat} {a : Act} {l l' : Asc} {ops : Array Oper} {rest : List Oper} {o : Oper} {Q : Exit → Act → World → Prop} {t : TypeId} {x y : Operand}
/-- An object is black. -/
theorem ev_storeC {i : Int} (h : Fr n a l) (h1 : gdO ops o l = some true) (h2 : o.op = .store t x y) (h3 : (hasO l x && hasO l y) = true)
    (hx : lk l x = .pointer (some ⟨cb, i.toNat, none⟩)) (hy : lk l y = .int .i64 2) (hs : (Tryz.prog.info? t).map (·.size) = some 1) (hi : isObj s.a i = true) (hS : St w0 F0 (RHeapP b ab sb g cb s :: ps) w) (hp : putO n o undef l = some l')
    (hK : ∀ w' a', St w0 F0 (RHeapP b ab sb g cb (hBlack i s) :: ps) w' → Fr n a' l' → wpList Tryz.prog ops Q rest a' w') : wpList Tryz.prog ops Q (o :: rest) a w := by
  obtain ⟨ok, gl, h4⟩ := hS.openRH
  obtain ⟨i0, i1⟩ := isObj_range hi
  refine ev_store (.int .i64 2) _ h h1 h2 h3 hx hy hs h4.pick2 (Nat.ble_eq_true_of_le ?_) rfl rfl hp ?_
  · have : (iA (cols s.col s.a.c.length)).size = s.a.c.length := by simp [iA, iV, cols]
    rw [this]
    show i.toNat + 1 ≤ _
    omega
  · intro w' a' h5 hF'
    refine hK w' a' ?_ hF'
    have h6 : St w0 F0 (BlkP cb 3 ((iA (cols s.col s.a.c.length)).setIfInBounds i.toNat (.int .i64 2)) :: rheapB b ab cb gl s.a.c.length s :: RArenaP ab sb g s.a :: RListP gl s.g s.ov :: ps) w' := h5
    rw [iA_set, cols_set, show ((i.toNat : Nat) : Int) = i by omega] at h6
    exact St.closeRH (gl := gl) (h := hBlack i s) h6.back2 (ok.black hi)
theorem HOk.settle {h : HSt} (k : HOk h) : HOk { h with ov := false } := ⟨k.a, k.wd, k.gl, k.gin, k.gnil, k.cols, k.far, k.phs, k.sp0, k.spn, k.spl, k.len⟩
theorem ev_storeOv (hg : w.cell? ⟨b, 2, none⟩ = some (.pointer (some ⟨gl, 0, none⟩))) (h : Fr n a l) (h1 : gdO ops o l = some true) (h2 : o.op = .store t x y) (h3 : (hasO l x && hasO l y) = true)
    (hx : lk l x = .pointer (some ⟨gl, 1, none⟩)) (hy : lk l y = .bool false) (hs : (Tryz.prog.info? t).map (·.size) = some 1) (hS : St w0 F0 (RHeapP b ab sb g cb s :: ps) w) (hp : putO n o undef l = some l')
    (hK : ∀ w' a', St w0 F0 (RHeapP b ab sb g cb { s with ov := false } :: ps) w' → Fr n a' l' → wpList Tryz.prog ops Q rest a' w') : wpList Tryz.prog ops Q (o :: rest) a w := by
  obtain ⟨ok, gl', h4⟩ := hS.openRH
  have e := ptr_same hg (h4.rhcell (k := 0) rfl).2.2.1
  subst e
  obtain ⟨hl, lv, h5⟩ := h4.pick3.openRL
  refine ev_store (.bool false) #[lv, .bool false] h h1 h2 h3 hx hy hs h5 rfl rfl rfl hp ?_
  intro w' a' h6 hF'
  refine hK w' a' ?_ hF'
  exact St.closeRH (gl := gl) (h := { s with ov := false }) (h6.closeRL hl).back3 ok.settle
end
end Go.Proofs.YtffnjpapggidlaaGreat
