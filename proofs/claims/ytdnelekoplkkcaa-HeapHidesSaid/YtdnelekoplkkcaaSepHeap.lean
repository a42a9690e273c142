/- Package heap, with its pieces side by side: what each call does. -/
import Derived.Test.YtdnelekoplkkcaaSepArena
import Derived.Test.YtdnelekoplkkcaaSepMap
import Derived.Test.YtdnelekoplkkcaaPureHeap2
import Derived.Test.YtdnelekoplkkcaaGrey3
import Derived.Test.YtdnelekoplkkcaaValue
namespace Go.Proofs.Ytdnelekoplkkcaa
open Go.RowKit
set_option linter.unusedVariables false

def GreyP (b : Nat) (g : List Int) (ov : Bool) : Piece where
  at' w F := GreyAt w b g ov F
  keep h k hd := h.keep k hd
  lt h := h.lt
/-- The heap's own block. -/
def heapB (b ab mb lb : Nat) (h : HSt) : Piece := BlkP b 87 #[.pointer (some ⟨ab, 0, none⟩), .map (some mb), .pointer (some ⟨lb, 0, none⟩), .int .i64 h.ph, .int .i64 h.sp, .int .i64 h.cy]
/-- The heap h stands at b, its arena at ab. -/
def HeapP (b ab : Nat) (h : HSt) : Piece := WithP (HOk h) (ExP fun x : Nat × Nat => SepP [heapB b ab x.1 x.2 h, ArenaP ab h.a, ColP x.1 h.col, GreyP x.2 h.g h.ov])
section
variable {w0 w : World} {F0 : List Nat} {ps : List Piece} {b ab mb lb : Nat} {h : HSt}
theorem St.openH (hs : St w0 F0 (HeapP b ab h :: ps) w) : HOk h ∧ ∃ mb lb, St w0 F0 (heapB b ab mb lb h :: ArenaP ab h.a :: ColP mb h.col :: GreyP lb h.g h.ov :: ps) w := by
  obtain ⟨ok, hs⟩ := St.with.1 hs
  obtain ⟨⟨mb, lb⟩, hs⟩ := St.ex.1 hs
  exact ⟨ok, mb, lb, St.sep.1 hs⟩
theorem St.closeH (hs : St w0 F0 (heapB b ab mb lb h :: ArenaP ab h.a :: ColP mb h.col :: GreyP lb h.g h.ov :: ps) w) (ok : HOk h) : St w0 F0 (HeapP b ab h :: ps) w :=
  St.with.2 ⟨ok, St.ex.2 ⟨(mb, lb), St.sep.2 hs⟩⟩
theorem St.heapOk (hs : St w0 F0 (HeapP b ab h :: ps) w) : HOk h := (St.with.1 hs).1
/-- The cells of the heap's own block. -/
theorem St.hcell {k : Nat} (hs : St w0 F0 ps w) (hk : ps[k]? = some (heapB b ab mb lb h)) : w.cell? ⟨b, 0, none⟩ = some (.pointer (some ⟨ab, 0, none⟩)) ∧ w.cell? ⟨b, 1, none⟩ = some (.map (some mb)) ∧ w.cell? ⟨b, 2, none⟩ = some (.pointer (some ⟨lb, 0, none⟩)) ∧ w.cell? ⟨b, 3, none⟩ = some (.int .i64 h.ph) ∧ w.cell? ⟨b, 4, none⟩ = some (.int .i64 h.sp) ∧ w.cell? ⟨b, 5, none⟩ = some (.int .i64 h.cy) :=
  ⟨hs.cell k hk 0 rfl, hs.cell k hk 1 rfl, hs.cell k hk 2 rfl, hs.cell k hk 3 rfl, hs.cell k hk 4 rfl, hs.cell k hk 5 rfl⟩

theorem g_Push (hs : St w0 F0 (GreyP lb h.g h.ov :: ps) w) (h8 : h.g.length ≤ 8) (p : Int) :
    Calls Try.prog 63 #[.pointer (some ⟨lb, 0, none⟩), .int .i64 p] w fun e w' => (∃ r : Bool, e = .returned (.bool r)) ∧ St w0 F0 (GreyP lb (hPush p h).g (hPush p h).ov :: ps) w' := by
  unfold hPush
  by_cases hl : h.g.length < 8
  · rw [if_pos hl]
    exact (hs.call (p' := GreyP lb (h.g ++ [p]) h.ov) fun F h1 => grey_Push _ _ _ _ _ _ h1 hl).mono fun e w' ⟨he, k⟩ => ⟨⟨_, he⟩, k⟩
  · rw [if_neg hl]
    exact (hs.call (p' := GreyP lb h.g true) fun F h1 => grey_Push_full _ _ _ _ _ _ h1 (by omega)).mono fun e w' ⟨he, k⟩ => ⟨⟨_, he⟩, k⟩

theorem heap_Arena (b : Nat) (v : Value) (w : World) (hc : w.cell? ⟨b, 0, none⟩ = some v) :
    Calls Try.prog 24 #[.pointer (some ⟨b, 0, none⟩)] w fun e w' => e = .returned v ∧ w = w' := by
  go_enter Try.func24, Try.ntmps24
  go_wp2
  go_ret
  exact ⟨rfl, rfl⟩
theorem h_Arena (hs : St w0 F0 (HeapP b ab h :: ps) w) :
    Calls Try.prog 24 #[.pointer (some ⟨b, 0, none⟩)] w fun e w' => e = .returned (.pointer (some ⟨ab, 0, none⟩)) ∧ w = w' := by
  obtain ⟨ok, mb, lb, hs⟩ := hs.openH
  exact heap_Arena _ _ _ (hs.hcell (k := 0) rfl).1
theorem h_Phase (hs : St w0 F0 (HeapP b ab h :: ps) w) :
    Calls Try.prog 31 #[.pointer (some ⟨b, 0, none⟩)] w fun e w' => e = .returned (.int .i64 h.ph) ∧ w = w' := by
  obtain ⟨ok, mb, lb, hs⟩ := hs.openH
  have c3 := (hs.hcell (k := 0) rfl).2.2.2.1
  clear hs ok
  go_enter Try.func31, Try.ntmps31
  go_wp2
  go_ret
  exact ⟨rfl, rfl⟩
theorem h_Cycles (hs : St w0 F0 (HeapP b ab h :: ps) w) :
    Calls Try.prog 34 #[.pointer (some ⟨b, 0, none⟩)] w fun e w' => e = .returned (.int .i64 h.cy) ∧ w = w' := by
  obtain ⟨ok, mb, lb, hs⟩ := hs.openH
  have c5 := (hs.hcell (k := 0) rfl).2.2.2.2.2
  clear hs ok
  go_enter Try.func34, Try.ntmps34
  go_wp2
  go_ret
  exact ⟨rfl, rfl⟩
/-- A call on the heap's arena that turns nothing that was there. -/
theorem St.hAsk {fn : FuncId} {args : Array Value} {r : Ending} (hs : St w0 F0 (HeapP b ab h :: ps) w) (hc : ∀ qs, St w0 F0 (ArenaP ab h.a :: qs) w → Calls Try.prog fn args w fun e w' => e = r ∧ St w0 F0 (ArenaP ab h.a :: qs) w') :
    Calls Try.prog fn args w fun e w' => e = r ∧ St w0 F0 (HeapP b ab h :: ps) w' := by
  obtain ⟨ok, mb, lb, hs⟩ := hs.openH
  exact (hc _ hs.pick1).mono fun e w' ⟨he, k⟩ => ⟨he, k.pick1.closeH ok⟩
theorem ha_Kind (hs : St w0 F0 (HeapP b ab h :: ps) w) (p : Int) :
    Calls Try.prog 33 #[.pointer (some ⟨ab, 0, none⟩), .int .i64 p] w fun e w' => e = .returned (.int .i64 (aKind h.a.c p)) ∧ St w0 F0 (HeapP b ab h :: ps) w' := hs.hAsk fun _ k => a_Kind k _
theorem ha_Len (hs : St w0 F0 (HeapP b ab h :: ps) w) (p : Int) :
    Calls Try.prog 89 #[.pointer (some ⟨ab, 0, none⟩), .int .i64 p] w fun e w' => e = .returned (.int .i64 (aLen h.a.c p)) ∧ St w0 F0 (HeapP b ab h :: ps) w' := hs.hAsk fun _ k => a_Len k _
theorem ha_Load (hs : St w0 F0 (HeapP b ab h :: ps) w) (p i : Int) :
    Calls Try.prog 50 #[.pointer (some ⟨ab, 0, none⟩), .int .i64 p, .int .i64 i] w fun e w' => e = .returned (loadV h.a p i) ∧ St w0 F0 (HeapP b ab h :: ps) w' := hs.hAsk fun _ k => a_Load k _ _
theorem ha_Words (hs : St w0 F0 (HeapP b ab h :: ps) w) :
    Calls Try.prog 55 #[.pointer (some ⟨ab, 0, none⟩)] w fun e w' => e = .returned (.int .i64 h.a.c.length) ∧ w = w' := by
  obtain ⟨ok, mb, lb, hs⟩ := hs.openH
  exact a_Words hs.pick1
theorem ha_Objects (hs : St w0 F0 (HeapP b ab h :: ps) w) :
    Calls Try.prog 25 #[.pointer (some ⟨ab, 0, none⟩)] w fun e w' => ∃ v, e = .returned v ∧ St w0 F0 (RowP v (hObjs h.a) :: HeapP b ab h :: ps) w' := by
  obtain ⟨ok, mb, lb, hs⟩ := hs.openH
  refine (a_Objects hs.pick1).mono fun e w' ⟨v, he, k⟩ => ⟨v, he, ?_⟩
  have k2 : St w0 F0 (heapB b ab mb lb h :: ArenaP ab h.a :: ColP mb h.col :: GreyP lb h.g h.ov :: RowP v (oV h.a) :: ps) w' :=
    k.perm ((((List.Perm.swap _ _ _).cons _).trans ((List.perm_middle (l₁ := [heapB b ab mb lb h, ArenaP ab h.a, ColP mb h.col, GreyP lb h.g h.ov])).symm)))
  exact (k2.closeH ok).pick1
/-- An object that is not grey is freed by hand. -/
theorem ha_Free (hs : St w0 F0 (HeapP b ab h :: ps) w) (p : Int) (hp : p ∉ h.g) :
    Calls Try.prog 80 #[.pointer (some ⟨ab, 0, none⟩), .int .i64 p] w fun e w' => e = .returned (.int .i64 (aFreeE p h.a)) ∧ St w0 F0 (HeapP b ab { h with a := aFreeS p h.a } :: ps) w' := by
  obtain ⟨ok, mb, lb, hs⟩ := hs.openH
  exact (a_Free hs.pick1 p).mono fun e w' ⟨he, k⟩ => ⟨he, St.closeH (h := { h with a := aFreeS p h.a }) k.pick1 (ok.freeA hp)⟩

theorem h_Load (hs : St w0 F0 (HeapP b ab h :: ps) w) (p i : Int) :
    Calls Try.prog 15 #[.pointer (some ⟨b, 0, none⟩), .int .i64 p, .int .i64 i] w fun e w' => e = .returned (loadV h.a p i) ∧ St w0 F0 (HeapP b ab h :: ps) w' := by
  go_enter Try.func15, Try.ntmps15
  go_wp2_with fail
  refine (h_Arena hs).mono ?_
  rintro e w1 ⟨rfl, rfl⟩
  go_wp2_with fail
  refine (ha_Load hs _ _).mono ?_
  rintro e w1 ⟨rfl, h1⟩
  unfold loadV
  go_wp2
  go_ret2
  exact ⟨rfl, h1⟩

theorem h_Colour (hs : St w0 F0 (HeapP b ab h :: ps) w) (p : Int) (hp : Wd p) :
    Calls Try.prog 26 #[.pointer (some ⟨b, 0, none⟩), .int .i64 p] w fun e w' => e = .returned (.int .i64 (hColour h p)) ∧ St w0 F0 (HeapP b ab h :: ps) w' := by
  have ho := isObj_kind hs.heapOk.a p
  unfold hColour
  cases hO : isObj h.a p with
  | false =>
    rw [hO] at ho
    have hk : aKind h.a.c p = 0 := by simpa using ho.symm
    clear ho hO
    simp only [Bool.false_eq_true, if_false]
    go_enter Try.func26, Try.ntmps26
    have HK := Lib.hid hk
    clear hk
    go_wp2_with fail
    refine (h_Arena hs).mono ?_
    rintro e w1 ⟨rfl, rfl⟩
    go_wp2_with fail
    refine (ha_Kind hs _).mono ?_
    rintro e w1 ⟨rfl, h1⟩
    rw [HK.out]
    go_wp2
    go_ret
    exact ⟨rfl, h1⟩
  | true =>
    rw [hO] at ho
    have hk : (aKind h.a.c p == 0) = false := by simpa using ho.symm
    clear ho hO
    simp only [if_true]
    go_enter Try.func26, Try.ntmps26
    have HK := Lib.hid hk
    clear hk
    go_wp2_with fail
    refine (h_Arena hs).mono ?_
    rintro e w1 ⟨rfl, rfl⟩
    go_wp2_with fail
    refine (ha_Kind hs _).mono ?_
    rintro e w1 ⟨rfl, h1⟩
    have hk := HK.out
    obtain ⟨ok, mb, lb, h2⟩ := h1.openH
    have c1 := (h2.hcell (k := 0) rfl).2.1
    go_wp2_with (at_lookup; refine wpList_colGet rfl _ _ rfl h2 2 rfl rfl _ hp rfl ?_)
    go_ret
    exact ⟨rfl, h1⟩
end
end Go.Proofs.Ytdnelekoplkkcaa
