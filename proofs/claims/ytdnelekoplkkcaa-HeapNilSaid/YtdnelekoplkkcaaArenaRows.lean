/- An arena of the call's own, beside rows of numbers of its own. -/
import Derived.Test.YtdnelekoplkkcaaArenaAwake
import Derived.Test.YtdnelekoplkkcaaPureArena
namespace Go.Proofs.Ytdnelekoplkkcaa
open Go.RowKit

abbrev IRow := Value × List Int
def intV (l : List Int) : List Value := l.map (.int .i64)
def RowsIn (w : World) (F : List Nat) (rows : List IRow) (wr : World) : Prop :=
  (∀ r ∈ rows, wr.ownsRow 0 3 1 r.1 r.2.length (intV r.2) ∧ ∀ g, r.1.ownBlock = some g → w.heap.size ≤ g ∧ g ∉ F) ∧ rows.Pairwise (fun r r' => ∀ g, r.1.ownBlock = some g → r'.1.ownBlock ≠ some g)
def AL (w : World) (b : Nat) (s : ASt) (rows : List IRow) (wr : World) : Prop := ∃ F, ArenaAt wr b s F ∧ Fresh w wr F ∧ RowsIn w F rows wr

theorem RowsIn.keep {w : World} {F G : List Nat} {rows : List IRow} {wr w' : World} (h : RowsIn w F rows wr) (k : Keeps G wr w') (hG : ∀ i ∈ G, i ∈ F) : RowsIn w F rows w' :=
  ⟨fun r hr => ⟨k.own (h.1 r hr).1 (fun g hg hm => ((h.1 r hr).2 g hg).2 (hG g hm)), (h.1 r hr).2⟩, h.2⟩
theorem AL.start {w : World} {b : Nat} {s : ASt} {wr : World} (h : Hid (ArenaIn w b s wr)) : Hid (AL w b s [] wr) := by
  obtain ⟨F, h1, h2⟩ := h.out
  exact ⟨F, h1, h2, by intro r hr; simp at hr, List.Pairwise.nil⟩
theorem AL.nil {w : World} {b : Nat} {s : ASt} {rows : List IRow} {wr : World} (h : Hid (AL w b s rows wr)) : Hid (AL w b s ((.slice none 0 0, []) :: rows) wr) := by
  obtain ⟨F, h1, h2, h3, h4⟩ := h.out
  refine ⟨F, h1, h2, ?_, List.Pairwise.cons (by intro r hr g hg; cases hg) h4⟩
  intro r hr
  rcases List.mem_cons.1 hr with rfl | hr
  · exact ⟨World.ownsRow_nil _ _ _ _, by intro g hg; cases hg⟩
  · exact h3 r hr
theorem AL.swap {w : World} {b : Nat} {s : ASt} {r1 r2 : IRow} {wr : World} (h : Hid (AL w b s [r1, r2] wr)) : Hid (AL w b s [r2, r1] wr) := by
  obtain ⟨F, h1, h2, h3, h4⟩ := h.out
  refine ⟨F, h1, h2, fun r hr => h3 r (by simp at hr ⊢; exact hr.symm), ?_⟩
  rw [List.pairwise_cons] at h4 ⊢
  refine ⟨?_, by simp⟩
  intro r hr g hg e
  simp at hr; subst hr
  exact h4.1 r2 (by simp) g e hg
theorem AL.below {w : World} {b : Nat} {s : ASt} {rows : List IRow} {wr w' : World} (h : Hid (AL w b s rows wr)) (hb : Below wr.heap.size wr w') : Hid (AL w b s rows w') := by
  obtain ⟨F, h1, h2, h3⟩ := h.out
  exact ⟨F, h1.keep (Keeps.of_below hb []) (by simp), h2.below hb, h3.keep (Keeps.of_below hb []) (by simp)⟩
theorem AL.old {w : World} {b : Nat} {s : ASt} {rows : List IRow} {wr : World} (h : Hid (AL w b s rows wr)) : Below w.heap.size w wr := by
  obtain ⟨F, h1, h2, h3⟩ := h.out
  exact h2.1.below
theorem AL.own {w : World} {b : Nat} {s : ASt} {r : IRow} {rows : List IRow} {wr : World} (h : Hid (AL w b s (r :: rows) wr)) : wr.ownsRow 0 3 1 r.1 r.2.length (intV r.2) := by
  obtain ⟨F, h1, h2, h3⟩ := h.out
  exact (h3.1 r (by simp)).1
theorem AL.own2 {w : World} {b : Nat} {s : ASt} {r r' : IRow} {rows : List IRow} {wr : World} (h : Hid (AL w b s (r' :: r :: rows) wr)) : wr.ownsRow 0 3 1 r.1 r.2.length (intV r.2) := by
  obtain ⟨F, h1, h2, h3⟩ := h.out
  exact (h3.1 r (by simp)).1
theorem AL.grow {w : World} {b : Nat} {s : ASt} {v v' : Value} {L : List Int} {x : Int} {rows : List IRow} {wr w3 : World} {o : Obj} (h : Hid (AL w b s ((v, L) :: rows) wr))
    (ho : w3.ownsRow 0 3 1 v' (L.length + 1) (intV L ++ [.int .i64 x])) (hg : (wr.alloc o).grownBy w3 v.ownBlock) (hat : v'.ownBlock = v.ownBlock ∨ v'.ownBlock = some (wr.alloc o).heap.size) : Hid (AL w b s ((v', L ++ [x]) :: rows) w3) := by
  obtain ⟨F, h1, h2, h3⟩ := h.out
  have hv := (h3.1 (v, L) (by simp)).2
  have hlt := h1.lt
  have k1 : Keeps v.ownBlock.toList wr w3 := ((Keeps.refl v.ownBlock.toList wr).alloc o).grown hg (fun k hk => .inl (by simp [hk]))
  have hsz : (wr.alloc o).heap.size = wr.heap.size + 1 := by simp
  have hw := h2.1.size
  have hp := h3.2
  rw [List.pairwise_cons] at hp
  refine ⟨F, h1.keep k1 ?_, ⟨h2.1.trans k1 ?_, h2.2⟩, ?_, ?_⟩
  · intro i hi hm
    simp at hm
    exact (hv i hm).2 hi
  · intro i hi
    simp at hi
    exact .inr (hv i hi).1
  · intro r hr
    rcases List.mem_cons.1 hr with rfl | hr
    · refine ⟨by simpa [intV] using ho, ?_⟩
      intro g hg'
      rcases hat with e | e
      · exact hv g (by rw [← e]; exact hg')
      · simp only at hg'
        rw [e] at hg'
        injection hg' with hg'
        exact ⟨by omega, fun hm => by have := hlt g hm; omega⟩
    · obtain ⟨a, c⟩ := h3.1 r (by simp [hr])
      refine ⟨k1.own a ?_, c⟩
      intro g hg' hm
      simp at hm
      exact hp.1 r hr g hm hg'
  · rw [List.pairwise_cons]
    refine ⟨?_, hp.2⟩
    intro r hr g hg' e2
    rcases hat with e | e
    · exact hp.1 r hr g (by rw [← e]; exact hg') e2
    · simp only at hg'
      rw [e] at hg'
      injection hg' with hg'
      have := own_lt (h3.1 r (by simp [hr])).1 g e2
      omega

/-- A call that turns the arena. -/
theorem AL.does {w : World} {b : Nat} {s s' : ASt} {rows : List IRow} {wr : World} {f : FuncId} {args : Array Value} {r : Ending} (h : Hid (AL w b s rows wr)) (hc : ∀ F, ArenaAt wr b s F → Calls Try.prog f args wr (ArenaDoes r b s' F wr)) :
    Calls Try.prog f args wr fun e w' => e = r ∧ Hid (AL w b s' rows w') := by
  obtain ⟨F, h1, h2, h3⟩ := h.out
  exact (hc F h1).mono fun e w' ⟨he, a, k⟩ => ⟨he, F, a, h2.step k (fun i hi => .inl hi), h3.keep k (fun i hi => hi)⟩
/-- A call that turns nothing that was there. -/
theorem AL.asks {w : World} {b : Nat} {s : ASt} {rows : List IRow} {wr : World} {f : FuncId} {args : Array Value} {r : Ending} (h : Hid (AL w b s rows wr)) (hc : ∀ F, ArenaAt wr b s F → Calls Try.prog f args wr (fun e w' => e = r ∧ Below wr.heap.size wr w')) :
    Calls Try.prog f args wr fun e w' => e = r ∧ Hid (AL w b s rows w') := by
  obtain ⟨F, h1, h2, h3⟩ := h.out
  exact (hc F h1).mono fun e w' ⟨he, k⟩ => ⟨he, AL.below h k⟩

theorem al_Alloc {w wr : World} {b : Nat} {s : ASt} {rows : List IRow} (h : Hid (AL w b s rows wr)) (k n : Int) :
    Calls Try.prog 58 #[.pointer (some ⟨b, 0, none⟩), .int .i64 k, .int .i64 n] wr fun e w' => e = .returned (aAllocV k n s) ∧ Hid (AL w b (aAllocS k n s) rows w') := AL.does h fun _ h1 => arena_Alloc _ _ _ _ _ _ h1
theorem al_Free {w wr : World} {b : Nat} {s : ASt} {rows : List IRow} (h : Hid (AL w b s rows wr)) (a : Int) :
    Calls Try.prog 80 #[.pointer (some ⟨b, 0, none⟩), .int .i64 a] wr fun e w' => e = .returned (.int .i64 (aFreeE a s)) ∧ Hid (AL w b (aFreeS a s) rows w') := AL.does h fun _ h1 => arena_Free _ _ _ _ _ h1
theorem al_Store {w wr : World} {b : Nat} {s : ASt} {rows : List IRow} (h : Hid (AL w b s rows wr)) (a i x : Int) :
    Calls Try.prog 61 #[.pointer (some ⟨b, 0, none⟩), .int .i64 a, .int .i64 i, .int .i64 x] wr fun e w' => e = .returned (.int .i64 (aErr a i s)) ∧ Hid (AL w b (aStoreS a i x s) rows w') := AL.does h fun _ h1 => arena_Store _ _ _ _ _ _ _ h1
theorem al_Load {w wr : World} {b : Nat} {s : ASt} {rows : List IRow} (h : Hid (AL w b s rows wr)) (a i : Int) :
    Calls Try.prog 50 #[.pointer (some ⟨b, 0, none⟩), .int .i64 a, .int .i64 i] wr fun e w' => e = .returned (loadV s a i) ∧ Hid (AL w b s rows w') := AL.asks h fun _ h1 => arena_Load _ _ _ _ _ _ h1
theorem al_Kind {w wr : World} {b : Nat} {s : ASt} {rows : List IRow} (h : Hid (AL w b s rows wr)) (a : Int) :
    Calls Try.prog 33 #[.pointer (some ⟨b, 0, none⟩), .int .i64 a] wr fun e w' => e = .returned (.int .i64 (aKind s.c a)) ∧ Hid (AL w b s rows w') := AL.asks h fun _ h1 => arena_Kind _ _ _ _ _ h1
theorem al_Words {w wr : World} {b : Nat} {s : ASt} {rows : List IRow} (h : Hid (AL w b s rows wr)) :
    Calls Try.prog 55 #[.pointer (some ⟨b, 0, none⟩)] wr fun e w' => e = .returned (.int .i64 s.c.length) ∧ wr = w' := by
  obtain ⟨F, h1, _⟩ := h.out
  exact arena_Words _ _ _ _ h1
theorem al_Objects {w wr : World} {b : Nat} {s : ASt} {rows : List IRow} (h : Hid (AL w b s rows wr)) :
    Calls Try.prog 25 #[.pointer (some ⟨b, 0, none⟩)] wr fun e w' => ∃ x c, e = .returned (.slice x (aObjects s.c).length c) ∧ Hid (AL w b s rows w') := by
  obtain ⟨F, h1, h2, h3⟩ := h.out
  refine (arena_Objects _ _ _ _ h1).mono ?_
  rintro e w' ⟨v, rfl, ho, hk, hf⟩
  rcases own_cases ho with ⟨rfl, hn⟩ | ⟨g, cap, rfl, _⟩
  · exact ⟨_, _, by rw [hn], AL.below h hk.below⟩
  · exact ⟨_, _, rfl, AL.below h hk.below⟩

/-! There is room as long as a row is left. -/
def freeRows (l : List SRow) : Nat := l.countP isNone
theorem countP_set {α : Type} (p : α → Bool) (l : List α) : ∀ (i : Nat) (r : α), l.countP p ≤ (l.set i r).countP p + 1 := by
  induction l with
  | nil => intro i r; simp
  | cons x l ih =>
    intro i r
    cases i with
    | zero =>
      rw [List.set_cons_zero, List.countP_cons, List.countP_cons]
      split <;> split <;> omega
    | succ i =>
      rw [List.set_cons_succ, List.countP_cons, List.countP_cons]
      have := ih i r
      omega
theorem alloc_rows {k : Int} {l : List SRow} {i t : Nat} {l' : List SRow} (h : sAlloc k l = some (i, t, l')) : freeRows l ≤ freeRows l' + 1 := by
  unfold sAlloc at h
  split at h
  · cases h
  split at h
  · injection h with h; injection h with _ h; injection h with _ h
    rw [← h]; exact countP_set _ _ _ _
  · split at h
    · injection h with h; injection h with _ h; injection h with _ h
      rw [← h]; exact countP_set _ _ _ _
    · cases h
theorem alloc_some {k : Int} {l : List SRow} (hk : cSlots k ≠ 0) (h : 0 < freeRows l) : ∃ i t l', sAlloc k l = some (i, t, l') := by
  unfold sAlloc
  rw [if_neg hk]
  split
  · exact ⟨_, _, _, rfl⟩
  · have : (l.findIdx? isNone).isSome := by
      rw [List.findIdx?_isSome]
      unfold freeRows at h
      rw [List.countP_pos_iff] at h
      obtain ⟨a, ha, hb⟩ := h
      exact List.any_eq_true.2 ⟨a, ha, hb⟩
    obtain ⟨j, hj⟩ := Option.isSome_iff_exists.1 this
    rw [hj]
    exact ⟨_, _, _, rfl⟩
/-- An object is made as long as a row is left. -/
theorem made {s : ASt} (hok : AOk s) {kind n : Int} (hb : aBad kind n = false) (hf : 0 < freeRows s.l) : ∃ p s', aAllocV kind n s = .tuple #[.int .i64 (p : Nat), .int .i64 0] ∧ aAllocS kind n s = s' ∧ AllocMore kind n s p s' ∧ freeRows s.l ≤ freeRows s'.l + 1 := by
  obtain ⟨_, _, hfit⟩ := aBad_no hb
  obtain ⟨_, _, c0, c3, _⟩ := cOf_fits hfit
  have hs : cSlots (cOf n) ≠ 0 := by
    have hc : cOf n = 0 ∨ cOf n = 1 ∨ cOf n = 2 ∨ cOf n = 3 := by omega
    rcases hc with h | h | h | h <;> rw [h] <;> decide
  obtain ⟨i, t, l', ha⟩ := alloc_some hs hf
  have e : ∃ p s', aAlloc kind n s = some (p, s') := by unfold aAlloc; rw [ha]; exact ⟨_, _, rfl⟩
  obtain ⟨p, s', e⟩ := e
  have hm := alloc_more hok hb e
  refine ⟨p, s', ?_, ?_, hm, ?_⟩
  · unfold aAllocV; rw [hb, e]; rfl
  · unfold aAllocS; rw [hb, e]; rfl
  · obtain ⟨i', t', l'', ha', hl⟩ := hm.row
    rw [hl]; exact alloc_rows ha'
theorem not_bad {kind n : Int} (h1 : 1 ≤ kind) (h6 : kind ≤ 6) (n0 : 0 ≤ n) (n31 : n < 32) : aBad kind n = false := by
  unfold aBad cFits
  simp; omega
end Go.Proofs.Ytdnelekoplkkcaa
