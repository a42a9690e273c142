/- 'awake' of the statements of layer 7. -/
import Derived.Test.YtdnelekoplkkcaaArena5
import Derived.Test.YtdnelekoplkkcaaSpanAwake
namespace Go.Proofs.Ytdnelekoplkkcaa
open Go.RowKit

/-- The arena s stands in the call's own memory. -/
def ArenaIn (w : World) (b : Nat) (s : ASt) (wr : World) : Prop := ∃ F, ArenaAt wr b s F ∧ Fresh w wr F
theorem GivesArena.inn {s : ASt} {w : World} {e : Ending} {w' : World} (h : GivesArena s w e w') : ∃ b, e = .returned (.tuple #[.pointer (some ⟨b, 0, none⟩), .int .i64 0]) ∧ Hid (ArenaIn w b s w') := by
  obtain ⟨b, F, he, h1, h2, h3⟩ := h
  exact ⟨b, he, F, h1, h2, h3⟩
theorem ArenaIn.below {w wr wc : World} {b : Nat} {s : ASt} (h : ArenaIn w b s wr) (hb : Below wr.heap.size wr wc) : ArenaIn w b s wc := by
  obtain ⟨F, h1, h2⟩ := h
  exact ⟨F, h1.keep (Keeps.of_below hb []) (by simp), h2.below hb⟩
theorem ArenaIn.drew {w wr : World} {b : Nat} {s : ASt} (h : Hid (ArenaIn w b s wr)) : Hid (ArenaIn w b s wr.drew) := by
  obtain ⟨F, h1, h2⟩ := h.out
  exact ⟨F, h1.keep (Keeps.refl [] _).drew (by simp), h2.1.drew, h2.2⟩
theorem ArenaIn.old {w wr : World} {b : Nat} {s : ASt} (h : ArenaIn w b s wr) : Below w.heap.size w wr := by
  obtain ⟨F, h1, h2⟩ := h
  exact h2.1.below
theorem ArenaIn.from {w0 w wr : World} {b : Nat} {s : ASt} (h : Hid (ArenaIn w b s wr)) (hb : Below w0.heap.size w0 w) : Hid (ArenaIn w0 b s wr) := by
  obtain ⟨F, h1, h2⟩ := h.out
  exact ⟨F, h1, (Keeps.of_below hb []).trans h2.1 (by simp), fun i hi => Nat.le_trans hb.size (h2.2 i hi)⟩
theorem ArenaIn.ok {w wr : World} {b : Nat} {s : ASt} (h : Hid (ArenaIn w b s wr)) : AOk s ∧ s.c.length = 32 * s.l.length ∧ s.l.length ≤ 128 := by
  obtain ⟨F, h1, h2⟩ := h.out
  have := h1.size
  obtain ⟨sb, g, Fs, hb, hs, hc, hF, hok, -⟩ := h1
  exact ⟨hok, this.1, this.2.2⟩

theorem arenaI_Alloc {w wr : World} {b : Nat} {s : ASt} (h : Hid (ArenaIn w b s wr)) (k n : Int) :
    Calls Try.prog 58 #[.pointer (some ⟨b, 0, none⟩), .int .i64 k, .int .i64 n] wr fun e w' => e = .returned (aAllocV k n s) ∧ Hid (ArenaIn w b (aAllocS k n s) w') := by
  obtain ⟨F, h1, h2⟩ := h.out
  exact (arena_Alloc _ _ _ _ _ _ h1).mono fun e w' ⟨he, a, k⟩ => ⟨he, F, a, h2.step k (fun i hi => .inl hi)⟩
theorem arenaI_Free {w wr : World} {b : Nat} {s : ASt} (h : Hid (ArenaIn w b s wr)) (a : Int) :
    Calls Try.prog 80 #[.pointer (some ⟨b, 0, none⟩), .int .i64 a] wr fun e w' => e = .returned (.int .i64 (aFreeE a s)) ∧ Hid (ArenaIn w b (aFreeS a s) w') := by
  obtain ⟨F, h1, h2⟩ := h.out
  exact (arena_Free _ _ _ _ _ h1).mono fun e w' ⟨he, a, k⟩ => ⟨he, F, a, h2.step k (fun i hi => .inl hi)⟩
theorem arenaI_Store {w wr : World} {b : Nat} {s : ASt} (h : Hid (ArenaIn w b s wr)) (a i x : Int) :
    Calls Try.prog 61 #[.pointer (some ⟨b, 0, none⟩), .int .i64 a, .int .i64 i, .int .i64 x] wr fun e w' => e = .returned (.int .i64 (aErr a i s)) ∧ Hid (ArenaIn w b (aStoreS a i x s) w') := by
  obtain ⟨F, h1, h2⟩ := h.out
  exact (arena_Store _ _ _ _ _ _ _ h1).mono fun e w' ⟨he, a, k⟩ => ⟨he, F, a, h2.step k (fun i hi => .inl hi)⟩
theorem arenaI_Load {w wr : World} {b : Nat} {s : ASt} (h : Hid (ArenaIn w b s wr)) (a i : Int) :
    Calls Try.prog 50 #[.pointer (some ⟨b, 0, none⟩), .int .i64 a, .int .i64 i] wr fun e w' => e = .returned (loadV s a i) ∧ Hid (ArenaIn w b s w') := by
  have h0 := h.out
  obtain ⟨F, h1, h2⟩ := h.out
  exact (arena_Load _ _ _ _ _ _ h1).mono fun e w' ⟨he, k⟩ => ⟨he, h0.below k⟩
theorem arenaI_Kind {w wr : World} {b : Nat} {s : ASt} (h : Hid (ArenaIn w b s wr)) (a : Int) :
    Calls Try.prog 33 #[.pointer (some ⟨b, 0, none⟩), .int .i64 a] wr fun e w' => e = .returned (.int .i64 (aKind s.c a)) ∧ Hid (ArenaIn w b s w') := by
  have h0 := h.out
  obtain ⟨F, h1, h2⟩ := h.out
  exact (arena_Kind _ _ _ _ _ h1).mono fun e w' ⟨he, k⟩ => ⟨he, h0.below k⟩
theorem arenaI_Len {w wr : World} {b : Nat} {s : ASt} (h : Hid (ArenaIn w b s wr)) (a : Int) :
    Calls Try.prog 89 #[.pointer (some ⟨b, 0, none⟩), .int .i64 a] wr fun e w' => e = .returned (.int .i64 (aLen s.c a)) ∧ Hid (ArenaIn w b s w') := by
  have h0 := h.out
  obtain ⟨F, h1, h2⟩ := h.out
  exact (arena_Len _ _ _ _ _ h1).mono fun e w' ⟨he, k⟩ => ⟨he, h0.below k⟩
theorem arenaI_Words {w wr : World} {b : Nat} {s : ASt} (h : Hid (ArenaIn w b s wr)) :
    Calls Try.prog 55 #[.pointer (some ⟨b, 0, none⟩)] wr fun e w' => e = .returned (.int .i64 s.c.length) ∧ wr = w' := by
  obtain ⟨F, h1, h2⟩ := h.out
  exact arena_Words _ _ _ _ h1
theorem arenaI_Objects {w wr : World} {b : Nat} {s : ASt} (h : Hid (ArenaIn w b s wr)) :
    Calls Try.prog 25 #[.pointer (some ⟨b, 0, none⟩)] wr fun e w' => ∃ v, e = .returned v ∧ Hid (ArenaIn w b s w') ∧ Hid (GivesInts (aObjects s.c) wr e w') ∧ (∃ x n c, v = .slice x n c ∧ n = (aObjects s.c).length) := by
  have h0 := h.out
  obtain ⟨F, h1, h2⟩ := h.out
  refine (arena_Objects _ _ _ _ h1).mono ?_
  rintro e w' ⟨v, he, ho, hk, hf⟩
  refine ⟨v, he, h0.below hk.below, ⟨v, he, ho, hk, hf⟩, ?_⟩
  rcases own_cases ho with ⟨rfl, hn⟩ | ⟨g, cap, rfl, _⟩
  · exact ⟨_, _, _, rfl, hn.symm⟩
  · exact ⟨_, _, _, rfl, rfl⟩

end Go.Proofs.Ytdnelekoplkkcaa
