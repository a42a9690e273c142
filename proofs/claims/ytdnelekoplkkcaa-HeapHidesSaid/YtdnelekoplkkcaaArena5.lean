/- Package arena: Objects, New. -/
import Derived.Test.YtdnelekoplkkcaaArena4
import Derived.Laws.MakeOwn
namespace Go.Proofs.Ytdnelekoplkkcaa
open Go.RowKit

theorem info_int7 : (Try.prog.info? 3).map (fun i => (i.zero, i.size, i.bytes)) = some (some (.int .i64 0), 1, 8) := by kernel_rfl
theorem info_any : (Try.prog.info? 20).map (fun i => (i.zero, i.size, i.bytes)) = some (some .nilIface, 1, 16) := by kernel_rfl

/-- The places of all objects below k. -/
def objsTo (c : List ACell) (k : Nat) : List Nat := (List.range k).filter fun p => (aHead c p).isSome
theorem objs_succ (c : List ACell) (k : Nat) : objsTo c (k + 1) = objsTo c k ++ if (aHead c k).isSome then [k] else [] := by
  unfold objsTo
  rw [List.range_succ, List.filter_append]
  congr 1
  simp [List.filter_cons]
theorem objs_le (c : List ACell) (k : Nat) : (objsTo c k).length ≤ k := Nat.le_trans (List.length_filter_le _ _) (by simp)
def natV (l : List Nat) : List Value := l.map fun (p : Nat) => .int .i64 p

/-- A call that gives a list of its own, and turns nothing. -/
def GivesInts (l : List Nat) (w : World) (e : Ending) (w' : World) : Prop := ∃ v, e = .returned v ∧ w'.ownsRow 0 3 1 v l.length (natV l) ∧ Keeps [] w w' ∧ Hid (∀ g, v.ownBlock = some g → w.heap.size ≤ g)

set_option maxHeartbeats 2000000 in
theorem arena_Objects (b : Nat) (s : ASt) (F : List Nat) (w : World) (hS : ArenaAt w b s F) :
    Calls Try.prog 25 #[.pointer (some ⟨b, 0, none⟩)] w (GivesInts (aObjects s.c) w) := by
  obtain ⟨i0, hi, hz0, hz1, hz2⟩ := info_parts info_int7
  have hsz := hS.size
  have l4 : s.c.length ≤ 4096 := by omega
  have HS := Lib.hid hS
  clear hS hsz
  go_enter Try.func25, Try.ntmps25
  go_wp2_with fail
  refine (arena_Words _ _ _ _ HS.out).mono ?_
  rintro e w1 ⟨rfl, rfl⟩
  go_wp2
  go_loopw [3, 9] (fun v iv wr => ∃ k : Nat, k ≤ s.c.length ∧ iv = .int .i64 k ∧ Hid (wr.ownsRow 0 3 1 v (objsTo s.c k).length (natV (objsTo s.c k)) ∧ Keeps [] w wr) ∧ Hid (∀ g, v.ownBlock = some g → w.heap.size ≤ g)) (fun _ iv _ => s.c.length - (intOf iv).toNat)
  case atStart => exact ⟨0, by omega, rfl, ⟨World.ownsRow_nil _ _ _ _, Keeps.refl _ _⟩, by intro g hg; cases hg⟩
  case round =>
    obtain ⟨k, hk, rfl, hown, hfr⟩ := hrel
    by_cases hlt : k < s.c.length
    · have HSr := Lib.hid (HS.out.keep hown.out.2 (by simp))
      have hsu := objs_succ s.c k
      have hle := objs_le s.c k
      cases hd : aHead s.c k with
      | none =>
        rw [hd] at hsu
        have HH := Lib.hid (headV_none hd)
        have HSU := Lib.hid hsu
        clear hsu hd
        go_wp2_with fail
        refine (arena_head _ _ _ _ _ HSr.out).mono ?_
        rintro e w2 ⟨rfl, hb2⟩
        rw [HH.out]
        have HB2 := Lib.hid hb2
        clear hb2
        go_wp2
        go_roundw
        case rel =>
          refine ⟨k + 1, by omega, by go_num, ⟨?_, (hown.out.2.next HB2.out).alloc _⟩, hfr⟩
          have e : objsTo s.c (k + 1) = objsTo s.c k := by rw [HSU.out]; simp
          rw [e]
          exact ((Keeps.of_below HB2.out []).alloc _).own hown.out.1 (by simp)
        case measure => simp [intOf]; omega
      | some kn =>
        obtain ⟨kk, nn⟩ := kn
        rw [hd] at hsu
        have HH := Lib.hid (headV_some hd)
        have HSU := Lib.hid hsu
        have HD := Lib.hid hd
        clear hsu hd
        go_wp2_with fail
        refine (arena_head _ _ _ _ _ HSr.out).mono ?_
        rintro e w2 ⟨rfl, hb2⟩
        rw [HH.out]
        have hk2 : Keeps [] w (w2.alloc (.cells #[.int .i64 kk, .int .i64 nn] 90)) := (hown.out.2.next hb2).alloc _
        have hown2 := ((Keeps.of_below hb2 []).alloc (.cells #[.int .i64 kk, .int .i64 nn] 90)).own hown.out.1 (by simp)
        have HK2 := Lib.hid hk2
        obtain ⟨W, hW⟩ : ∃ W, w2.alloc (.cells #[.int .i64 kk, .int .i64 nn] 90) = W := ⟨_, rfl⟩
        rw [hW] at hown2
        rw [hW] at HK2
        clear hk2 hb2
        go_wp2_with (at_builtin; refine wpList_append_own_at _ rfl _ _ 55 rfl 0 3 i0 (.int .i64 0) 1 8 Try.underlying55 hi hz0 hz1 hz2 rfl (by decide) _ _ _ rfl (hown2.alloc _) ⟨W.heap.size, 0, none⟩ 1 1 [.int .i64 k] rfl rfl (cell_one_new _ _ _) ?c2 ?c3 ?c4 ?c5 ?_)
        case c2 => first | rfl | (intro u hu; simp at hu; subst hu; rfl)
        case c3 => unfold maxLen; omega
        case c4 => omega
        case c5 => omega
        intro v' w3 hown3 hg3 _ hat
        have hfr3 : Hid (∀ g, v'.ownBlock = some g → w.heap.size ≤ g) := by
          intro g hg
          rcases hat with h | h
          · exact hfr.out g (by rw [← h]; exact hg)
          · rw [hg] at h; injection h with h; have := HK2.out.size; (try simp at h); omega
        have HK3 := Lib.hid (show Keeps [] w w3 from (HK2.out.alloc _).grown hg3 (fun k hk => .inr (hfr.out k hk)))
        obtain ⟨g, cap, hv, -⟩ := own_form hown3 (by omega)
        subst hv
        have O3 := Lib.hid hown3
        clear hg3 hat hown2 hown3 hW
        go_wp2
        go_roundw
        case rel =>
          refine ⟨k + 1, by omega, by go_num, ⟨?_, HK3.out⟩, hfr3⟩
          have e : objsTo s.c (k + 1) = objsTo s.c k ++ [k] := by rw [HSU.out]; simp
          rw [e]
          have := O3.out
          simpa [natV] using this
        case measure => simp [intOf]; omega
    · have hkn : k = s.c.length := by omega
      subst hkn
      go_wp2
      go_ret
      exact ⟨_, rfl, hown.out.1, hown.out.2, hfr⟩

theorem made_any (m : Nat) : madeCells #[Value.nilIface] m = aCells (List.replicate m .none) := by
  apply Array.ext_getElem?
  intro j
  rw [aCells_get]
  unfold madeCells
  simp [List.getElem?_replicate, Array.getElem?_map, Array.getElem?_range]
  split <;> simp [ACell.val, Nat.mod_one]

def GivesArena (s : ASt) (w : World) (e : Ending) (w' : World) : Prop :=
  ∃ b F, e = .returned (.tuple #[.pointer (some ⟨b, 0, none⟩), .int .i64 0]) ∧ ArenaAt w' b s F ∧ Keeps [] w w' ∧ ∀ i ∈ F, w.heap.size ≤ i

theorem arena_New_no (n : Int) (hn : n < 2 ∨ 128 < n) (w : World) :
    Calls Try.prog 57 #[.int .i64 n] w fun e w' => e = .returned (.tuple #[.pointer none, .int .i64 1]) ∧ w = w' := by
  go_enter Try.func57, Try.ntmps57
  go_wp2_with fail
  refine (span_New_no n hn _).mono ?_
  rintro e w1 ⟨rfl, rfl⟩
  go_wp2
  go_ret2
  exact ⟨rfl, rfl⟩

set_option maxHeartbeats 1000000 in
theorem arena_New (n : Nat) (h2 : 2 ≤ n) (h128 : n ≤ 128) (w : World) :
    Calls Try.prog 57 #[.int .i64 n] w (GivesArena (aNew n) w) := by
  obtain ⟨i0, hi, hz0, hz1, hz2⟩ := info_parts info_any
  obtain ⟨m, hm⟩ : ∃ m : Nat, 32 * n = m := ⟨_, rfl⟩
  have hmi : (n : Int) * 32 = (m : Int) := by omega
  have hmk : ∀ W : World, (Instr.makeSlice 105 (.int .i64 (m : Int)) (.int .i64 (m : Int))).run Try.prog W = .ok (.slice (some ⟨W.heap.size, 0, none⟩) m m) (W.alloc (.cells (aCells (List.replicate m .none)) 20)) := by
    intro W
    have hr := run_make (P := Try.prog) W 105 20 i0 .nilIface Try.underlying105 hi hz0 .i64 .i64 m m (by omega) (by omega) (by rw [hz2]; omega) (by omega)
    rw [hz1] at hr
    simp only [Int.toNat_natCast, Nat.mul_one] at hr
    rw [hr, ← made_any]
    rfl
  have HM := Lib.hid hm
  clear hm
  go_enter Try.func57, Try.ntmps57
  go_wp2_with fail
  refine (span_New n h2 h128 _).mono ?_
  rintro e w1 ⟨rfl, Fs, hs, hk, hf⟩
  have HS := Lib.hid hs
  have HK := Lib.hid hk
  have HF := Lib.hid hf
  clear hs hk hf
  go_wp2
  go_ret2
  have hl := HS.out.lt
  have hsz := HK.out.size
  have hml : (aNew n).c.length = m := by rw [← HM.out]; simp [aNew]
  refine ⟨w1.heap.size + 1, (w1.heap.size + 1) :: w1.heap.size :: Fs, rfl, ⟨w.heap.size, w1.heap.size, Fs, ?_, ?_, ?_, rfl, aNew_ok n, ?_, ?_, by omega⟩, (HK.out.alloc _).alloc _, ?_⟩
  · rw [hml]
    have := Blk.new (w1.alloc (.cells (aCells (List.replicate m .none)) 20)) 107 #[.pointer (some ⟨w.heap.size, 0, none⟩), .slice (some ⟨w1.heap.size, 0, none⟩) m m]
    simpa using this
  · exact HS.out.keep (((Keeps.refl [] _).alloc _).alloc _) (by simp)
  · have : (aNew n).c = List.replicate m .none := by rw [← HM.out]; rfl
    rw [this]
    exact (Blk.new _ _ _).alloc _
  · intro h; have := hl _ h; omega
  · intro h; have := hl _ h; omega
  · intro i hi
    simp at hi
    rcases hi with rfl | rfl | hi
    · omega
    · omega
    · exact HF.out i hi
end Go.Proofs.Ytdnelekoplkkcaa
