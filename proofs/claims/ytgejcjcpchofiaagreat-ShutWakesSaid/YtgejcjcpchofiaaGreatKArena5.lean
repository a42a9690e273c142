/- Arena5 -/
import Derived.Test.YtgejcjcpchofiaaGreatKSpan5
import Derived.Laws.MakeOwn
/- Package arena: Objects, New. -/
namespace Go.Proofs.YtgejcjcpchofiaaGreat
open Go.RowKit

theorem info_any : (Tryz.prog.info? 20).map (fun i => (i.zero, i.size, i.bytes)) = some (some .nilIface, 1, 16) := by kernel_rfl

theorem made_any (m : Nat) : madeCells #[Value.nilIface] m = aCells (List.replicate m .none) := by
  apply Array.ext_getElem?
  intro j
  rw [aCells_get]
  unfold madeCells
  simp [List.getElem?_replicate, Array.getElem?_map, Array.getElem?_range]
  split <;> simp [ACell.val, Nat.mod_one]

def GivesArena (s : ASt) (w : World) (e : Ending) (w' : World) : Prop :=
  ∃ b F, e = .returned (.tuple #[.pointer (some ⟨b, 0, none⟩), .int .i64 0]) ∧ ArenaAt w' b s F ∧ Keeps [] w w' ∧ ∀ i ∈ F, w.heap.size ≤ i

set_option maxHeartbeats 1000000 in
theorem arena_New (n : Nat) (h2 : 2 ≤ n) (h128 : n ≤ 128) (w : World) :
    Calls Tryz.prog 103 #[.int .i64 n] w (GivesArena (aNew n) w) := by
  obtain ⟨i0, hi, hz0, hz1, hz2⟩ := info_parts info_any
  obtain ⟨m, hm⟩ : ∃ m : Nat, 32 * n = m := ⟨_, rfl⟩
  have hmi : (n : Int) * 32 = (m : Int) := by omega
  have hmk : ∀ W : World, (Instr.makeSlice 196 (.int .i64 (m : Int)) (.int .i64 (m : Int))).run Tryz.prog W = .ok (.slice (some ⟨W.heap.size, 0, none⟩) m m) (W.alloc (.cells (aCells (List.replicate m .none)) 20)) := by
    intro W
    have hr := run_make (P := Tryz.prog) W 196 20 i0 .nilIface Tryz.underlying196 hi hz0 .i64 .i64 m m (by omega) (by omega) (by rw [hz2]; omega) (by omega)
    rw [hz1] at hr
    simp only [Int.toNat_natCast, Nat.mul_one] at hr
    rw [hr, ← made_any]
    rfl
  have HM := Lib.hid hm
  clear hm
  go_enter Tryz.func103, Tryz.ntmps103
  go_wp2_with fail
  refine (span_New n h2 h128 _).mono ?_
  rintro e w1 ⟨rfl, Fs, hs, hk, hf⟩
  have HS := Lib.hid hs
  have HK := Lib.hid hk
  have HF := Lib.hid hf
  clear hs hk hf
  go_wp2
  go_ret2
  have hl := HS.out.lt
  have hsz := HK.out.size
  have hml : (aNew n).c.length = m := by rw [← HM.out]; simp [aNew]
  refine ⟨w1.heap.size + 1, (w1.heap.size + 1) :: w1.heap.size :: Fs, rfl, ⟨w.heap.size, w1.heap.size, Fs, ?_, ?_, ?_, rfl, aNew_ok n, ?_, ?_, by omega⟩, (HK.out.alloc _).alloc _, ?_⟩
  · rw [hml]
    have := Blk.new (w1.alloc (.cells (aCells (List.replicate m .none)) 20)) 198 #[.pointer (some ⟨w.heap.size, 0, none⟩), .slice (some ⟨w1.heap.size, 0, none⟩) m m]
    simpa using this
  · exact HS.out.keep (((Keeps.refl [] _).alloc _).alloc _) (by simp)
  · have : (aNew n).c = List.replicate m .none := by rw [← HM.out]; rfl
    rw [this]
    exact (Blk.new _ _ _).alloc _
  · intro h; have := hl _ h; omega
  · intro h; have := hl _ h; omega
  · intro i hi
    simp at hi
    rcases hi with rfl | rfl | hi
    · omega
    · omega
    · exact HF.out i hi
end Go.Proofs.YtgejcjcpchofiaaGreat
