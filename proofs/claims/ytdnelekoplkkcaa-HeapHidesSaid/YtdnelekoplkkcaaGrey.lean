/- Package grey: what each call does. -/
import Derived.Test.YtdnelekoplkkcaaRows
import Derived.Test.YtdnelekoplkkcaaPlain
import Derived.Test.YtdnelekoplkkcaaMem
import Derived.WalkKit
import Derived.WalkSpells
import Derived.WalkLawsBesides
namespace Go.Proofs.Ytdnelekoplkkcaa
open Go.RowKit

/-- So many signs. -/
def ones (n : Nat) : ByteArray := ⟨Array.replicate n 111⟩
theorem ones_size (n : Nat) : (ones n).size = n := by show (Array.replicate n (111 : UInt8)).size = n; simp
theorem ones_get (n i : Nat) (h : i < (ones n).size) : ((ones n)[i]'h).toNat < 128 := by
  have : (ones n)[i]'h = 111 := Array.getElem_replicate h
  rw [this]; decide
theorem ones_snoc (n : Nat) : ones n ++ ⟨#[111]⟩ = ones (n + 1) := by
  apply ByteArray.ext
  show (ones n ++ ⟨#[111]⟩).data = (Array.replicate (n + 1) (111 : UInt8))
  rw [ByteArray.data_append]
  show Array.replicate n (111 : UInt8) ++ #[111] = _
  rw [Array.replicate_succ]; rfl
theorem ones_cut (n i : Nat) (h : i ≤ n) : (ones n).extract 0 i = ones i := by
  apply ByteArray.ext
  show ((ones n).extract 0 i).data = (Array.replicate i (111 : UInt8))
  rw [ByteArray.data_extract]
  show (Array.replicate n (111 : UInt8)).extract 0 i = _
  rw [Array.extract_replicate]; congr 1; omega

/-- The list at block b keeps L (ov: one was refused); F: its blocks. -/
def GreyAt (w : World) (b : Nat) (L : List Int) (ov : Bool) (F : List Nat) : Prop :=
  ∃ lv, Blk w b 116 #[lv, .string (ones L.length), .bool ov] ∧ w.ownsRow 0 3 1 lv L.length (L.map (.int .i64)) ∧ L.length ≤ 8 ∧ F = b :: lv.ownBlock.toList

theorem GreyAt.keep {w w' : World} {b : Nat} {L : List Int} {ov : Bool} {F G : List Nat} (h : GreyAt w b L ov F) (k : Keeps G w w') (hd : ∀ i ∈ F, i ∉ G) : GreyAt w' b L ov F := by
  obtain ⟨lv, h1, h2, h3, rfl⟩ := h
  exact ⟨lv, k.blk h1 (hd _ (by simp)), k.own h2 (fun g hg => hd _ (by simp [hg])), h3, rfl⟩
theorem GreyAt.lt {w : World} {b : Nat} {L : List Int} {ov : Bool} {F : List Nat} (h : GreyAt w b L ov F) : ∀ i ∈ F, i < w.heap.size := by
  obtain ⟨lv, h1, h2, h3, rfl⟩ := h
  intro i hi
  simp at hi
  rcases hi with rfl | hi
  · exact h1.lt
  · exact own_lt h2 i hi

/-- A call that gives e, turns the list at b to L', ov', and nothing else. -/
def GreyDoes (r : Ending) (b : Nat) (L' : List Int) (ov' : Bool) (F : List Nat) (w : World) (e : Ending) (w' : World) : Prop :=
  e = r ∧ ∃ F', GreyAt w' b L' ov' F' ∧ Keeps F w w' ∧ ∀ i ∈ F', i ∈ F ∨ w.heap.size ≤ i

theorem grey_New (w : World) : Calls Try.prog 54 #[] w (GreyDoes (.returned (.pointer (some ⟨w.heap.size, 0, none⟩))) w.heap.size [] false [] w) := by
  go_enter Try.func54, Try.ntmps54
  go_wp2
  go_ret
  refine ⟨rfl, [w.heap.size], ⟨.slice none 0 0, Blk.new _ _ _, World.ownsRow_nil _ _ _ _, by simp, rfl⟩, (Keeps.refl _ _).alloc _, by simp⟩

set_option maxRecDepth 100000 in
theorem grey_Len (b n : Nat) (hn : n ≤ 1000) (w : World) (hc : w.cell? ⟨b, 1, none⟩ = some (.string (ones n))) :
    Calls Try.prog 81 #[.pointer (some ⟨b, 0, none⟩)] w fun e w' => e = .returned (.int .i64 n) ∧ Below w.heap.size w w' := by
  go_enter Try.func81, Try.ntmps81
  go_wp2
  go_loopw [3] (fun c w' => ∃ pos : Nat, pos ≤ n ∧ w' = w.iter (ones n) pos ∧ c = .int .i64 pos) (fun _ w' => n - w'.iterPos w.heap.size)
  case atStart => exact ⟨0, by omega, rfl, rfl⟩
  case round =>
    obtain ⟨pos, hp, rfl, rfl⟩ := hrel
    by_cases hlt : pos < n
    · obtain ⟨c, hnx⟩ : ∃ c : Nat, ∀ ty, (Instr.next (.pointer (some ⟨w.heap.size, 0, none⟩)) true ty).run Try.prog (w.iter (ones n) pos) = .ok (.tuple #[.bool true, .int .i64 pos, .int .i32 c]) (w.iter (ones n) (pos + 1)) :=
        ⟨_, fun ty => run_next_ascii w (ones n) pos ty (by rw [ones_size]; exact hlt) (ones_get _ _ _)⟩
      go_wp2
      go_roundw
      case rel => exact ⟨pos + 1, by omega, rfl, by go_num⟩
      case measure => simp; omega
    · have hnx : ∀ ty, (Instr.next (.pointer (some ⟨w.heap.size, 0, none⟩)) true ty).run Try.prog (w.iter (ones n) pos) = _ := fun ty => run_next_end w (ones n) pos ty (by rw [ones_size]; exact hlt)
      go_wp2
      go_ret
      exact ⟨ret_i (by omega), iter_belowM _ _ _⟩

set_option maxRecDepth 100000 in
theorem grey_last (b n : Nat) (hn : n ≤ 1000) (w : World) (hc : w.cell? ⟨b, 1, none⟩ = some (.string (ones n))) :
    Calls Try.prog 108 #[.pointer (some ⟨b, 0, none⟩)] w fun e w' => e = .returned (.int .i64 ((n : Int) - 1)) ∧ Below w.heap.size w w' := by
  go_enter Try.func108, Try.ntmps108
  go_wp2
  go_loopw [3] (fun c w' => ∃ pos : Nat, pos ≤ n ∧ w' = w.iter (ones n) pos ∧ c = .int .i64 ((pos : Int) - 1)) (fun _ w' => n - w'.iterPos w.heap.size)
  case atStart => exact ⟨0, by omega, rfl, rfl⟩
  case round =>
    obtain ⟨pos, hp, rfl, rfl⟩ := hrel
    by_cases hlt : pos < n
    · obtain ⟨c, hnx⟩ : ∃ c : Nat, ∀ ty, (Instr.next (.pointer (some ⟨w.heap.size, 0, none⟩)) true ty).run Try.prog (w.iter (ones n) pos) = .ok (.tuple #[.bool true, .int .i64 pos, .int .i32 c]) (w.iter (ones n) (pos + 1)) :=
        ⟨_, fun ty => run_next_ascii w (ones n) pos ty (by rw [ones_size]; exact hlt) (ones_get _ _ _)⟩
      go_wp2
      go_roundw
      case rel => exact ⟨pos + 1, by omega, rfl, by congr 1; omega⟩
      case measure => simp; omega
    · have hnx : ∀ ty, (Instr.next (.pointer (some ⟨w.heap.size, 0, none⟩)) true ty).run Try.prog (w.iter (ones n) pos) = _ := fun ty => run_next_end w (ones n) pos ty (by rw [ones_size]; exact hlt)
      go_wp2
      go_ret
      exact ⟨ret_i (by omega), iter_belowM _ _ _⟩
end Go.Proofs.Ytdnelekoplkkcaa
