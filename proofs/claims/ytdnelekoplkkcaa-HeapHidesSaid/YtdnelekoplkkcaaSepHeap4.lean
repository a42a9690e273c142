/- Package heap: object, next, scan. -/
import Derived.Test.YtdnelekoplkkcaaSepHeap3
namespace Go.Proofs.Ytdnelekoplkkcaa
open Go.RowKit
set_option linter.unusedVariables false

def objV (k p : Int) (v : Value) : Value := if k = 0 then .tuple #[.agg #[.int .i64 0, .int .i64 0, .slice none 0 0], .bool false] else .tuple #[thingV k p v, .bool true]
section
variable {w0 w : World} {F0 : List Nat} {ps : List Piece} {b ab mb lb : Nat} {h : HSt}

set_option maxHeartbeats 2000000 in
theorem h_object (hs : St w0 F0 (HeapP b ab h :: ps) w) (p : Int) :
    Calls Try.prog 79 #[.pointer (some ⟨b, 0, none⟩), .int .i64 p] w fun e w' => ∃ v, e = .returned (objV (aKind h.a.c p) p v) ∧ St w0 F0 (RowP v (aWords h.a p) :: HeapP b ab h :: ps) w' := by
  obtain ⟨rb, hrb⟩ : ∃ rb, w.heap.size = rb := ⟨_, rfl⟩
  have h1 := (hs.new #[.int .i64 0, .int .i64 0, .slice none 0 0] 125).pick1
  rw [hrb] at h1
  obtain ⟨k, hk⟩ : ∃ k, aKind h.a.c p = k := ⟨_, rfl⟩
  have HK := Lib.hid hk
  clear hk hs
  go_enter Try.func79, Try.ntmps79
  go_wp2_with fail
  refine (h_look h1 _).mono ?_
  rintro e w1 ⟨v, rfl, h2⟩
  rw [HK.out]
  obtain ⟨_, pv, cv, rfl, -⟩ := h2.shape 0 rfl
  have d0 := h2.cell 2 rfl 0 rfl
  have d1 := h2.cell 2 rfl 1 rfl
  have d2 := h2.cell 2 rfl 2 rfl
  have f0 := h2.free 2 rfl 0
  have f1 := h2.free 2 rfl 1
  have f2 := h2.free 2 rfl 2
  have hbl := (St.blk h2.pick2).lt
  clear h1 hrb
  by_cases k0 : k = 0
  · subst k0
    have hlv : lookV 0 p (.slice pv (aWords h.a p).length cv) = .nilIface := rfl
    rw [hlv]
    clear hlv
    go_wp2
    (try simp only [Exit.inBlock, Exit.then])
    refine bodyPost_ret (v := .tuple #[.agg #[.int .i64 0, .int .i64 0, .slice none 0 0], .bool false]) (by rw [results_cell_tmp rfl]; go_simp) rfl ?_
    refine ⟨.slice pv (aWords h.a p).length cv, by rw [HK.out]; rfl, ?_⟩
    exact ((((h2.pick2.set 0 _).set 1 _).set 2 _).drop.alloc _).alloc _
  · by_cases k5 : k = 5
    · subst k5
      have hlv : lookV 5 p (.slice pv (aWords h.a p).length cv) = .iface 145 (.agg #[.int .i64 5, .int .i64 p, .slice pv (aWords h.a p).length cv]) := rfl
      rw [hlv]
      clear hlv
      go_wp2
      (try simp only [Exit.inBlock, Exit.then])
      refine bodyPost_ret (v := .tuple #[.agg #[.int .i64 5, .int .i64 p, .slice pv (aWords h.a p).length cv], .bool true]) (by rw [results_cell_tmp rfl]; go_simp) rfl ?_
      refine ⟨_, by rw [HK.out]; rfl, ?_⟩
      exact (((h2.pick2.set 0 _).set 1 _).set 2 _).drop.alloc _
    · have hlv : lookV k p (.slice pv (aWords h.a p).length cv) = .iface 125 (.agg #[.int .i64 k, .int .i64 p, .slice pv (aWords h.a p).length cv]) := by unfold lookV; rw [if_neg k0, if_neg k5]; rfl
      rw [hlv]
      have hov : objV k p (.slice pv (aWords h.a p).length cv) = .tuple #[.agg #[.int .i64 k, .int .i64 p, .slice pv (aWords h.a p).length cv], .bool true] := by unfold objV; rw [if_neg k0]; rfl
      have HO := Lib.hid hov
      clear hlv hov k0 k5
      go_wp2
      (try simp only [Exit.inBlock, Exit.then])
      refine bodyPost_ret (v := .tuple #[.agg #[.int .i64 k, .int .i64 p, .slice pv (aWords h.a p).length cv], .bool true]) (by rw [results_cell_tmp rfl]; go_simp) rfl ?_
      refine ⟨_, by rw [HK.out, HO.out], ?_⟩
      exact ((((h2.pick2.set 0 _).set 1 _).set 2 _).drop.alloc _).alloc _
end
end Go.Proofs.Ytdnelekoplkkcaa
