/- ViewBackW -/
import Derived.Test.YtjdlnmbfomojdaaKGViewBack
import Derived.Test.YtjdlnmbfomojdaaKPrimV
import Derived.Test.YtjdlnmbfomojdaaKUmod
import Derived.Test.YtjdlnmbfomojdaaRows
import Derived.WalkKit
import Derived.WalkSpells
import Derived.WalkLawsBesides
/-
  The walk of 'dormouselaw11.ViewBack': the call returns true, in a world with at most new blocks.
-/
namespace Go.Proofs.Ytjdlnmbfomojdaa.viewBack
open Go.RowKit
set_option linter.unusedVariables false

def noV (x : Int) : Int := if Int.tmod x 1099511627776 > (-1) then Int.tmod x 1099511627776 else (-1)
def vbH : HSt := match law11_both.m 100 with
  | some (s, _) => s
  | none => hNew 4
def vb1 (A : List Int) : HSt := { vbH with a := wrI 0 A 9 vbH.a }
def vb2 (A B : List Int) : HSt := { vb1 A with a := wrI 32 B 7 (vb1 A).a }
def vb3 (A B C : List Int) : HSt := { vb2 A B with a := wrI 16 C 10 (vb2 A B).a }
def vb4 (A B C : List Int) : HSt := { vb3 A B C with col := fun _ => 0, g := [], ov := false, ph := 1 }
def vbTail (C : Ch) (S : Su) (G : Gr) : Option Bool := bind2 (pPutChan 0 (⟨C.cap, C.closed, C.count, C.start, C.buf, C.th, C.tt, C.sh, C.st⟩ : Ch) vbH) fun x358 s359 => bind2 (pPutSudog 32 (⟨S.gor, S.chan, S.value, S.next, S.to, S.reg, S.more⟩ : Su) s359) fun x366 s367 => bind2 (pPutGor 16 (⟨G.id, G.status, G.pc, G.a, G.b, G.c, G.d, G.e, G.f, G.sudogs⟩ : Gr) s367) fun x374 s375 => bind2 (pChan 0 s375) fun q386 x387 => bind2 (pSudog 32 s375) fun q407 x408 => bind3 (view_Gor.m 100 s375 16) fun q428 x429 s430 => (if (x358 != 0) then ViewBack.j2 S G 100 0 32 16 C.cap C.closed C.count C.start C.buf C.th C.tt C.sh C.st S.gor S.chan S.next S.to S.reg S.more G.id G.status G.pc G.sudogs s430 true else (if (x366 != 0) then ViewBack.j2 S G 100 0 32 16 C.cap C.closed C.count C.start C.buf C.th C.tt C.sh C.st S.gor S.chan S.next S.to S.reg S.more G.id G.status G.pc G.sudogs s430 true else (if (x374 != 0) then ViewBack.j2 S G 100 0 32 16 C.cap C.closed C.count C.start C.buf C.th C.tt C.sh C.st S.gor S.chan S.next S.to S.reg S.more G.id G.status G.pc G.sudogs s430 true else (if (x387 != 0) then ViewBack.j2 S G 100 0 32 16 C.cap C.closed C.count C.start C.buf C.th C.tt C.sh C.st S.gor S.chan S.next S.to S.reg S.more G.id G.status G.pc G.sudogs s430 true else (if (x408 != 0) then ViewBack.j2 S G 100 0 32 16 C.cap C.closed C.count C.start C.buf C.th C.tt C.sh C.st S.gor S.chan S.next S.to S.reg S.more G.id G.status G.pc G.sudogs s430 true else (if (x429 != 0) then ViewBack.j2 S G 100 0 32 16 C.cap C.closed C.count C.start C.buf C.th C.tt C.sh C.st S.gor S.chan S.next S.to S.reg S.more G.id G.status G.pc G.sudogs s430 true else (if (!((q386.cap == C.cap) && ((q386.closed == C.closed) && ((q386.count == C.count) && ((q386.start == C.start) && ((q386.buf == C.buf) && ((q386.th == C.th) && ((q386.tt == C.tt) && ((q386.sh == C.sh) && ((q386.st == C.st) && (true))))))))))) then ViewBack.j2 S G 100 0 32 16 C.cap C.closed C.count C.start C.buf C.th C.tt C.sh C.st S.gor S.chan S.next S.to S.reg S.more G.id G.status G.pc G.sudogs s430 true else (if (!((q407.gor == S.gor) && ((q407.chan == S.chan) && ((q407.value == S.value) && ((q407.next == S.next) && ((q407.to == S.to) && ((q407.reg == S.reg) && ((q407.more == S.more) && (true))))))))) then ViewBack.j2 S G 100 0 32 16 C.cap C.closed C.count C.start C.buf C.th C.tt C.sh C.st S.gor S.chan S.next S.to S.reg S.more G.id G.status G.pc G.sudogs s430 true else ViewBack.j2 S G 100 0 32 16 C.cap C.closed C.count C.start C.buf C.th C.tt C.sh C.st S.gor S.chan S.next S.to S.reg S.more G.id G.status G.pc G.sudogs s430 (!((q428.id == G.id) && ((q428.status == G.status) && ((q428.pc == G.pc) && (eqL [q428.a, q428.b, q428.c, q428.d, q428.e, q428.f] [G.a, G.b, G.c, G.d, G.e, G.f] && ((q428.sudogs == G.sudogs) && (true)))))))))))))))
set_option maxRecDepth 100000 in
theorem start (i0 : Ch) (i1 : Su) (i2 : Gr) : ViewBack.m 100 i0 i1 i2 = vbTail (⟨Int.tmod i0.cap 1099511627776, Int.tmod i0.closed 1099511627776, Int.tmod i0.count 1099511627776, Int.tmod i0.start 1099511627776, noV i0.buf, noV i0.th, noV i0.tt, noV i0.sh, noV i0.st⟩ : Ch) (⟨noV i1.gor, noV i1.chan, i1.value, noV i1.next, Int.tmod i1.to 1099511627776, Int.tmod i1.reg 1099511627776, noV i1.more⟩ : Su) (⟨Int.tmod i2.id 1099511627776, Int.tmod i2.status 1099511627776, Int.tmod i2.pc 1099511627776, i2.a, i2.b, i2.c, i2.d, i2.e, i2.f, noV i2.sudogs⟩ : Gr) := by kernel_rfl
theorem putTo_same (p : Int) (l : List Int) : ∀ (n : Nat) (h : HSt), hPutTo p l l n h = h
  | 0, h => rfl
  | n + 1, h => by unfold hPutTo; rw [if_pos rfl]; exact putTo_same p l n h
theorem is1 : Is vbH.a 0 1 9 := of_decide_eq_true (by kernel_rfl)
theorem is2 (a0 a1 a2 a3 a4 a5 a6 a7 a8 : Int) : Is (vb1 [a0, a1, a2, a3, a4, a5, a6, a7, a8]).a 32 3 7 := of_decide_eq_true (by kernel_rfl)
theorem is3 (a0 a1 a2 a3 a4 a5 a6 a7 a8 : Int) (b0 b1 b2 b3 b4 b5 b6 : Int) : Is (vb2 [a0, a1, a2, a3, a4, a5, a6, a7, a8] [b0, b1, b2, b3, b4, b5, b6]).a 16 4 10 := of_decide_eq_true (by kernel_rfl)
theorem ce1 : cellsB 0 9 vbH.a = true := by kernel_rfl
theorem ce2 (a0 a1 a2 a3 a4 a5 a6 a7 a8 : Int) : cellsB 32 7 (vb1 [a0, a1, a2, a3, a4, a5, a6, a7, a8]).a = true := by kernel_rfl
theorem ce3 (a0 a1 a2 a3 a4 a5 a6 a7 a8 : Int) (b0 b1 b2 b3 b4 b5 b6 : Int) : cellsB 16 10 (vb2 [a0, a1, a2, a3, a4, a5, a6, a7, a8] [b0, b1, b2, b3, b4, b5, b6]).a = true := by kernel_rfl
theorem js1 (a0 a1 a2 a3 a4 a5 a6 a7 a8 : Int) (b0 b1 b2 b3 b4 b5 b6 : Int) (c0 c1 c2 c3 c4 c5 c6 c7 c8 c9 : Int) : Is (vb3 [a0, a1, a2, a3, a4, a5, a6, a7, a8] [b0, b1, b2, b3, b4, b5, b6] [c0, c1, c2, c3, c4, c5, c6, c7, c8, c9]).a 0 1 9 := of_decide_eq_true (by kernel_rfl)
theorem js2 (a0 a1 a2 a3 a4 a5 a6 a7 a8 : Int) (b0 b1 b2 b3 b4 b5 b6 : Int) (c0 c1 c2 c3 c4 c5 c6 c7 c8 c9 : Int) : Is (vb3 [a0, a1, a2, a3, a4, a5, a6, a7, a8] [b0, b1, b2, b3, b4, b5, b6] [c0, c1, c2, c3, c4, c5, c6, c7, c8, c9]).a 32 3 7 := of_decide_eq_true (by kernel_rfl)
theorem js3 (a0 a1 a2 a3 a4 a5 a6 a7 a8 : Int) (b0 b1 b2 b3 b4 b5 b6 : Int) (c0 c1 c2 c3 c4 c5 c6 c7 c8 c9 : Int) : Is (vb3 [a0, a1, a2, a3, a4, a5, a6, a7, a8] [b0, b1, b2, b3, b4, b5, b6] [c0, c1, c2, c3, c4, c5, c6, c7, c8, c9]).a 16 4 10 := of_decide_eq_true (by kernel_rfl)
theorem ws1 (a0 a1 a2 a3 a4 a5 a6 a7 a8 : Int) (b0 b1 b2 b3 b4 b5 b6 : Int) (c0 c1 c2 c3 c4 c5 c6 c7 c8 c9 : Int) : aWords (vb3 [a0, a1, a2, a3, a4, a5, a6, a7, a8] [b0, b1, b2, b3, b4, b5, b6] [c0, c1, c2, c3, c4, c5, c6, c7, c8, c9]).a 0 = [a0, a1, a2, a3, a4, a5, a6, a7, a8] := by kernel_rfl
theorem ws2 (a0 a1 a2 a3 a4 a5 a6 a7 a8 : Int) (b0 b1 b2 b3 b4 b5 b6 : Int) (c0 c1 c2 c3 c4 c5 c6 c7 c8 c9 : Int) : aWords (vb3 [a0, a1, a2, a3, a4, a5, a6, a7, a8] [b0, b1, b2, b3, b4, b5, b6] [c0, c1, c2, c3, c4, c5, c6, c7, c8, c9]).a 32 = [b0, b1, b2, b3, b4, b5, b6] := by kernel_rfl
theorem ws3 (a0 a1 a2 a3 a4 a5 a6 a7 a8 : Int) (b0 b1 b2 b3 b4 b5 b6 : Int) (c0 c1 c2 c3 c4 c5 c6 c7 c8 c9 : Int) : aWords (vb3 [a0, a1, a2, a3, a4, a5, a6, a7, a8] [b0, b1, b2, b3, b4, b5, b6] [c0, c1, c2, c3, c4, c5, c6, c7, c8, c9]).a 16 = [c0, c1, c2, c3, c4, c5, c6, c7, c8, c9] := by kernel_rfl
theorem put1 (C : Ch) : pPutChan 0 C vbH = some (0, vb1 (chW C)) := by
  unfold pPutChan putE
  rw [hPut_idle (by kernel_rfl) ce1, if_pos is1, if_pos is1]; rfl
theorem put2 (C : Ch) (S : Su) (h : wdB S.value = true) : pPutSudog 32 S (vb1 (chW C)) = some (0, vb2 (chW C) (suW S)) := by
  have i2 : Is (vb1 (chW C)).a 32 3 7 := is2 (vI C.cap) (vI C.closed) (vI C.count) (vI C.start) (vP C.buf) (vP C.th) (vP C.tt) (vP C.sh) (vP C.st)
  unfold pPutSudog putE
  rw [if_pos h, hPut_idle (show (vb1 (chW C)).ph = 0 from (by kernel_rfl : vbH.ph = 0)) (ce2 (vI C.cap) (vI C.closed) (vI C.count) (vI C.start) (vP C.buf) (vP C.th) (vP C.tt) (vP C.sh) (vP C.st)), if_pos i2, if_pos i2]; rfl
theorem put3 (C : Ch) (S : Su) (G : Gr) (h : (wdB G.a && wdB G.b && wdB G.c && wdB G.d && wdB G.e && wdB G.f) = true) : pPutGor 16 G (vb2 (chW C) (suW S)) = some (0, vb3 (chW C) (suW S) (goW G)) := by
  have i3 : Is (vb2 (chW C) (suW S)).a 16 4 10 := is3 (vI C.cap) (vI C.closed) (vI C.count) (vI C.start) (vP C.buf) (vP C.th) (vP C.tt) (vP C.sh) (vP C.st) (vP S.gor) (vP S.chan) S.value (vP S.next) (vI S.to) (vI S.reg) (vP S.more)
  unfold pPutGor putE
  rw [if_pos h, hPut_idle (show (vb2 (chW C) (suW S)).ph = 0 from (by kernel_rfl : vbH.ph = 0)) (ce3 (vI C.cap) (vI C.closed) (vI C.count) (vI C.start) (vP C.buf) (vP C.th) (vP C.tt) (vP C.sh) (vP C.st) (vP S.gor) (vP S.chan) S.value (vP S.next) (vI S.to) (vI S.reg) (vP S.more)), if_pos i3, if_pos i3]; rfl
theorem get1 (C : Ch) (S : Su) (G : Gr) (h : chOf (chW C) = C) : pChan 0 (vb3 (chW C) (suW S) (goW G)) = some (C, 0) := by
  have j : Is (vb3 (chW C) (suW S) (goW G)).a 0 1 9 := js1 (vI C.cap) (vI C.closed) (vI C.count) (vI C.start) (vP C.buf) (vP C.th) (vP C.tt) (vP C.sh) (vP C.st) (vP S.gor) (vP S.chan) S.value (vP S.next) (vI S.to) (vI S.reg) (vP S.more) (vI G.id) (vI G.status) (vI G.pc) G.a G.b G.c G.d G.e G.f (vP G.sudogs)
  have w : aWords (vb3 (chW C) (suW S) (goW G)).a 0 = chW C := ws1 (vI C.cap) (vI C.closed) (vI C.count) (vI C.start) (vP C.buf) (vP C.th) (vP C.tt) (vP C.sh) (vP C.st) (vP S.gor) (vP S.chan) S.value (vP S.next) (vI S.to) (vI S.reg) (vP S.more) (vI G.id) (vI G.status) (vI G.pc) G.a G.b G.c G.d G.e G.f (vP G.sudogs)
  unfold pChan
  rw [if_pos j, if_pos j, w, h]
theorem get2 (C : Ch) (S : Su) (G : Gr) (h : suOf (suW S) = S) : pSudog 32 (vb3 (chW C) (suW S) (goW G)) = some (S, 0) := by
  have j : Is (vb3 (chW C) (suW S) (goW G)).a 32 3 7 := js2 (vI C.cap) (vI C.closed) (vI C.count) (vI C.start) (vP C.buf) (vP C.th) (vP C.tt) (vP C.sh) (vP C.st) (vP S.gor) (vP S.chan) S.value (vP S.next) (vI S.to) (vI S.reg) (vP S.more) (vI G.id) (vI G.status) (vI G.pc) G.a G.b G.c G.d G.e G.f (vP G.sudogs)
  have w : aWords (vb3 (chW C) (suW S) (goW G)).a 32 = suW S := ws2 (vI C.cap) (vI C.closed) (vI C.count) (vI C.start) (vP C.buf) (vP C.th) (vP C.tt) (vP C.sh) (vP C.st) (vP S.gor) (vP S.chan) S.value (vP S.next) (vI S.to) (vI S.reg) (vP S.more) (vI G.id) (vI G.status) (vI G.pc) G.a G.b G.c G.d G.e G.f (vP G.sudogs)
  unfold pSudog
  rw [if_pos j, if_pos j, w, h]
theorem gor1 (s : HSt) (c0 c1 c2 c3 c4 c5 c6 c7 c8 c9 u0 u1 u2 : Int) : view_Gor.j1 s 100 [c0, c1, c2, c3, c4, c5, c6, c7, c8, c9] u0 u1 u2 = bind1 (pAt c9) fun x => some (⟨u0, u1, u2, c3, c4, c5, c6, c7, c8, x⟩, 0, s) := by kernel_rfl
theorem gor0 (s : HSt) (p : Int) (c0 c1 c2 c3 c4 c5 c6 c7 c8 c9 : Int) (h : pSeen4 p s = some ([c0, c1, c2, c3, c4, c5, c6, c7, c8, c9], 0)) (h0 : wdB c0 = true) (h1 : wdB c1 = true) (h2 : wdB c2 = true) (h9 : wdB c9 = true) : view_Gor.m 100 s p = some (goOf [c0, c1, c2, c3, c4, c5, c6, c7, c8, c9], 0, s) := by
  unfold view_Gor.m
  rw [h]
  have e0 : pNum c0 = some (vNum c0) := by unfold pNum; rw [if_pos h0]
  have e1 : pNum c1 = some (vNum c1) := by unfold pNum; rw [if_pos h1]
  have e2 : pNum c2 = some (vNum c2) := by unfold pNum; rw [if_pos h2]
  have e9 : pAt c9 = some (vAt c9) := by unfold pAt; rw [if_pos h9]
  show bind1 (pNum c0) (fun x => bind1 (pNum c1) fun y => bind1 (pNum c2) fun z => view_Gor.j1 s 100 [c0, c1, c2, c3, c4, c5, c6, c7, c8, c9] x y z) = _
  rw [e0, bind1_some, e1, bind1_some, e2, bind1_some, gor1, e9]
  rfl
theorem vI_wdB (x : Int) : wdB (vI x) = true := by have := vI_wd x; unfold Wd at this; unfold wdB; simp; omega
theorem vP_wdB (x : Int) : wdB (vP x) = true := by have := vP_wd x; unfold Wd at this; unfold wdB; simp; omega
theorem get3 (C : Ch) (S : Su) (G : Gr) (h : goOf (goW G) = G) : view_Gor.m 100 (vb3 (chW C) (suW S) (goW G)) 16 = some (G, 0, vb3 (chW C) (suW S) (goW G)) := by
  have j : Is (vb3 (chW C) (suW S) (goW G)).a 16 4 10 := js3 (vI C.cap) (vI C.closed) (vI C.count) (vI C.start) (vP C.buf) (vP C.th) (vP C.tt) (vP C.sh) (vP C.st) (vP S.gor) (vP S.chan) S.value (vP S.next) (vI S.to) (vI S.reg) (vP S.more) (vI G.id) (vI G.status) (vI G.pc) G.a G.b G.c G.d G.e G.f (vP G.sudogs)
  have w : aWords (vb3 (chW C) (suW S) (goW G)).a 16 = goW G := ws3 (vI C.cap) (vI C.closed) (vI C.count) (vI C.start) (vP C.buf) (vP C.th) (vP C.tt) (vP C.sh) (vP C.st) (vP S.gor) (vP S.chan) S.value (vP S.next) (vI S.to) (vI S.reg) (vP S.more) (vI G.id) (vI G.status) (vI G.pc) G.a G.b G.c G.d G.e G.f (vP G.sudogs)
  have e : pSeen4 16 (vb3 (chW C) (suW S) (goW G)) = some (goW G, 0) := by unfold pSeen4; rw [if_pos j, if_pos j, w]
  have := gor0 (vb3 (chW C) (suW S) (goW G)) 16 (vI G.id) (vI G.status) (vI G.pc) G.a G.b G.c G.d G.e G.f (vP G.sudogs) e (vI_wdB _) (vI_wdB _) (vI_wdB _) (vP_wdB _)
  rw [this]
  show some (goOf (goW G), _, _) = _
  rw [h]
theorem beg (a0 a1 a2 a3 a4 a5 a6 a7 a8 : Int) (b0 b1 b2 b3 b4 b5 b6 : Int) (c0 c1 c2 c3 c4 c5 c6 c7 c8 c9 : Int) : pBegin (vb3 [a0, a1, a2, a3, a4, a5, a6, a7, a8] [b0, b1, b2, b3, b4, b5, b6] [c0, c1, c2, c3, c4, c5, c6, c7, c8, c9]) [] = some (0, vb4 [a0, a1, a2, a3, a4, a5, a6, a7, a8] [b0, b1, b2, b3, b4, b5, b6] [c0, c1, c2, c3, c4, c5, c6, c7, c8, c9]) := by kernel_rfl
theorem end3 (a0 a1 a2 a3 a4 a5 a6 a7 a8 : Int) (b0 b1 b2 b3 b4 b5 b6 : Int) (c0 c1 c2 c3 c4 c5 c6 c7 c8 c9 : Int) : ViewBack.j3 100 (vb4 [a0, a1, a2, a3, a4, a5, a6, a7, a8] [b0, b1, b2, b3, b4, b5, b6] [c0, c1, c2, c3, c4, c5, c6, c7, c8, c9]) false = some true := by kernel_rfl
theorem put_same {p kind : Int} {n : Nat} {l : List Int} {h : HSt} (w : aWords h.a p = l) : hPut p kind n l h = h := by
  unfold hPut
  split
  · rw [w]; exact putTo_same p l n h
  · rfl
theorem vb4_a (A B C : List Int) : (vb4 A B C).a = (vb3 A B C).a := by kernel_rfl
theorem rep1 (C : Ch) (S : Su) (G : Gr) : pPutChan 0 C (vb4 (chW C) (suW S) (goW G)) = some (0, vb4 (chW C) (suW S) (goW G)) := by
  have j : Is (vb4 (chW C) (suW S) (goW G)).a 0 1 9 := by rw [vb4_a]; exact js1 (vI C.cap) (vI C.closed) (vI C.count) (vI C.start) (vP C.buf) (vP C.th) (vP C.tt) (vP C.sh) (vP C.st) (vP S.gor) (vP S.chan) S.value (vP S.next) (vI S.to) (vI S.reg) (vP S.more) (vI G.id) (vI G.status) (vI G.pc) G.a G.b G.c G.d G.e G.f (vP G.sudogs)
  have w : aWords (vb4 (chW C) (suW S) (goW G)).a 0 = chW C := by rw [vb4_a]; exact ws1 (vI C.cap) (vI C.closed) (vI C.count) (vI C.start) (vP C.buf) (vP C.th) (vP C.tt) (vP C.sh) (vP C.st) (vP S.gor) (vP S.chan) S.value (vP S.next) (vI S.to) (vI S.reg) (vP S.more) (vI G.id) (vI G.status) (vI G.pc) G.a G.b G.c G.d G.e G.f (vP G.sudogs)
  unfold pPutChan putE
  rw [put_same w, if_pos j]
theorem rep2 (C : Ch) (S : Su) (G : Gr) (h : wdB S.value = true) : pPutSudog 32 S (vb4 (chW C) (suW S) (goW G)) = some (0, vb4 (chW C) (suW S) (goW G)) := by
  have j : Is (vb4 (chW C) (suW S) (goW G)).a 32 3 7 := by rw [vb4_a]; exact js2 (vI C.cap) (vI C.closed) (vI C.count) (vI C.start) (vP C.buf) (vP C.th) (vP C.tt) (vP C.sh) (vP C.st) (vP S.gor) (vP S.chan) S.value (vP S.next) (vI S.to) (vI S.reg) (vP S.more) (vI G.id) (vI G.status) (vI G.pc) G.a G.b G.c G.d G.e G.f (vP G.sudogs)
  have w : aWords (vb4 (chW C) (suW S) (goW G)).a 32 = suW S := by rw [vb4_a]; exact ws2 (vI C.cap) (vI C.closed) (vI C.count) (vI C.start) (vP C.buf) (vP C.th) (vP C.tt) (vP C.sh) (vP C.st) (vP S.gor) (vP S.chan) S.value (vP S.next) (vI S.to) (vI S.reg) (vP S.more) (vI G.id) (vI G.status) (vI G.pc) G.a G.b G.c G.d G.e G.f (vP G.sudogs)
  unfold pPutSudog putE
  rw [if_pos h, put_same w, if_pos j]
theorem rep3 (C : Ch) (S : Su) (G : Gr) (h : (wdB G.a && wdB G.b && wdB G.c && wdB G.d && wdB G.e && wdB G.f) = true) : pPutGor 16 G (vb4 (chW C) (suW S) (goW G)) = some (0, vb4 (chW C) (suW S) (goW G)) := by
  have j : Is (vb4 (chW C) (suW S) (goW G)).a 16 4 10 := by rw [vb4_a]; exact js3 (vI C.cap) (vI C.closed) (vI C.count) (vI C.start) (vP C.buf) (vP C.th) (vP C.tt) (vP C.sh) (vP C.st) (vP S.gor) (vP S.chan) S.value (vP S.next) (vI S.to) (vI S.reg) (vP S.more) (vI G.id) (vI G.status) (vI G.pc) G.a G.b G.c G.d G.e G.f (vP G.sudogs)
  have w : aWords (vb4 (chW C) (suW S) (goW G)).a 16 = goW G := by rw [vb4_a]; exact ws3 (vI C.cap) (vI C.closed) (vI C.count) (vI C.start) (vP C.buf) (vP C.th) (vP C.tt) (vP C.sh) (vP C.st) (vP S.gor) (vP S.chan) S.value (vP S.next) (vI S.to) (vI S.reg) (vP S.more) (vI G.id) (vI G.status) (vI G.pc) G.a G.b G.c G.d G.e G.f (vP G.sudogs)
  unfold pPutGor putE
  rw [if_pos h, put_same w, if_pos j]
theorem eqL_self : ∀ L : List Int, eqL L L = true
  | [] => rfl
  | x :: L => by simp [eqL, eqL_self L]
theorem tail_true (C : Ch) (S : Su) (G : Gr) (hC : chOf (chW C) = C) (hS : suOf (suW S) = S) (hG : goOf (goW G) = G) (h2 : wdB S.value = true) (h3 : (wdB G.a && wdB G.b && wdB G.c && wdB G.d && wdB G.e && wdB G.f) = true) : vbTail C S G = some true := by
  unfold vbTail
  rw [put1, bind2_some, put2 C S h2, bind2_some, put3 C S G h3, bind2_some, get1 C S G hC, bind2_some, get2 C S G hS, bind2_some, get3 C S G hG, bind3_some]
  have n0 : ¬ (((0 : Int) != 0) = true) := by decide
  rw [if_neg n0, if_neg n0, if_neg n0, if_neg n0, if_neg n0, if_neg n0]
  simp only [beq_self_eq_true, eqL_self, Bool.and_self, Bool.not_true, Bool.false_eq_true, if_false]
  unfold ViewBack.j2
  rw [if_neg Bool.false_ne_true]
  have e : pBegin (vb3 (chW C) (suW S) (goW G)) [] = some (0, vb4 (chW C) (suW S) (goW G)) := beg (vI C.cap) (vI C.closed) (vI C.count) (vI C.start) (vP C.buf) (vP C.th) (vP C.tt) (vP C.sh) (vP C.st) (vP S.gor) (vP S.chan) S.value (vP S.next) (vI S.to) (vI S.reg) (vP S.more) (vI G.id) (vI G.status) (vI G.pc) G.a G.b G.c G.d G.e G.f (vP G.sudogs)
  rw [e, bind2_some, rep1, bind2_some, if_neg n0, rep2 C S G h2, bind2_some, if_neg n0, rep3 C S G h3, bind2_some]
  exact end3 (vI C.cap) (vI C.closed) (vI C.count) (vI C.start) (vP C.buf) (vP C.th) (vP C.tt) (vP C.sh) (vP C.st) (vP S.gor) (vP S.chan) S.value (vP S.next) (vI S.to) (vI S.reg) (vP S.more) (vI G.id) (vI G.status) (vI G.pc) G.a G.b G.c G.d G.e G.f (vP G.sudogs)
theorem tm (x : Int) : -1099511627776 < Int.tmod x 1099511627776 ∧ Int.tmod x 1099511627776 < 1099511627776 := by
  have h1 := Int.tmod_lt_of_pos x (b := 1099511627776) (by omega)
  have h2 : -1099511627776 < Int.tmod x 1099511627776 := Int.lt_tmod_of_pos x (by omega)
  exact ⟨h2, h1⟩
theorem num_back {x : Int} (h : -1099511627776 < x ∧ x < 1099511627776) : vNum (vI x) = x := by
  unfold vNum vI wrap64; split <;> omega
theorem at_back {x : Int} (h : -1 ≤ x ∧ x < 1099511627776) : vAt (vP x) = x := by
  unfold vAt vP
  by_cases h0 : x < 0
  · rw [if_pos h0]
    simp; omega
  · rw [if_neg h0]
    unfold wrap64; split <;> omega
theorem no_in (x : Int) : -1 ≤ noV x ∧ noV x < 1099511627776 := by
  have := tm x
  unfold noV; split <;> omega
theorem wd_B {x : Int} (h : Wd x) : wdB x = true := by unfold Wd at h; unfold wdB; simp; omega
theorem pure (i0 : Ch) (i1 : Su) (i2 : Gr) (h1 : Wd i1.value) (h2 : Wd i2.a ∧ Wd i2.b ∧ Wd i2.c ∧ Wd i2.d ∧ Wd i2.e ∧ Wd i2.f) : ViewBack.m 100 i0 i1 i2 = some true := by
  rw [start]
  obtain ⟨g1, g2, g3, g4, g5, g6⟩ := h2
  apply tail_true
  · show (⟨vNum (vI _), vNum (vI _), vNum (vI _), vNum (vI _), vAt (vP _), vAt (vP _), vAt (vP _), vAt (vP _), vAt (vP _)⟩ : Ch) = _
    rw [num_back (tm _), num_back (tm _), num_back (tm _), num_back (tm _), at_back (no_in _), at_back (no_in _), at_back (no_in _), at_back (no_in _), at_back (no_in _)]
  · show (⟨vAt (vP _), vAt (vP _), _, vAt (vP _), vNum (vI _), vNum (vI _), vAt (vP _)⟩ : Su) = _
    rw [num_back (tm _), num_back (tm _), at_back (no_in _), at_back (no_in _), at_back (no_in _), at_back (no_in _)]
    rfl
  · show (⟨vNum (vI _), vNum (vI _), vNum (vI _), _, _, _, _, _, _, vAt (vP _)⟩ : Gr) = _
    rw [num_back (tm _), num_back (tm _), num_back (tm _), at_back (no_in _)]
    rfl
  · exact wd_B h1
  · simp only [wd_B g1, wd_B g2, wd_B g3, wd_B g4, wd_B g5, wd_B g6, Bool.and_self]
theorem walk (x0_0 x0_1 x0_2 x0_3 x0_4 x0_5 x0_6 x0_7 x0_8 : Int) (x1_0 x1_1 x1_2 x1_3 x1_4 x1_5 x1_6 : Int) (x2_0 x2_1 x2_2 x2_3 x2_4 x2_5 x2_6 x2_7 x2_8 x2_9 : Int) (w : World) (w0 : ∀ x ∈ [x0_0, x0_1, x0_2, x0_3, x0_4, x0_5, x0_6, x0_7, x0_8], Wd x) (w1 : ∀ x ∈ [x1_0, x1_1, x1_2, x1_3, x1_4, x1_5, x1_6], Wd x) (w2 : ∀ x ∈ [x2_0, x2_1, x2_2, x2_3, x2_4, x2_5, x2_6, x2_7, x2_8, x2_9], Wd x) :
    Calls Try.prog 6 #[.agg #[.int .i64 x0_0, .int .i64 x0_1, .int .i64 x0_2, .int .i64 x0_3, .int .i64 x0_4, .int .i64 x0_5, .int .i64 x0_6, .int .i64 x0_7, .int .i64 x0_8], .agg #[.int .i64 x1_0, .int .i64 x1_1, .int .i64 x1_2, .int .i64 x1_3, .int .i64 x1_4, .int .i64 x1_5, .int .i64 x1_6], .agg #[.int .i64 x2_0, .int .i64 x2_1, .int .i64 x2_2, .int .i64 x2_3, .int .i64 x2_4, .int .i64 x2_5, .int .i64 x2_6, .int .i64 x2_7, .int .i64 x2_8, .int .i64 x2_9]] w fun e w' => e = .returned (.bool true) ∧ Below w.heap.size w w' := by
  have v1 : Wd x1_2 := w1 _ (by simp)
  have v2 : Wd x2_3 ∧ Wd x2_4 ∧ Wd x2_5 ∧ Wd x2_6 ∧ Wd x2_7 ∧ Wd x2_8 := ⟨w2 _ (by simp), w2 _ (by simp), w2 _ (by simp), w2 _ (by simp), w2 _ (by simp), w2 _ (by simp)⟩
  exact (ViewBack.ok (i0 := ⟨x0_0, x0_1, x0_2, x0_3, x0_4, x0_5, x0_6, x0_7, x0_8⟩) (i1 := ⟨x1_0, x1_1, x1_2, x1_3, x1_4, x1_5, x1_6⟩) (i2 := ⟨x2_0, x2_1, x2_2, x2_3, x2_4, x2_5, x2_6, x2_7, x2_8, x2_9⟩) (St.empty w) (pure _ _ _ v1 v2)).mono fun e w' ⟨he, h⟩ => ⟨he, h.old⟩

end Go.Proofs.Ytjdlnmbfomojdaa.viewBack
