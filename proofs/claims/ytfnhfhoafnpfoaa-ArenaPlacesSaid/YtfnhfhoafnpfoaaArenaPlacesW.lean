/-
  The walk of 'dormouselaw07.ArenaPlaces': the call returns true, in a world with at most new blocks.
-/
import Derived.Test.YtfnhfhoafnpfoaaRows
import Derived.Test.YtfnhfhoafnpfoaaArenaRows
import Derived.Test.YtfnhfhoafnpfoaaArg
import Derived.WalkKit
import Derived.WalkSpells
import Derived.WalkLawsBesides
namespace Go.Proofs.Ytfnhfhoafnpfoaa.arenaPlaces
open Go.RowKit
set_option linter.unusedVariables false

/-- What has been made: the places L, all of them, and rows that are left. -/
structure Made (s : ASt) (k : Nat) (L : List Int) : Prop where
  ok : AOk s
  len : L.length = k
  left : 12 ≤ freeRows s.l + k
  at' : ∀ x ∈ L, ∃ (p : Nat) (n : Int), x = p ∧ s.c[p]? = some (.head 2 n) ∧ p % 4 = 0 ∧ p < 384
  all : (aObjects s.c).length = k
  size : s.c.length = 384
theorem made_new : Made (aNew 12) 0 [] := ⟨aNew_ok 12, rfl, by decide +kernel, by intro x hx; simp at hx, by decide +kernel, by decide +kernel⟩
theorem Made.next {s : ASt} {k : Nat} {L : List Int} (h : Made s k L) {n : Int} {p : Nat} {s' : ASt} (hm : AllocMore 2 n s p s') (hf : freeRows s.l ≤ freeRows s'.l + 1) : Made s' (k + 1) (L ++ [(p : Int)]) := by
  have hl := hm.lt
  have hsz := h.size
  refine ⟨hm.ok, by simp [h.len], by have := h.left; omega, ?_, by rw [hm.count, h.all], by rw [hm.len]; exact h.size⟩
  intro x hx
  rcases List.mem_append.1 hx with hx | hx
  · obtain ⟨q, m, rfl, hq, h4, hlt⟩ := h.at' x hx
    refine ⟨q, m, rfl, ?_, h4, hlt⟩
    have hne : q ≠ p := by rintro rfl; have := hm.fresh; rw [aHead_nat hq] at this; cases this
    have := hm.head q
    rw [if_neg hne, aHead_nat hq] at this
    exact head_iff.1 this
  · simp at hx; subst hx
    have := hm.head p
    rw [if_pos rfl] at this
    exact ⟨p, n, rfl, head_iff.1 this, hm.four, by omega⟩
theorem kind_none {c : List ACell} {a : Int} (h : aHead c a = none) : aKind c a = 0 := by unfold aKind; rw [h]
theorem end_none {s : ASt} : aHead s.c s.c.length = none := by unfold aHead; rw [if_pos (by omega), Int.toNat_natCast, List.getElem?_eq_none (Nat.le_refl _)]
set_option maxRecDepth 100000 in
set_option maxHeartbeats 4000000 in
theorem walk (a0 : Option Addr) (len0 cap0 : Nat) (z0 : List Int) (a1 : Int) (w : World) (w0 : IsRow .i64 w a0 len0 cap0 z0) (w1 : (Lit.int .i64 a1).wf = true) :
    Calls Try.prog 10 #[.slice a0 len0 cap0, .int .i64 a1] w fun e w' => e = .returned (.bool true) ∧ Below w.heap.size w w' := by
  obtain ⟨hW, hlen, p0, cap, hv, hC⟩ := argInts_of w0
  rw [hv]
  clear hv
  generalize z0.take len0 = xs at *
  unfold maxLen at hlen
  have HC := Lib.hid hC
  have HW := Lib.hid hW
  obtain ⟨i0, hi, hz0, hz1, hz2⟩ := info_parts info_int7
  obtain ⟨u, u0, u1, hu⟩ := umod a1 3 (by decide) (by decide)
  clear hC hW w0 w1
  go_enter Try.func10, Try.ntmps10
  go_wp2_with fail
  refine (arena_New 12 (by omega) (by omega) _).mono ?_
  intro e w1 h1
  obtain ⟨b, rfl, i1⟩ := h1.inn
  clear h1
  go_wp2_with fail
  refine (awake07 _).mono ?_
  rintro e w2 ⟨rfl, hb2⟩
  have i2 : Hid (AL w b (aNew 12) [(.slice none 0 0, [])] w2) := AL.nil (AL.start (i1.out.below hb2))
  clear i1 hb2
  go_wp2
  go_loopw [7, 8] (fun v iv wr => ∃ (k : Nat) (s : ASt) (L : List Int), k ≤ xs.length ∧ k ≤ 10 ∧ iv = .int .i64 k ∧ Hid (AL w b s [(v, L)] wr) ∧ Hid (Made s k L)) (fun _ iv _ => xs.length - (intOf iv).toNat)
  case atStart => exact ⟨0, aNew 12, [], by omega, by omega, rfl, i2, made_new⟩
  case round =>
    obtain ⟨k, s, L, hk, hk10, rfl, hal, hmd⟩ := hrel
    clear i2
    by_cases hgo : k < xs.length ∧ k < 10
    · obtain ⟨hlt, h10⟩ := hgo
      obtain ⟨b1, o1, rfl, hb1, hc1⟩ := HC.out.resolve_left (by omega)
      have hcell := hc1 k hlt
      obtain ⟨n, n0, n1, hn⟩ := umod xs[k] 32 (by decide) (by decide)
      have q0 : (0 : Int) ≤ k := by omega
      have q1 : (k : Int) < xs.length := by omega
      have q2 : (k : Int) < 10 := by omega
      generalize xs[k] = x at *
      have hcw : wr.cell? ⟨b1, o1 + k, none⟩ = some (.int .i64 x) := ((AL.old hal).cell (p := ⟨b1, o1 + k, none⟩) hb1).trans hcell
      obtain ⟨p, s', hv, hs', hm, hf⟩ := made hmd.out.ok (not_bad (kind := 2) (by omega) (by omega) n0 n1) (by have := hmd.out.left; omega)
      have HV := Lib.hid hv
      have HS := Lib.hid hs'
      have MD := Lib.hid (hmd.out.next hm hf)
      have plt : p < 384 := by have := hm.lt; have := hmd.out.size; omega
      have hLl : L.length = k := hmd.out.len
      clear hc1 hcell hv hs' hm hf hmd hb1
      go_wp2_with fail
      refine (al_Alloc hal _ _).mono ?_
      rintro e w3 ⟨rfl, j3⟩
      rw [HV.out]
      rw [HS.out] at j3
      have hown := AL.own j3
      clear hal hcw
      go_wp2_with (at_builtin; refine wpList_append_own_at _ rfl _ _ 41 rfl 0 3 i0 (.int .i64 0) 1 8 Try.underlying41 hi hz0 hz1 hz2 rfl (by decide) _ _ _ rfl (hown.alloc _) ⟨w3.heap.size, 0, none⟩ 1 1 [.int .i64 p] rfl rfl (cell_one_new _ _ _) ?c2 ?c3 ?c4 ?c5 ?_)
      case c2 => first | rfl | (intro u hu; simp at hu; subst hu; rfl)
      case c3 => unfold maxLen; omega
      case c4 => omega
      case c5 => omega
      intro v' w4 hown4 hg4 _ hat
      have hown4' := Lib.hid hown4
      have j4 := AL.grow (x := (p : Int)) j3 (by rw [hLl]; exact hown4) hg4 (by simpa using hat)
      obtain ⟨g, cap', hv, -⟩ := own_form hown4 (by omega)
      subst hv
      clear hown4 hg4 hat hown j3
      go_wp2
      go_roundw
      case rel => exact ⟨k + 1, s', L ++ [(p : Int)], by omega, by omega, by go_num, j4, MD⟩
      case measure => simp [intOf]; omega
    · have hcond : ¬ (k : Int) < xs.length ∨ ((k : Int) < xs.length ∧ ¬ (k : Int) < 10) := by omega
      clear hgo
      rcases hcond with hcond | ⟨hcond, hcond2⟩
      all_goals
        have hLl : L.length = k := hmd.out.len
        subst hLl
        go_wp2
        go_loopw [11] (fun jv wr => ∃ j : Nat, j ≤ L.length ∧ jv = .int .i64 j ∧ Hid (AL w b s [(u7, L)] wr)) (fun jv _ => L.length - (intOf jv).toNat)
        case atStart => exact ⟨0, by omega, rfl, hal⟩
        case round =>
          obtain ⟨j, hj, rfl, hal2⟩ := hrel
          clear hal
          by_cases hlt : j < L.length
          · obtain ⟨g, cap', hvv, -⟩ := own_form (AL.own hal2) (by simp only; omega)
            simp only at hvv
            subst hvv
            obtain ⟨p, n, hp, hh, h4, h384⟩ := hmd.out.at' L[j] (List.getElem_mem _)
            have hcell : ∀ wx, Hid (AL w b s [(.slice (some ⟨g, 0, none⟩) L.length cap', L)] wx) → wx.cell? ⟨g, j, none⟩ = some (.int .i64 p) := by
              intro wx hx
              have := own_cell (AL.own hx) (g := g) rfl j (by simp [intV]; omega)
              rw [this, ← hp]; simp [intV]
            obtain ⟨q, hq⟩ : ∃ q : Nat, (p : Int) + (1 + u) = (q : Int) := ⟨p + 1 + u.toNat, by omega⟩
            have hqn : aHead s.c q = none := off_none hmd.out.ok (by omega)
            have hk1 : aKind s.c p = 2 := by unfold aKind; rw [aHead_nat hh]
            have hk2 : aKind s.c q = 0 := kind_none hqn
            have hfe : aFreeE q s = 8 := by unfold aFreeE; rw [hqn]; rfl
            have hfs : aFreeS q s = s := by unfold aFreeS; rw [hqn]
            have p0 : (0 : Int) ≤ p := by omega
            have p1 : (p : Int) < 384 := by omega
            have h4' : (p : Int) % 4 = 0 := by omega
            have HL := Lib.hid hcell
            have HFE := Lib.hid hfe
            have HFS := Lib.hid hfs
            have HK1 := Lib.hid hk1
            have HK2 := Lib.hid hk2
            have c1 := hcell wr hal2
            have j0 : (0 : Int) ≤ j := by omega
            have j1 : (j : Int) < L.length := by omega
            have HP := Lib.hid hp
            clear hcell hk1 hk2 hfe hfs hp hh h4 hqn
            go_wp2_with fail
            refine (al_Kind hal2 _).mono ?_
            rintro e w3 ⟨rfl, j3⟩
            rw [HK1.out]
            have c3 := HL.out w3 j3
            clear hal2 c1
            go_wp2_with fail
            refine (al_Kind j3 _).mono ?_
            rintro e w4 ⟨rfl, j4⟩
            rw [HK2.out]
            have c4 := HL.out w4 j4
            clear j3 c3
            go_wp2_with fail
            refine (al_Free j4 _).mono ?_
            rintro e w5 ⟨rfl, j5⟩
            rw [HFE.out]
            rw [HFS.out] at j5
            clear j4 c4
            go_wp2
            go_roundw
            case rel => exact ⟨j + 1, by omega, by go_num, j5⟩
            case measure => simp [intOf]; omega
          · have hjl : j = L.length := by omega
            subst hjl
            have hv : ∃ x c, u7 = .slice x L.length c := by
              rcases own_cases (AL.own hal2) with ⟨e, hn⟩ | ⟨g, cap, e, _⟩
              · simp only at e hn; rw [hn]; exact ⟨_, _, e⟩
              · exact ⟨_, _, e⟩
            obtain ⟨vx, vc, rfl⟩ := hv
            have hk1 : aKind s.c (-1) = 0 := rfl
            have hsz := hmd.out.size
            have hk2 : aKind s.c 384 = 0 := by have := kind_none (end_none (s := s)); rw [hsz] at this; exact this
            have hob := hmd.out.all
            have HK1 := Lib.hid hk1
            have HK2 := Lib.hid hk2
            have HOB := Lib.hid hob
            clear hk1 hk2 hob hmd
            go_wp2_with fail
            refine (al_Kind hal2 _).mono ?_
            rintro e w3 ⟨rfl, j3⟩
            rw [HK1.out]
            clear hal2
            go_wp2_with fail
            refine (al_Words j3).mono ?_
            rintro e w4 ⟨rfl, rfl⟩
            go_wp2_with fail
            refine (al_Kind j3 _).mono ?_
            rintro e w4 ⟨rfl, j4⟩
            rw [HK2.out]
            clear j3
            go_wp2_with fail
            refine (al_Objects j4).mono ?_
            rintro e w5 ⟨ox, oc, rfl, j5⟩
            rw [HOB.out]
            clear j4
            go_wp2
            go_ret
            exact ⟨rfl, AL.old j5⟩

end Go.Proofs.Ytfnhfhoafnpfoaa.arenaPlaces
