/-
  The walk of 'dormouselaw07.ArenaApart': the call returns true, in a world with at most new blocks.
-/
import Derived.Test.YtfnhfhoafnpfoaaRows
import Derived.Test.YtfnhfhoafnpfoaaObjs
import Derived.Test.YtfnhfhoafnpfoaaInInt
import Derived.Test.YtfnhfhoafnpfoaaArg
import Derived.WalkKit
import Derived.WalkSpells
import Derived.WalkLawsBesides
import Derived.Deep.DeepCutAuto
import Derived.Deep.CutBlock
import Derived.Deep.RegionHeld3
namespace Go.Proofs.Ytfnhfhoafnpfoaa.arenaApart
open Go.RowKit
set_option linter.unusedVariables false

def placesOf (os : List Ob) : List Int := os.map fun o => (o.p : Int)
def sizesOf (os : List Ob) : List Int := os.map fun o => (o.ws.length : Int)
/-- n words, m of which are stored. -/
def lst (k n m : Nat) : List Int := (List.range n).map fun x => if x < m then 100 * (k : Int) + x else 0
theorem lst_len (k n m : Nat) : (lst k n m).length = n := by simp [lst]
theorem lst_zero (k n : Nat) : lst k n 0 = List.replicate n 0 := by
  apply List.ext_getElem <;> simp [lst]
theorem lst_at {k n m : Nat} (x : Nat) (h : x < (lst k n m).length) : (lst k n m)[x] = if x < m then 100 * (k : Int) + x else 0 := by simp [lst]
theorem lst_set {k n m : Nat} : (lst k n m).set m (100 * (k : Int) + m) = lst k n (m + 1) := by
  apply List.ext_getElem
  · simp [lst]
  · intro i h1 h2
    rw [List.getElem_set, lst_at, lst_at]
    by_cases e : m = i
    · subst e; rw [if_pos rfl, if_pos (by omega)]
    · rw [if_neg e]
      by_cases h : i < m
      · rw [if_pos h, if_pos (by omega)]
      · rw [if_neg h, if_neg (by omega)]
structure Stage (lo : Nat) (s : ASt) (os : List Ob) : Prop where
  objs : Objs s os
  left : 40 ≤ freeRows s.l + os.length
  few : os.length ≤ 20
  words : ∀ j (h : j < os.length), lo ≤ j → os[j].ws = lst j os[j].ws.length os[j].ws.length
  short : ∀ o ∈ os, o.ws.length < 32 ∧ o.p < 1280
  size : s.c.length = 1280
/-- While the words of the last one are stored. -/
structure Fills (s : ASt) (os : List Ob) (p : Nat) (kind : Int) (n m : Nat) : Prop where
  objs : Objs s (os ++ [⟨p, kind, lst os.length n m⟩])
  left : 40 ≤ freeRows s.l + (os.length + 1)
  size : s.c.length = 1280
theorem stage_new : Stage 0 (aNew 40) [] := ⟨objs_new 40, by rw [new_rows]; simp, by simp, by simp, by simp, by show (List.replicate (32 * 40) ACell.none).length = 1280; rw [List.length_replicate]⟩
theorem Stage.fills {s s' : ASt} {os : List Ob} (h : Stage 0 s os) {kind : Int} {n p : Nat} (hm : AllocMore kind n s p s') (hf : freeRows s.l ≤ freeRows s'.l + 1) : Fills s' os p kind n 0 := by
  refine ⟨?_, by have := h.left; omega, by rw [hm.len]; exact h.size⟩
  have := h.objs.alloc hm
  rw [Int.toNat_natCast] at this
  rw [lst_zero]; exact this
theorem Fills.load {s : ASt} {os : List Ob} {p : Nat} {kind : Int} {n m : Nat} (h : Fills s os p kind n m) (hm : m < n) : loadV s p m = .tuple #[.int .i64 0, .int .i64 0] := by
  have := h.objs.load (o := ⟨p, kind, lst os.length n m⟩) (by simp) (m := m) (by simpa [lst_len] using hm)
  rw [this]
  simp only [lst_at]
  rw [if_neg (by omega)]
theorem Fills.store {s : ASt} {os : List Ob} {p : Nat} {kind : Int} {n m : Nat} (h : Fills s os p kind n m) (hm : m < n) : aErr p m s = 0 ∧ Fills (aStoreS p m (100 * (os.length : Int) + m) s) os p kind n (m + 1) := by
  have hj : os.length < (os ++ [(⟨p, kind, lst os.length n m⟩ : Ob)]).length := by simp
  have hg : (os ++ [(⟨p, kind, lst os.length n m⟩ : Ob)])[os.length] = ⟨p, kind, lst os.length n m⟩ := by simp
  have := h.objs.store hj (m := m) (by rw [hg]; simpa [lst_len] using hm) (100 * (os.length : Int) + m)
  rw [hg] at this
  simp only at this
  obtain ⟨a, b, c, d⟩ := this
  refine ⟨a, ⟨?_, by rw [b]; exact h.left, by rw [c]; exact h.size⟩⟩
  rw [lst_set, List.set_append_right _ _ (Nat.le_refl _)] at d
  simpa using d
theorem Fills.done {s0 s : ASt} {os : List Ob} {p : Nat} {kind : Int} {n : Nat} (h0 : Stage 0 s0 os) (h : Fills s os p kind n n) (hn : n < 32) (h20 : os.length < 20) (hp : p < 1280) : Stage 0 s (os ++ [⟨p, kind, lst os.length n n⟩]) := by
  refine ⟨h.objs, by simpa using h.left, by simp; omega, ?_, ?_, h.size⟩
  · intro j hj _
    by_cases e : j < os.length
    · rw [List.getElem_append_left e]; exact h0.words j e (by omega)
    · have e2 : j = os.length := by simp at hj; omega
      subst e2
      simp [lst_len]
  · intro o ho
    rcases List.mem_append.1 ho with ho | ho
    · exact h0.short o ho
    · simp at ho; subst ho; exact ⟨by simp [lst_len]; exact hn, hp⟩
theorem places_append (os : List Ob) (o : Ob) : placesOf (os ++ [o]) = placesOf os ++ [(o.p : Int)] := by simp [placesOf]
theorem sizes_append (os : List Ob) (o : Ob) : sizesOf (os ++ [o]) = sizesOf os ++ [(o.ws.length : Int)] := by simp [sizesOf]
/-- Words are stored in the first one: the others stand. -/
theorem Stage.first {s : ASt} {os : List Ob} (h : Stage 1 s os) (h0 : 0 < os.length) (m : Nat) (x : Int) : ∃ os', Stage 1 (aStoreS os[0].p m x s) os' ∧ placesOf os' = placesOf os ∧ sizesOf os' = sizesOf os := by
  by_cases hm : m < os[0].ws.length
  · obtain ⟨a, b, c, d⟩ := h.objs.store h0 hm x
    refine ⟨_, ⟨d, by rw [b]; simpa using h.left, by simpa using h.few, ?_, ?_, by rw [c]; exact h.size⟩, ?_, ?_⟩
    · intro j hj h1
      rw [List.length_set] at hj
      simp only [List.getElem_set_ne (show 0 ≠ j by omega)]
      exact h.words j hj h1
    · intro o ho
      rcases List.mem_or_eq_of_mem_set ho with ho | rfl
      · exact h.short o ho
      · simpa using h.short _ (List.getElem_mem h0)
    · unfold placesOf; rw [List.map_set]; apply List.ext_getElem <;> simp
      intro i h1 h2; rw [List.getElem_set]; split
      · rename_i e; subst e; simp
      · simp
    · unfold sizesOf; rw [List.map_set]; apply List.ext_getElem <;> simp
      intro i h1 h2; rw [List.getElem_set]; split
      · rename_i e; subst e; simp
      · simp
  · have := h.objs.err (List.getElem_mem h0) m
    rw [if_neg hm] at this
    refine ⟨os, ?_, rfl, rfl⟩
    rw [store_bad (by rw [this]; decide)]
    exact h
theorem places_len (os : List Ob) : (placesOf os).length = os.length := by simp [placesOf]
theorem sizes_len (os : List Ob) : (sizesOf os).length = os.length := by simp [sizesOf]
theorem form_of {w : World} {v : Value} {xs : List Int} {n : Nat} (h : w.ownsRow 0 3 1 v xs.length (intV xs)) (hn : xs.length = n) : ∃ p c, v = .slice p n c ∧ (n = 0 ∨ ∃ g, p = some ⟨g, 0, none⟩) := by
  subst hn
  rcases own_cases h with ⟨rfl, hn⟩ | ⟨g, cap, rfl, h2, h3, _⟩
  · exact ⟨_, _, by rw [hn], .inl hn⟩
  · exact ⟨_, _, rfl, .inr ⟨g, rfl⟩⟩
theorem int_cell {w : World} {g n c : Nat} {xs : List Int} (h : w.ownsRow 0 3 1 (.slice (some ⟨g, 0, none⟩) n c) xs.length (intV xs)) (i : Nat) (hi : i < xs.length) : w.cell? ⟨g, i, none⟩ = some (.int .i64 xs[i]) := by
  have := own_cell h (g := g) rfl i (by simp [intV]; omega)
  simpa [intV] using this
theorem Stage.load {lo : Nat} {s : ASt} {os : List Ob} (h : Stage lo s os) {i : Nat} (hi : i < os.length) (hlo : lo ≤ i) {m : Nat} (hm : m < os[i].ws.length) : loadV s os[i].p m = .tuple #[.int .i64 (100 * (i : Int) + m), .int .i64 0] := by
  rw [h.objs.load (List.getElem_mem hi) hm]
  have e := h.words i hi hlo
  have e2 : os[i].ws[m] = (lst i os[i].ws.length os[i].ws.length)[m]'(by rw [lst_len]; exact hm) := by congr 1
  rw [e2, lst_at, if_pos hm]
theorem places_at {os : List Ob} {i : Nat} (h : i < os.length) : (placesOf os)[i]'(by rw [places_len]; exact h) = os[i].p := by simp [placesOf]
theorem sizes_at {os : List Ob} {i : Nat} (h : i < os.length) : (sizesOf os)[i]'(by rw [sizes_len]; exact h) = os[i].ws.length := by simp [sizesOf]
theorem AL.drew {w : World} {b : Nat} {s : ASt} {rows : List IRow} {wr : World} (h : Hid (AL w b s rows wr)) : Hid (AL w b s rows wr.drew) := AL.below h (Below.refl _ _).drew
/-- One goes, one comes. -/
theorem Stage.last {lo : Nat} {s : ASt} {os : List Ob} (h : Stage lo s os) {i : Nat} (hi : i < os.length) : aFreeE os[i].p s = 0 ∧ ∃ p s3, aAllocV 5 os[i].ws.length (aFreeS os[i].p s) = .tuple #[.int .i64 (p : Nat), .int .i64 0] ∧ aAllocS 5 os[i].ws.length (aFreeS os[i].p s) = s3 ∧ (aObjects s3.c).length = os.length ∧ ((p : Int) = os[i].p ∨ ((p : Int) ≠ os[i].p ∧ memI p (placesOf os) = false)) := by
  obtain ⟨he, ho, hf, _⟩ := h.objs.free hi
  have h32 := (h.short _ (List.getElem_mem hi)).1
  obtain ⟨p, s3, hv, hs, hm, _⟩ := made ho.ok (not_bad (kind := 5) (n := (os[i].ws.length : Int)) (by omega) (by omega) (by omega) (by omega)) (by have := h.left; have := h.few; omega)
  refine ⟨he, p, s3, hv, hs, ?_, ?_⟩
  · have := (ho.alloc hm).all
    rw [this, List.length_append, List.length_eraseIdx, if_pos hi]
    simp only [List.length_cons, List.length_nil]; omega
  · by_cases e : (p : Int) = os[i].p
    · exact .inl e
    · refine .inr ⟨e, memI_no ?_⟩
      intro hmem
      obtain ⟨o, hmo, eo⟩ := List.mem_map.1 hmem
      obtain ⟨j, hj, e2⟩ := List.mem_iff_getElem.1 hmo
      by_cases hji : j = i
      · subst hji; rw [← e2] at eo; exact e eo.symm
      · refine ho.new_place hm o ?_ (by omega)
        rw [List.mem_eraseIdx_iff_getElem]
        exact ⟨j, hj, hji, e2⟩
theorem Stage.later {s : ASt} {os : List Ob} (h : Stage 0 s os) : Stage 1 s os := ⟨h.objs, h.left, h.few, fun j hj _ => h.words j hj (by omega), h.short, h.size⟩
set_option maxRecDepth 100000 in
set_option maxHeartbeats 8000000 in
theorem walk (a0 : Option Addr) (len0 cap0 : Nat) (z0 : List Int) (a1 : Option Addr) (len1 cap1 : Nat) (z1 : List Int) (a2 : Int) (w : World) (w0 : IsRow .i64 w a0 len0 cap0 z0) (w1 : IsRow .i64 w a1 len1 cap1 z1) (w2 : (Lit.int .i64 a2).wf = true) :
    Calls Try.prog 8 #[.slice a0 len0 cap0, .slice a1 len1 cap1, .int .i64 a2] w fun e w' => e = .returned (.bool true) ∧ Below w.heap.size w w' := by
  obtain ⟨hW, hlen, p0, cap, hv, hC⟩ := argInts_of w0
  rw [hv]
  clear hv
  generalize z0.take len0 = xs at *
  obtain ⟨hW1, hlen1, p1, cap1, hv, hC1⟩ := argInts_of w1
  rw [hv]
  clear hv
  generalize z1.take len1 = ys at *
  unfold maxLen at hlen hlen1
  have HC := Lib.hid hC
  have HW := Lib.hid hW
  have HC1 := Lib.hid hC1
  have HW1 := Lib.hid hW1
  obtain ⟨i0, hi, hz0, hz1, hz2⟩ := info_parts info_int7
  clear hC hW hC1 hW1 w0 w1 w2
  go_enter Try.func8, Try.ntmps8
  go_wp2_with fail
  refine (arena_New 40 (by omega) (by omega) _).mono ?_
  intro e w1 h1
  obtain ⟨b, rfl, i1⟩ := h1.inn
  clear h1
  go_wp2_with fail
  refine (awake07 _).mono ?_
  rintro e w2 ⟨rfl, hb2⟩
  have i2 : Hid (AL w b (aNew 40) [(.slice none 0 0, placesOf []), (.slice none 0 0, sizesOf [])] w2) := AL.nil (AL.nil (AL.start (i1.out.below hb2)))
  clear i1 hb2
  go_upto_block 0 with fail
  go_cut [9, 10] (fun s9 s10 wx => ∃ (s : ASt) (os : List Ob), Hid (AL w b s [(s9, placesOf os), (s10, sizesOf os)] wx) ∧ Hid (Stage 0 s os))
  case first =>
    go_wp2_with fail
    go_loopw [9, 10, 11] (fun s9 s10 iv wr => ∃ (s : ASt) (os : List Ob), os.length ≤ xs.length ∧ os.length ≤ 20 ∧ iv = .int .i64 os.length ∧ Hid (AL w b s [(s9, placesOf os), (s10, sizesOf os)] wr) ∧ Hid (Stage 0 s os)) (fun _ _ iv _ => xs.length - (intOf iv).toNat)
    case atStart => exact ⟨aNew 40, [], by simp, by simp, rfl, i2, stage_new⟩
    case round =>
      obtain ⟨s, os, hk, hk20, rfl, hal, hst⟩ := hrel
      clear i2
      obtain ⟨k, hkk⟩ : ∃ k, os.length = k := ⟨_, rfl⟩
      by_cases hgo : k < xs.length ∧ k < 20
      · obtain ⟨hlt, h20⟩ := hgo
        obtain ⟨b1, o1, rfl, hb1, hc1⟩ := HC.out.resolve_left (by omega)
        have hcell := hc1 k hlt
        obtain ⟨n', n0, n1, hn⟩ := umod xs[k] 32 (by decide) (by decide)
        obtain ⟨n, rfl⟩ := Int.eq_ofNat_of_zero_le n0
        have q0 : (0 : Int) ≤ k := by omega
        have q1 : (k : Int) < xs.length := by omega
        have q2 : (k : Int) < 20 := by omega
        obtain ⟨r, hr, r0, r5⟩ : ∃ r : Int, (k : Int) % 6 = r ∧ 0 ≤ r ∧ r ≤ 5 := ⟨_, rfl, by omega, by omega⟩
        generalize xs[k] = x at *
        have hcw : wr.cell? ⟨b1, o1 + k, none⟩ = some (.int .i64 x) := ((AL.old hal).cell (p := ⟨b1, o1 + k, none⟩) hb1).trans hcell
        obtain ⟨p, s', hv, hs', hm, hf⟩ := made hst.out.objs.ok (not_bad (kind := 1 + r) (n := (n : Int)) (by omega) (by omega) n0 n1) (by have := hst.out.left; omega)
        have hfil := hst.out.fills hm hf
        have hnew : (p : Int) ∉ placesOf os := by
          intro hmem
          obtain ⟨o, ho, e⟩ := List.mem_map.1 hmem
          exact hst.out.objs.new_place hm o ho (by omega)
        have plt : p < 1280 := by have := hm.lt; have := hst.out.size; omega
        have HV := Lib.hid hv
        have HS := Lib.hid hs'
        have HI := Lib.hid (memI_no hnew)
        have HFIL := Lib.hid hfil
        have HN := Lib.hid hn
        have hLp : (placesOf os).length = k := by simp [placesOf, hkk]
        have hLs : (sizesOf os).length = k := by simp [sizesOf, hkk]
        have HKK := Lib.hid hkk
        clear hc1 hcell hv hs' hm hf hb1 hnew hfil
        rw [hkk]
        go_wp2_with fail
        refine (al_Alloc hal _ _).mono ?_
        rintro e w3 ⟨rfl, j3⟩
        rw [HV.out]
        rw [HS.out] at j3
        clear hal hcw
        go_wp2_with fail
        refine (in_int _ _ _ _ (AL.own j3)).mono ?_
        rintro e w4 ⟨rfl, rfl⟩
        rw [HI.out]
        have hown := AL.own j3
        go_wp2_with (at_builtin; refine wpList_append_own_at _ rfl _ _ 41 rfl 0 3 i0 (.int .i64 0) 1 8 Try.underlying41 hi hz0 hz1 hz2 rfl (by decide) _ _ _ rfl (hown.alloc _) ⟨w3.heap.size, 0, none⟩ 1 1 [.int .i64 p] rfl rfl (cell_one_new _ _ _) ?c2 ?c3 ?c4 ?c5 ?_)
        case c2 => first | rfl | (intro u hu; simp at hu; subst hu; rfl)
        case c3 => unfold maxLen; omega
        case c4 => omega
        case c5 => omega
        intro v' w5 hown5 hg5 _ hat
        have j5 := AL.swap (AL.grow (x := (p : Int)) j3 (by rw [hLp]; exact hown5) hg5 (by simpa using hat))
        rw [show placesOf os ++ [(p : Int)] = placesOf (os ++ [⟨p, 1 + r, lst k n n⟩]) by rw [places_append]] at j5
        clear hown hown5 hg5 hat j3
        have hown := AL.own j5
        go_wp2_with (at_builtin; refine wpList_append_own_at _ rfl _ _ 41 rfl 0 3 i0 (.int .i64 0) 1 8 Try.underlying41 hi hz0 hz1 hz2 rfl (by decide) _ _ _ rfl (hown.alloc _) ⟨w5.heap.size, 0, none⟩ 1 1 [.int .i64 n] rfl rfl (cell_one_new _ _ _) ?d2 ?d3 ?d4 ?d5 ?_)
        case d2 => first | rfl | (intro u hu; simp at hu; subst hu; rfl)
        case d3 => unfold maxLen; omega
        case d4 => omega
        try (case d5 => omega)
        intro v2 w6 hown6 hg6 _ hat
        have j6 := AL.swap (AL.grow (x := (n : Int)) j5 (by rw [hLs]; exact hown6) hg6 (by simpa using hat))
        rw [show sizesOf os ++ [(n : Int)] = sizesOf (os ++ [⟨p, 1 + r, lst k n n⟩]) by rw [sizes_append]; simp [lst_len]] at j6
        clear hown hown6 hg6 hat j5 hLp hLs
        go_wp2
        go_loopw [15] (fun mv wx => ∃ m : Nat, m ≤ n ∧ mv = .int .i64 m ∧ Hid (∃ sx, Hid (AL w b sx [(v', placesOf (os ++ [⟨p, 1 + r, lst k n n⟩])), (v2, sizesOf (os ++ [⟨p, 1 + r, lst k n n⟩]))] wx) ∧ Fills sx os p (1 + r) n m)) (fun mv _ => n - (intOf mv).toNat)
        case atStart => exact ⟨0, by omega, rfl, s', j6, HFIL.out⟩
        case round =>
          obtain ⟨m, hm, rfl, hin⟩ := hrel
          clear j6
          obtain ⟨sx, hax, hfx⟩ := hin.out
          by_cases hlm : m < n
          · have hld := hfx.load hlm
            obtain ⟨he, hfy⟩ := hfx.store hlm
            rw [HKK.out] at hfy
            have HLD := Lib.hid hld
            have HE := Lib.hid he
            have HFY := Lib.hid hfy
            clear hfx hin hld he hfy
            go_wp2_with fail
            refine (al_Load hax _ _).mono ?_
            rintro e w7 ⟨rfl, j7⟩
            rw [HLD.out]
            clear hax
            go_wp2_with fail
            refine (al_Store j7 _ _ _).mono ?_
            rintro e w8 ⟨rfl, j8⟩
            rw [HE.out]
            clear j7
            go_wp2
            go_roundw
            case rel => exact ⟨m + 1, by omega, by go_num, _, j8, HFY.out⟩
            case measure => simp [intOf]; omega
          · have hmn : m = n := by omega
            subst hmn
            have hst2 := Lib.hid (hfx.done hst.out (by omega) (by omega) plt)
            rw [HKK.out] at hst2
            have hlen2 : (os ++ [(⟨p, 1 + r, lst k m m⟩ : Ob)]).length = k + 1 := by simp [HKK.out]
            have HLN := Lib.hid hlen2
            clear hfx hin hlen2
            go_wp2
            go_roundw
            case rel => exact ⟨sx, os ++ [⟨p, 1 + r, lst k m m⟩], by rw [HLN.out]; omega, by rw [HLN.out]; omega, by rw [HLN.out]; go_num, hax, hst2⟩
            case measure => simp [intOf]; omega
      · have hcond : ¬ (k : Int) < xs.length ∨ ((k : Int) < xs.length ∧ ¬ (k : Int) < 20) := by omega
        rw [hkk]
        clear hgo
        rcases hcond with hcond | ⟨hcond, hcond2⟩
        all_goals
          go_wp2
          go_meet
          exact ⟨s, os, hal, hst⟩
  case rest =>
    obtain ⟨s, os, hal, hst⟩ := hcut
    clear i2
    obtain ⟨x9, c9, hv9, hp9⟩ := form_of (AL.own hal) (places_len os)
    simp only at hv9
    obtain ⟨x10, c10, hv10, hp10⟩ := form_of (AL.own2 hal) (sizes_len os)
    simp only at hv10
    subst hv9 hv10
    have hst1 := Lib.hid hst.out.later
    have k20 := hst.out.few
    obtain ⟨k, hkk⟩ : ∃ k, os.length = k := ⟨_, rfl⟩
    rw [hkk] at hal hp9 hp10 k20
    have H9 := Lib.hid hp9
    have H10 := Lib.hid hp10
    have HKK := Lib.hid hkk
    clear hp9 hp10 hst
    rw [hkk]
    clear hkk
    go_upto_block 4 with fail
    go_cut [] (fun wx => ∃ (s : ASt) (os : List Ob), os.length = k ∧ Hid (AL w b s [(.slice x9 k c9, placesOf os), (.slice x10 k c10, sizesOf os)] wx) ∧ Hid (Stage 1 s os))
    case first =>
      go_wp2_with fail
      go_loopw [18] (fun jv wx => ∃ (j : Nat) (s : ASt) (os : List Ob), j ≤ ys.length ∧ jv = .int .i64 j ∧ os.length = k ∧ Hid (AL w b s [(.slice x9 k c9, placesOf os), (.slice x10 k c10, sizesOf os)] wx) ∧ Hid (Stage 1 s os)) (fun jv _ => ys.length - (intOf jv).toNat)
      case atStart => exact ⟨0, s, os, by omega, rfl, HKK.out, hal, hst1⟩
      case round =>
        clear hal hst1 HKK
        obtain ⟨j, s, os, hj, rfl, hkk, hal, hst⟩ := hrel
        by_cases hgo : j < ys.length ∧ j < 10 ∧ 0 < k
        · obtain ⟨hlt, h10, hk0⟩ := hgo
          obtain ⟨b1, o1, rfl, hb1, hc1⟩ := HC1.out.resolve_left (by omega)
          obtain ⟨g, rfl⟩ := H9.out.resolve_left (by omega)
          have hcell := hc1 j hlt
          have hx := HW1.out ys[j] (List.getElem_mem _)
          have j0 : (0 : Int) ≤ j := by omega
          have j1 : (j : Int) < ys.length := by omega
          have j2 : (j : Int) < 10 := by omega
          have k0 : (0 : Int) < k := by omega
          have k1 : ¬ k = 0 := by omega
          generalize ys[j] = x at *
          have h0 : 0 < os.length := by omega
          obtain ⟨os2, hst2, hP2, hS2⟩ := hst.out.first h0 j x
          have hl2 : os2.length = k := by have := congrArg List.length hP2; rw [places_len, places_len] at this; omega
          obtain ⟨q, hq⟩ : ∃ q, os[0].p = q := ⟨_, rfl⟩
          rw [hq] at hst2
          have hW : ∀ sx wx, Hid (AL w b sx [(.slice (some ⟨g, 0, none⟩) k c9, placesOf os), (.slice x10 k c10, sizesOf os)] wx) → wx.cell? ⟨g, 0, none⟩ = some (.int .i64 q) ∧ wx.cell? ⟨b1, o1 + j, none⟩ = some (.int .i64 x) := by
            intro sx wx hx
            refine ⟨?_, ((AL.old hx).cell (p := ⟨b1, o1 + j, none⟩) hb1).trans hcell⟩
            have := int_cell (AL.own hx) 0 (by rw [places_len]; exact h0)
            rw [this, places_at h0, hq]
          have HWW := Lib.hid hW
          obtain ⟨y0, y1⟩ := hW _ _ hal
          have hald := AL.drew hal
          obtain ⟨y2, y3⟩ := hW _ _ hald
          have ST2 := Lib.hid hst2
          have P2 := Lib.hid (And.intro hP2 (And.intro hS2 hl2))
          clear hc1 hcell hb1 hst2 hP2 hS2 hl2 hq hst hW hx hkk h0
          go_wp2
          go_region_held3 (fun (w' : World) => w'.cell? ⟨g, 0, none⟩ = some (.int .i64 q) ∧ w'.cell? ⟨b1, o1 + j, none⟩ = some (.int .i64 x)) (first | assumption | (refine ⟨?_, ?_⟩ <;> assumption) | go_keep)
            (first
              | (go_at_call 37; refine (al_Store hald _ _ _).mono ?_; rintro e w7 ⟨rfl, j7⟩; obtain ⟨z0, z1⟩ := HWW.out _ _ j7))
          go_wp2
          go_roundw
          case rel =>
            obtain ⟨a1, a2, a3⟩ := P2.out
            refine ⟨j + 1, _, os2, by omega, by go_num, a3, ?_, ST2⟩
            rw [a1, a2]
            assumption
          case measure => simp [intOf]; omega
        · have hcond : ¬ (j : Int) < ys.length ∨ ((j : Int) < ys.length ∧ ¬ (j : Int) < 10) ∨ ((j : Int) < ys.length ∧ (j : Int) < 10 ∧ k = 0) := by omega
          clear hgo
          rcases hcond with hcond | ⟨hcond, hcond2⟩ | ⟨hcond, hcond2, rfl⟩
          all_goals
            go_wp2
            go_meet
            exact ⟨s, os, hkk, hal, hst⟩
    case rest =>
      clear hal hst1 HKK
      obtain ⟨s, os, hkk, hal, hst⟩ := hcut
      go_wp2
      go_loopw [19] (fun iv wx => ∃ i : Nat, 1 ≤ i ∧ i ≤ k + 1 ∧ iv = .int .i64 i ∧ Hid (AL w b s [(.slice x9 k c9, placesOf os), (.slice x10 k c10, sizesOf os)] wx)) (fun iv _ => k - (intOf iv).toNat)
      case atStart => exact ⟨1, by omega, by omega, rfl, hal⟩
      case round =>
        obtain ⟨i, hi1, hik, rfl, hal4⟩ := hrel
        clear hal
        by_cases hlt : i < k
        · obtain ⟨g, rfl⟩ := H9.out.resolve_left (by omega)
          obtain ⟨g2, rfl⟩ := H10.out.resolve_left (by omega)
          have hio : i < os.length := by omega
          obtain ⟨q, hq⟩ : ∃ q, os[i].p = q := ⟨_, rfl⟩
          obtain ⟨n, hn⟩ : ∃ n, os[i].ws.length = n := ⟨_, rfl⟩
          have n32 : n < 32 := by rw [← hn]; exact (hst.out.short _ (List.getElem_mem hio)).1
          have hW : ∀ wx, Hid (AL w b s [(.slice (some ⟨g, 0, none⟩) k c9, placesOf os), (.slice (some ⟨g2, 0, none⟩) k c10, sizesOf os)] wx) → wx.cell? ⟨g, i, none⟩ = some (.int .i64 q) ∧ wx.cell? ⟨g2, i, none⟩ = some (.int .i64 n) := by
            intro wx hx
            have e1 := int_cell (AL.own hx) i (by rw [places_len]; exact hio)
            have e2 := int_cell (AL.own2 hx) i (by rw [sizes_len]; exact hio)
            exact ⟨by rw [e1, places_at hio, hq], by rw [e2, sizes_at hio, hn]⟩
          have hld : ∀ m : Nat, m < n → loadV s q m = .tuple #[.int .i64 (100 * (i : Int) + m), .int .i64 0] := by
            intro m hm
            have := hst.out.load hio hi1 (m := m) (by omega)
            rw [hq] at this; exact this
          have HWW := Lib.hid hW
          have HLD := Lib.hid hld
          have HST := Lib.hid (And.intro hst hkk)
          have i0 : (0 : Int) ≤ i := by omega
          have ilt : (i : Int) < k := by omega
          clear hW hld hst hkk hq hn hio
          go_wp2
          go_loopw [20] (fun mv wx => ∃ m : Nat, m ≤ n ∧ mv = .int .i64 m ∧ Hid (AL w b s [(.slice (some ⟨g, 0, none⟩) k c9, placesOf os), (.slice (some ⟨g2, 0, none⟩) k c10, sizesOf os)] wx)) (fun mv _ => n - (intOf mv).toNat)
          case atStart => exact ⟨0, by omega, rfl, hal4⟩
          case round =>
            obtain ⟨m, hm, rfl, hal5⟩ := hrel
            clear hal4
            obtain ⟨y0, y1⟩ := HWW.out _ hal5
            by_cases hlm : m < n
            · have hl := Lib.hid (HLD.out m hlm)
              go_wp2_with fail
              refine (al_Load hal5 _ _).mono ?_
              rintro e w7 ⟨rfl, j7⟩
              rw [hl.out]
              clear hal5 y0 y1
              go_wp2
              go_roundw
              case rel => exact ⟨m + 1, by omega, by go_num, j7⟩
              case measure => simp [intOf]; omega
            · have hmn : ¬ (m : Int) < n := by omega
              go_wp2
              go_roundw
              case rel => exact ⟨i + 1, by omega, by omega, by go_num, hal5⟩
              case measure => simp [intOf]; omega
        · have hnl : ¬ (i : Int) < k := by omega
          by_cases hk0 : k = 0
          · subst hk0
            go_wp2
            go_ret
            exact ⟨rfl, AL.old hal4⟩
          · obtain ⟨g, rfl⟩ := H9.out.resolve_left (by omega)
            obtain ⟨g2, rfl⟩ := H10.out.resolve_left (by omega)
            obtain ⟨y', y0, y1, hy⟩ := umod a2 k (by omega) (by omega)
            obtain ⟨y, rfl⟩ := Int.eq_ofNat_of_zero_le y0
            have hio : y < os.length := by omega
            have hwk : IntKind.u64.wrap (k : Int) = k := IntWalk.u64_in _ (by omega)
            have hkz : ¬ (k : Int) = 0 := by omega
            obtain ⟨hfe, p, s3, hv, hs3, hcnt, hmem⟩ := hst.out.last hio
            obtain ⟨q, hq⟩ : ∃ q, os[y].p = q := ⟨_, rfl⟩
            obtain ⟨n, hn⟩ : ∃ n, os[y].ws.length = n := ⟨_, rfl⟩
            rw [hq] at hfe hv hs3 hmem
            rw [hn] at hv hs3
            rw [hkk] at hcnt
            have hW : ∀ sx wx, Hid (AL w b sx [(.slice (some ⟨g, 0, none⟩) k c9, placesOf os), (.slice (some ⟨g2, 0, none⟩) k c10, sizesOf os)] wx) → wx.cell? ⟨g, y, none⟩ = some (.int .i64 q) ∧ wx.cell? ⟨g2, y, none⟩ = some (.int .i64 n) := by
              intro sx wx hx
              have e1 := int_cell (AL.own hx) y (by rw [places_len]; exact hio)
              have e2 := int_cell (AL.own2 hx) y (by rw [sizes_len]; exact hio)
              exact ⟨by rw [e1, places_at hio, hq], by rw [e2, sizes_at hio, hn]⟩
            have HWW := Lib.hid hW
            have HV := Lib.hid hv
            have HS3 := Lib.hid hs3
            have HFE := Lib.hid hfe
            have HCN := Lib.hid hcnt
            have yk : (y : Int) < k := by omega
            have yk0 : (0 : Int) ≤ y := by omega
            obtain ⟨t0, t1⟩ := hW _ _ hal4
            clear hst hv hs3 hfe hcnt hW hq hn hio hkk
            go_wp2_with fail
            refine (al_Free hal4 _).mono ?_
            rintro e w5 ⟨rfl, j5⟩
            rw [HFE.out]
            clear t0 t1 hal4
            obtain ⟨t0, t1⟩ := HWW.out _ _ j5
            go_wp2_with fail
            refine (al_Alloc j5 _ _).mono ?_
            rintro e w6 ⟨rfl, j6⟩
            rw [HV.out]
            rw [HS3.out] at j6
            clear t0 t1 j5
            obtain ⟨t0, t1⟩ := HWW.out _ _ j6
            rcases hmem with hpq | ⟨hpq, hno⟩
            · have hpb : ((p : Int) == (q : Int)) = true := by simpa using hpq
              clear hpq
              go_wp2_with fail
              refine (al_Objects j6).mono ?_
              rintro e w7 ⟨ox, oc, rfl, j7⟩
              rw [HCN.out]
              go_wp2
              go_ret
              exact ⟨rfl, AL.old j7⟩
            · have hpb : ((p : Int) == (q : Int)) = false := by simpa using hpq
              have HNO := Lib.hid hno
              clear hpq hno
              go_wp2_with fail
              refine (in_int _ _ _ _ (AL.own j6)).mono ?_
              rintro e w7 ⟨rfl, rfl⟩
              rw [HNO.out]
              go_wp2_with fail
              refine (al_Objects j6).mono ?_
              rintro e w7 ⟨ox, oc, rfl, j7⟩
              rw [HCN.out]
              go_wp2
              go_ret
              exact ⟨rfl, AL.old j7⟩

end Go.Proofs.Ytfnhfhoafnpfoaa.arenaApart
