/- AppM -/
import Derived.Test.YtgejcjcpchofiaaGreatKEvMap
import Derived.Test.YtgejcjcpchofiaaGreatKRowB
/- append of a whole row onto a row; a row's beginning; truths laid in a region that draws its order. -/
namespace Go.Proofs.YtgejcjcpchofiaaGreat
open Go.RowKit
set_option linter.unusedVariables false
set_option linter.unusedSimpArgs false
section
variable {ops : Array Oper} {rest : List Oper} {o : Oper} {n : Nat} {a : Act} {l l' : Asc} {w0 : World} {F0 : List Nat} {ps : List Piece} {w : World}
end
theorem St.arrAt {w0 w : World} {F0 : List Nat} {ps : List Piece} {g : Nat} {T : TypeId} {cs : Array Value} (h : St w0 F0 ps w) (k : Nat) (hk : ps[k]? = some (BlkP g T cs)) (off : Nat) (L : List Int) (he : (cs.toList.drop off).take (iV L).length = iV L) {i : Int} (hi : inR i L.length = true) : w.cell? ⟨g, off + i.toNat, none⟩ = some (.int .i64 (Go.Proofs.YtgejcjcpchofiaaGreat.atI L i)) := by
  obtain ⟨h0, h1⟩ := inR_spec hi
  have h2 := blk_cells h k hk he i.toNat (by simp [iV]; omega)
  rw [h2]
  unfold Go.Proofs.YtgejcjcpchofiaaGreat.atI
  rw [List.getD_eq_getElem?_getD, List.getElem?_eq_getElem (by omega)]
  simp [iV]
/-- Of a row the first k alone. -/
theorem St.takeR {w0 w : World} {F0 : List Nat} {ps : List Piece} {g c k : Nat} {L : List Int} (h : St w0 F0 (RowP (.slice (some ⟨g, 0, none⟩) L.length c) L :: ps) w) (hk : k ≤ L.length) : St w0 F0 (RowP (.slice (some ⟨g, 0, none⟩) k c) (L.take k) :: ps) w :=
  h.step1 (by
    rintro F ⟨h1, rfl⟩
    refine ⟨[g], ⟨⟨by simp [iV], ?_⟩, rfl⟩, Keeps.refl _ _, fun i hi => .inl (by simpa [Value.ownBlock] using hi)⟩
    rcases h1.2 with ⟨e, h0⟩ | ⟨g', cap, cs, e, h2, h3, h4, h5, h6, h7⟩
    · cases e
    · injection e with e1 e2 e3
      injection e1 with e1
      injection e1 with e1 _ _
      subst e1; subst e3
      refine .inr ⟨g, c, cs, by simp [Nat.min_eq_left hk], h2, h3, by simp; omega, h5, h6, ?_⟩
      have e8 : (iV L).take k = iV (L.take k) := by simp [iV, List.map_take]
      rw [← e8, ← h7, List.take_take]
      simp [Nat.min_eq_left hk])
end Go.Proofs.YtgejcjcpchofiaaGreat
