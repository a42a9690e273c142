/- 'awake' of the statements of layer 10. -/
import Derived.Test.YtkjncehcabhljaaRecord2
namespace Go.Proofs.Ytkjncehcabhljaa
open Go.RowKit
theorem below_drewN' {B : Nat} {a w : World} (h : Below B a w) (n : Nat) : Below B a (w.drewN n) := below_drewN h n
theorem names_box : rNames 5 = [bs [118, 97, 108, 117, 101], bs [102, 105, 110, 97, 108]] := by decide +kernel
theorem awake10 (w : World) :
    Calls Try.prog 35 #[] w fun e w' => e = .returned (.bool true) ∧ Below w.heap.size w w' := by
  have n1 : rNeed 5 0 = 2 := by decide
  have n2 : rKnown 5 0 = true := by decide
  go_enter Try.func35, Try.ntmps35
  go_wp2_with fail
  refine (rec_need _ _ _).mono ?_
  rintro e w1 ⟨rfl, hb1⟩
  go_wp2_with fail
  refine (rec_fields _ _).mono ?_
  rintro e w2 ⟨v, rfl, hb2, hown⟩
  rw [names_box] at hown
  have hr2 := Row.of_own hown
  have hb3 : Below w2.heap.size w2 (w2.alloc (.cells #[.string (bs [118, 97, 108, 117, 101]), .string (bs [102, 105, 110, 97, 108])] 9)) := (Below.refl _ _).alloc (Nat.le_refl _) _
  have hr : Row (w2.alloc (.cells #[.string (bs [118, 97, 108, 117, 101]), .string (bs [102, 105, 110, 97, 108])] 9)) v ([bs [118, 97, 108, 117, 101], bs [102, 105, 110, 97, 108]].map .string) := hr2.below hb3 (by
    intro b hb
    obtain ⟨_, ⟨rfl, _⟩ | ⟨g, cap, cur, rfl, _, hg, _⟩⟩ := hown
    · cases hb
    · cases hb; exact (Array.getElem?_eq_some_iff.1 hg).1)
  have hs := Row.of_own (own_new w2 #[.string (bs [118, 97, 108, 117, 101]), .string (bs [102, 105, 110, 97, 108])] 9 (by decide))
  clear hown hr2
  go_wp2_with (go_at_call 36; refine (plain_str _ _ [bs [118, 97, 108, 117, 101], bs [102, 105, 110, 97, 108]] [bs [118, 97, 108, 117, 101], bs [102, 105, 110, 97, 108]] _ hr hs).mono ?_; rintro e w3 ⟨rfl, n, rfl⟩)
  go_ret
  exact ⟨rfl, below_drewN ((hb1.trans (hb2.mono hb1.size)).trans (hb3.mono (by have := hb1.size; have := hb2.size; omega))) n⟩
end Go.Proofs.Ytkjncehcabhljaa
