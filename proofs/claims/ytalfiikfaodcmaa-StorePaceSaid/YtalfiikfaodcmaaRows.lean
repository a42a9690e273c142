/-
  No cell of these rows narrows 'for every input' (looked for: loops, veiled, ifaces, maps, wideKeys, modest, calm, conditions, laid).
  DERIVED. THE GIVEN ROWS OF THIS SEAT. 6 by the template 'for every input the law returns true; each argument reads behind the call as it read before'; 0 by the template 'total and deterministic' (their statements: YtalfiikfaodcmaaTotals.lean).
  GIVEN WITH THE SEED: the statements are not yours to turn. If you find one false, say at which input.
  Laid BY PROGRAM, IN A SANDBOX (cutbox-rows.mjs): the forced cells as the released guide's own fill.sh prints them over the translation 170fa27339b5abc7… (all of the seat's roots in one cut). By AI agents, Wed Nov 11 2026. No macro, syntax, notation, axiom, sorry.
-/
import Derived.Test.YtalfiikfaodcmaaChecked
import GoSem.Claim
import GoSem.ClaimJoined
import GoSem.ClaimMapViews
import Derived.JoinedTies
import Derived.KernelRfl
namespace Go.Proofs.Ytalfiikfaodcmaa
/- THE CELL 'sum', in the pinned program and in every row, IS THE sha256 OF THE DUMP (.gsa) THAT YtalfiikfaodcmaaProg.lean LOADS. Nothing in Lean hashes anything: it is a label: what it is worth is what the hold of that sum in a sandbox is worth. -/
noncomputable def Try.pinned : Pinned := { name := "ytalfiikfaodcmaa", sum := "170fa27339b5abc70d9cda718bfaeb57af959c41da580996d206bf28839697f6", checked := Try.checked }
namespace Rows
def none {H : Type} : Left H := { results := [], args := [] }

/-- 'dormouselaw21.StoreFull': WHATEVER THE INPUT: true; the input reads as it did. -/
def storeFullSpec : ChangeSpec := { name := "storeFull", fn := fun _ => fun
  | [d1, d2, d3] => { results := [.lit (.bool true)], args := [d1, d2, d3] }
  | _ => none }
def storeFullRow : OpenClaim := { program := "ytalfiikfaodcmaa", sum := "170fa27339b5abc70d9cda718bfaeb57af959c41da580996d206bf28839697f6", func := "dormouse/dormouselaw21.StoreFull", spec := "storeFull", inPlace := ["internal/abi.NoEscape", "internal/bytealg.MakeNoZero"], unfollowed := true, recurses := true, apart := false }
def StoreFullSaid : Prop := storeFullRow.holds Try.pinned (OpenSpec.ofChange storeFullSpec)

/-- ITS FALSE NEIGHBOUR: 'it returns false'. Refute it at one input. -/
def storeFullWrong : ChangeSpec := { name := "storeFull", fn := fun _ => fun
  | [d1, d2, d3] => { results := [.lit (.bool false)], args := [d1, d2, d3] }
  | _ => none }
def StoreFullWrongFalsely : Prop := storeFullRow.holds Try.pinned (OpenSpec.ofChange storeFullWrong)

/-- 'dormouselaw21.StoreAll': WHATEVER THE INPUT: true; the input reads as it did. -/
def storeAllSpec : ChangeSpec := { name := "storeAll", fn := fun _ => fun
  | [d1, d2] => { results := [.lit (.bool true)], args := [d1, d2] }
  | _ => none }
def storeAllRow : OpenClaim := { program := "ytalfiikfaodcmaa", sum := "170fa27339b5abc70d9cda718bfaeb57af959c41da580996d206bf28839697f6", func := "dormouse/dormouselaw21.StoreAll", spec := "storeAll", inPlace := ["internal/abi.NoEscape", "internal/bytealg.MakeNoZero"], unfollowed := true, recurses := true, apart := false }
def StoreAllSaid : Prop := storeAllRow.holds Try.pinned (OpenSpec.ofChange storeAllSpec)

/-- ITS FALSE NEIGHBOUR: 'it returns false'. Refute it at one input. -/
def storeAllWrong : ChangeSpec := { name := "storeAll", fn := fun _ => fun
  | [d1, d2] => { results := [.lit (.bool false)], args := [d1, d2] }
  | _ => none }
def StoreAllWrongFalsely : Prop := storeAllRow.holds Try.pinned (OpenSpec.ofChange storeAllWrong)

/-- 'dormouselaw21.StoreRefuses': WHATEVER THE INPUT: true; the input reads as it did. -/
def storeRefusesSpec : ChangeSpec := { name := "storeRefuses", fn := fun _ => fun
  | [d1, d2, d3] => { results := [.lit (.bool true)], args := [d1, d2, d3] }
  | _ => none }
def storeRefusesRow : OpenClaim := { program := "ytalfiikfaodcmaa", sum := "170fa27339b5abc70d9cda718bfaeb57af959c41da580996d206bf28839697f6", func := "dormouse/dormouselaw21.StoreRefuses", spec := "storeRefuses", inPlace := ["internal/abi.NoEscape", "internal/bytealg.MakeNoZero"], apart := false }
def StoreRefusesSaid : Prop := storeRefusesRow.holds Try.pinned (OpenSpec.ofChange storeRefusesSpec)

/-- ITS FALSE NEIGHBOUR: 'it returns false'. Refute it at one input. -/
def storeRefusesWrong : ChangeSpec := { name := "storeRefuses", fn := fun _ => fun
  | [d1, d2, d3] => { results := [.lit (.bool false)], args := [d1, d2, d3] }
  | _ => none }
def StoreRefusesWrongFalsely : Prop := storeRefusesRow.holds Try.pinned (OpenSpec.ofChange storeRefusesWrong)

/-- 'dormouselaw21.StorePace': WHATEVER THE INPUT: true; the input reads as it did. -/
def storePaceSpec : ChangeSpec := { name := "storePace", fn := fun _ => fun
  | [d1, d2, d3] => { results := [.lit (.bool true)], args := [d1, d2, d3] }
  | _ => none }
def storePaceRow : OpenClaim := { program := "ytalfiikfaodcmaa", sum := "170fa27339b5abc70d9cda718bfaeb57af959c41da580996d206bf28839697f6", func := "dormouse/dormouselaw21.StorePace", spec := "storePace", inPlace := ["internal/abi.NoEscape", "internal/bytealg.MakeNoZero"], apart := false }
def StorePaceSaid : Prop := storePaceRow.holds Try.pinned (OpenSpec.ofChange storePaceSpec)

/-- ITS FALSE NEIGHBOUR: 'it returns false'. Refute it at one input. -/
def storePaceWrong : ChangeSpec := { name := "storePace", fn := fun _ => fun
  | [d1, d2, d3] => { results := [.lit (.bool false)], args := [d1, d2, d3] }
  | _ => none }
def StorePaceWrongFalsely : Prop := storePaceRow.holds Try.pinned (OpenSpec.ofChange storePaceWrong)

/-- 'dormouselaw21.StoreForced': WHATEVER THE INPUT: true; the input reads as it did. -/
def storeForcedSpec : ChangeSpec := { name := "storeForced", fn := fun _ => fun
  | [d] => { results := [.lit (.bool true)], args := [d] }
  | _ => none }
def storeForcedRow : OpenClaim := { program := "ytalfiikfaodcmaa", sum := "170fa27339b5abc70d9cda718bfaeb57af959c41da580996d206bf28839697f6", func := "dormouse/dormouselaw21.StoreForced", spec := "storeForced", inPlace := ["internal/abi.NoEscape", "internal/bytealg.MakeNoZero"], apart := false }
def StoreForcedSaid : Prop := storeForcedRow.holds Try.pinned (OpenSpec.ofChange storeForcedSpec)

/-- ITS FALSE NEIGHBOUR: 'it returns false'. Refute it at one input. -/
def storeForcedWrong : ChangeSpec := { name := "storeForced", fn := fun _ => fun
  | [d] => { results := [.lit (.bool false)], args := [d] }
  | _ => none }
def StoreForcedWrongFalsely : Prop := storeForcedRow.holds Try.pinned (OpenSpec.ofChange storeForcedWrong)

/-- 'dormouselaw21.StoreKeeps': WHATEVER THE INPUT: true; the input reads as it did. -/
def storeKeepsSpec : ChangeSpec := { name := "storeKeeps", fn := fun _ => fun
  | [d1, d2, d3] => { results := [.lit (.bool true)], args := [d1, d2, d3] }
  | _ => none }
def storeKeepsRow : OpenClaim := { program := "ytalfiikfaodcmaa", sum := "170fa27339b5abc70d9cda718bfaeb57af959c41da580996d206bf28839697f6", func := "dormouse/dormouselaw21.StoreKeeps", spec := "storeKeeps", inPlace := ["internal/abi.NoEscape", "internal/bytealg.MakeNoZero"], apart := false }
def StoreKeepsSaid : Prop := storeKeepsRow.holds Try.pinned (OpenSpec.ofChange storeKeepsSpec)

/-- ITS FALSE NEIGHBOUR: 'it returns false'. Refute it at one input. -/
def storeKeepsWrong : ChangeSpec := { name := "storeKeeps", fn := fun _ => fun
  | [d1, d2, d3] => { results := [.lit (.bool false)], args := [d1, d2, d3] }
  | _ => none }
def StoreKeepsWrongFalsely : Prop := storeKeepsRow.holds Try.pinned (OpenSpec.ofChange storeKeepsWrong)

/- THE SECOND FORM. 'bulk': how many values and letters a reading holds, each counted each time it is reached (what is shared counts as often as it is met; a slice's spare places count too). A statement '..UptoSaid' is the law's where the arguments, and the package variables that the reading takes, are together of bulk at most 1048576: NARROWER than '..Said'. Prove '..Said' where nothing that the law and all that it calls make is longer than what came in: it says more and counts as full. Else prove '..UptoSaid'. A law counts once. -/
mutual
def uptoBulk {H : Type} : DataW H → Nat
  | .lit (.string bytes) => bytes.length + 1
  | .lit _ => 1
  | .nil => 1
  | .ptr d => uptoBulk d + 1
  | .slice elems spare => uptoBulkAll elems + uptoBulkAll spare + 1
  | .agg parts => uptoBulkAll parts + 1
  | .iface _ d => uptoBulk d + 1
  | .map entries => uptoBulkEntries entries + 1
  | .held _ => 1
def uptoBulkAll {H : Type} : List (DataW H) → Nat
  | [] => 0
  | d :: r => uptoBulk d + uptoBulkAll r
def uptoBulkEntries {H : Type} : List (Lit × DataW H) → Nat
  | [] => 0
  | x :: r => uptoBulkEntry x + uptoBulkEntries r
def uptoBulkEntry {H : Type} : Lit × DataW H → Nat
  | (.string bytes, d) => bytes.length + uptoBulk d + 1
  | (_, d) => uptoBulk d + 1
 end
def uptoSmall : (H : Type) → List (DataW H) → Bool := fun _ ds => decide (uptoBulkAll ds ≤ 1048576)
def OpenSpec.upto (s : _root_.Go.ChangeSpec) : _root_.Go.OpenSpec := { _root_.Go.OpenSpec.ofChange s with cond := some uptoSmall }

/-- 'dormouselaw21.StoreFull', WHERE WHAT IT READS IS OF BULK AT MOST 1048576: true; the input reads as it did. -/
def storeFullUptoRow : OpenClaim := { program := "ytalfiikfaodcmaa", sum := "170fa27339b5abc70d9cda718bfaeb57af959c41da580996d206bf28839697f6", func := "dormouse/dormouselaw21.StoreFull", spec := "storeFull", inPlace := ["internal/abi.NoEscape", "internal/bytealg.MakeNoZero"], unfollowed := true, recurses := true, apart := false, narrowed := true }
def StoreFullUptoSaid : Prop := storeFullUptoRow.holds Try.pinned (OpenSpec.upto storeFullSpec)

/-- 'dormouselaw21.StoreAll', WHERE WHAT IT READS IS OF BULK AT MOST 1048576: true; the input reads as it did. -/
def storeAllUptoRow : OpenClaim := { program := "ytalfiikfaodcmaa", sum := "170fa27339b5abc70d9cda718bfaeb57af959c41da580996d206bf28839697f6", func := "dormouse/dormouselaw21.StoreAll", spec := "storeAll", inPlace := ["internal/abi.NoEscape", "internal/bytealg.MakeNoZero"], unfollowed := true, recurses := true, apart := false, narrowed := true }
def StoreAllUptoSaid : Prop := storeAllUptoRow.holds Try.pinned (OpenSpec.upto storeAllSpec)

/-- 'dormouselaw21.StoreRefuses', WHERE WHAT IT READS IS OF BULK AT MOST 1048576: true; the input reads as it did. -/
def storeRefusesUptoRow : OpenClaim := { program := "ytalfiikfaodcmaa", sum := "170fa27339b5abc70d9cda718bfaeb57af959c41da580996d206bf28839697f6", func := "dormouse/dormouselaw21.StoreRefuses", spec := "storeRefuses", inPlace := ["internal/abi.NoEscape", "internal/bytealg.MakeNoZero"], apart := false, narrowed := true }
def StoreRefusesUptoSaid : Prop := storeRefusesUptoRow.holds Try.pinned (OpenSpec.upto storeRefusesSpec)

/-- 'dormouselaw21.StorePace', WHERE WHAT IT READS IS OF BULK AT MOST 1048576: true; the input reads as it did. -/
def storePaceUptoRow : OpenClaim := { program := "ytalfiikfaodcmaa", sum := "170fa27339b5abc70d9cda718bfaeb57af959c41da580996d206bf28839697f6", func := "dormouse/dormouselaw21.StorePace", spec := "storePace", inPlace := ["internal/abi.NoEscape", "internal/bytealg.MakeNoZero"], apart := false, narrowed := true }
def StorePaceUptoSaid : Prop := storePaceUptoRow.holds Try.pinned (OpenSpec.upto storePaceSpec)

/-- 'dormouselaw21.StoreForced', WHERE WHAT IT READS IS OF BULK AT MOST 1048576: true; the input reads as it did. -/
def storeForcedUptoRow : OpenClaim := { program := "ytalfiikfaodcmaa", sum := "170fa27339b5abc70d9cda718bfaeb57af959c41da580996d206bf28839697f6", func := "dormouse/dormouselaw21.StoreForced", spec := "storeForced", inPlace := ["internal/abi.NoEscape", "internal/bytealg.MakeNoZero"], apart := false, narrowed := true }
def StoreForcedUptoSaid : Prop := storeForcedUptoRow.holds Try.pinned (OpenSpec.upto storeForcedSpec)

/-- 'dormouselaw21.StoreKeeps', WHERE WHAT IT READS IS OF BULK AT MOST 1048576: true; the input reads as it did. -/
def storeKeepsUptoRow : OpenClaim := { program := "ytalfiikfaodcmaa", sum := "170fa27339b5abc70d9cda718bfaeb57af959c41da580996d206bf28839697f6", func := "dormouse/dormouselaw21.StoreKeeps", spec := "storeKeeps", inPlace := ["internal/abi.NoEscape", "internal/bytealg.MakeNoZero"], apart := false, narrowed := true }
def StoreKeepsUptoSaid : Prop := storeKeepsUptoRow.holds Try.pinned (OpenSpec.upto storeKeepsSpec)

end Rows
end Go.Proofs.Ytalfiikfaodcmaa
