/-
  No cell of these rows narrows 'for every input' (looked for: loops, veiled, ifaces, maps, wideKeys, modest, calm, conditions, laid).
  DERIVED. THE GIVEN ROWS OF THIS SEAT. 9 by the template 'for every input the law returns true; each argument reads behind the call as it read before'; 0 by the template 'total and deterministic' (their statements: YtffnjpapggidlaaGreatTotals.lean).
  GIVEN WITH THE SEED: the statements are not yours to turn. If you find one false, say at which input.
  Laid BY PROGRAM, IN A SANDBOX (cutbox-rows.mjs): the forced cells as the released guide's own fill.sh prints them over the translation bd15702fa6575be8… (all of the seat's roots in one cut). By AI agents, Wed Nov 11 2026. No macro, syntax, notation, axiom, sorry.
-/
import Derived.Test.YtffnjpapggidlaaGreatChecked
import GoSem.Claim
import GoSem.ClaimJoined
import GoSem.ClaimMapViews
import Derived.JoinedTies
import Derived.KernelRfl
namespace Go.Proofs.YtffnjpapggidlaaGreat
/- THE CELL 'sum', in the pinned program and in every row, IS THE sha256 OF THE DUMP (.gsa) THAT YtffnjpapggidlaaGreatProg.lean LOADS. Nothing in Lean hashes anything: it is a label: what it is worth is what the hold of that sum in a sandbox is worth. -/
noncomputable def Tryz.pinned : Pinned := { name := "ytffnjpapggidlaagreat", sum := "bd15702fa6575be8ce7ff887d4d371fd6b2637dba77f3d046d6cdf959b5bc36d", checked := Tryz.checked }
namespace Rows
def none {H : Type} : Left H := { results := [], args := [] }

/-- 'dormouselaw11.ViewTells': WHATEVER THE INPUT: true; the input reads as it did. -/
def viewTellsSpec : ChangeSpec := { name := "viewTells", fn := fun _ => fun
  | [d1, d2, d3, d4, d5, d6, d7] => { results := [.lit (.bool true)], args := [d1, d2, d3, d4, d5, d6, d7] }
  | _ => none }
def viewTellsRow : OpenClaim := { program := "ytffnjpapggidlaagreat", sum := "bd15702fa6575be8ce7ff887d4d371fd6b2637dba77f3d046d6cdf959b5bc36d", func := "dormouse/dormouselaw11.ViewTells", spec := "viewTells", inPlace := ["internal/abi.NoEscape", "internal/bytealg.MakeNoZero"], apart := false }
def ViewTellsSaid : Prop := viewTellsRow.holds Tryz.pinned (OpenSpec.ofChange viewTellsSpec)

/-- ITS FALSE NEIGHBOUR: 'it returns false'. Refute it at one input. -/
def viewTellsWrong : ChangeSpec := { name := "viewTells", fn := fun _ => fun
  | [d1, d2, d3, d4, d5, d6, d7] => { results := [.lit (.bool false)], args := [d1, d2, d3, d4, d5, d6, d7] }
  | _ => none }
def ViewTellsWrongFalsely : Prop := viewTellsRow.holds Tryz.pinned (OpenSpec.ofChange viewTellsWrong)

/-- 'dormouselaw09.HeapDark': WHATEVER THE INPUT: true; the input reads as it did. -/
def heapDarkSpec : ChangeSpec := { name := "heapDark", fn := fun _ => fun
  | [d1, d2] => { results := [.lit (.bool true)], args := [d1, d2] }
  | _ => none }
def heapDarkRow : OpenClaim := { program := "ytffnjpapggidlaagreat", sum := "bd15702fa6575be8ce7ff887d4d371fd6b2637dba77f3d046d6cdf959b5bc36d", func := "dormouse/dormouselaw09.HeapDark", spec := "heapDark", inPlace := ["internal/abi.NoEscape", "internal/bytealg.MakeNoZero"], unfollowed := true, recurses := true, apart := false }
def HeapDarkSaid : Prop := heapDarkRow.holds Tryz.pinned (OpenSpec.ofChange heapDarkSpec)

/-- ITS FALSE NEIGHBOUR: 'it returns false'. Refute it at one input. -/
def heapDarkWrong : ChangeSpec := { name := "heapDark", fn := fun _ => fun
  | [d1, d2] => { results := [.lit (.bool false)], args := [d1, d2] }
  | _ => none }
def HeapDarkWrongFalsely : Prop := heapDarkRow.holds Tryz.pinned (OpenSpec.ofChange heapDarkWrong)

/-- 'dormouselaw09.HeapCycles': WHATEVER THE INPUT: true; the input reads as it did. -/
def heapCyclesSpec : ChangeSpec := { name := "heapCycles", fn := fun _ => fun
  | [d1, d2, d3] => { results := [.lit (.bool true)], args := [d1, d2, d3] }
  | _ => none }
def heapCyclesRow : OpenClaim := { program := "ytffnjpapggidlaagreat", sum := "bd15702fa6575be8ce7ff887d4d371fd6b2637dba77f3d046d6cdf959b5bc36d", func := "dormouse/dormouselaw09.HeapCycles", spec := "heapCycles", inPlace := ["internal/abi.NoEscape", "internal/bytealg.MakeNoZero"], unfollowed := true, recurses := true, apart := false }
def HeapCyclesSaid : Prop := heapCyclesRow.holds Tryz.pinned (OpenSpec.ofChange heapCyclesSpec)

/-- ITS FALSE NEIGHBOUR: 'it returns false'. Refute it at one input. -/
def heapCyclesWrong : ChangeSpec := { name := "heapCycles", fn := fun _ => fun
  | [d1, d2, d3] => { results := [.lit (.bool false)], args := [d1, d2, d3] }
  | _ => none }
def HeapCyclesWrongFalsely : Prop := heapCyclesRow.holds Tryz.pinned (OpenSpec.ofChange heapCyclesWrong)

/-- 'dormouselaw09.HeapPlays': WHATEVER THE INPUT: true; the input reads as it did. -/
def heapPlaysSpec : ChangeSpec := { name := "heapPlays", fn := fun _ => fun
  | [d1, d2] => { results := [.lit (.bool true)], args := [d1, d2] }
  | _ => none }
def heapPlaysRow : OpenClaim := { program := "ytffnjpapggidlaagreat", sum := "bd15702fa6575be8ce7ff887d4d371fd6b2637dba77f3d046d6cdf959b5bc36d", func := "dormouse/dormouselaw09.HeapPlays", spec := "heapPlays", inPlace := ["internal/abi.NoEscape", "internal/bytealg.MakeNoZero"], unfollowed := true, recurses := true, apart := false }
def HeapPlaysSaid : Prop := heapPlaysRow.holds Tryz.pinned (OpenSpec.ofChange heapPlaysSpec)

/-- ITS FALSE NEIGHBOUR: 'it returns false'. Refute it at one input. -/
def heapPlaysWrong : ChangeSpec := { name := "heapPlays", fn := fun _ => fun
  | [d1, d2] => { results := [.lit (.bool false)], args := [d1, d2] }
  | _ => none }
def HeapPlaysWrongFalsely : Prop := heapPlaysRow.holds Tryz.pinned (OpenSpec.ofChange heapPlaysWrong)

/-- 'dormouselaw12.RingPlays': WHATEVER THE INPUT: true; the input reads as it did. -/
def ringPlaysSpec : ChangeSpec := { name := "ringPlays", fn := fun _ => fun
  | [d1, d2] => { results := [.lit (.bool true)], args := [d1, d2] }
  | _ => none }
def ringPlaysRow : OpenClaim := { program := "ytffnjpapggidlaagreat", sum := "bd15702fa6575be8ce7ff887d4d371fd6b2637dba77f3d046d6cdf959b5bc36d", func := "dormouse/dormouselaw12.RingPlays", spec := "ringPlays", inPlace := ["internal/abi.NoEscape", "internal/bytealg.MakeNoZero"], unfollowed := true, recurses := true, apart := false }
def RingPlaysSaid : Prop := ringPlaysRow.holds Tryz.pinned (OpenSpec.ofChange ringPlaysSpec)

/-- ITS FALSE NEIGHBOUR: 'it returns false'. Refute it at one input. -/
def ringPlaysWrong : ChangeSpec := { name := "ringPlays", fn := fun _ => fun
  | [d1, d2] => { results := [.lit (.bool false)], args := [d1, d2] }
  | _ => none }
def RingPlaysWrongFalsely : Prop := ringPlaysRow.holds Tryz.pinned (OpenSpec.ofChange ringPlaysWrong)

/-- 'dormouselaw21.StorePlays': WHATEVER THE INPUT: true; the input reads as it did. -/
def storePlaysSpec : ChangeSpec := { name := "storePlays", fn := fun _ => fun
  | [d1, d2, d3] => { results := [.lit (.bool true)], args := [d1, d2, d3] }
  | _ => none }
def storePlaysRow : OpenClaim := { program := "ytffnjpapggidlaagreat", sum := "bd15702fa6575be8ce7ff887d4d371fd6b2637dba77f3d046d6cdf959b5bc36d", func := "dormouse/dormouselaw21.StorePlays", spec := "storePlays", inPlace := ["internal/abi.NoEscape", "internal/bytealg.MakeNoZero"], unfollowed := true, recurses := true, apart := false }
def StorePlaysSaid : Prop := storePlaysRow.holds Tryz.pinned (OpenSpec.ofChange storePlaysSpec)

/-- ITS FALSE NEIGHBOUR: 'it returns false'. Refute it at one input. -/
def storePlaysWrong : ChangeSpec := { name := "storePlays", fn := fun _ => fun
  | [d1, d2, d3] => { results := [.lit (.bool false)], args := [d1, d2, d3] }
  | _ => none }
def StorePlaysWrongFalsely : Prop := storePlaysRow.holds Tryz.pinned (OpenSpec.ofChange storePlaysWrong)

/-- 'dormouselaw18.ChooseRound': WHATEVER THE INPUT: true; the input reads as it did. -/
def chooseRoundSpec : ChangeSpec := { name := "chooseRound", fn := fun _ => fun
  | [d1, d2, d3, d4, d5] => { results := [.lit (.bool true)], args := [d1, d2, d3, d4, d5] }
  | _ => none }
def chooseRoundRow : OpenClaim := { program := "ytffnjpapggidlaagreat", sum := "bd15702fa6575be8ce7ff887d4d371fd6b2637dba77f3d046d6cdf959b5bc36d", func := "dormouse/dormouselaw18.ChooseRound", spec := "chooseRound", inPlace := ["internal/abi.NoEscape", "internal/bytealg.MakeNoZero"], unfollowed := true, recurses := true, apart := false }
def ChooseRoundSaid : Prop := chooseRoundRow.holds Tryz.pinned (OpenSpec.ofChange chooseRoundSpec)

/-- ITS FALSE NEIGHBOUR: 'it returns false'. Refute it at one input. -/
def chooseRoundWrong : ChangeSpec := { name := "chooseRound", fn := fun _ => fun
  | [d1, d2, d3, d4, d5] => { results := [.lit (.bool false)], args := [d1, d2, d3, d4, d5] }
  | _ => none }
def ChooseRoundWrongFalsely : Prop := chooseRoundRow.holds Tryz.pinned (OpenSpec.ofChange chooseRoundWrong)

/-- 'dormouselaw18.ChooseTells': WHATEVER THE INPUT: true; the input reads as it did. -/
def chooseTellsSpec : ChangeSpec := { name := "chooseTells", fn := fun _ => fun
  | [d1, d2, d3, d4, d5, d6] => { results := [.lit (.bool true)], args := [d1, d2, d3, d4, d5, d6] }
  | _ => none }
def chooseTellsRow : OpenClaim := { program := "ytffnjpapggidlaagreat", sum := "bd15702fa6575be8ce7ff887d4d371fd6b2637dba77f3d046d6cdf959b5bc36d", func := "dormouse/dormouselaw18.ChooseTells", spec := "chooseTells", inPlace := ["internal/abi.NoEscape", "internal/bytealg.MakeNoZero"], unfollowed := true, recurses := true, apart := false }
def ChooseTellsSaid : Prop := chooseTellsRow.holds Tryz.pinned (OpenSpec.ofChange chooseTellsSpec)

/-- ITS FALSE NEIGHBOUR: 'it returns false'. Refute it at one input. -/
def chooseTellsWrong : ChangeSpec := { name := "chooseTells", fn := fun _ => fun
  | [d1, d2, d3, d4, d5, d6] => { results := [.lit (.bool false)], args := [d1, d2, d3, d4, d5, d6] }
  | _ => none }
def ChooseTellsWrongFalsely : Prop := chooseTellsRow.holds Tryz.pinned (OpenSpec.ofChange chooseTellsWrong)

/-- 'dormouselaw17.ShutTells': WHATEVER THE INPUT: true; the input reads as it did. -/
def shutTellsSpec : ChangeSpec := { name := "shutTells", fn := fun _ => fun
  | [d1, d2, d3] => { results := [.lit (.bool true)], args := [d1, d2, d3] }
  | _ => none }
def shutTellsRow : OpenClaim := { program := "ytffnjpapggidlaagreat", sum := "bd15702fa6575be8ce7ff887d4d371fd6b2637dba77f3d046d6cdf959b5bc36d", func := "dormouse/dormouselaw17.ShutTells", spec := "shutTells", inPlace := ["internal/abi.NoEscape", "internal/bytealg.MakeNoZero"], unfollowed := true, recurses := true, apart := false }
def ShutTellsSaid : Prop := shutTellsRow.holds Tryz.pinned (OpenSpec.ofChange shutTellsSpec)

/-- ITS FALSE NEIGHBOUR: 'it returns false'. Refute it at one input. -/
def shutTellsWrong : ChangeSpec := { name := "shutTells", fn := fun _ => fun
  | [d1, d2, d3] => { results := [.lit (.bool false)], args := [d1, d2, d3] }
  | _ => none }
def ShutTellsWrongFalsely : Prop := shutTellsRow.holds Tryz.pinned (OpenSpec.ofChange shutTellsWrong)

/- THE SECOND FORM. 'bulk': how many values and letters a reading holds, each counted each time it is reached (what is shared counts as often as it is met; a slice's spare places count too). A statement '..UptoSaid' is the law's where the arguments, and the package variables that the reading takes, are together of bulk at most 1048576: NARROWER than '..Said'. Prove '..Said' where nothing that the law and all that it calls make is longer than what came in: it says more and counts as full. Else prove '..UptoSaid'. A law counts once. -/
mutual
def uptoBulk {H : Type} : DataW H → Nat
  | .lit (.string bytes) => bytes.length + 1
  | .lit _ => 1
  | .nil => 1
  | .ptr d => uptoBulk d + 1
  | .slice elems spare => uptoBulkAll elems + uptoBulkAll spare + 1
  | .agg parts => uptoBulkAll parts + 1
  | .iface _ d => uptoBulk d + 1
  | .map entries => uptoBulkEntries entries + 1
  | .held _ => 1
def uptoBulkAll {H : Type} : List (DataW H) → Nat
  | [] => 0
  | d :: r => uptoBulk d + uptoBulkAll r
def uptoBulkEntries {H : Type} : List (Lit × DataW H) → Nat
  | [] => 0
  | x :: r => uptoBulkEntry x + uptoBulkEntries r
def uptoBulkEntry {H : Type} : Lit × DataW H → Nat
  | (.string bytes, d) => bytes.length + uptoBulk d + 1
  | (_, d) => uptoBulk d + 1
 end
def uptoSmall : (H : Type) → List (DataW H) → Bool := fun _ ds => decide (uptoBulkAll ds ≤ 1048576)
def OpenSpec.upto (s : _root_.Go.ChangeSpec) : _root_.Go.OpenSpec := { _root_.Go.OpenSpec.ofChange s with cond := some uptoSmall }

/-- 'dormouselaw11.ViewTells', WHERE WHAT IT READS IS OF BULK AT MOST 1048576: true; the input reads as it did. -/
def viewTellsUptoRow : OpenClaim := { program := "ytffnjpapggidlaagreat", sum := "bd15702fa6575be8ce7ff887d4d371fd6b2637dba77f3d046d6cdf959b5bc36d", func := "dormouse/dormouselaw11.ViewTells", spec := "viewTells", inPlace := ["internal/abi.NoEscape", "internal/bytealg.MakeNoZero"], apart := false, narrowed := true }
def ViewTellsUptoSaid : Prop := viewTellsUptoRow.holds Tryz.pinned (OpenSpec.upto viewTellsSpec)

/-- 'dormouselaw09.HeapDark', WHERE WHAT IT READS IS OF BULK AT MOST 1048576: true; the input reads as it did. -/
def heapDarkUptoRow : OpenClaim := { program := "ytffnjpapggidlaagreat", sum := "bd15702fa6575be8ce7ff887d4d371fd6b2637dba77f3d046d6cdf959b5bc36d", func := "dormouse/dormouselaw09.HeapDark", spec := "heapDark", inPlace := ["internal/abi.NoEscape", "internal/bytealg.MakeNoZero"], unfollowed := true, recurses := true, apart := false, narrowed := true }
def HeapDarkUptoSaid : Prop := heapDarkUptoRow.holds Tryz.pinned (OpenSpec.upto heapDarkSpec)

/-- 'dormouselaw09.HeapCycles', WHERE WHAT IT READS IS OF BULK AT MOST 1048576: true; the input reads as it did. -/
def heapCyclesUptoRow : OpenClaim := { program := "ytffnjpapggidlaagreat", sum := "bd15702fa6575be8ce7ff887d4d371fd6b2637dba77f3d046d6cdf959b5bc36d", func := "dormouse/dormouselaw09.HeapCycles", spec := "heapCycles", inPlace := ["internal/abi.NoEscape", "internal/bytealg.MakeNoZero"], unfollowed := true, recurses := true, apart := false, narrowed := true }
def HeapCyclesUptoSaid : Prop := heapCyclesUptoRow.holds Tryz.pinned (OpenSpec.upto heapCyclesSpec)

/-- 'dormouselaw09.HeapPlays', WHERE WHAT IT READS IS OF BULK AT MOST 1048576: true; the input reads as it did. -/
def heapPlaysUptoRow : OpenClaim := { program := "ytffnjpapggidlaagreat", sum := "bd15702fa6575be8ce7ff887d4d371fd6b2637dba77f3d046d6cdf959b5bc36d", func := "dormouse/dormouselaw09.HeapPlays", spec := "heapPlays", inPlace := ["internal/abi.NoEscape", "internal/bytealg.MakeNoZero"], unfollowed := true, recurses := true, apart := false, narrowed := true }
def HeapPlaysUptoSaid : Prop := heapPlaysUptoRow.holds Tryz.pinned (OpenSpec.upto heapPlaysSpec)

/-- 'dormouselaw12.RingPlays', WHERE WHAT IT READS IS OF BULK AT MOST 1048576: true; the input reads as it did. -/
def ringPlaysUptoRow : OpenClaim := { program := "ytffnjpapggidlaagreat", sum := "bd15702fa6575be8ce7ff887d4d371fd6b2637dba77f3d046d6cdf959b5bc36d", func := "dormouse/dormouselaw12.RingPlays", spec := "ringPlays", inPlace := ["internal/abi.NoEscape", "internal/bytealg.MakeNoZero"], unfollowed := true, recurses := true, apart := false, narrowed := true }
def RingPlaysUptoSaid : Prop := ringPlaysUptoRow.holds Tryz.pinned (OpenSpec.upto ringPlaysSpec)

/-- 'dormouselaw21.StorePlays', WHERE WHAT IT READS IS OF BULK AT MOST 1048576: true; the input reads as it did. -/
def storePlaysUptoRow : OpenClaim := { program := "ytffnjpapggidlaagreat", sum := "bd15702fa6575be8ce7ff887d4d371fd6b2637dba77f3d046d6cdf959b5bc36d", func := "dormouse/dormouselaw21.StorePlays", spec := "storePlays", inPlace := ["internal/abi.NoEscape", "internal/bytealg.MakeNoZero"], unfollowed := true, recurses := true, apart := false, narrowed := true }
def StorePlaysUptoSaid : Prop := storePlaysUptoRow.holds Tryz.pinned (OpenSpec.upto storePlaysSpec)

/-- 'dormouselaw18.ChooseRound', WHERE WHAT IT READS IS OF BULK AT MOST 1048576: true; the input reads as it did. -/
def chooseRoundUptoRow : OpenClaim := { program := "ytffnjpapggidlaagreat", sum := "bd15702fa6575be8ce7ff887d4d371fd6b2637dba77f3d046d6cdf959b5bc36d", func := "dormouse/dormouselaw18.ChooseRound", spec := "chooseRound", inPlace := ["internal/abi.NoEscape", "internal/bytealg.MakeNoZero"], unfollowed := true, recurses := true, apart := false, narrowed := true }
def ChooseRoundUptoSaid : Prop := chooseRoundUptoRow.holds Tryz.pinned (OpenSpec.upto chooseRoundSpec)

/-- 'dormouselaw18.ChooseTells', WHERE WHAT IT READS IS OF BULK AT MOST 1048576: true; the input reads as it did. -/
def chooseTellsUptoRow : OpenClaim := { program := "ytffnjpapggidlaagreat", sum := "bd15702fa6575be8ce7ff887d4d371fd6b2637dba77f3d046d6cdf959b5bc36d", func := "dormouse/dormouselaw18.ChooseTells", spec := "chooseTells", inPlace := ["internal/abi.NoEscape", "internal/bytealg.MakeNoZero"], unfollowed := true, recurses := true, apart := false, narrowed := true }
def ChooseTellsUptoSaid : Prop := chooseTellsUptoRow.holds Tryz.pinned (OpenSpec.upto chooseTellsSpec)

/-- 'dormouselaw17.ShutTells', WHERE WHAT IT READS IS OF BULK AT MOST 1048576: true; the input reads as it did. -/
def shutTellsUptoRow : OpenClaim := { program := "ytffnjpapggidlaagreat", sum := "bd15702fa6575be8ce7ff887d4d371fd6b2637dba77f3d046d6cdf959b5bc36d", func := "dormouse/dormouselaw17.ShutTells", spec := "shutTells", inPlace := ["internal/abi.NoEscape", "internal/bytealg.MakeNoZero"], unfollowed := true, recurses := true, apart := false, narrowed := true }
def ShutTellsUptoSaid : Prop := shutTellsUptoRow.holds Tryz.pinned (OpenSpec.upto shutTellsSpec)

end Rows
end Go.Proofs.YtffnjpapggidlaaGreat
