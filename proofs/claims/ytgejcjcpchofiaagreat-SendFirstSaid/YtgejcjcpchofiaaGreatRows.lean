/-
  No cell of these rows narrows 'for every input' (looked for: loops, veiled, ifaces, maps, wideKeys, modest, calm, conditions, laid).
  DERIVED. THE GIVEN ROWS OF THIS SEAT. 12 by the template 'for every input the law returns true; each argument reads behind the call as it read before'; 0 by the template 'total and deterministic' (their statements: YtgejcjcpchofiaaGreatTotals.lean).
  GIVEN WITH THE SEED: the statements are not yours to turn. If you find one false, say at which input.
  Laid BY PROGRAM, IN A SANDBOX (cutbox-rows.mjs): the forced cells as the released guide's own fill.sh prints them over the translation d78cd0f13c27fe02… (all of the seat's roots in one cut). By AI agents, Wed Nov 11 2026. No macro, syntax, notation, axiom, sorry.
-/
import Derived.Test.YtgejcjcpchofiaaGreatChecked
import GoSem.Claim
import GoSem.ClaimJoined
import GoSem.ClaimMapViews
import Derived.JoinedTies
import Derived.KernelRfl
namespace Go.Proofs.YtgejcjcpchofiaaGreat
/- THE CELL 'sum', in the pinned program and in every row, IS THE sha256 OF THE DUMP (.gsa) THAT YtgejcjcpchofiaaGreatProg.lean LOADS. Nothing in Lean hashes anything: it is a label: what it is worth is what the hold of that sum in a sandbox is worth. -/
noncomputable def Tryz.pinned : Pinned := { name := "ytgejcjcpchofiaagreat", sum := "d78cd0f13c27fe02863c423cc475da57e67244ff9d3ec9b1a97b864e1f8e30b1", checked := Tryz.checked }
namespace Rows
def none {H : Type} : Left H := { results := [], args := [] }

/-- 'dormouselaw18.ChooseElse': WHATEVER THE INPUT: true; the input reads as it did. -/
def chooseElseSpec : ChangeSpec := { name := "chooseElse", fn := fun _ => fun
  | [d1, d2] => { results := [.lit (.bool true)], args := [d1, d2] }
  | _ => none }
def chooseElseRow : OpenClaim := { program := "ytgejcjcpchofiaagreat", sum := "d78cd0f13c27fe02863c423cc475da57e67244ff9d3ec9b1a97b864e1f8e30b1", func := "dormouse/dormouselaw18.ChooseElse", spec := "chooseElse", inPlace := ["internal/abi.NoEscape", "internal/bytealg.MakeNoZero"], unfollowed := true, recurses := true, apart := false }
def ChooseElseSaid : Prop := chooseElseRow.holds Tryz.pinned (OpenSpec.ofChange chooseElseSpec)

/-- ITS FALSE NEIGHBOUR: 'it returns false'. Refute it at one input. -/
def chooseElseWrong : ChangeSpec := { name := "chooseElse", fn := fun _ => fun
  | [d1, d2] => { results := [.lit (.bool false)], args := [d1, d2] }
  | _ => none }
def ChooseElseWrongFalsely : Prop := chooseElseRow.holds Tryz.pinned (OpenSpec.ofChange chooseElseWrong)

/-- 'dormouselaw17.ShutNone': WHATEVER THE INPUT: true; the input reads as it did. -/
def shutNoneSpec : ChangeSpec := { name := "shutNone", fn := fun _ => fun
  | [d] => { results := [.lit (.bool true)], args := [d] }
  | _ => none }
def shutNoneRow : OpenClaim := { program := "ytgejcjcpchofiaagreat", sum := "d78cd0f13c27fe02863c423cc475da57e67244ff9d3ec9b1a97b864e1f8e30b1", func := "dormouse/dormouselaw17.ShutNone", spec := "shutNone", inPlace := ["internal/abi.NoEscape", "internal/bytealg.MakeNoZero"], apart := false }
def ShutNoneSaid : Prop := shutNoneRow.holds Tryz.pinned (OpenSpec.ofChange shutNoneSpec)

/-- ITS FALSE NEIGHBOUR: 'it returns false'. Refute it at one input. -/
def shutNoneWrong : ChangeSpec := { name := "shutNone", fn := fun _ => fun
  | [d] => { results := [.lit (.bool false)], args := [d] }
  | _ => none }
def ShutNoneWrongFalsely : Prop := shutNoneRow.holds Tryz.pinned (OpenSpec.ofChange shutNoneWrong)

/-- 'dormouselaw15.SendNone': WHATEVER THE INPUT: true; the input reads as it did. -/
def sendNoneSpec : ChangeSpec := { name := "sendNone", fn := fun _ => fun
  | [d1, d2] => { results := [.lit (.bool true)], args := [d1, d2] }
  | _ => none }
def sendNoneRow : OpenClaim := { program := "ytgejcjcpchofiaagreat", sum := "d78cd0f13c27fe02863c423cc475da57e67244ff9d3ec9b1a97b864e1f8e30b1", func := "dormouse/dormouselaw15.SendNone", spec := "sendNone", inPlace := ["internal/abi.NoEscape", "internal/bytealg.MakeNoZero"], apart := false }
def SendNoneSaid : Prop := sendNoneRow.holds Tryz.pinned (OpenSpec.ofChange sendNoneSpec)

/-- ITS FALSE NEIGHBOUR: 'it returns false'. Refute it at one input. -/
def sendNoneWrong : ChangeSpec := { name := "sendNone", fn := fun _ => fun
  | [d1, d2] => { results := [.lit (.bool false)], args := [d1, d2] }
  | _ => none }
def SendNoneWrongFalsely : Prop := sendNoneRow.holds Tryz.pinned (OpenSpec.ofChange sendNoneWrong)

/-- 'dormouselaw17.ShutWakes': WHATEVER THE INPUT: true; the input reads as it did. -/
def shutWakesSpec : ChangeSpec := { name := "shutWakes", fn := fun _ => fun
  | [d1, d2] => { results := [.lit (.bool true)], args := [d1, d2] }
  | _ => none }
def shutWakesRow : OpenClaim := { program := "ytgejcjcpchofiaagreat", sum := "d78cd0f13c27fe02863c423cc475da57e67244ff9d3ec9b1a97b864e1f8e30b1", func := "dormouse/dormouselaw17.ShutWakes", spec := "shutWakes", inPlace := ["internal/abi.NoEscape", "internal/bytealg.MakeNoZero"], unfollowed := true, recurses := true, apart := false }
def ShutWakesSaid : Prop := shutWakesRow.holds Tryz.pinned (OpenSpec.ofChange shutWakesSpec)

/-- ITS FALSE NEIGHBOUR: 'it returns false'. Refute it at one input. -/
def shutWakesWrong : ChangeSpec := { name := "shutWakes", fn := fun _ => fun
  | [d1, d2] => { results := [.lit (.bool false)], args := [d1, d2] }
  | _ => none }
def ShutWakesWrongFalsely : Prop := shutWakesRow.holds Tryz.pinned (OpenSpec.ofChange shutWakesWrong)

/-- 'dormouselaw17.ShutHolds': WHATEVER THE INPUT: true; the input reads as it did. -/
def shutHoldsSpec : ChangeSpec := { name := "shutHolds", fn := fun _ => fun
  | [d1, d2] => { results := [.lit (.bool true)], args := [d1, d2] }
  | _ => none }
def shutHoldsRow : OpenClaim := { program := "ytgejcjcpchofiaagreat", sum := "d78cd0f13c27fe02863c423cc475da57e67244ff9d3ec9b1a97b864e1f8e30b1", func := "dormouse/dormouselaw17.ShutHolds", spec := "shutHolds", inPlace := ["internal/abi.NoEscape", "internal/bytealg.MakeNoZero"], apart := false }
def ShutHoldsSaid : Prop := shutHoldsRow.holds Tryz.pinned (OpenSpec.ofChange shutHoldsSpec)

/-- ITS FALSE NEIGHBOUR: 'it returns false'. Refute it at one input. -/
def shutHoldsWrong : ChangeSpec := { name := "shutHolds", fn := fun _ => fun
  | [d1, d2] => { results := [.lit (.bool false)], args := [d1, d2] }
  | _ => none }
def ShutHoldsWrongFalsely : Prop := shutHoldsRow.holds Tryz.pinned (OpenSpec.ofChange shutHoldsWrong)

/-- 'dormouselaw15.SendFirst': WHATEVER THE INPUT: true; the input reads as it did. -/
def sendFirstSpec : ChangeSpec := { name := "sendFirst", fn := fun _ => fun
  | [d1, d2, d3] => { results := [.lit (.bool true)], args := [d1, d2, d3] }
  | _ => none }
def sendFirstRow : OpenClaim := { program := "ytgejcjcpchofiaagreat", sum := "d78cd0f13c27fe02863c423cc475da57e67244ff9d3ec9b1a97b864e1f8e30b1", func := "dormouse/dormouselaw15.SendFirst", spec := "sendFirst", inPlace := ["internal/abi.NoEscape", "internal/bytealg.MakeNoZero"], apart := false }
def SendFirstSaid : Prop := sendFirstRow.holds Tryz.pinned (OpenSpec.ofChange sendFirstSpec)

/-- ITS FALSE NEIGHBOUR: 'it returns false'. Refute it at one input. -/
def sendFirstWrong : ChangeSpec := { name := "sendFirst", fn := fun _ => fun
  | [d1, d2, d3] => { results := [.lit (.bool false)], args := [d1, d2, d3] }
  | _ => none }
def SendFirstWrongFalsely : Prop := sendFirstRow.holds Tryz.pinned (OpenSpec.ofChange sendFirstWrong)

/-- 'dormouselaw15.SendOnce': WHATEVER THE INPUT: true; the input reads as it did. -/
def sendOnceSpec : ChangeSpec := { name := "sendOnce", fn := fun _ => fun
  | [d1, d2, d3] => { results := [.lit (.bool true)], args := [d1, d2, d3] }
  | _ => none }
def sendOnceRow : OpenClaim := { program := "ytgejcjcpchofiaagreat", sum := "d78cd0f13c27fe02863c423cc475da57e67244ff9d3ec9b1a97b864e1f8e30b1", func := "dormouse/dormouselaw15.SendOnce", spec := "sendOnce", inPlace := ["internal/abi.NoEscape", "internal/bytealg.MakeNoZero"], apart := false }
def SendOnceSaid : Prop := sendOnceRow.holds Tryz.pinned (OpenSpec.ofChange sendOnceSpec)

/-- ITS FALSE NEIGHBOUR: 'it returns false'. Refute it at one input. -/
def sendOnceWrong : ChangeSpec := { name := "sendOnce", fn := fun _ => fun
  | [d1, d2, d3] => { results := [.lit (.bool false)], args := [d1, d2, d3] }
  | _ => none }
def SendOnceWrongFalsely : Prop := sendOnceRow.holds Tryz.pinned (OpenSpec.ofChange sendOnceWrong)

/-- 'dormouselaw16.TakeClosed': WHATEVER THE INPUT: true; the input reads as it did. -/
def takeClosedSpec : ChangeSpec := { name := "takeClosed", fn := fun _ => fun
  | [d1, d2, d3] => { results := [.lit (.bool true)], args := [d1, d2, d3] }
  | _ => none }
def takeClosedRow : OpenClaim := { program := "ytgejcjcpchofiaagreat", sum := "d78cd0f13c27fe02863c423cc475da57e67244ff9d3ec9b1a97b864e1f8e30b1", func := "dormouse/dormouselaw16.TakeClosed", spec := "takeClosed", inPlace := ["internal/abi.NoEscape", "internal/bytealg.MakeNoZero"], apart := false }
def TakeClosedSaid : Prop := takeClosedRow.holds Tryz.pinned (OpenSpec.ofChange takeClosedSpec)

/-- ITS FALSE NEIGHBOUR: 'it returns false'. Refute it at one input. -/
def takeClosedWrong : ChangeSpec := { name := "takeClosed", fn := fun _ => fun
  | [d1, d2, d3] => { results := [.lit (.bool false)], args := [d1, d2, d3] }
  | _ => none }
def TakeClosedWrongFalsely : Prop := takeClosedRow.holds Tryz.pinned (OpenSpec.ofChange takeClosedWrong)

/-- 'dormouselaw16.TakeFirst': WHATEVER THE INPUT: true; the input reads as it did. -/
def takeFirstSpec : ChangeSpec := { name := "takeFirst", fn := fun _ => fun
  | [d1, d2, d3] => { results := [.lit (.bool true)], args := [d1, d2, d3] }
  | _ => none }
def takeFirstRow : OpenClaim := { program := "ytgejcjcpchofiaagreat", sum := "d78cd0f13c27fe02863c423cc475da57e67244ff9d3ec9b1a97b864e1f8e30b1", func := "dormouse/dormouselaw16.TakeFirst", spec := "takeFirst", inPlace := ["internal/abi.NoEscape", "internal/bytealg.MakeNoZero"], apart := false }
def TakeFirstSaid : Prop := takeFirstRow.holds Tryz.pinned (OpenSpec.ofChange takeFirstSpec)

/-- ITS FALSE NEIGHBOUR: 'it returns false'. Refute it at one input. -/
def takeFirstWrong : ChangeSpec := { name := "takeFirst", fn := fun _ => fun
  | [d1, d2, d3] => { results := [.lit (.bool false)], args := [d1, d2, d3] }
  | _ => none }
def TakeFirstWrongFalsely : Prop := takeFirstRow.holds Tryz.pinned (OpenSpec.ofChange takeFirstWrong)

/-- 'dormouselaw16.TakeMoves': WHATEVER THE INPUT: true; the input reads as it did. -/
def takeMovesSpec : ChangeSpec := { name := "takeMoves", fn := fun _ => fun
  | [d1, d2] => { results := [.lit (.bool true)], args := [d1, d2] }
  | _ => none }
def takeMovesRow : OpenClaim := { program := "ytgejcjcpchofiaagreat", sum := "d78cd0f13c27fe02863c423cc475da57e67244ff9d3ec9b1a97b864e1f8e30b1", func := "dormouse/dormouselaw16.TakeMoves", spec := "takeMoves", inPlace := ["internal/abi.NoEscape", "internal/bytealg.MakeNoZero"], apart := false }
def TakeMovesSaid : Prop := takeMovesRow.holds Tryz.pinned (OpenSpec.ofChange takeMovesSpec)

/-- ITS FALSE NEIGHBOUR: 'it returns false'. Refute it at one input. -/
def takeMovesWrong : ChangeSpec := { name := "takeMoves", fn := fun _ => fun
  | [d1, d2] => { results := [.lit (.bool false)], args := [d1, d2] }
  | _ => none }
def TakeMovesWrongFalsely : Prop := takeMovesRow.holds Tryz.pinned (OpenSpec.ofChange takeMovesWrong)

/-- 'dormouselaw16.TakeOnce': WHATEVER THE INPUT: true; the input reads as it did. -/
def takeOnceSpec : ChangeSpec := { name := "takeOnce", fn := fun _ => fun
  | [d1, d2] => { results := [.lit (.bool true)], args := [d1, d2] }
  | _ => none }
def takeOnceRow : OpenClaim := { program := "ytgejcjcpchofiaagreat", sum := "d78cd0f13c27fe02863c423cc475da57e67244ff9d3ec9b1a97b864e1f8e30b1", func := "dormouse/dormouselaw16.TakeOnce", spec := "takeOnce", inPlace := ["internal/abi.NoEscape", "internal/bytealg.MakeNoZero"], apart := false }
def TakeOnceSaid : Prop := takeOnceRow.holds Tryz.pinned (OpenSpec.ofChange takeOnceSpec)

/-- ITS FALSE NEIGHBOUR: 'it returns false'. Refute it at one input. -/
def takeOnceWrong : ChangeSpec := { name := "takeOnce", fn := fun _ => fun
  | [d1, d2] => { results := [.lit (.bool false)], args := [d1, d2] }
  | _ => none }
def TakeOnceWrongFalsely : Prop := takeOnceRow.holds Tryz.pinned (OpenSpec.ofChange takeOnceWrong)

/-- 'dormouselaw18.ChooseRound': WHATEVER THE INPUT: true; the input reads as it did. -/
def chooseRoundSpec : ChangeSpec := { name := "chooseRound", fn := fun _ => fun
  | [d1, d2, d3, d4, d5] => { results := [.lit (.bool true)], args := [d1, d2, d3, d4, d5] }
  | _ => none }
def chooseRoundRow : OpenClaim := { program := "ytgejcjcpchofiaagreat", sum := "d78cd0f13c27fe02863c423cc475da57e67244ff9d3ec9b1a97b864e1f8e30b1", func := "dormouse/dormouselaw18.ChooseRound", spec := "chooseRound", inPlace := ["internal/abi.NoEscape", "internal/bytealg.MakeNoZero"], unfollowed := true, recurses := true, apart := false }
def ChooseRoundSaid : Prop := chooseRoundRow.holds Tryz.pinned (OpenSpec.ofChange chooseRoundSpec)

/-- ITS FALSE NEIGHBOUR: 'it returns false'. Refute it at one input. -/
def chooseRoundWrong : ChangeSpec := { name := "chooseRound", fn := fun _ => fun
  | [d1, d2, d3, d4, d5] => { results := [.lit (.bool false)], args := [d1, d2, d3, d4, d5] }
  | _ => none }
def ChooseRoundWrongFalsely : Prop := chooseRoundRow.holds Tryz.pinned (OpenSpec.ofChange chooseRoundWrong)

/- THE SECOND FORM. 'bulk': how many values and letters a reading holds, each counted each time it is reached (what is shared counts as often as it is met; a slice's spare places count too). A statement '..UptoSaid' is the law's where the arguments, and the package variables that the reading takes, are together of bulk at most 1048576: NARROWER than '..Said'. Prove '..Said' where nothing that the law and all that it calls make is longer than what came in: it says more and counts as full. Else prove '..UptoSaid'. A law counts once. -/
mutual
def uptoBulk {H : Type} : DataW H → Nat
  | .lit (.string bytes) => bytes.length + 1
  | .lit _ => 1
  | .nil => 1
  | .ptr d => uptoBulk d + 1
  | .slice elems spare => uptoBulkAll elems + uptoBulkAll spare + 1
  | .agg parts => uptoBulkAll parts + 1
  | .iface _ d => uptoBulk d + 1
  | .map entries => uptoBulkEntries entries + 1
  | .held _ => 1
def uptoBulkAll {H : Type} : List (DataW H) → Nat
  | [] => 0
  | d :: r => uptoBulk d + uptoBulkAll r
def uptoBulkEntries {H : Type} : List (Lit × DataW H) → Nat
  | [] => 0
  | x :: r => uptoBulkEntry x + uptoBulkEntries r
def uptoBulkEntry {H : Type} : Lit × DataW H → Nat
  | (.string bytes, d) => bytes.length + uptoBulk d + 1
  | (_, d) => uptoBulk d + 1
 end
def uptoSmall : (H : Type) → List (DataW H) → Bool := fun _ ds => decide (uptoBulkAll ds ≤ 1048576)
def OpenSpec.upto (s : _root_.Go.ChangeSpec) : _root_.Go.OpenSpec := { _root_.Go.OpenSpec.ofChange s with cond := some uptoSmall }

/-- 'dormouselaw18.ChooseElse', WHERE WHAT IT READS IS OF BULK AT MOST 1048576: true; the input reads as it did. -/
def chooseElseUptoRow : OpenClaim := { program := "ytgejcjcpchofiaagreat", sum := "d78cd0f13c27fe02863c423cc475da57e67244ff9d3ec9b1a97b864e1f8e30b1", func := "dormouse/dormouselaw18.ChooseElse", spec := "chooseElse", inPlace := ["internal/abi.NoEscape", "internal/bytealg.MakeNoZero"], unfollowed := true, recurses := true, apart := false, narrowed := true }
def ChooseElseUptoSaid : Prop := chooseElseUptoRow.holds Tryz.pinned (OpenSpec.upto chooseElseSpec)

/-- 'dormouselaw17.ShutNone', WHERE WHAT IT READS IS OF BULK AT MOST 1048576: true; the input reads as it did. -/
def shutNoneUptoRow : OpenClaim := { program := "ytgejcjcpchofiaagreat", sum := "d78cd0f13c27fe02863c423cc475da57e67244ff9d3ec9b1a97b864e1f8e30b1", func := "dormouse/dormouselaw17.ShutNone", spec := "shutNone", inPlace := ["internal/abi.NoEscape", "internal/bytealg.MakeNoZero"], apart := false, narrowed := true }
def ShutNoneUptoSaid : Prop := shutNoneUptoRow.holds Tryz.pinned (OpenSpec.upto shutNoneSpec)

/-- 'dormouselaw15.SendNone', WHERE WHAT IT READS IS OF BULK AT MOST 1048576: true; the input reads as it did. -/
def sendNoneUptoRow : OpenClaim := { program := "ytgejcjcpchofiaagreat", sum := "d78cd0f13c27fe02863c423cc475da57e67244ff9d3ec9b1a97b864e1f8e30b1", func := "dormouse/dormouselaw15.SendNone", spec := "sendNone", inPlace := ["internal/abi.NoEscape", "internal/bytealg.MakeNoZero"], apart := false, narrowed := true }
def SendNoneUptoSaid : Prop := sendNoneUptoRow.holds Tryz.pinned (OpenSpec.upto sendNoneSpec)

/-- 'dormouselaw17.ShutWakes', WHERE WHAT IT READS IS OF BULK AT MOST 1048576: true; the input reads as it did. -/
def shutWakesUptoRow : OpenClaim := { program := "ytgejcjcpchofiaagreat", sum := "d78cd0f13c27fe02863c423cc475da57e67244ff9d3ec9b1a97b864e1f8e30b1", func := "dormouse/dormouselaw17.ShutWakes", spec := "shutWakes", inPlace := ["internal/abi.NoEscape", "internal/bytealg.MakeNoZero"], unfollowed := true, recurses := true, apart := false, narrowed := true }
def ShutWakesUptoSaid : Prop := shutWakesUptoRow.holds Tryz.pinned (OpenSpec.upto shutWakesSpec)

/-- 'dormouselaw17.ShutHolds', WHERE WHAT IT READS IS OF BULK AT MOST 1048576: true; the input reads as it did. -/
def shutHoldsUptoRow : OpenClaim := { program := "ytgejcjcpchofiaagreat", sum := "d78cd0f13c27fe02863c423cc475da57e67244ff9d3ec9b1a97b864e1f8e30b1", func := "dormouse/dormouselaw17.ShutHolds", spec := "shutHolds", inPlace := ["internal/abi.NoEscape", "internal/bytealg.MakeNoZero"], apart := false, narrowed := true }
def ShutHoldsUptoSaid : Prop := shutHoldsUptoRow.holds Tryz.pinned (OpenSpec.upto shutHoldsSpec)

/-- 'dormouselaw15.SendFirst', WHERE WHAT IT READS IS OF BULK AT MOST 1048576: true; the input reads as it did. -/
def sendFirstUptoRow : OpenClaim := { program := "ytgejcjcpchofiaagreat", sum := "d78cd0f13c27fe02863c423cc475da57e67244ff9d3ec9b1a97b864e1f8e30b1", func := "dormouse/dormouselaw15.SendFirst", spec := "sendFirst", inPlace := ["internal/abi.NoEscape", "internal/bytealg.MakeNoZero"], apart := false, narrowed := true }
def SendFirstUptoSaid : Prop := sendFirstUptoRow.holds Tryz.pinned (OpenSpec.upto sendFirstSpec)

/-- 'dormouselaw15.SendOnce', WHERE WHAT IT READS IS OF BULK AT MOST 1048576: true; the input reads as it did. -/
def sendOnceUptoRow : OpenClaim := { program := "ytgejcjcpchofiaagreat", sum := "d78cd0f13c27fe02863c423cc475da57e67244ff9d3ec9b1a97b864e1f8e30b1", func := "dormouse/dormouselaw15.SendOnce", spec := "sendOnce", inPlace := ["internal/abi.NoEscape", "internal/bytealg.MakeNoZero"], apart := false, narrowed := true }
def SendOnceUptoSaid : Prop := sendOnceUptoRow.holds Tryz.pinned (OpenSpec.upto sendOnceSpec)

/-- 'dormouselaw16.TakeClosed', WHERE WHAT IT READS IS OF BULK AT MOST 1048576: true; the input reads as it did. -/
def takeClosedUptoRow : OpenClaim := { program := "ytgejcjcpchofiaagreat", sum := "d78cd0f13c27fe02863c423cc475da57e67244ff9d3ec9b1a97b864e1f8e30b1", func := "dormouse/dormouselaw16.TakeClosed", spec := "takeClosed", inPlace := ["internal/abi.NoEscape", "internal/bytealg.MakeNoZero"], apart := false, narrowed := true }
def TakeClosedUptoSaid : Prop := takeClosedUptoRow.holds Tryz.pinned (OpenSpec.upto takeClosedSpec)

/-- 'dormouselaw16.TakeFirst', WHERE WHAT IT READS IS OF BULK AT MOST 1048576: true; the input reads as it did. -/
def takeFirstUptoRow : OpenClaim := { program := "ytgejcjcpchofiaagreat", sum := "d78cd0f13c27fe02863c423cc475da57e67244ff9d3ec9b1a97b864e1f8e30b1", func := "dormouse/dormouselaw16.TakeFirst", spec := "takeFirst", inPlace := ["internal/abi.NoEscape", "internal/bytealg.MakeNoZero"], apart := false, narrowed := true }
def TakeFirstUptoSaid : Prop := takeFirstUptoRow.holds Tryz.pinned (OpenSpec.upto takeFirstSpec)

/-- 'dormouselaw16.TakeMoves', WHERE WHAT IT READS IS OF BULK AT MOST 1048576: true; the input reads as it did. -/
def takeMovesUptoRow : OpenClaim := { program := "ytgejcjcpchofiaagreat", sum := "d78cd0f13c27fe02863c423cc475da57e67244ff9d3ec9b1a97b864e1f8e30b1", func := "dormouse/dormouselaw16.TakeMoves", spec := "takeMoves", inPlace := ["internal/abi.NoEscape", "internal/bytealg.MakeNoZero"], apart := false, narrowed := true }
def TakeMovesUptoSaid : Prop := takeMovesUptoRow.holds Tryz.pinned (OpenSpec.upto takeMovesSpec)

/-- 'dormouselaw16.TakeOnce', WHERE WHAT IT READS IS OF BULK AT MOST 1048576: true; the input reads as it did. -/
def takeOnceUptoRow : OpenClaim := { program := "ytgejcjcpchofiaagreat", sum := "d78cd0f13c27fe02863c423cc475da57e67244ff9d3ec9b1a97b864e1f8e30b1", func := "dormouse/dormouselaw16.TakeOnce", spec := "takeOnce", inPlace := ["internal/abi.NoEscape", "internal/bytealg.MakeNoZero"], apart := false, narrowed := true }
def TakeOnceUptoSaid : Prop := takeOnceUptoRow.holds Tryz.pinned (OpenSpec.upto takeOnceSpec)

/-- 'dormouselaw18.ChooseRound', WHERE WHAT IT READS IS OF BULK AT MOST 1048576: true; the input reads as it did. -/
def chooseRoundUptoRow : OpenClaim := { program := "ytgejcjcpchofiaagreat", sum := "d78cd0f13c27fe02863c423cc475da57e67244ff9d3ec9b1a97b864e1f8e30b1", func := "dormouse/dormouselaw18.ChooseRound", spec := "chooseRound", inPlace := ["internal/abi.NoEscape", "internal/bytealg.MakeNoZero"], unfollowed := true, recurses := true, apart := false, narrowed := true }
def ChooseRoundUptoSaid : Prop := chooseRoundUptoRow.holds Tryz.pinned (OpenSpec.upto chooseRoundSpec)

end Rows
end Go.Proofs.YtgejcjcpchofiaaGreat
