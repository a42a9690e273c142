/-
  No cell of these rows narrows 'for every input' (looked for: loops, veiled, ifaces, maps, wideKeys, modest, calm, conditions, laid).
  DERIVED. THE GIVEN ROWS OF THIS SEAT. 11 by the template 'for every input the law returns true; each argument reads behind the call as it read before'; 0 by the template 'total and deterministic' (their statements: YtaojmbkmicjecaaGreatTotals.lean).
  GIVEN WITH THE SEED: the statements are not yours to turn. If you find one false, say at which input.
  Laid BY PROGRAM, IN A SANDBOX (cutbox-rows.mjs): the forced cells as the released guide's own fill.sh prints them over the translation 23e0cd2d5dc09a9b… (all of the seat's roots in one cut). By AI agents, Wed Nov 11 2026. No macro, syntax, notation, axiom, sorry.
-/
import Derived.Test.YtaojmbkmicjecaaGreatChecked
import GoSem.Claim
import GoSem.ClaimJoined
import GoSem.ClaimMapViews
import Derived.JoinedTies
import Derived.KernelRfl
namespace Go.Proofs.YtaojmbkmicjecaaGreat
/- THE CELL 'sum', in the pinned program and in every row, IS THE sha256 OF THE DUMP (.gsa) THAT YtaojmbkmicjecaaGreatProg.lean LOADS. Nothing in Lean hashes anything: it is a label: what it is worth is what the hold of that sum in a sandbox is worth. -/
noncomputable def Tryz.pinned : Pinned := { name := "ytaojmbkmicjecaagreat", sum := "23e0cd2d5dc09a9bd749e13db2d14f1e9314bcef82d9a0fe4fd29083c9e57d89", checked := Tryz.checked }
namespace Rows
def none {H : Type} : Left H := { results := [], args := [] }

/-- 'dormouselaw12.RingTurns': WHATEVER THE INPUT: true; the input reads as it did. -/
def ringTurnsSpec : ChangeSpec := { name := "ringTurns", fn := fun _ => fun
  | [d1, d2, d3] => { results := [.lit (.bool true)], args := [d1, d2, d3] }
  | _ => none }
def ringTurnsRow : OpenClaim := { program := "ytaojmbkmicjecaagreat", sum := "23e0cd2d5dc09a9bd749e13db2d14f1e9314bcef82d9a0fe4fd29083c9e57d89", func := "dormouse/dormouselaw12.RingTurns", spec := "ringTurns", inPlace := ["internal/abi.NoEscape", "internal/bytealg.MakeNoZero"], unfollowed := true, recurses := true, apart := false }
def RingTurnsSaid : Prop := ringTurnsRow.holds Tryz.pinned (OpenSpec.ofChange ringTurnsSpec)

/-- ITS FALSE NEIGHBOUR: 'it returns false'. Refute it at one input. -/
def ringTurnsWrong : ChangeSpec := { name := "ringTurns", fn := fun _ => fun
  | [d1, d2, d3] => { results := [.lit (.bool false)], args := [d1, d2, d3] }
  | _ => none }
def RingTurnsWrongFalsely : Prop := ringTurnsRow.holds Tryz.pinned (OpenSpec.ofChange ringTurnsWrong)

/-- 'dormouselaw12.RingRefuses': WHATEVER THE INPUT: true; the input reads as it did. -/
def ringRefusesSpec : ChangeSpec := { name := "ringRefuses", fn := fun _ => fun
  | [d1, d2, d3] => { results := [.lit (.bool true)], args := [d1, d2, d3] }
  | _ => none }
def ringRefusesRow : OpenClaim := { program := "ytaojmbkmicjecaagreat", sum := "23e0cd2d5dc09a9bd749e13db2d14f1e9314bcef82d9a0fe4fd29083c9e57d89", func := "dormouse/dormouselaw12.RingRefuses", spec := "ringRefuses", inPlace := ["internal/abi.NoEscape", "internal/bytealg.MakeNoZero"], apart := false }
def RingRefusesSaid : Prop := ringRefusesRow.holds Tryz.pinned (OpenSpec.ofChange ringRefusesSpec)

/-- ITS FALSE NEIGHBOUR: 'it returns false'. Refute it at one input. -/
def ringRefusesWrong : ChangeSpec := { name := "ringRefuses", fn := fun _ => fun
  | [d1, d2, d3] => { results := [.lit (.bool false)], args := [d1, d2, d3] }
  | _ => none }
def RingRefusesWrongFalsely : Prop := ringRefusesRow.holds Tryz.pinned (OpenSpec.ofChange ringRefusesWrong)

/-- 'dormouselaw12.RingEmpty': WHATEVER THE INPUT: true; the input reads as it did. -/
def ringEmptySpec : ChangeSpec := { name := "ringEmpty", fn := fun _ => fun
  | [d1, d2] => { results := [.lit (.bool true)], args := [d1, d2] }
  | _ => none }
def ringEmptyRow : OpenClaim := { program := "ytaojmbkmicjecaagreat", sum := "23e0cd2d5dc09a9bd749e13db2d14f1e9314bcef82d9a0fe4fd29083c9e57d89", func := "dormouse/dormouselaw12.RingEmpty", spec := "ringEmpty", inPlace := ["internal/abi.NoEscape", "internal/bytealg.MakeNoZero"], unfollowed := true, recurses := true, apart := false }
def RingEmptySaid : Prop := ringEmptyRow.holds Tryz.pinned (OpenSpec.ofChange ringEmptySpec)

/-- ITS FALSE NEIGHBOUR: 'it returns false'. Refute it at one input. -/
def ringEmptyWrong : ChangeSpec := { name := "ringEmpty", fn := fun _ => fun
  | [d1, d2] => { results := [.lit (.bool false)], args := [d1, d2] }
  | _ => none }
def RingEmptyWrongFalsely : Prop := ringEmptyRow.holds Tryz.pinned (OpenSpec.ofChange ringEmptyWrong)

/-- 'dormouselaw12.RingApart': WHATEVER THE INPUT: true; the input reads as it did. -/
def ringApartSpec : ChangeSpec := { name := "ringApart", fn := fun _ => fun
  | [d1, d2] => { results := [.lit (.bool true)], args := [d1, d2] }
  | _ => none }
def ringApartRow : OpenClaim := { program := "ytaojmbkmicjecaagreat", sum := "23e0cd2d5dc09a9bd749e13db2d14f1e9314bcef82d9a0fe4fd29083c9e57d89", func := "dormouse/dormouselaw12.RingApart", spec := "ringApart", inPlace := ["internal/abi.NoEscape", "internal/bytealg.MakeNoZero"], unfollowed := true, recurses := true, apart := false }
def RingApartSaid : Prop := ringApartRow.holds Tryz.pinned (OpenSpec.ofChange ringApartSpec)

/-- ITS FALSE NEIGHBOUR: 'it returns false'. Refute it at one input. -/
def ringApartWrong : ChangeSpec := { name := "ringApart", fn := fun _ => fun
  | [d1, d2] => { results := [.lit (.bool false)], args := [d1, d2] }
  | _ => none }
def RingApartWrongFalsely : Prop := ringApartRow.holds Tryz.pinned (OpenSpec.ofChange ringApartWrong)

/-- 'dormouselaw13.ListEnds': WHATEVER THE INPUT: true; the input reads as it did. -/
def listEndsSpec : ChangeSpec := { name := "listEnds", fn := fun _ => fun
  | [d1, d2] => { results := [.lit (.bool true)], args := [d1, d2] }
  | _ => none }
def listEndsRow : OpenClaim := { program := "ytaojmbkmicjecaagreat", sum := "23e0cd2d5dc09a9bd749e13db2d14f1e9314bcef82d9a0fe4fd29083c9e57d89", func := "dormouse/dormouselaw13.ListEnds", spec := "listEnds", inPlace := ["internal/abi.NoEscape", "internal/bytealg.MakeNoZero"], unfollowed := true, recurses := true, apart := false }
def ListEndsSaid : Prop := listEndsRow.holds Tryz.pinned (OpenSpec.ofChange listEndsSpec)

/-- ITS FALSE NEIGHBOUR: 'it returns false'. Refute it at one input. -/
def listEndsWrong : ChangeSpec := { name := "listEnds", fn := fun _ => fun
  | [d1, d2] => { results := [.lit (.bool false)], args := [d1, d2] }
  | _ => none }
def ListEndsWrongFalsely : Prop := listEndsRow.holds Tryz.pinned (OpenSpec.ofChange listEndsWrong)

/-- 'dormouselaw13.ListRefuses': WHATEVER THE INPUT: true; the input reads as it did. -/
def listRefusesSpec : ChangeSpec := { name := "listRefuses", fn := fun _ => fun
  | [d1, d2] => { results := [.lit (.bool true)], args := [d1, d2] }
  | _ => none }
def listRefusesRow : OpenClaim := { program := "ytaojmbkmicjecaagreat", sum := "23e0cd2d5dc09a9bd749e13db2d14f1e9314bcef82d9a0fe4fd29083c9e57d89", func := "dormouse/dormouselaw13.ListRefuses", spec := "listRefuses", inPlace := ["internal/abi.NoEscape", "internal/bytealg.MakeNoZero"], unfollowed := true, recurses := true, apart := false }
def ListRefusesSaid : Prop := listRefusesRow.holds Tryz.pinned (OpenSpec.ofChange listRefusesSpec)

/-- ITS FALSE NEIGHBOUR: 'it returns false'. Refute it at one input. -/
def listRefusesWrong : ChangeSpec := { name := "listRefuses", fn := fun _ => fun
  | [d1, d2] => { results := [.lit (.bool false)], args := [d1, d2] }
  | _ => none }
def ListRefusesWrongFalsely : Prop := listRefusesRow.holds Tryz.pinned (OpenSpec.ofChange listRefusesWrong)

/-- 'dormouselaw14.WakeNowhere': WHATEVER THE INPUT: true; the input reads as it did. -/
def wakeNowhereSpec : ChangeSpec := { name := "wakeNowhere", fn := fun _ => fun
  | [d1, d2, d3] => { results := [.lit (.bool true)], args := [d1, d2, d3] }
  | _ => none }
def wakeNowhereRow : OpenClaim := { program := "ytaojmbkmicjecaagreat", sum := "23e0cd2d5dc09a9bd749e13db2d14f1e9314bcef82d9a0fe4fd29083c9e57d89", func := "dormouse/dormouselaw14.WakeNowhere", spec := "wakeNowhere", inPlace := ["internal/abi.NoEscape", "internal/bytealg.MakeNoZero"], apart := false }
def WakeNowhereSaid : Prop := wakeNowhereRow.holds Tryz.pinned (OpenSpec.ofChange wakeNowhereSpec)

/-- ITS FALSE NEIGHBOUR: 'it returns false'. Refute it at one input. -/
def wakeNowhereWrong : ChangeSpec := { name := "wakeNowhere", fn := fun _ => fun
  | [d1, d2, d3] => { results := [.lit (.bool false)], args := [d1, d2, d3] }
  | _ => none }
def WakeNowhereWrongFalsely : Prop := wakeNowhereRow.holds Tryz.pinned (OpenSpec.ofChange wakeNowhereWrong)

/-- 'dormouselaw14.WakeParks': WHATEVER THE INPUT: true; the input reads as it did. -/
def wakeParksSpec : ChangeSpec := { name := "wakeParks", fn := fun _ => fun
  | [d1, d2] => { results := [.lit (.bool true)], args := [d1, d2] }
  | _ => none }
def wakeParksRow : OpenClaim := { program := "ytaojmbkmicjecaagreat", sum := "23e0cd2d5dc09a9bd749e13db2d14f1e9314bcef82d9a0fe4fd29083c9e57d89", func := "dormouse/dormouselaw14.WakeParks", spec := "wakeParks", inPlace := ["internal/abi.NoEscape", "internal/bytealg.MakeNoZero"], apart := false }
def WakeParksSaid : Prop := wakeParksRow.holds Tryz.pinned (OpenSpec.ofChange wakeParksSpec)

/-- ITS FALSE NEIGHBOUR: 'it returns false'. Refute it at one input. -/
def wakeParksWrong : ChangeSpec := { name := "wakeParks", fn := fun _ => fun
  | [d1, d2] => { results := [.lit (.bool false)], args := [d1, d2] }
  | _ => none }
def WakeParksWrongFalsely : Prop := wakeParksRow.holds Tryz.pinned (OpenSpec.ofChange wakeParksWrong)

/-- 'dormouselaw14.WakeRegs': WHATEVER THE INPUT: true; the input reads as it did. -/
def wakeRegsSpec : ChangeSpec := { name := "wakeRegs", fn := fun _ => fun
  | [d1, d2, d3, d4] => { results := [.lit (.bool true)], args := [d1, d2, d3, d4] }
  | _ => none }
def wakeRegsRow : OpenClaim := { program := "ytaojmbkmicjecaagreat", sum := "23e0cd2d5dc09a9bd749e13db2d14f1e9314bcef82d9a0fe4fd29083c9e57d89", func := "dormouse/dormouselaw14.WakeRegs", spec := "wakeRegs", inPlace := ["internal/abi.NoEscape", "internal/bytealg.MakeNoZero"], apart := false }
def WakeRegsSaid : Prop := wakeRegsRow.holds Tryz.pinned (OpenSpec.ofChange wakeRegsSpec)

/-- ITS FALSE NEIGHBOUR: 'it returns false'. Refute it at one input. -/
def wakeRegsWrong : ChangeSpec := { name := "wakeRegs", fn := fun _ => fun
  | [d1, d2, d3, d4] => { results := [.lit (.bool false)], args := [d1, d2, d3, d4] }
  | _ => none }
def WakeRegsWrongFalsely : Prop := wakeRegsRow.holds Tryz.pinned (OpenSpec.ofChange wakeRegsWrong)

/-- 'dormouselaw17.ShutWakes': WHATEVER THE INPUT: true; the input reads as it did. -/
def shutWakesSpec : ChangeSpec := { name := "shutWakes", fn := fun _ => fun
  | [d1, d2] => { results := [.lit (.bool true)], args := [d1, d2] }
  | _ => none }
def shutWakesRow : OpenClaim := { program := "ytaojmbkmicjecaagreat", sum := "23e0cd2d5dc09a9bd749e13db2d14f1e9314bcef82d9a0fe4fd29083c9e57d89", func := "dormouse/dormouselaw17.ShutWakes", spec := "shutWakes", inPlace := ["internal/abi.NoEscape", "internal/bytealg.MakeNoZero"], unfollowed := true, recurses := true, apart := false }
def ShutWakesSaid : Prop := shutWakesRow.holds Tryz.pinned (OpenSpec.ofChange shutWakesSpec)

/-- ITS FALSE NEIGHBOUR: 'it returns false'. Refute it at one input. -/
def shutWakesWrong : ChangeSpec := { name := "shutWakes", fn := fun _ => fun
  | [d1, d2] => { results := [.lit (.bool false)], args := [d1, d2] }
  | _ => none }
def ShutWakesWrongFalsely : Prop := shutWakesRow.holds Tryz.pinned (OpenSpec.ofChange shutWakesWrong)

/-- 'dormouselaw12.RingPlays': WHATEVER THE INPUT: true; the input reads as it did. -/
def ringPlaysSpec : ChangeSpec := { name := "ringPlays", fn := fun _ => fun
  | [d1, d2] => { results := [.lit (.bool true)], args := [d1, d2] }
  | _ => none }
def ringPlaysRow : OpenClaim := { program := "ytaojmbkmicjecaagreat", sum := "23e0cd2d5dc09a9bd749e13db2d14f1e9314bcef82d9a0fe4fd29083c9e57d89", func := "dormouse/dormouselaw12.RingPlays", spec := "ringPlays", inPlace := ["internal/abi.NoEscape", "internal/bytealg.MakeNoZero"], unfollowed := true, recurses := true, apart := false }
def RingPlaysSaid : Prop := ringPlaysRow.holds Tryz.pinned (OpenSpec.ofChange ringPlaysSpec)

/-- ITS FALSE NEIGHBOUR: 'it returns false'. Refute it at one input. -/
def ringPlaysWrong : ChangeSpec := { name := "ringPlays", fn := fun _ => fun
  | [d1, d2] => { results := [.lit (.bool false)], args := [d1, d2] }
  | _ => none }
def RingPlaysWrongFalsely : Prop := ringPlaysRow.holds Tryz.pinned (OpenSpec.ofChange ringPlaysWrong)

/- THE SECOND FORM. 'bulk': how many values and letters a reading holds, each counted each time it is reached (what is shared counts as often as it is met; a slice's spare places count too). A statement '..UptoSaid' is the law's where the arguments, and the package variables that the reading takes, are together of bulk at most 1048576: NARROWER than '..Said'. Prove '..Said' where nothing that the law and all that it calls make is longer than what came in: it says more and counts as full. Else prove '..UptoSaid'. A law counts once. -/
mutual
def uptoBulk {H : Type} : DataW H → Nat
  | .lit (.string bytes) => bytes.length + 1
  | .lit _ => 1
  | .nil => 1
  | .ptr d => uptoBulk d + 1
  | .slice elems spare => uptoBulkAll elems + uptoBulkAll spare + 1
  | .agg parts => uptoBulkAll parts + 1
  | .iface _ d => uptoBulk d + 1
  | .map entries => uptoBulkEntries entries + 1
  | .held _ => 1
def uptoBulkAll {H : Type} : List (DataW H) → Nat
  | [] => 0
  | d :: r => uptoBulk d + uptoBulkAll r
def uptoBulkEntries {H : Type} : List (Lit × DataW H) → Nat
  | [] => 0
  | x :: r => uptoBulkEntry x + uptoBulkEntries r
def uptoBulkEntry {H : Type} : Lit × DataW H → Nat
  | (.string bytes, d) => bytes.length + uptoBulk d + 1
  | (_, d) => uptoBulk d + 1
 end
def uptoSmall : (H : Type) → List (DataW H) → Bool := fun _ ds => decide (uptoBulkAll ds ≤ 1048576)
def OpenSpec.upto (s : _root_.Go.ChangeSpec) : _root_.Go.OpenSpec := { _root_.Go.OpenSpec.ofChange s with cond := some uptoSmall }

/-- 'dormouselaw12.RingTurns', WHERE WHAT IT READS IS OF BULK AT MOST 1048576: true; the input reads as it did. -/
def ringTurnsUptoRow : OpenClaim := { program := "ytaojmbkmicjecaagreat", sum := "23e0cd2d5dc09a9bd749e13db2d14f1e9314bcef82d9a0fe4fd29083c9e57d89", func := "dormouse/dormouselaw12.RingTurns", spec := "ringTurns", inPlace := ["internal/abi.NoEscape", "internal/bytealg.MakeNoZero"], unfollowed := true, recurses := true, apart := false, narrowed := true }
def RingTurnsUptoSaid : Prop := ringTurnsUptoRow.holds Tryz.pinned (OpenSpec.upto ringTurnsSpec)

/-- 'dormouselaw12.RingRefuses', WHERE WHAT IT READS IS OF BULK AT MOST 1048576: true; the input reads as it did. -/
def ringRefusesUptoRow : OpenClaim := { program := "ytaojmbkmicjecaagreat", sum := "23e0cd2d5dc09a9bd749e13db2d14f1e9314bcef82d9a0fe4fd29083c9e57d89", func := "dormouse/dormouselaw12.RingRefuses", spec := "ringRefuses", inPlace := ["internal/abi.NoEscape", "internal/bytealg.MakeNoZero"], apart := false, narrowed := true }
def RingRefusesUptoSaid : Prop := ringRefusesUptoRow.holds Tryz.pinned (OpenSpec.upto ringRefusesSpec)

/-- 'dormouselaw12.RingEmpty', WHERE WHAT IT READS IS OF BULK AT MOST 1048576: true; the input reads as it did. -/
def ringEmptyUptoRow : OpenClaim := { program := "ytaojmbkmicjecaagreat", sum := "23e0cd2d5dc09a9bd749e13db2d14f1e9314bcef82d9a0fe4fd29083c9e57d89", func := "dormouse/dormouselaw12.RingEmpty", spec := "ringEmpty", inPlace := ["internal/abi.NoEscape", "internal/bytealg.MakeNoZero"], unfollowed := true, recurses := true, apart := false, narrowed := true }
def RingEmptyUptoSaid : Prop := ringEmptyUptoRow.holds Tryz.pinned (OpenSpec.upto ringEmptySpec)

/-- 'dormouselaw12.RingApart', WHERE WHAT IT READS IS OF BULK AT MOST 1048576: true; the input reads as it did. -/
def ringApartUptoRow : OpenClaim := { program := "ytaojmbkmicjecaagreat", sum := "23e0cd2d5dc09a9bd749e13db2d14f1e9314bcef82d9a0fe4fd29083c9e57d89", func := "dormouse/dormouselaw12.RingApart", spec := "ringApart", inPlace := ["internal/abi.NoEscape", "internal/bytealg.MakeNoZero"], unfollowed := true, recurses := true, apart := false, narrowed := true }
def RingApartUptoSaid : Prop := ringApartUptoRow.holds Tryz.pinned (OpenSpec.upto ringApartSpec)

/-- 'dormouselaw13.ListEnds', WHERE WHAT IT READS IS OF BULK AT MOST 1048576: true; the input reads as it did. -/
def listEndsUptoRow : OpenClaim := { program := "ytaojmbkmicjecaagreat", sum := "23e0cd2d5dc09a9bd749e13db2d14f1e9314bcef82d9a0fe4fd29083c9e57d89", func := "dormouse/dormouselaw13.ListEnds", spec := "listEnds", inPlace := ["internal/abi.NoEscape", "internal/bytealg.MakeNoZero"], unfollowed := true, recurses := true, apart := false, narrowed := true }
def ListEndsUptoSaid : Prop := listEndsUptoRow.holds Tryz.pinned (OpenSpec.upto listEndsSpec)

/-- 'dormouselaw13.ListRefuses', WHERE WHAT IT READS IS OF BULK AT MOST 1048576: true; the input reads as it did. -/
def listRefusesUptoRow : OpenClaim := { program := "ytaojmbkmicjecaagreat", sum := "23e0cd2d5dc09a9bd749e13db2d14f1e9314bcef82d9a0fe4fd29083c9e57d89", func := "dormouse/dormouselaw13.ListRefuses", spec := "listRefuses", inPlace := ["internal/abi.NoEscape", "internal/bytealg.MakeNoZero"], unfollowed := true, recurses := true, apart := false, narrowed := true }
def ListRefusesUptoSaid : Prop := listRefusesUptoRow.holds Tryz.pinned (OpenSpec.upto listRefusesSpec)

/-- 'dormouselaw14.WakeNowhere', WHERE WHAT IT READS IS OF BULK AT MOST 1048576: true; the input reads as it did. -/
def wakeNowhereUptoRow : OpenClaim := { program := "ytaojmbkmicjecaagreat", sum := "23e0cd2d5dc09a9bd749e13db2d14f1e9314bcef82d9a0fe4fd29083c9e57d89", func := "dormouse/dormouselaw14.WakeNowhere", spec := "wakeNowhere", inPlace := ["internal/abi.NoEscape", "internal/bytealg.MakeNoZero"], apart := false, narrowed := true }
def WakeNowhereUptoSaid : Prop := wakeNowhereUptoRow.holds Tryz.pinned (OpenSpec.upto wakeNowhereSpec)

/-- 'dormouselaw14.WakeParks', WHERE WHAT IT READS IS OF BULK AT MOST 1048576: true; the input reads as it did. -/
def wakeParksUptoRow : OpenClaim := { program := "ytaojmbkmicjecaagreat", sum := "23e0cd2d5dc09a9bd749e13db2d14f1e9314bcef82d9a0fe4fd29083c9e57d89", func := "dormouse/dormouselaw14.WakeParks", spec := "wakeParks", inPlace := ["internal/abi.NoEscape", "internal/bytealg.MakeNoZero"], apart := false, narrowed := true }
def WakeParksUptoSaid : Prop := wakeParksUptoRow.holds Tryz.pinned (OpenSpec.upto wakeParksSpec)

/-- 'dormouselaw14.WakeRegs', WHERE WHAT IT READS IS OF BULK AT MOST 1048576: true; the input reads as it did. -/
def wakeRegsUptoRow : OpenClaim := { program := "ytaojmbkmicjecaagreat", sum := "23e0cd2d5dc09a9bd749e13db2d14f1e9314bcef82d9a0fe4fd29083c9e57d89", func := "dormouse/dormouselaw14.WakeRegs", spec := "wakeRegs", inPlace := ["internal/abi.NoEscape", "internal/bytealg.MakeNoZero"], apart := false, narrowed := true }
def WakeRegsUptoSaid : Prop := wakeRegsUptoRow.holds Tryz.pinned (OpenSpec.upto wakeRegsSpec)

/-- 'dormouselaw17.ShutWakes', WHERE WHAT IT READS IS OF BULK AT MOST 1048576: true; the input reads as it did. -/
def shutWakesUptoRow : OpenClaim := { program := "ytaojmbkmicjecaagreat", sum := "23e0cd2d5dc09a9bd749e13db2d14f1e9314bcef82d9a0fe4fd29083c9e57d89", func := "dormouse/dormouselaw17.ShutWakes", spec := "shutWakes", inPlace := ["internal/abi.NoEscape", "internal/bytealg.MakeNoZero"], unfollowed := true, recurses := true, apart := false, narrowed := true }
def ShutWakesUptoSaid : Prop := shutWakesUptoRow.holds Tryz.pinned (OpenSpec.upto shutWakesSpec)

/-- 'dormouselaw12.RingPlays', WHERE WHAT IT READS IS OF BULK AT MOST 1048576: true; the input reads as it did. -/
def ringPlaysUptoRow : OpenClaim := { program := "ytaojmbkmicjecaagreat", sum := "23e0cd2d5dc09a9bd749e13db2d14f1e9314bcef82d9a0fe4fd29083c9e57d89", func := "dormouse/dormouselaw12.RingPlays", spec := "ringPlays", inPlace := ["internal/abi.NoEscape", "internal/bytealg.MakeNoZero"], unfollowed := true, recurses := true, apart := false, narrowed := true }
def RingPlaysUptoSaid : Prop := ringPlaysUptoRow.holds Tryz.pinned (OpenSpec.upto ringPlaysSpec)

end Rows
end Go.Proofs.YtaojmbkmicjecaaGreat
