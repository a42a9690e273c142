/-
  No cell of these rows narrows 'for every input' (looked for: loops, veiled, ifaces, maps, wideKeys, modest, calm, conditions, laid).
  DERIVED. THE GIVEN ROWS OF THIS SEAT. 12 by the template 'for every input the law returns true; each argument reads behind the call as it read before'; 0 by the template 'total and deterministic' (their statements: YtfnhfhoafnpfoaaTotals.lean).
  GIVEN WITH THE SEED: the statements are not yours to turn. If you find one false, say at which input.
  Laid BY PROGRAM, IN A SANDBOX (cutbox-rows.mjs): the forced cells as the released guide's own fill.sh prints them over the translation 41a9af906368167a… (all of the seat's roots in one cut). By AI agents, Wed Nov 11 2026. No macro, syntax, notation, axiom, sorry.
-/
import Derived.Test.YtfnhfhoafnpfoaaChecked
import GoSem.Claim
import GoSem.ClaimJoined
import GoSem.ClaimMapViews
import Derived.JoinedTies
import Derived.KernelRfl
namespace Go.Proofs.Ytfnhfhoafnpfoaa
/- THE CELL 'sum', in the pinned program and in every row, IS THE sha256 OF THE DUMP (.gsa) THAT YtfnhfhoafnpfoaaProg.lean LOADS. Nothing in Lean hashes anything: it is a label: what it is worth is what the hold of that sum in a sandbox is worth. -/
noncomputable def Try.pinned : Pinned := { name := "ytfnhfhoafnpfoaa", sum := "41a9af906368167ab6e9ffc734b5216da3214e70ceee7a3fd0d5424de1e1e851", checked := Try.checked }
namespace Rows
def none {H : Type} : Left H := { results := [], args := [] }

/-- 'dormouselaw06.SpanPlays': WHATEVER THE INPUT: true; the input reads as it did. -/
def spanPlaysSpec : ChangeSpec := { name := "spanPlays", fn := fun _ => fun
  | [d1, d2] => { results := [.lit (.bool true)], args := [d1, d2] }
  | _ => none }
def spanPlaysRow : OpenClaim := { program := "ytfnhfhoafnpfoaa", sum := "41a9af906368167ab6e9ffc734b5216da3214e70ceee7a3fd0d5424de1e1e851", func := "dormouse/dormouselaw06.SpanPlays", spec := "spanPlays", inPlace := ["internal/abi.NoEscape", "internal/bytealg.MakeNoZero"], plainKeys := false, apart := false }
def SpanPlaysSaid : Prop := spanPlaysRow.holds Try.pinned (OpenSpec.ofChange spanPlaysSpec)

/-- ITS FALSE NEIGHBOUR: 'it returns false'. Refute it at one input. -/
def spanPlaysWrong : ChangeSpec := { name := "spanPlays", fn := fun _ => fun
  | [d1, d2] => { results := [.lit (.bool false)], args := [d1, d2] }
  | _ => none }
def SpanPlaysWrongFalsely : Prop := spanPlaysRow.holds Try.pinned (OpenSpec.ofChange spanPlaysWrong)

/-- 'dormouselaw06.SpanOnce': WHATEVER THE INPUT: true; the input reads as it did. -/
def spanOnceSpec : ChangeSpec := { name := "spanOnce", fn := fun _ => fun
  | [d1, d2, d3] => { results := [.lit (.bool true)], args := [d1, d2, d3] }
  | _ => none }
def spanOnceRow : OpenClaim := { program := "ytfnhfhoafnpfoaa", sum := "41a9af906368167ab6e9ffc734b5216da3214e70ceee7a3fd0d5424de1e1e851", func := "dormouse/dormouselaw06.SpanOnce", spec := "spanOnce", inPlace := ["internal/abi.NoEscape", "internal/bytealg.MakeNoZero"], plainKeys := false, apart := false }
def SpanOnceSaid : Prop := spanOnceRow.holds Try.pinned (OpenSpec.ofChange spanOnceSpec)

/-- ITS FALSE NEIGHBOUR: 'it returns false'. Refute it at one input. -/
def spanOnceWrong : ChangeSpec := { name := "spanOnce", fn := fun _ => fun
  | [d1, d2, d3] => { results := [.lit (.bool false)], args := [d1, d2, d3] }
  | _ => none }
def SpanOnceWrongFalsely : Prop := spanOnceRow.holds Try.pinned (OpenSpec.ofChange spanOnceWrong)

/-- 'dormouselaw06.SpanBounds': WHATEVER THE INPUT: true; the input reads as it did. -/
def spanBoundsSpec : ChangeSpec := { name := "spanBounds", fn := fun _ => fun
  | [d1, d2] => { results := [.lit (.bool true)], args := [d1, d2] }
  | _ => none }
def spanBoundsRow : OpenClaim := { program := "ytfnhfhoafnpfoaa", sum := "41a9af906368167ab6e9ffc734b5216da3214e70ceee7a3fd0d5424de1e1e851", func := "dormouse/dormouselaw06.SpanBounds", spec := "spanBounds", inPlace := ["internal/abi.NoEscape", "internal/bytealg.MakeNoZero"], plainKeys := false, apart := false }
def SpanBoundsSaid : Prop := spanBoundsRow.holds Try.pinned (OpenSpec.ofChange spanBoundsSpec)

/-- ITS FALSE NEIGHBOUR: 'it returns false'. Refute it at one input. -/
def spanBoundsWrong : ChangeSpec := { name := "spanBounds", fn := fun _ => fun
  | [d1, d2] => { results := [.lit (.bool false)], args := [d1, d2] }
  | _ => none }
def SpanBoundsWrongFalsely : Prop := spanBoundsRow.holds Try.pinned (OpenSpec.ofChange spanBoundsWrong)

/-- 'dormouselaw06.SpanMixed': WHATEVER THE INPUT: true; the input reads as it did. -/
def spanMixedSpec : ChangeSpec := { name := "spanMixed", fn := fun _ => fun
  | [d1, d2, d3] => { results := [.lit (.bool true)], args := [d1, d2, d3] }
  | _ => none }
def spanMixedRow : OpenClaim := { program := "ytfnhfhoafnpfoaa", sum := "41a9af906368167ab6e9ffc734b5216da3214e70ceee7a3fd0d5424de1e1e851", func := "dormouse/dormouselaw06.SpanMixed", spec := "spanMixed", inPlace := ["internal/abi.NoEscape", "internal/bytealg.MakeNoZero"], plainKeys := false, apart := false }
def SpanMixedSaid : Prop := spanMixedRow.holds Try.pinned (OpenSpec.ofChange spanMixedSpec)

/-- ITS FALSE NEIGHBOUR: 'it returns false'. Refute it at one input. -/
def spanMixedWrong : ChangeSpec := { name := "spanMixed", fn := fun _ => fun
  | [d1, d2, d3] => { results := [.lit (.bool false)], args := [d1, d2, d3] }
  | _ => none }
def SpanMixedWrongFalsely : Prop := spanMixedRow.holds Try.pinned (OpenSpec.ofChange spanMixedWrong)

/-- 'dormouselaw07.ArenaPlays': WHATEVER THE INPUT: true; the input reads as it did. -/
def arenaPlaysSpec : ChangeSpec := { name := "arenaPlays", fn := fun _ => fun
  | [d1, d2] => { results := [.lit (.bool true)], args := [d1, d2] }
  | _ => none }
def arenaPlaysRow : OpenClaim := { program := "ytfnhfhoafnpfoaa", sum := "41a9af906368167ab6e9ffc734b5216da3214e70ceee7a3fd0d5424de1e1e851", func := "dormouse/dormouselaw07.ArenaPlays", spec := "arenaPlays", inPlace := ["internal/abi.NoEscape", "internal/bytealg.MakeNoZero"], unfollowed := true, recurses := true, plainKeys := false, apart := false }
def ArenaPlaysSaid : Prop := arenaPlaysRow.holds Try.pinned (OpenSpec.ofChange arenaPlaysSpec)

/-- ITS FALSE NEIGHBOUR: 'it returns false'. Refute it at one input. -/
def arenaPlaysWrong : ChangeSpec := { name := "arenaPlays", fn := fun _ => fun
  | [d1, d2] => { results := [.lit (.bool false)], args := [d1, d2] }
  | _ => none }
def ArenaPlaysWrongFalsely : Prop := arenaPlaysRow.holds Try.pinned (OpenSpec.ofChange arenaPlaysWrong)

/-- 'dormouselaw07.ArenaApart': WHATEVER THE INPUT: true; the input reads as it did. -/
def arenaApartSpec : ChangeSpec := { name := "arenaApart", fn := fun _ => fun
  | [d1, d2, d3] => { results := [.lit (.bool true)], args := [d1, d2, d3] }
  | _ => none }
def arenaApartRow : OpenClaim := { program := "ytfnhfhoafnpfoaa", sum := "41a9af906368167ab6e9ffc734b5216da3214e70ceee7a3fd0d5424de1e1e851", func := "dormouse/dormouselaw07.ArenaApart", spec := "arenaApart", inPlace := ["internal/abi.NoEscape", "internal/bytealg.MakeNoZero"], plainKeys := false, apart := false }
def ArenaApartSaid : Prop := arenaApartRow.holds Try.pinned (OpenSpec.ofChange arenaApartSpec)

/-- ITS FALSE NEIGHBOUR: 'it returns false'. Refute it at one input. -/
def arenaApartWrong : ChangeSpec := { name := "arenaApart", fn := fun _ => fun
  | [d1, d2, d3] => { results := [.lit (.bool false)], args := [d1, d2, d3] }
  | _ => none }
def ArenaApartWrongFalsely : Prop := arenaApartRow.holds Try.pinned (OpenSpec.ofChange arenaApartWrong)

/-- 'dormouselaw07.ArenaRefuses': WHATEVER THE INPUT: true; the input reads as it did. -/
def arenaRefusesSpec : ChangeSpec := { name := "arenaRefuses", fn := fun _ => fun
  | [d1, d2, d3] => { results := [.lit (.bool true)], args := [d1, d2, d3] }
  | _ => none }
def arenaRefusesRow : OpenClaim := { program := "ytfnhfhoafnpfoaa", sum := "41a9af906368167ab6e9ffc734b5216da3214e70ceee7a3fd0d5424de1e1e851", func := "dormouse/dormouselaw07.ArenaRefuses", spec := "arenaRefuses", inPlace := ["internal/abi.NoEscape", "internal/bytealg.MakeNoZero"], plainKeys := false, apart := false }
def ArenaRefusesSaid : Prop := arenaRefusesRow.holds Try.pinned (OpenSpec.ofChange arenaRefusesSpec)

/-- ITS FALSE NEIGHBOUR: 'it returns false'. Refute it at one input. -/
def arenaRefusesWrong : ChangeSpec := { name := "arenaRefuses", fn := fun _ => fun
  | [d1, d2, d3] => { results := [.lit (.bool false)], args := [d1, d2, d3] }
  | _ => none }
def ArenaRefusesWrongFalsely : Prop := arenaRefusesRow.holds Try.pinned (OpenSpec.ofChange arenaRefusesWrong)

/-- 'dormouselaw07.ArenaPlaces': WHATEVER THE INPUT: true; the input reads as it did. -/
def arenaPlacesSpec : ChangeSpec := { name := "arenaPlaces", fn := fun _ => fun
  | [d1, d2] => { results := [.lit (.bool true)], args := [d1, d2] }
  | _ => none }
def arenaPlacesRow : OpenClaim := { program := "ytfnhfhoafnpfoaa", sum := "41a9af906368167ab6e9ffc734b5216da3214e70ceee7a3fd0d5424de1e1e851", func := "dormouse/dormouselaw07.ArenaPlaces", spec := "arenaPlaces", inPlace := ["internal/abi.NoEscape", "internal/bytealg.MakeNoZero"], plainKeys := false, apart := false }
def ArenaPlacesSaid : Prop := arenaPlacesRow.holds Try.pinned (OpenSpec.ofChange arenaPlacesSpec)

/-- ITS FALSE NEIGHBOUR: 'it returns false'. Refute it at one input. -/
def arenaPlacesWrong : ChangeSpec := { name := "arenaPlaces", fn := fun _ => fun
  | [d1, d2] => { results := [.lit (.bool false)], args := [d1, d2] }
  | _ => none }
def ArenaPlacesWrongFalsely : Prop := arenaPlacesRow.holds Try.pinned (OpenSpec.ofChange arenaPlacesWrong)

/-- 'dormouselaw22.LiveTells': WHATEVER THE INPUT: true; the input reads as it did. -/
def liveTellsSpec : ChangeSpec := { name := "liveTells", fn := fun _ => fun
  | [d1, d2] => { results := [.lit (.bool true)], args := [d1, d2] }
  | _ => none }
def liveTellsRow : OpenClaim := { program := "ytfnhfhoafnpfoaa", sum := "41a9af906368167ab6e9ffc734b5216da3214e70ceee7a3fd0d5424de1e1e851", func := "dormouse/dormouselaw22.LiveTells", spec := "liveTells", inPlace := ["internal/abi.NoEscape", "internal/bytealg.MakeNoZero"], unfollowed := true, recurses := true, plainKeys := false, apart := false }
def LiveTellsSaid : Prop := liveTellsRow.holds Try.pinned (OpenSpec.ofChange liveTellsSpec)

/-- ITS FALSE NEIGHBOUR: 'it returns false'. Refute it at one input. -/
def liveTellsWrong : ChangeSpec := { name := "liveTells", fn := fun _ => fun
  | [d1, d2] => { results := [.lit (.bool false)], args := [d1, d2] }
  | _ => none }
def LiveTellsWrongFalsely : Prop := liveTellsRow.holds Try.pinned (OpenSpec.ofChange liveTellsWrong)

/-- 'dormouselaw22.LiveParts': WHATEVER THE INPUT: true; the input reads as it did. -/
def livePartsSpec : ChangeSpec := { name := "liveParts", fn := fun _ => fun
  | [d1, d2, d3] => { results := [.lit (.bool true)], args := [d1, d2, d3] }
  | _ => none }
def livePartsRow : OpenClaim := { program := "ytfnhfhoafnpfoaa", sum := "41a9af906368167ab6e9ffc734b5216da3214e70ceee7a3fd0d5424de1e1e851", func := "dormouse/dormouselaw22.LiveParts", spec := "liveParts", inPlace := ["internal/abi.NoEscape", "internal/bytealg.MakeNoZero"], unfollowed := true, recurses := true, plainKeys := false, apart := false }
def LivePartsSaid : Prop := livePartsRow.holds Try.pinned (OpenSpec.ofChange livePartsSpec)

/-- ITS FALSE NEIGHBOUR: 'it returns false'. Refute it at one input. -/
def livePartsWrong : ChangeSpec := { name := "liveParts", fn := fun _ => fun
  | [d1, d2, d3] => { results := [.lit (.bool false)], args := [d1, d2, d3] }
  | _ => none }
def LivePartsWrongFalsely : Prop := livePartsRow.holds Try.pinned (OpenSpec.ofChange livePartsWrong)

/-- 'dormouselaw22.LiveChain': WHATEVER THE INPUT: true; the input reads as it did. -/
def liveChainSpec : ChangeSpec := { name := "liveChain", fn := fun _ => fun
  | [d1, d2, d3] => { results := [.lit (.bool true)], args := [d1, d2, d3] }
  | _ => none }
def liveChainRow : OpenClaim := { program := "ytfnhfhoafnpfoaa", sum := "41a9af906368167ab6e9ffc734b5216da3214e70ceee7a3fd0d5424de1e1e851", func := "dormouse/dormouselaw22.LiveChain", spec := "liveChain", inPlace := ["internal/abi.NoEscape", "internal/bytealg.MakeNoZero"], unfollowed := true, recurses := true, plainKeys := false, apart := false }
def LiveChainSaid : Prop := liveChainRow.holds Try.pinned (OpenSpec.ofChange liveChainSpec)

/-- ITS FALSE NEIGHBOUR: 'it returns false'. Refute it at one input. -/
def liveChainWrong : ChangeSpec := { name := "liveChain", fn := fun _ => fun
  | [d1, d2, d3] => { results := [.lit (.bool false)], args := [d1, d2, d3] }
  | _ => none }
def LiveChainWrongFalsely : Prop := liveChainRow.holds Try.pinned (OpenSpec.ofChange liveChainWrong)

/-- 'dormouselaw22.LiveNone': WHATEVER THE INPUT: true; the input reads as it did. -/
def liveNoneSpec : ChangeSpec := { name := "liveNone", fn := fun _ => fun
  | [d1, d2] => { results := [.lit (.bool true)], args := [d1, d2] }
  | _ => none }
def liveNoneRow : OpenClaim := { program := "ytfnhfhoafnpfoaa", sum := "41a9af906368167ab6e9ffc734b5216da3214e70ceee7a3fd0d5424de1e1e851", func := "dormouse/dormouselaw22.LiveNone", spec := "liveNone", inPlace := ["internal/abi.NoEscape", "internal/bytealg.MakeNoZero"], unfollowed := true, recurses := true, plainKeys := false, apart := false }
def LiveNoneSaid : Prop := liveNoneRow.holds Try.pinned (OpenSpec.ofChange liveNoneSpec)

/-- ITS FALSE NEIGHBOUR: 'it returns false'. Refute it at one input. -/
def liveNoneWrong : ChangeSpec := { name := "liveNone", fn := fun _ => fun
  | [d1, d2] => { results := [.lit (.bool false)], args := [d1, d2] }
  | _ => none }
def LiveNoneWrongFalsely : Prop := liveNoneRow.holds Try.pinned (OpenSpec.ofChange liveNoneWrong)

/- THE SECOND FORM. 'bulk': how many values and letters a reading holds, each counted each time it is reached (what is shared counts as often as it is met; a slice's spare places count too). A statement '..UptoSaid' is the law's where the arguments, and the package variables that the reading takes, are together of bulk at most 1048576: NARROWER than '..Said'. Prove '..Said' where nothing that the law and all that it calls make is longer than what came in: it says more and counts as full. Else prove '..UptoSaid'. A law counts once. -/
mutual
def uptoBulk {H : Type} : DataW H → Nat
  | .lit (.string bytes) => bytes.length + 1
  | .lit _ => 1
  | .nil => 1
  | .ptr d => uptoBulk d + 1
  | .slice elems spare => uptoBulkAll elems + uptoBulkAll spare + 1
  | .agg parts => uptoBulkAll parts + 1
  | .iface _ d => uptoBulk d + 1
  | .map entries => uptoBulkEntries entries + 1
  | .held _ => 1
def uptoBulkAll {H : Type} : List (DataW H) → Nat
  | [] => 0
  | d :: r => uptoBulk d + uptoBulkAll r
def uptoBulkEntries {H : Type} : List (Lit × DataW H) → Nat
  | [] => 0
  | x :: r => uptoBulkEntry x + uptoBulkEntries r
def uptoBulkEntry {H : Type} : Lit × DataW H → Nat
  | (.string bytes, d) => bytes.length + uptoBulk d + 1
  | (_, d) => uptoBulk d + 1
 end
def uptoSmall : (H : Type) → List (DataW H) → Bool := fun _ ds => decide (uptoBulkAll ds ≤ 1048576)
def OpenSpec.upto (s : _root_.Go.ChangeSpec) : _root_.Go.OpenSpec := { _root_.Go.OpenSpec.ofChange s with cond := some uptoSmall }

/-- 'dormouselaw06.SpanPlays', WHERE WHAT IT READS IS OF BULK AT MOST 1048576: true; the input reads as it did. -/
def spanPlaysUptoRow : OpenClaim := { program := "ytfnhfhoafnpfoaa", sum := "41a9af906368167ab6e9ffc734b5216da3214e70ceee7a3fd0d5424de1e1e851", func := "dormouse/dormouselaw06.SpanPlays", spec := "spanPlays", inPlace := ["internal/abi.NoEscape", "internal/bytealg.MakeNoZero"], plainKeys := false, apart := false, narrowed := true }
def SpanPlaysUptoSaid : Prop := spanPlaysUptoRow.holds Try.pinned (OpenSpec.upto spanPlaysSpec)

/-- 'dormouselaw06.SpanOnce', WHERE WHAT IT READS IS OF BULK AT MOST 1048576: true; the input reads as it did. -/
def spanOnceUptoRow : OpenClaim := { program := "ytfnhfhoafnpfoaa", sum := "41a9af906368167ab6e9ffc734b5216da3214e70ceee7a3fd0d5424de1e1e851", func := "dormouse/dormouselaw06.SpanOnce", spec := "spanOnce", inPlace := ["internal/abi.NoEscape", "internal/bytealg.MakeNoZero"], plainKeys := false, apart := false, narrowed := true }
def SpanOnceUptoSaid : Prop := spanOnceUptoRow.holds Try.pinned (OpenSpec.upto spanOnceSpec)

/-- 'dormouselaw06.SpanBounds', WHERE WHAT IT READS IS OF BULK AT MOST 1048576: true; the input reads as it did. -/
def spanBoundsUptoRow : OpenClaim := { program := "ytfnhfhoafnpfoaa", sum := "41a9af906368167ab6e9ffc734b5216da3214e70ceee7a3fd0d5424de1e1e851", func := "dormouse/dormouselaw06.SpanBounds", spec := "spanBounds", inPlace := ["internal/abi.NoEscape", "internal/bytealg.MakeNoZero"], plainKeys := false, apart := false, narrowed := true }
def SpanBoundsUptoSaid : Prop := spanBoundsUptoRow.holds Try.pinned (OpenSpec.upto spanBoundsSpec)

/-- 'dormouselaw06.SpanMixed', WHERE WHAT IT READS IS OF BULK AT MOST 1048576: true; the input reads as it did. -/
def spanMixedUptoRow : OpenClaim := { program := "ytfnhfhoafnpfoaa", sum := "41a9af906368167ab6e9ffc734b5216da3214e70ceee7a3fd0d5424de1e1e851", func := "dormouse/dormouselaw06.SpanMixed", spec := "spanMixed", inPlace := ["internal/abi.NoEscape", "internal/bytealg.MakeNoZero"], plainKeys := false, apart := false, narrowed := true }
def SpanMixedUptoSaid : Prop := spanMixedUptoRow.holds Try.pinned (OpenSpec.upto spanMixedSpec)

/-- 'dormouselaw07.ArenaPlays', WHERE WHAT IT READS IS OF BULK AT MOST 1048576: true; the input reads as it did. -/
def arenaPlaysUptoRow : OpenClaim := { program := "ytfnhfhoafnpfoaa", sum := "41a9af906368167ab6e9ffc734b5216da3214e70ceee7a3fd0d5424de1e1e851", func := "dormouse/dormouselaw07.ArenaPlays", spec := "arenaPlays", inPlace := ["internal/abi.NoEscape", "internal/bytealg.MakeNoZero"], unfollowed := true, recurses := true, plainKeys := false, apart := false, narrowed := true }
def ArenaPlaysUptoSaid : Prop := arenaPlaysUptoRow.holds Try.pinned (OpenSpec.upto arenaPlaysSpec)

/-- 'dormouselaw07.ArenaApart', WHERE WHAT IT READS IS OF BULK AT MOST 1048576: true; the input reads as it did. -/
def arenaApartUptoRow : OpenClaim := { program := "ytfnhfhoafnpfoaa", sum := "41a9af906368167ab6e9ffc734b5216da3214e70ceee7a3fd0d5424de1e1e851", func := "dormouse/dormouselaw07.ArenaApart", spec := "arenaApart", inPlace := ["internal/abi.NoEscape", "internal/bytealg.MakeNoZero"], plainKeys := false, apart := false, narrowed := true }
def ArenaApartUptoSaid : Prop := arenaApartUptoRow.holds Try.pinned (OpenSpec.upto arenaApartSpec)

/-- 'dormouselaw07.ArenaRefuses', WHERE WHAT IT READS IS OF BULK AT MOST 1048576: true; the input reads as it did. -/
def arenaRefusesUptoRow : OpenClaim := { program := "ytfnhfhoafnpfoaa", sum := "41a9af906368167ab6e9ffc734b5216da3214e70ceee7a3fd0d5424de1e1e851", func := "dormouse/dormouselaw07.ArenaRefuses", spec := "arenaRefuses", inPlace := ["internal/abi.NoEscape", "internal/bytealg.MakeNoZero"], plainKeys := false, apart := false, narrowed := true }
def ArenaRefusesUptoSaid : Prop := arenaRefusesUptoRow.holds Try.pinned (OpenSpec.upto arenaRefusesSpec)

/-- 'dormouselaw07.ArenaPlaces', WHERE WHAT IT READS IS OF BULK AT MOST 1048576: true; the input reads as it did. -/
def arenaPlacesUptoRow : OpenClaim := { program := "ytfnhfhoafnpfoaa", sum := "41a9af906368167ab6e9ffc734b5216da3214e70ceee7a3fd0d5424de1e1e851", func := "dormouse/dormouselaw07.ArenaPlaces", spec := "arenaPlaces", inPlace := ["internal/abi.NoEscape", "internal/bytealg.MakeNoZero"], plainKeys := false, apart := false, narrowed := true }
def ArenaPlacesUptoSaid : Prop := arenaPlacesUptoRow.holds Try.pinned (OpenSpec.upto arenaPlacesSpec)

/-- 'dormouselaw22.LiveTells', WHERE WHAT IT READS IS OF BULK AT MOST 1048576: true; the input reads as it did. -/
def liveTellsUptoRow : OpenClaim := { program := "ytfnhfhoafnpfoaa", sum := "41a9af906368167ab6e9ffc734b5216da3214e70ceee7a3fd0d5424de1e1e851", func := "dormouse/dormouselaw22.LiveTells", spec := "liveTells", inPlace := ["internal/abi.NoEscape", "internal/bytealg.MakeNoZero"], unfollowed := true, recurses := true, plainKeys := false, apart := false, narrowed := true }
def LiveTellsUptoSaid : Prop := liveTellsUptoRow.holds Try.pinned (OpenSpec.upto liveTellsSpec)

/-- 'dormouselaw22.LiveParts', WHERE WHAT IT READS IS OF BULK AT MOST 1048576: true; the input reads as it did. -/
def livePartsUptoRow : OpenClaim := { program := "ytfnhfhoafnpfoaa", sum := "41a9af906368167ab6e9ffc734b5216da3214e70ceee7a3fd0d5424de1e1e851", func := "dormouse/dormouselaw22.LiveParts", spec := "liveParts", inPlace := ["internal/abi.NoEscape", "internal/bytealg.MakeNoZero"], unfollowed := true, recurses := true, plainKeys := false, apart := false, narrowed := true }
def LivePartsUptoSaid : Prop := livePartsUptoRow.holds Try.pinned (OpenSpec.upto livePartsSpec)

/-- 'dormouselaw22.LiveChain', WHERE WHAT IT READS IS OF BULK AT MOST 1048576: true; the input reads as it did. -/
def liveChainUptoRow : OpenClaim := { program := "ytfnhfhoafnpfoaa", sum := "41a9af906368167ab6e9ffc734b5216da3214e70ceee7a3fd0d5424de1e1e851", func := "dormouse/dormouselaw22.LiveChain", spec := "liveChain", inPlace := ["internal/abi.NoEscape", "internal/bytealg.MakeNoZero"], unfollowed := true, recurses := true, plainKeys := false, apart := false, narrowed := true }
def LiveChainUptoSaid : Prop := liveChainUptoRow.holds Try.pinned (OpenSpec.upto liveChainSpec)

/-- 'dormouselaw22.LiveNone', WHERE WHAT IT READS IS OF BULK AT MOST 1048576: true; the input reads as it did. -/
def liveNoneUptoRow : OpenClaim := { program := "ytfnhfhoafnpfoaa", sum := "41a9af906368167ab6e9ffc734b5216da3214e70ceee7a3fd0d5424de1e1e851", func := "dormouse/dormouselaw22.LiveNone", spec := "liveNone", inPlace := ["internal/abi.NoEscape", "internal/bytealg.MakeNoZero"], unfollowed := true, recurses := true, plainKeys := false, apart := false, narrowed := true }
def LiveNoneUptoSaid : Prop := liveNoneUptoRow.holds Try.pinned (OpenSpec.upto liveNoneSpec)

end Rows
end Go.Proofs.Ytfnhfhoafnpfoaa
