/-
  No cell of these rows narrows 'for every input' (looked for: loops, veiled, ifaces, maps, wideKeys, modest, calm, conditions, laid).
  DERIVED. THE GIVEN ROWS OF THIS SEAT. 8 by the template 'for every input the law returns true; each argument reads behind the call as it read before'; 0 by the template 'total and deterministic' (their statements: YtdnelekoplkkcaaTotals.lean).
  GIVEN WITH THE SEED: the statements are not yours to turn. If you find one false, say at which input.
  Laid BY PROGRAM, IN A SANDBOX (cutbox-rows.mjs): the forced cells as the released guide's own fill.sh prints them over the translation d54b7bb094d8dec6… (all of the seat's roots in one cut). By AI agents, Wed Nov 11 2026. No macro, syntax, notation, axiom, sorry.
-/
import Derived.Test.YtdnelekoplkkcaaChecked
import GoSem.Claim
import GoSem.ClaimJoined
import GoSem.ClaimMapViews
import Derived.JoinedTies
import Derived.KernelRfl
namespace Go.Proofs.Ytdnelekoplkkcaa
/- THE CELL 'sum', in the pinned program and in every row, IS THE sha256 OF THE DUMP (.gsa) THAT YtdnelekoplkkcaaProg.lean LOADS. Nothing in Lean hashes anything: it is a label: what it is worth is what the hold of that sum in a sandbox is worth. -/
noncomputable def Try.pinned : Pinned := { name := "ytdnelekoplkkcaa", sum := "d54b7bb094d8dec6c11f91e52de09a29d83e698bd9842bdbc743adbb50a32643", checked := Try.checked }
namespace Rows
def none {H : Type} : Left H := { results := [], args := [] }

/-- 'dormouselaw11.ViewWords': WHATEVER THE INPUT: true; the input reads as it did. -/
def viewWordsSpec : ChangeSpec := { name := "viewWords", fn := fun _ => fun
  | [d1, d2] => { results := [.lit (.bool true)], args := [d1, d2] }
  | _ => none }
def viewWordsRow : OpenClaim := { program := "ytdnelekoplkkcaa", sum := "d54b7bb094d8dec6c11f91e52de09a29d83e698bd9842bdbc743adbb50a32643", func := "dormouse/dormouselaw11.ViewWords", spec := "viewWords", inPlace := ["internal/abi.NoEscape", "internal/bytealg.MakeNoZero"], apart := false }
def ViewWordsSaid : Prop := viewWordsRow.holds Try.pinned (OpenSpec.ofChange viewWordsSpec)

/-- ITS FALSE NEIGHBOUR: 'it returns false'. Refute it at one input. -/
def viewWordsWrong : ChangeSpec := { name := "viewWords", fn := fun _ => fun
  | [d1, d2] => { results := [.lit (.bool false)], args := [d1, d2] }
  | _ => none }
def ViewWordsWrongFalsely : Prop := viewWordsRow.holds Try.pinned (OpenSpec.ofChange viewWordsWrong)

/-- 'dormouselaw11.ViewKinds': WHATEVER THE INPUT: true; the input reads as it did. -/
def viewKindsSpec : ChangeSpec := { name := "viewKinds", fn := fun _ => fun
  | [d] => { results := [.lit (.bool true)], args := [d] }
  | _ => none }
def viewKindsRow : OpenClaim := { program := "ytdnelekoplkkcaa", sum := "d54b7bb094d8dec6c11f91e52de09a29d83e698bd9842bdbc743adbb50a32643", func := "dormouse/dormouselaw11.ViewKinds", spec := "viewKinds", inPlace := ["internal/abi.NoEscape", "internal/bytealg.MakeNoZero"], apart := false }
def ViewKindsSaid : Prop := viewKindsRow.holds Try.pinned (OpenSpec.ofChange viewKindsSpec)

/-- ITS FALSE NEIGHBOUR: 'it returns false'. Refute it at one input. -/
def viewKindsWrong : ChangeSpec := { name := "viewKinds", fn := fun _ => fun
  | [d] => { results := [.lit (.bool false)], args := [d] }
  | _ => none }
def ViewKindsWrongFalsely : Prop := viewKindsRow.holds Try.pinned (OpenSpec.ofChange viewKindsWrong)

/-- 'dormouselaw11.ViewBack': WHATEVER THE INPUT: true; the input reads as it did. -/
def viewBackSpec : ChangeSpec := { name := "viewBack", fn := fun _ => fun
  | [d1, d2, d3] => { results := [.lit (.bool true)], args := [d1, d2, d3] }
  | _ => none }
def viewBackRow : OpenClaim := { program := "ytdnelekoplkkcaa", sum := "d54b7bb094d8dec6c11f91e52de09a29d83e698bd9842bdbc743adbb50a32643", func := "dormouse/dormouselaw11.ViewBack", spec := "viewBack", inPlace := ["internal/abi.NoEscape", "internal/bytealg.MakeNoZero"], unfollowed := true, recurses := true, apart := false }
def ViewBackSaid : Prop := viewBackRow.holds Try.pinned (OpenSpec.ofChange viewBackSpec)

/-- ITS FALSE NEIGHBOUR: 'it returns false'. Refute it at one input. -/
def viewBackWrong : ChangeSpec := { name := "viewBack", fn := fun _ => fun
  | [d1, d2, d3] => { results := [.lit (.bool false)], args := [d1, d2, d3] }
  | _ => none }
def ViewBackWrongFalsely : Prop := viewBackRow.holds Try.pinned (OpenSpec.ofChange viewBackWrong)

/-- 'dormouselaw09.HeapAllots': WHATEVER THE INPUT: true; the input reads as it did. -/
def heapAllotsSpec : ChangeSpec := { name := "heapAllots", fn := fun _ => fun
  | [d1, d2, d3] => { results := [.lit (.bool true)], args := [d1, d2, d3] }
  | _ => none }
def heapAllotsRow : OpenClaim := { program := "ytdnelekoplkkcaa", sum := "d54b7bb094d8dec6c11f91e52de09a29d83e698bd9842bdbc743adbb50a32643", func := "dormouse/dormouselaw09.HeapAllots", spec := "heapAllots", inPlace := ["internal/abi.NoEscape", "internal/bytealg.MakeNoZero"], apart := false }
def HeapAllotsSaid : Prop := heapAllotsRow.holds Try.pinned (OpenSpec.ofChange heapAllotsSpec)

/-- ITS FALSE NEIGHBOUR: 'it returns false'. Refute it at one input. -/
def heapAllotsWrong : ChangeSpec := { name := "heapAllots", fn := fun _ => fun
  | [d1, d2, d3] => { results := [.lit (.bool false)], args := [d1, d2, d3] }
  | _ => none }
def HeapAllotsWrongFalsely : Prop := heapAllotsRow.holds Try.pinned (OpenSpec.ofChange heapAllotsWrong)

/-- 'dormouselaw09.HeapFinals': WHATEVER THE INPUT: true; the input reads as it did. -/
def heapFinalsSpec : ChangeSpec := { name := "heapFinals", fn := fun _ => fun
  | [d1, d2] => { results := [.lit (.bool true)], args := [d1, d2] }
  | _ => none }
def heapFinalsRow : OpenClaim := { program := "ytdnelekoplkkcaa", sum := "d54b7bb094d8dec6c11f91e52de09a29d83e698bd9842bdbc743adbb50a32643", func := "dormouse/dormouselaw09.HeapFinals", spec := "heapFinals", inPlace := ["internal/abi.NoEscape", "internal/bytealg.MakeNoZero"], unfollowed := true, recurses := true, apart := false }
def HeapFinalsSaid : Prop := heapFinalsRow.holds Try.pinned (OpenSpec.ofChange heapFinalsSpec)

/-- ITS FALSE NEIGHBOUR: 'it returns false'. Refute it at one input. -/
def heapFinalsWrong : ChangeSpec := { name := "heapFinals", fn := fun _ => fun
  | [d1, d2] => { results := [.lit (.bool false)], args := [d1, d2] }
  | _ => none }
def HeapFinalsWrongFalsely : Prop := heapFinalsRow.holds Try.pinned (OpenSpec.ofChange heapFinalsWrong)

/-- 'dormouselaw09.HeapOver': WHATEVER THE INPUT: true; the input reads as it did. -/
def heapOverSpec : ChangeSpec := { name := "heapOver", fn := fun _ => fun
  | [d1, d2] => { results := [.lit (.bool true)], args := [d1, d2] }
  | _ => none }
def heapOverRow : OpenClaim := { program := "ytdnelekoplkkcaa", sum := "d54b7bb094d8dec6c11f91e52de09a29d83e698bd9842bdbc743adbb50a32643", func := "dormouse/dormouselaw09.HeapOver", spec := "heapOver", inPlace := ["internal/abi.NoEscape", "internal/bytealg.MakeNoZero"], apart := false }
def HeapOverSaid : Prop := heapOverRow.holds Try.pinned (OpenSpec.ofChange heapOverSpec)

/-- ITS FALSE NEIGHBOUR: 'it returns false'. Refute it at one input. -/
def heapOverWrong : ChangeSpec := { name := "heapOver", fn := fun _ => fun
  | [d1, d2] => { results := [.lit (.bool false)], args := [d1, d2] }
  | _ => none }
def HeapOverWrongFalsely : Prop := heapOverRow.holds Try.pinned (OpenSpec.ofChange heapOverWrong)

/-- 'dormouselaw09.HeapNil': WHATEVER THE INPUT: true; the input reads as it did. -/
def heapNilSpec : ChangeSpec := { name := "heapNil", fn := fun _ => fun
  | [d1, d2] => { results := [.lit (.bool true)], args := [d1, d2] }
  | _ => none }
def heapNilRow : OpenClaim := { program := "ytdnelekoplkkcaa", sum := "d54b7bb094d8dec6c11f91e52de09a29d83e698bd9842bdbc743adbb50a32643", func := "dormouse/dormouselaw09.HeapNil", spec := "heapNil", inPlace := ["internal/abi.NoEscape", "internal/bytealg.MakeNoZero"], apart := false }
def HeapNilSaid : Prop := heapNilRow.holds Try.pinned (OpenSpec.ofChange heapNilSpec)

/-- ITS FALSE NEIGHBOUR: 'it returns false'. Refute it at one input. -/
def heapNilWrong : ChangeSpec := { name := "heapNil", fn := fun _ => fun
  | [d1, d2] => { results := [.lit (.bool false)], args := [d1, d2] }
  | _ => none }
def HeapNilWrongFalsely : Prop := heapNilRow.holds Try.pinned (OpenSpec.ofChange heapNilWrong)

/-- 'dormouselaw09.HeapHides': WHATEVER THE INPUT: true; the input reads as it did. -/
def heapHidesSpec : ChangeSpec := { name := "heapHides", fn := fun _ => fun
  | [d1, d2] => { results := [.lit (.bool true)], args := [d1, d2] }
  | _ => none }
def heapHidesRow : OpenClaim := { program := "ytdnelekoplkkcaa", sum := "d54b7bb094d8dec6c11f91e52de09a29d83e698bd9842bdbc743adbb50a32643", func := "dormouse/dormouselaw09.HeapHides", spec := "heapHides", inPlace := ["internal/abi.NoEscape", "internal/bytealg.MakeNoZero"], apart := false }
def HeapHidesSaid : Prop := heapHidesRow.holds Try.pinned (OpenSpec.ofChange heapHidesSpec)

/-- ITS FALSE NEIGHBOUR: 'it returns false'. Refute it at one input. -/
def heapHidesWrong : ChangeSpec := { name := "heapHides", fn := fun _ => fun
  | [d1, d2] => { results := [.lit (.bool false)], args := [d1, d2] }
  | _ => none }
def HeapHidesWrongFalsely : Prop := heapHidesRow.holds Try.pinned (OpenSpec.ofChange heapHidesWrong)

/- THE SECOND FORM. 'bulk': how many values and letters a reading holds, each counted each time it is reached (what is shared counts as often as it is met; a slice's spare places count too). A statement '..UptoSaid' is the law's where the arguments, and the package variables that the reading takes, are together of bulk at most 1048576: NARROWER than '..Said'. Prove '..Said' where nothing that the law and all that it calls make is longer than what came in: it says more and counts as full. Else prove '..UptoSaid'. A law counts once. -/
mutual
def uptoBulk {H : Type} : DataW H → Nat
  | .lit (.string bytes) => bytes.length + 1
  | .lit _ => 1
  | .nil => 1
  | .ptr d => uptoBulk d + 1
  | .slice elems spare => uptoBulkAll elems + uptoBulkAll spare + 1
  | .agg parts => uptoBulkAll parts + 1
  | .iface _ d => uptoBulk d + 1
  | .map entries => uptoBulkEntries entries + 1
  | .held _ => 1
def uptoBulkAll {H : Type} : List (DataW H) → Nat
  | [] => 0
  | d :: r => uptoBulk d + uptoBulkAll r
def uptoBulkEntries {H : Type} : List (Lit × DataW H) → Nat
  | [] => 0
  | x :: r => uptoBulkEntry x + uptoBulkEntries r
def uptoBulkEntry {H : Type} : Lit × DataW H → Nat
  | (.string bytes, d) => bytes.length + uptoBulk d + 1
  | (_, d) => uptoBulk d + 1
 end
def uptoSmall : (H : Type) → List (DataW H) → Bool := fun _ ds => decide (uptoBulkAll ds ≤ 1048576)
def OpenSpec.upto (s : _root_.Go.ChangeSpec) : _root_.Go.OpenSpec := { _root_.Go.OpenSpec.ofChange s with cond := some uptoSmall }

/-- 'dormouselaw11.ViewWords', WHERE WHAT IT READS IS OF BULK AT MOST 1048576: true; the input reads as it did. -/
def viewWordsUptoRow : OpenClaim := { program := "ytdnelekoplkkcaa", sum := "d54b7bb094d8dec6c11f91e52de09a29d83e698bd9842bdbc743adbb50a32643", func := "dormouse/dormouselaw11.ViewWords", spec := "viewWords", inPlace := ["internal/abi.NoEscape", "internal/bytealg.MakeNoZero"], apart := false, narrowed := true }
def ViewWordsUptoSaid : Prop := viewWordsUptoRow.holds Try.pinned (OpenSpec.upto viewWordsSpec)

/-- 'dormouselaw11.ViewKinds', WHERE WHAT IT READS IS OF BULK AT MOST 1048576: true; the input reads as it did. -/
def viewKindsUptoRow : OpenClaim := { program := "ytdnelekoplkkcaa", sum := "d54b7bb094d8dec6c11f91e52de09a29d83e698bd9842bdbc743adbb50a32643", func := "dormouse/dormouselaw11.ViewKinds", spec := "viewKinds", inPlace := ["internal/abi.NoEscape", "internal/bytealg.MakeNoZero"], apart := false, narrowed := true }
def ViewKindsUptoSaid : Prop := viewKindsUptoRow.holds Try.pinned (OpenSpec.upto viewKindsSpec)

/-- 'dormouselaw11.ViewBack', WHERE WHAT IT READS IS OF BULK AT MOST 1048576: true; the input reads as it did. -/
def viewBackUptoRow : OpenClaim := { program := "ytdnelekoplkkcaa", sum := "d54b7bb094d8dec6c11f91e52de09a29d83e698bd9842bdbc743adbb50a32643", func := "dormouse/dormouselaw11.ViewBack", spec := "viewBack", inPlace := ["internal/abi.NoEscape", "internal/bytealg.MakeNoZero"], unfollowed := true, recurses := true, apart := false, narrowed := true }
def ViewBackUptoSaid : Prop := viewBackUptoRow.holds Try.pinned (OpenSpec.upto viewBackSpec)

/-- 'dormouselaw09.HeapAllots', WHERE WHAT IT READS IS OF BULK AT MOST 1048576: true; the input reads as it did. -/
def heapAllotsUptoRow : OpenClaim := { program := "ytdnelekoplkkcaa", sum := "d54b7bb094d8dec6c11f91e52de09a29d83e698bd9842bdbc743adbb50a32643", func := "dormouse/dormouselaw09.HeapAllots", spec := "heapAllots", inPlace := ["internal/abi.NoEscape", "internal/bytealg.MakeNoZero"], apart := false, narrowed := true }
def HeapAllotsUptoSaid : Prop := heapAllotsUptoRow.holds Try.pinned (OpenSpec.upto heapAllotsSpec)

/-- 'dormouselaw09.HeapFinals', WHERE WHAT IT READS IS OF BULK AT MOST 1048576: true; the input reads as it did. -/
def heapFinalsUptoRow : OpenClaim := { program := "ytdnelekoplkkcaa", sum := "d54b7bb094d8dec6c11f91e52de09a29d83e698bd9842bdbc743adbb50a32643", func := "dormouse/dormouselaw09.HeapFinals", spec := "heapFinals", inPlace := ["internal/abi.NoEscape", "internal/bytealg.MakeNoZero"], unfollowed := true, recurses := true, apart := false, narrowed := true }
def HeapFinalsUptoSaid : Prop := heapFinalsUptoRow.holds Try.pinned (OpenSpec.upto heapFinalsSpec)

/-- 'dormouselaw09.HeapOver', WHERE WHAT IT READS IS OF BULK AT MOST 1048576: true; the input reads as it did. -/
def heapOverUptoRow : OpenClaim := { program := "ytdnelekoplkkcaa", sum := "d54b7bb094d8dec6c11f91e52de09a29d83e698bd9842bdbc743adbb50a32643", func := "dormouse/dormouselaw09.HeapOver", spec := "heapOver", inPlace := ["internal/abi.NoEscape", "internal/bytealg.MakeNoZero"], apart := false, narrowed := true }
def HeapOverUptoSaid : Prop := heapOverUptoRow.holds Try.pinned (OpenSpec.upto heapOverSpec)

/-- 'dormouselaw09.HeapNil', WHERE WHAT IT READS IS OF BULK AT MOST 1048576: true; the input reads as it did. -/
def heapNilUptoRow : OpenClaim := { program := "ytdnelekoplkkcaa", sum := "d54b7bb094d8dec6c11f91e52de09a29d83e698bd9842bdbc743adbb50a32643", func := "dormouse/dormouselaw09.HeapNil", spec := "heapNil", inPlace := ["internal/abi.NoEscape", "internal/bytealg.MakeNoZero"], apart := false, narrowed := true }
def HeapNilUptoSaid : Prop := heapNilUptoRow.holds Try.pinned (OpenSpec.upto heapNilSpec)

/-- 'dormouselaw09.HeapHides', WHERE WHAT IT READS IS OF BULK AT MOST 1048576: true; the input reads as it did. -/
def heapHidesUptoRow : OpenClaim := { program := "ytdnelekoplkkcaa", sum := "d54b7bb094d8dec6c11f91e52de09a29d83e698bd9842bdbc743adbb50a32643", func := "dormouse/dormouselaw09.HeapHides", spec := "heapHides", inPlace := ["internal/abi.NoEscape", "internal/bytealg.MakeNoZero"], apart := false, narrowed := true }
def HeapHidesUptoSaid : Prop := heapHidesUptoRow.holds Try.pinned (OpenSpec.upto heapHidesSpec)

end Rows
end Go.Proofs.Ytdnelekoplkkcaa
