/-
  No cell of these rows narrows 'for every input' (looked for: loops, veiled, ifaces, maps, wideKeys, modest, calm, conditions, laid).
  DERIVED. THE GIVEN ROWS OF THIS SEAT. 12 by the template 'for every input the law returns true; each argument reads behind the call as it read before'; 0 by the template 'total and deterministic' (their statements: YtkjncehcabhljaaTotals.lean).
  GIVEN WITH THE SEED: the statements are not yours to turn. If you find one false, say at which input.
  Laid BY PROGRAM, IN A SANDBOX (cutbox-rows.mjs): the forced cells as the released guide's own fill.sh prints them over the translation 856b2f9f04f4eead… (all of the seat's roots in one cut). By AI agents, Wed Nov 11 2026. No macro, syntax, notation, axiom, sorry.
-/
import Derived.Test.YtkjncehcabhljaaChecked
import GoSem.Claim
import GoSem.ClaimJoined
import GoSem.ClaimMapViews
import Derived.JoinedTies
import Derived.KernelRfl
namespace Go.Proofs.Ytkjncehcabhljaa
/- THE CELL 'sum', in the pinned program and in every row, IS THE sha256 OF THE DUMP (.gsa) THAT YtkjncehcabhljaaProg.lean LOADS. Nothing in Lean hashes anything: it is a label: what it is worth is what the hold of that sum in a sandbox is worth. -/
noncomputable def Try.pinned : Pinned := { name := "ytkjncehcabhljaa", sum := "856b2f9f04f4eead9e62021951d46f152041918e8a9acb507e17889e54d292b8", checked := Try.checked }
namespace Rows
def none {H : Type} : Left H := { results := [], args := [] }

/-- 'dormouselaw04.ValueTells': WHATEVER THE INPUT: true; the input reads as it did. -/
def valueTellsSpec : ChangeSpec := { name := "valueTells", fn := fun _ => fun
  | [d1, d2] => { results := [.lit (.bool true)], args := [d1, d2] }
  | _ => none }
def valueTellsRow : OpenClaim := { program := "ytkjncehcabhljaa", sum := "856b2f9f04f4eead9e62021951d46f152041918e8a9acb507e17889e54d292b8", func := "dormouse/dormouselaw04.ValueTells", spec := "valueTells", apart := false }
def ValueTellsSaid : Prop := valueTellsRow.holds Try.pinned (OpenSpec.ofChange valueTellsSpec)

/-- ITS FALSE NEIGHBOUR: 'it returns false'. Refute it at one input. -/
def valueTellsWrong : ChangeSpec := { name := "valueTells", fn := fun _ => fun
  | [d1, d2] => { results := [.lit (.bool false)], args := [d1, d2] }
  | _ => none }
def ValueTellsWrongFalsely : Prop := valueTellsRow.holds Try.pinned (OpenSpec.ofChange valueTellsWrong)

/-- 'dormouselaw04.ValueBack': WHATEVER THE INPUT: true; the input reads as it did. -/
def valueBackSpec : ChangeSpec := { name := "valueBack", fn := fun _ => fun
  | [d1, d2] => { results := [.lit (.bool true)], args := [d1, d2] }
  | _ => none }
def valueBackRow : OpenClaim := { program := "ytkjncehcabhljaa", sum := "856b2f9f04f4eead9e62021951d46f152041918e8a9acb507e17889e54d292b8", func := "dormouse/dormouselaw04.ValueBack", spec := "valueBack", apart := false }
def ValueBackSaid : Prop := valueBackRow.holds Try.pinned (OpenSpec.ofChange valueBackSpec)

/-- ITS FALSE NEIGHBOUR: 'it returns false'. Refute it at one input. -/
def valueBackWrong : ChangeSpec := { name := "valueBack", fn := fun _ => fun
  | [d1, d2] => { results := [.lit (.bool false)], args := [d1, d2] }
  | _ => none }
def ValueBackWrongFalsely : Prop := valueBackRow.holds Try.pinned (OpenSpec.ofChange valueBackWrong)

/-- 'dormouselaw04.ValueParts': WHATEVER THE INPUT: true; the input reads as it did. -/
def valuePartsSpec : ChangeSpec := { name := "valueParts", fn := fun _ => fun
  | [d1, d2] => { results := [.lit (.bool true)], args := [d1, d2] }
  | _ => none }
def valuePartsRow : OpenClaim := { program := "ytkjncehcabhljaa", sum := "856b2f9f04f4eead9e62021951d46f152041918e8a9acb507e17889e54d292b8", func := "dormouse/dormouselaw04.ValueParts", spec := "valueParts", apart := false }
def ValuePartsSaid : Prop := valuePartsRow.holds Try.pinned (OpenSpec.ofChange valuePartsSpec)

/-- ITS FALSE NEIGHBOUR: 'it returns false'. Refute it at one input. -/
def valuePartsWrong : ChangeSpec := { name := "valueParts", fn := fun _ => fun
  | [d1, d2] => { results := [.lit (.bool false)], args := [d1, d2] }
  | _ => none }
def ValuePartsWrongFalsely : Prop := valuePartsRow.holds Try.pinned (OpenSpec.ofChange valuePartsWrong)

/-- 'dormouselaw05.ClassTells': WHATEVER THE INPUT: true; the input reads as it did. -/
def classTellsSpec : ChangeSpec := { name := "classTells", fn := fun _ => fun
  | [d1, d2] => { results := [.lit (.bool true)], args := [d1, d2] }
  | _ => none }
def classTellsRow : OpenClaim := { program := "ytkjncehcabhljaa", sum := "856b2f9f04f4eead9e62021951d46f152041918e8a9acb507e17889e54d292b8", func := "dormouse/dormouselaw05.ClassTells", spec := "classTells", apart := false }
def ClassTellsSaid : Prop := classTellsRow.holds Try.pinned (OpenSpec.ofChange classTellsSpec)

/-- ITS FALSE NEIGHBOUR: 'it returns false'. Refute it at one input. -/
def classTellsWrong : ChangeSpec := { name := "classTells", fn := fun _ => fun
  | [d1, d2] => { results := [.lit (.bool false)], args := [d1, d2] }
  | _ => none }
def ClassTellsWrongFalsely : Prop := classTellsRow.holds Try.pinned (OpenSpec.ofChange classTellsWrong)

/-- 'dormouselaw05.ClassFits': WHATEVER THE INPUT: true; the input reads as it did. -/
def classFitsSpec : ChangeSpec := { name := "classFits", fn := fun _ => fun
  | [d] => { results := [.lit (.bool true)], args := [d] }
  | _ => none }
def classFitsRow : OpenClaim := { program := "ytkjncehcabhljaa", sum := "856b2f9f04f4eead9e62021951d46f152041918e8a9acb507e17889e54d292b8", func := "dormouse/dormouselaw05.ClassFits", spec := "classFits", apart := false }
def ClassFitsSaid : Prop := classFitsRow.holds Try.pinned (OpenSpec.ofChange classFitsSpec)

/-- ITS FALSE NEIGHBOUR: 'it returns false'. Refute it at one input. -/
def classFitsWrong : ChangeSpec := { name := "classFits", fn := fun _ => fun
  | [d] => { results := [.lit (.bool false)], args := [d] }
  | _ => none }
def ClassFitsWrongFalsely : Prop := classFitsRow.holds Try.pinned (OpenSpec.ofChange classFitsWrong)

/-- 'dormouselaw05.ClassLeast': WHATEVER THE INPUT: true; the input reads as it did. -/
def classLeastSpec : ChangeSpec := { name := "classLeast", fn := fun _ => fun
  | [d1, d2] => { results := [.lit (.bool true)], args := [d1, d2] }
  | _ => none }
def classLeastRow : OpenClaim := { program := "ytkjncehcabhljaa", sum := "856b2f9f04f4eead9e62021951d46f152041918e8a9acb507e17889e54d292b8", func := "dormouse/dormouselaw05.ClassLeast", spec := "classLeast", apart := false }
def ClassLeastSaid : Prop := classLeastRow.holds Try.pinned (OpenSpec.ofChange classLeastSpec)

/-- ITS FALSE NEIGHBOUR: 'it returns false'. Refute it at one input. -/
def classLeastWrong : ChangeSpec := { name := "classLeast", fn := fun _ => fun
  | [d1, d2] => { results := [.lit (.bool false)], args := [d1, d2] }
  | _ => none }
def ClassLeastWrongFalsely : Prop := classLeastRow.holds Try.pinned (OpenSpec.ofChange classLeastWrong)

/-- 'dormouselaw10.RecordTells': WHATEVER THE INPUT: true; the input reads as it did. -/
def recordTellsSpec : ChangeSpec := { name := "recordTells", fn := fun _ => fun
  | [d1, d2] => { results := [.lit (.bool true)], args := [d1, d2] }
  | _ => none }
def recordTellsRow : OpenClaim := { program := "ytkjncehcabhljaa", sum := "856b2f9f04f4eead9e62021951d46f152041918e8a9acb507e17889e54d292b8", func := "dormouse/dormouselaw10.RecordTells", spec := "recordTells", unfollowed := true, recurses := true, apart := false }
def RecordTellsSaid : Prop := recordTellsRow.holds Try.pinned (OpenSpec.ofChange recordTellsSpec)

/-- ITS FALSE NEIGHBOUR: 'it returns false'. Refute it at one input. -/
def recordTellsWrong : ChangeSpec := { name := "recordTells", fn := fun _ => fun
  | [d1, d2] => { results := [.lit (.bool false)], args := [d1, d2] }
  | _ => none }
def RecordTellsWrongFalsely : Prop := recordTellsRow.holds Try.pinned (OpenSpec.ofChange recordTellsWrong)

/-- 'dormouselaw10.RecordNames': WHATEVER THE INPUT: true; the input reads as it did. -/
def recordNamesSpec : ChangeSpec := { name := "recordNames", fn := fun _ => fun
  | [d1, d2] => { results := [.lit (.bool true)], args := [d1, d2] }
  | _ => none }
def recordNamesRow : OpenClaim := { program := "ytkjncehcabhljaa", sum := "856b2f9f04f4eead9e62021951d46f152041918e8a9acb507e17889e54d292b8", func := "dormouse/dormouselaw10.RecordNames", spec := "recordNames", unfollowed := true, recurses := true, apart := false }
def RecordNamesSaid : Prop := recordNamesRow.holds Try.pinned (OpenSpec.ofChange recordNamesSpec)

/-- ITS FALSE NEIGHBOUR: 'it returns false'. Refute it at one input. -/
def recordNamesWrong : ChangeSpec := { name := "recordNames", fn := fun _ => fun
  | [d1, d2] => { results := [.lit (.bool false)], args := [d1, d2] }
  | _ => none }
def RecordNamesWrongFalsely : Prop := recordNamesRow.holds Try.pinned (OpenSpec.ofChange recordNamesWrong)

/-- 'dormouselaw10.RecordFits': WHATEVER THE INPUT: true; the input reads as it did. -/
def recordFitsSpec : ChangeSpec := { name := "recordFits", fn := fun _ => fun
  | [d1, d2] => { results := [.lit (.bool true)], args := [d1, d2] }
  | _ => none }
def recordFitsRow : OpenClaim := { program := "ytkjncehcabhljaa", sum := "856b2f9f04f4eead9e62021951d46f152041918e8a9acb507e17889e54d292b8", func := "dormouse/dormouselaw10.RecordFits", spec := "recordFits", unfollowed := true, recurses := true, apart := false }
def RecordFitsSaid : Prop := recordFitsRow.holds Try.pinned (OpenSpec.ofChange recordFitsSpec)

/-- ITS FALSE NEIGHBOUR: 'it returns false'. Refute it at one input. -/
def recordFitsWrong : ChangeSpec := { name := "recordFits", fn := fun _ => fun
  | [d1, d2] => { results := [.lit (.bool false)], args := [d1, d2] }
  | _ => none }
def RecordFitsWrongFalsely : Prop := recordFitsRow.holds Try.pinned (OpenSpec.ofChange recordFitsWrong)

/-- 'dormouselaw08.GreyPlays': WHATEVER THE INPUT: true; the input reads as it did. -/
def greyPlaysSpec : ChangeSpec := { name := "greyPlays", fn := fun _ => fun
  | [d] => { results := [.lit (.bool true)], args := [d] }
  | _ => none }
def greyPlaysRow : OpenClaim := { program := "ytkjncehcabhljaa", sum := "856b2f9f04f4eead9e62021951d46f152041918e8a9acb507e17889e54d292b8", func := "dormouse/dormouselaw08.GreyPlays", spec := "greyPlays", apart := false }
def GreyPlaysSaid : Prop := greyPlaysRow.holds Try.pinned (OpenSpec.ofChange greyPlaysSpec)

/-- ITS FALSE NEIGHBOUR: 'it returns false'. Refute it at one input. -/
def greyPlaysWrong : ChangeSpec := { name := "greyPlays", fn := fun _ => fun
  | [d] => { results := [.lit (.bool false)], args := [d] }
  | _ => none }
def GreyPlaysWrongFalsely : Prop := greyPlaysRow.holds Try.pinned (OpenSpec.ofChange greyPlaysWrong)

/-- 'dormouselaw08.GreyTurns': WHATEVER THE INPUT: true; the input reads as it did. -/
def greyTurnsSpec : ChangeSpec := { name := "greyTurns", fn := fun _ => fun
  | [d1, d2] => { results := [.lit (.bool true)], args := [d1, d2] }
  | _ => none }
def greyTurnsRow : OpenClaim := { program := "ytkjncehcabhljaa", sum := "856b2f9f04f4eead9e62021951d46f152041918e8a9acb507e17889e54d292b8", func := "dormouse/dormouselaw08.GreyTurns", spec := "greyTurns", apart := false }
def GreyTurnsSaid : Prop := greyTurnsRow.holds Try.pinned (OpenSpec.ofChange greyTurnsSpec)

/-- ITS FALSE NEIGHBOUR: 'it returns false'. Refute it at one input. -/
def greyTurnsWrong : ChangeSpec := { name := "greyTurns", fn := fun _ => fun
  | [d1, d2] => { results := [.lit (.bool false)], args := [d1, d2] }
  | _ => none }
def GreyTurnsWrongFalsely : Prop := greyTurnsRow.holds Try.pinned (OpenSpec.ofChange greyTurnsWrong)

/-- 'dormouselaw08.GreyOver': WHATEVER THE INPUT: true; the input reads as it did. -/
def greyOverSpec : ChangeSpec := { name := "greyOver", fn := fun _ => fun
  | [d1, d2] => { results := [.lit (.bool true)], args := [d1, d2] }
  | _ => none }
def greyOverRow : OpenClaim := { program := "ytkjncehcabhljaa", sum := "856b2f9f04f4eead9e62021951d46f152041918e8a9acb507e17889e54d292b8", func := "dormouse/dormouselaw08.GreyOver", spec := "greyOver", apart := false }
def GreyOverSaid : Prop := greyOverRow.holds Try.pinned (OpenSpec.ofChange greyOverSpec)

/-- ITS FALSE NEIGHBOUR: 'it returns false'. Refute it at one input. -/
def greyOverWrong : ChangeSpec := { name := "greyOver", fn := fun _ => fun
  | [d1, d2] => { results := [.lit (.bool false)], args := [d1, d2] }
  | _ => none }
def GreyOverWrongFalsely : Prop := greyOverRow.holds Try.pinned (OpenSpec.ofChange greyOverWrong)

/- THE SECOND FORM. 'bulk': how many values and letters a reading holds, each counted each time it is reached (what is shared counts as often as it is met; a slice's spare places count too). A statement '..UptoSaid' is the law's where the arguments, and the package variables that the reading takes, are together of bulk at most 1048576: NARROWER than '..Said'. Prove '..Said' where nothing that the law and all that it calls make is longer than what came in: it says more and counts as full. Else prove '..UptoSaid'. A law counts once. -/
mutual
def uptoBulk {H : Type} : DataW H → Nat
  | .lit (.string bytes) => bytes.length + 1
  | .lit _ => 1
  | .nil => 1
  | .ptr d => uptoBulk d + 1
  | .slice elems spare => uptoBulkAll elems + uptoBulkAll spare + 1
  | .agg parts => uptoBulkAll parts + 1
  | .iface _ d => uptoBulk d + 1
  | .map entries => uptoBulkEntries entries + 1
  | .held _ => 1
def uptoBulkAll {H : Type} : List (DataW H) → Nat
  | [] => 0
  | d :: r => uptoBulk d + uptoBulkAll r
def uptoBulkEntries {H : Type} : List (Lit × DataW H) → Nat
  | [] => 0
  | x :: r => uptoBulkEntry x + uptoBulkEntries r
def uptoBulkEntry {H : Type} : Lit × DataW H → Nat
  | (.string bytes, d) => bytes.length + uptoBulk d + 1
  | (_, d) => uptoBulk d + 1
 end
def uptoSmall : (H : Type) → List (DataW H) → Bool := fun _ ds => decide (uptoBulkAll ds ≤ 1048576)
def OpenSpec.upto (s : _root_.Go.ChangeSpec) : _root_.Go.OpenSpec := { _root_.Go.OpenSpec.ofChange s with cond := some uptoSmall }

/-- 'dormouselaw04.ValueTells', WHERE WHAT IT READS IS OF BULK AT MOST 1048576: true; the input reads as it did. -/
def valueTellsUptoRow : OpenClaim := { program := "ytkjncehcabhljaa", sum := "856b2f9f04f4eead9e62021951d46f152041918e8a9acb507e17889e54d292b8", func := "dormouse/dormouselaw04.ValueTells", spec := "valueTells", apart := false, narrowed := true }
def ValueTellsUptoSaid : Prop := valueTellsUptoRow.holds Try.pinned (OpenSpec.upto valueTellsSpec)

/-- 'dormouselaw04.ValueBack', WHERE WHAT IT READS IS OF BULK AT MOST 1048576: true; the input reads as it did. -/
def valueBackUptoRow : OpenClaim := { program := "ytkjncehcabhljaa", sum := "856b2f9f04f4eead9e62021951d46f152041918e8a9acb507e17889e54d292b8", func := "dormouse/dormouselaw04.ValueBack", spec := "valueBack", apart := false, narrowed := true }
def ValueBackUptoSaid : Prop := valueBackUptoRow.holds Try.pinned (OpenSpec.upto valueBackSpec)

/-- 'dormouselaw04.ValueParts', WHERE WHAT IT READS IS OF BULK AT MOST 1048576: true; the input reads as it did. -/
def valuePartsUptoRow : OpenClaim := { program := "ytkjncehcabhljaa", sum := "856b2f9f04f4eead9e62021951d46f152041918e8a9acb507e17889e54d292b8", func := "dormouse/dormouselaw04.ValueParts", spec := "valueParts", apart := false, narrowed := true }
def ValuePartsUptoSaid : Prop := valuePartsUptoRow.holds Try.pinned (OpenSpec.upto valuePartsSpec)

/-- 'dormouselaw05.ClassTells', WHERE WHAT IT READS IS OF BULK AT MOST 1048576: true; the input reads as it did. -/
def classTellsUptoRow : OpenClaim := { program := "ytkjncehcabhljaa", sum := "856b2f9f04f4eead9e62021951d46f152041918e8a9acb507e17889e54d292b8", func := "dormouse/dormouselaw05.ClassTells", spec := "classTells", apart := false, narrowed := true }
def ClassTellsUptoSaid : Prop := classTellsUptoRow.holds Try.pinned (OpenSpec.upto classTellsSpec)

/-- 'dormouselaw05.ClassFits', WHERE WHAT IT READS IS OF BULK AT MOST 1048576: true; the input reads as it did. -/
def classFitsUptoRow : OpenClaim := { program := "ytkjncehcabhljaa", sum := "856b2f9f04f4eead9e62021951d46f152041918e8a9acb507e17889e54d292b8", func := "dormouse/dormouselaw05.ClassFits", spec := "classFits", apart := false, narrowed := true }
def ClassFitsUptoSaid : Prop := classFitsUptoRow.holds Try.pinned (OpenSpec.upto classFitsSpec)

/-- 'dormouselaw05.ClassLeast', WHERE WHAT IT READS IS OF BULK AT MOST 1048576: true; the input reads as it did. -/
def classLeastUptoRow : OpenClaim := { program := "ytkjncehcabhljaa", sum := "856b2f9f04f4eead9e62021951d46f152041918e8a9acb507e17889e54d292b8", func := "dormouse/dormouselaw05.ClassLeast", spec := "classLeast", apart := false, narrowed := true }
def ClassLeastUptoSaid : Prop := classLeastUptoRow.holds Try.pinned (OpenSpec.upto classLeastSpec)

/-- 'dormouselaw10.RecordTells', WHERE WHAT IT READS IS OF BULK AT MOST 1048576: true; the input reads as it did. -/
def recordTellsUptoRow : OpenClaim := { program := "ytkjncehcabhljaa", sum := "856b2f9f04f4eead9e62021951d46f152041918e8a9acb507e17889e54d292b8", func := "dormouse/dormouselaw10.RecordTells", spec := "recordTells", unfollowed := true, recurses := true, apart := false, narrowed := true }
def RecordTellsUptoSaid : Prop := recordTellsUptoRow.holds Try.pinned (OpenSpec.upto recordTellsSpec)

/-- 'dormouselaw10.RecordNames', WHERE WHAT IT READS IS OF BULK AT MOST 1048576: true; the input reads as it did. -/
def recordNamesUptoRow : OpenClaim := { program := "ytkjncehcabhljaa", sum := "856b2f9f04f4eead9e62021951d46f152041918e8a9acb507e17889e54d292b8", func := "dormouse/dormouselaw10.RecordNames", spec := "recordNames", unfollowed := true, recurses := true, apart := false, narrowed := true }
def RecordNamesUptoSaid : Prop := recordNamesUptoRow.holds Try.pinned (OpenSpec.upto recordNamesSpec)

/-- 'dormouselaw10.RecordFits', WHERE WHAT IT READS IS OF BULK AT MOST 1048576: true; the input reads as it did. -/
def recordFitsUptoRow : OpenClaim := { program := "ytkjncehcabhljaa", sum := "856b2f9f04f4eead9e62021951d46f152041918e8a9acb507e17889e54d292b8", func := "dormouse/dormouselaw10.RecordFits", spec := "recordFits", unfollowed := true, recurses := true, apart := false, narrowed := true }
def RecordFitsUptoSaid : Prop := recordFitsUptoRow.holds Try.pinned (OpenSpec.upto recordFitsSpec)

/-- 'dormouselaw08.GreyPlays', WHERE WHAT IT READS IS OF BULK AT MOST 1048576: true; the input reads as it did. -/
def greyPlaysUptoRow : OpenClaim := { program := "ytkjncehcabhljaa", sum := "856b2f9f04f4eead9e62021951d46f152041918e8a9acb507e17889e54d292b8", func := "dormouse/dormouselaw08.GreyPlays", spec := "greyPlays", apart := false, narrowed := true }
def GreyPlaysUptoSaid : Prop := greyPlaysUptoRow.holds Try.pinned (OpenSpec.upto greyPlaysSpec)

/-- 'dormouselaw08.GreyTurns', WHERE WHAT IT READS IS OF BULK AT MOST 1048576: true; the input reads as it did. -/
def greyTurnsUptoRow : OpenClaim := { program := "ytkjncehcabhljaa", sum := "856b2f9f04f4eead9e62021951d46f152041918e8a9acb507e17889e54d292b8", func := "dormouse/dormouselaw08.GreyTurns", spec := "greyTurns", apart := false, narrowed := true }
def GreyTurnsUptoSaid : Prop := greyTurnsUptoRow.holds Try.pinned (OpenSpec.upto greyTurnsSpec)

/-- 'dormouselaw08.GreyOver', WHERE WHAT IT READS IS OF BULK AT MOST 1048576: true; the input reads as it did. -/
def greyOverUptoRow : OpenClaim := { program := "ytkjncehcabhljaa", sum := "856b2f9f04f4eead9e62021951d46f152041918e8a9acb507e17889e54d292b8", func := "dormouse/dormouselaw08.GreyOver", spec := "greyOver", apart := false, narrowed := true }
def GreyOverUptoSaid : Prop := greyOverUptoRow.holds Try.pinned (OpenSpec.upto greyOverSpec)

end Rows
end Go.Proofs.Ytkjncehcabhljaa
