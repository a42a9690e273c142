/- SameStr NilP -/
import Derived.Test.YtinagphkkegmnaaKPlain
import Derived.Test.YtinagphkkegmnaaKRowOf
import Derived.Test.YtinagphkkegmnaaKQuietAdd
import Derived.Test.YtinagphkkegmnaaKNilHeap
import Derived.Test.YtinagphkkegmnaaKPrim
import Derived.Test.YtinagphkkegmnaaRows
import Derived.WalkKit
import Derived.WalkSpells
import Derived.WalkLawsBesides
import Derived.Deep.QuietTactic
import Derived.BigQuiet
import Derived.Lib.Hide
namespace Go.Proofs.Ytinagphkkegmnaa
open Go.RowKit
theorem bytes_beq (a b:ByteArray):(a.toList == b.toList)=decide (a=b):=by
  by_cases h:a=b
  · subst h; simp
  · have:a.toList≠b.toList:=fun e=>h (by
      rw [ByteArray.toList_eq,ByteArray.toList_eq] at e
      exact ByteArray.ext (Array.toList_inj.mp e))
    simp [h,this]
end Go.Proofs.Ytinagphkkegmnaa
namespace Go.Proofs.Ytinagphkkegmnaa
open Go.RowKit
set_option linter.unusedVariables false
section
variable {w0 w:World} {F0:List Nat} {ps:List Piece}
theorem p_ArenaN (hs:St w0 F0 ps w):Calls Try.prog 55 #[.pointer none] w fun e w'=>e=.returned (.pointer none)∧St w0 F0 ps w' :=
  (heap_Arena_nil w).mono fun e w' ⟨he,hw⟩=>⟨he,hw ▸ hs⟩
theorem p_KindN {a:Int} (hs:St w0 F0 ps w):Calls Try.prog 21 #[.pointer none,.int .i64 a] w fun e w'=>e=.returned (.int .i64 0)∧St w0 F0 ps w' :=
  (arena_Kind_nil a w).mono fun e w' ⟨he,hw⟩=>⟨he,hs.below hw⟩
theorem p_ObjectsN (hs:St w0 F0 ps w):Calls Try.prog 17 #[.pointer none] w fun e w'=>e=.returned (.slice none 0 0)∧St w0 F0 ps w' :=
  (arena_Objects_nil w).mono fun e w' ⟨he,hw⟩=>⟨he,hw ▸ hs⟩
end
end Go.Proofs.Ytinagphkkegmnaa
