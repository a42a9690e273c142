/- SameStr -/
import Derived.Test.YtjdlnmbfomojdaaKPlain
import Derived.Test.YtjdlnmbfomojdaaKRowOf
import Derived.Test.YtjdlnmbfomojdaaKQuietAdd
import Derived.Test.YtjdlnmbfomojdaaRows
import Derived.WalkKit
import Derived.WalkSpells
import Derived.WalkLawsBesides
import Derived.Deep.QuietTactic
import Derived.BigQuiet
import Derived.Lib.Hide
namespace Go.Proofs.Ytjdlnmbfomojdaa
open Go.RowKit
theorem bytes_beq (a b:ByteArray):(a.toList == b.toList)=decide (a=b):=by
  by_cases h:a=b
  · subst h; simp
  · have:a.toList≠b.toList:=fun e=>h (by
      rw [ByteArray.toList_eq,ByteArray.toList_eq] at e
      exact ByteArray.ext (Array.toList_inj.mp e))
    simp [h,this]
end Go.Proofs.Ytjdlnmbfomojdaa
