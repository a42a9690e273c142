/- SameStr -/
import Derived.Test.YtalfiikfaodcmaaKPlain
import Derived.Test.YtalfiikfaodcmaaKRowOf
import Derived.Test.YtalfiikfaodcmaaKQuietAdd
import Derived.Test.YtalfiikfaodcmaaRows
import Derived.WalkKit
import Derived.WalkSpells
import Derived.WalkLawsBesides
import Derived.Deep.QuietTactic
import Derived.BigQuiet
import Derived.Lib.Hide
namespace Go.Proofs.Ytalfiikfaodcmaa
open Go.RowKit
theorem bytes_beq (a b:ByteArray):(a.toList == b.toList)=decide (a=b):=by
  by_cases h:a=b
  · subst h; simp
  · have:a.toList≠b.toList:=fun e=>h (by
      rw [ByteArray.toList_eq,ByteArray.toList_eq] at e
      exact ByteArray.ext (Array.toList_inj.mp e))
    simp [h,this]
end Go.Proofs.Ytalfiikfaodcmaa
