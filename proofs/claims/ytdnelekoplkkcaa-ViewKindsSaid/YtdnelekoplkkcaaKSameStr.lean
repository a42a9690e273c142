/- SameStr -/
import Derived.Test.YtdnelekoplkkcaaKPlain
import Derived.Test.YtdnelekoplkkcaaKRowOf
import Derived.Test.YtdnelekoplkkcaaKQuietAdd
import Derived.Test.YtdnelekoplkkcaaRows
import Derived.WalkKit
import Derived.WalkSpells
import Derived.WalkLawsBesides
import Derived.Deep.QuietTactic
import Derived.BigQuiet
import Derived.Lib.Hide
/- Two lists of strings held against each other. -/
namespace Go.Proofs.Ytdnelekoplkkcaa
open Go.RowKit

theorem bytes_beq (a b : ByteArray) : (a.toList == b.toList) = decide (a = b) := by
  by_cases h : a = b
  · subst h; simp
  · have : a.toList ≠ b.toList := fun e => h (by
      rw [ByteArray.toList_eq, ByteArray.toList_eq] at e
      exact ByteArray.ext (Array.toList_inj.mp e))
    simp [h, this]

end Go.Proofs.Ytdnelekoplkkcaa
