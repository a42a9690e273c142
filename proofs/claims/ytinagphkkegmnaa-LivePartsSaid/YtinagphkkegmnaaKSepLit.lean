/- SepLit -/
import Derived.Test.YtinagphkkegmnaaKMem
namespace Go.Proofs.Ytinagphkkegmnaa
open Go.RowKit
set_option linter.unusedVariables false
theorem St.lit {w0 w:World} {F0:List Nat} {ps:List Piece} (hs:St w0 F0 ps w) (L:List Int) (hl:L.length≤maxLen) :
    St w0 F0 (RowP (.slice (some ⟨w.heap.size,0,none⟩) L.length L.length) L::ps) (w.alloc (.cells (iV L).toArray 3)) :=
  hs.push (p:=RowP _ L) ((Below.refl _ _).alloc (Nat.le_refl _) _) ⟨_,⟨⟨by simp [iV],.inr ⟨w.heap.size,L.length,_,rfl,Nat.zero_le _,Blk.new _ _ _,Nat.le_refl _,hl,by simp [iV],by rw [List.take_of_length_le (by simp [iV])]⟩⟩,rfl⟩,by simp [Value.ownBlock]⟩
theorem St.lit1 {w0 w:World} {F0:List Nat} {ps:List Piece} (hs:St w0 F0 ps w) (x:Int) :
    St w0 F0 (RowP (.slice (some ⟨w.heap.size,0,none⟩) 1 1) [x]::ps) (w.alloc (.cells #[.int .i64 x] 3)):=hs.lit [x] (by unfold maxLen; simp)
theorem St.lit3 {w0 w:World} {F0:List Nat} {ps:List Piece} (hs:St w0 F0 ps w) (x y z:Int) :
    St w0 F0 (RowP (.slice (some ⟨w.heap.size,0,none⟩) 3 3) [x,y,z]::ps) (w.alloc (.cells #[.int .i64 x,.int .i64 y,.int .i64 z] 3)):=hs.lit [x,y,z] (by unfold maxLen; simp)
end Go.Proofs.Ytinagphkkegmnaa
