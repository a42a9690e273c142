/- SepLit Fast RowOf QuietAdd SameStr Arr8 -/
import Derived.Test.YtgejcjcpchofiaaGreatKMem
import Derived.Test.YtgejcjcpchofiaaGreatKPureArena
import Derived.Test.YtgejcjcpchofiaaGreatKPlain
import Derived.Test.YtgejcjcpchofiaaGreatKSpan5
import Derived.WalkKit
import Derived.Laws.AppendOwn
import Derived.Deep.QuietTactic
import Derived.Test.YtgejcjcpchofiaaGreatRows
import Derived.WalkSpells
import Derived.WalkLawsBesides
import Derived.BigQuiet
import Derived.Lib.Hide
namespace Go.Proofs.YtgejcjcpchofiaaGreat
open Go.RowKit
set_option linter.unusedVariables false
theorem St.lit {w0 w:World} {F0:List Nat} {ps:List Piece} (hs:St w0 F0 ps w) (L:List Int) (hl:L.length≤maxLen) :
    St w0 F0 (RowP (.slice (some ⟨w.heap.size,0,none⟩) L.length L.length) L::ps) (w.alloc (.cells (iV L).toArray 3)) :=
  hs.push (p:=RowP _ L) ((Below.refl _ _).alloc (Nat.le_refl _) _) ⟨_,⟨⟨by simp [iV],.inr ⟨w.heap.size,L.length,_,rfl,Nat.zero_le _,Blk.new _ _ _,Nat.le_refl _,hl,by simp [iV],by rw [List.take_of_length_le (by simp [iV])]⟩⟩,rfl⟩,by simp [Value.ownBlock]⟩
theorem St.lit3 {w0 w:World} {F0:List Nat} {ps:List Piece} (hs:St w0 F0 ps w) (x y z:Int) :
    St w0 F0 (RowP (.slice (some ⟨w.heap.size,0,none⟩) 3 3) [x,y,z]::ps) (w.alloc (.cells #[.int .i64 x,.int .i64 y,.int .i64 z] 3)):=hs.lit [x,y,z] (by unfold maxLen; simp)
end Go.Proofs.YtgejcjcpchofiaaGreat
namespace Go.Proofs.YtgejcjcpchofiaaGreat
set_option linter.unusedVariables false
set_option linter.unusedSimpArgs false
end Go.Proofs.YtgejcjcpchofiaaGreat
namespace Go.Proofs.YtgejcjcpchofiaaGreat
open Go.RowKit
def Row (w:World) (v:Value) (xs:List Value):Prop :=
  xs.length≤maxLen∧∃ (p:Option Addr) (cap:Nat),v=.slice p xs.length cap∧(xs.length=0 ∨ ∃ b o,p=some ⟨b,o,none⟩∧∀ i u,xs[i]?=some u→w.cell? ⟨b,o+i,none⟩=some u)
theorem Row.nil (w:World):Row w (.slice none 0 0) []:=⟨by simp,none,0,rfl,.inl rfl⟩
theorem Row.below {B:Nat} {w w':World} {v:Value} {xs:List Value} (h:Row w v xs) (hb:Below B w w') (hv:∀ b,v.ownBlock=some b→b<B):Row w' v xs:=by
  obtain ⟨hl,p,cap,rfl,h⟩:=h
  refine ⟨hl,p,cap,rfl,h.imp id ?_⟩
  rintro ⟨b,o,rfl,hc⟩
  exact ⟨b,o,rfl,fun i u hu=>(hb.cell (p:=⟨b,o+i,none⟩) (hv b rfl)).trans (hc i u hu)⟩
end Go.Proofs.YtgejcjcpchofiaaGreat
namespace Go.Proofs.YtgejcjcpchofiaaGreat
end Go.Proofs.YtgejcjcpchofiaaGreat
namespace Go.Proofs.YtgejcjcpchofiaaGreat
open Go.RowKit
end Go.Proofs.YtgejcjcpchofiaaGreat
namespace Go.Proofs.YtgejcjcpchofiaaGreat
open Go.RowKit
end Go.Proofs.YtgejcjcpchofiaaGreat
