/- SepLit RowOf -/
import Derived.Test.YtjdlnmbfomojdaaKMem
import Derived.WalkKit
import Derived.Laws.AppendOwn
namespace Go.Proofs.Ytjdlnmbfomojdaa
open Go.RowKit
set_option linter.unusedVariables false
theorem St.lit {w0 w:World} {F0:List Nat} {ps:List Piece} (hs:St w0 F0 ps w) (L:List Int) (hl:L.length≤maxLen) :
    St w0 F0 (RowP (.slice (some ⟨w.heap.size,0,none⟩) L.length L.length) L::ps) (w.alloc (.cells (iV L).toArray 3)) :=
  hs.push (p:=RowP _ L) ((Below.refl _ _).alloc (Nat.le_refl _) _) ⟨_,⟨⟨by simp [iV],.inr ⟨w.heap.size,L.length,_,rfl,Nat.zero_le _,Blk.new _ _ _,Nat.le_refl _,hl,by simp [iV],by rw [List.take_of_length_le (by simp [iV])]⟩⟩,rfl⟩,by simp [Value.ownBlock]⟩
theorem St.lit1 {w0 w:World} {F0:List Nat} {ps:List Piece} (hs:St w0 F0 ps w) (x:Int) :
    St w0 F0 (RowP (.slice (some ⟨w.heap.size,0,none⟩) 1 1) [x]::ps) (w.alloc (.cells #[.int .i64 x] 3)):=hs.lit [x] (by unfold maxLen; simp)
theorem St.lit3 {w0 w:World} {F0:List Nat} {ps:List Piece} (hs:St w0 F0 ps w) (x y z:Int) :
    St w0 F0 (RowP (.slice (some ⟨w.heap.size,0,none⟩) 3 3) [x,y,z]::ps) (w.alloc (.cells #[.int .i64 x,.int .i64 y,.int .i64 z] 3)):=hs.lit [x,y,z] (by unfold maxLen; simp)
end Go.Proofs.Ytjdlnmbfomojdaa
namespace Go.Proofs.Ytjdlnmbfomojdaa
open Go.RowKit
def Row (w:World) (v:Value) (xs:List Value):Prop :=
  xs.length≤maxLen∧∃ (p:Option Addr) (cap:Nat),v=.slice p xs.length cap∧(xs.length=0 ∨ ∃ b o,p=some ⟨b,o,none⟩∧∀ i u,xs[i]?=some u→w.cell? ⟨b,o+i,none⟩=some u)
theorem Row.nil (w:World):Row w (.slice none 0 0) []:=⟨by simp,none,0,rfl,.inl rfl⟩
theorem Row.below {B:Nat} {w w':World} {v:Value} {xs:List Value} (h:Row w v xs) (hb:Below B w w') (hv:∀ b,v.ownBlock=some b→b<B):Row w' v xs:=by
  obtain ⟨hl,p,cap,rfl,h⟩:=h
  refine ⟨hl,p,cap,rfl,h.imp id ?_⟩
  rintro ⟨b,o,rfl,hc⟩
  exact ⟨b,o,rfl,fun i u hu=>(hb.cell (p:=⟨b,o+i,none⟩) (hv b rfl)).trans (hc i u hu)⟩
theorem Row.of_own {w:World} {B e:Nat} {v:Value} {n:Nat} {xs:List Value} (h:w.ownsRow B e 1 v n xs):Row w v xs:=by
  have hc:=@World.ownsRow.cells w B e 1 v n xs h
  obtain ⟨hl,⟨rfl,rfl⟩ | ⟨g,cap,cur,rfl,hB,hg,hn,hm,hs,ht⟩⟩:=h
  · have:xs=[]:=List.eq_nil_of_length_eq_zero (by simpa using hl)
    subst this; exact Row.nil w
  · have e1:xs.length=n:=by simpa using hl
    refine ⟨by omega,some ⟨g,0,none⟩,cap,by rw [e1],.inr ⟨g,0,rfl,fun i u hu=>?_⟩⟩
    have:=hc rfl i u hu
    by_cases h0:i=0
    · subst h0; simpa [Addr.add] using this
    · simpa [Addr.add,h0] using this
end Go.Proofs.Ytjdlnmbfomojdaa
