/- RowOf -/
import Derived.WalkKit
import Derived.Laws.AppendOwn
namespace Go.Proofs.YtaojmbkmicjecaaGreat
open Go.RowKit
def Row (w:World) (v:Value) (xs:List Value):Prop :=
  xs.length≤maxLen∧∃ (p:Option Addr) (cap:Nat),v=.slice p xs.length cap∧(xs.length=0 ∨ ∃ b o,p=some ⟨b,o,none⟩∧∀ i u,xs[i]?=some u→w.cell? ⟨b,o+i,none⟩=some u)
theorem Row.nil (w:World):Row w (.slice none 0 0) []:=⟨by simp,none,0,rfl,.inl rfl⟩
theorem Row.below {B:Nat} {w w':World} {v:Value} {xs:List Value} (h:Row w v xs) (hb:Below B w w') (hv:∀ b,v.ownBlock=some b→b<B):Row w' v xs:=by
  obtain ⟨hl,p,cap,rfl,h⟩:=h
  refine ⟨hl,p,cap,rfl,h.imp id ?_⟩
  rintro ⟨b,o,rfl,hc⟩
  exact ⟨b,o,rfl,fun i u hu=>(hb.cell (p:=⟨b,o+i,none⟩) (hv b rfl)).trans (hc i u hu)⟩
end Go.Proofs.YtaojmbkmicjecaaGreat
