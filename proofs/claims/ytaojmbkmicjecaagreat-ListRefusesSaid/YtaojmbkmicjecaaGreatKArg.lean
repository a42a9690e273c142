/- Arg -/
import Derived.Test.YtaojmbkmicjecaaGreatKPlain
import Derived.WalkKit
import Derived.ProofKit
import Derived.OpenShut
namespace Go.Proofs.YtaojmbkmicjecaaGreat
open Go.RowKit Go.ChangeShapes Go.WideShapes Go.ChangeAt
def ArgInts (w:World) (v:Value) (xs:List Int):Prop :=
  (∀ x ∈ xs,Wd x)∧xs.length≤maxLen∧∃ (p:Option Addr) (cap:Nat),v=.slice p xs.length cap ∧
    (xs.length=0 ∨ ∃ b o,p=some ⟨b,o,none⟩∧b<w.heap.size∧∀ i (h:i<xs.length),w.cell? ⟨b,o+i,none⟩=some (.int .i64 (xs[i]'h)))
theorem ArgInts.below {w w':World} {v:Value} {xs:List Int} (h:ArgInts w v xs) (hb:Below w.heap.size w w'):ArgInts w' v xs:=by
  obtain ⟨h1,h2,p,cap,rfl,h3⟩:=h
  refine ⟨h1,h2,p,cap,rfl,h3.imp id ?_⟩
  rintro ⟨b,o,rfl,hlt,hc⟩
  exact ⟨b,o,rfl,Nat.lt_of_lt_of_le hlt hb.size,fun i hi=>(hb.cell (p:=⟨b,o+i,none⟩) hlt).trans (hc i hi)⟩
end Go.Proofs.YtaojmbkmicjecaaGreat
