/- Arg -/
import Derived.Test.YtmhciohocgeepaaKPlain
import Derived.WalkKit
import Derived.ProofKit
import Derived.OpenShut
namespace Go.Proofs.Ytmhciohocgeepaa
open Go.RowKit Go.ChangeShapes Go.WideShapes Go.ChangeAt
def IsRow (k:IntKind) (w:World) (a:Option Addr) (len cap:Nat) (zs:List Int):Prop :=
  (a=none∧len=0∧cap=0∧zs=[]) ∨
  ∃ x,a=some x∧len≤cap∧cap≤maxLen∧zs.length=cap∧(∀ i,i<zs.length→w.cell? (x.add i)=some (.int k (zs.getD i 0)))∧∀ n ∈ zs,(Lit.int k n).wf=true
def ArgInts (w:World) (v:Value) (xs:List Int):Prop :=
  (∀ x ∈ xs,Wd x)∧xs.length≤maxLen∧∃ (p:Option Addr) (cap:Nat),v=.slice p xs.length cap ∧
    (xs.length=0 ∨ ∃ b o,p=some ⟨b,o,none⟩∧b<w.heap.size∧∀ i (h:i<xs.length),w.cell? ⟨b,o+i,none⟩=some (.int .i64 (xs[i]'h)))
theorem cell_lt {w:World} {a:Addr} {v:Value} (h:w.cell? a=some v):a.block<w.heap.size:=by
  unfold World.cell? at h
  split at h
  · rename_i hb; exact (Array.getElem?_eq_some_iff.1 hb).1
  · cases h
theorem argInts_of {w:World} {a:Option Addr} {len cap:Nat} {zs:List Int} (h:IsRow .i64 w a len cap zs):ArgInts w (.slice a len cap) (zs.take len):=by
  rcases h with ⟨rfl,rfl,rfl,rfl⟩ | ⟨x,rfl,hl,hm,hz,hc,hw⟩
  · exact ⟨by simp,by simp,none,0,rfl,.inl rfl⟩
  · have e:(zs.take len).length=len:=by simp; omega
    refine ⟨fun y hy=>wd_of_wf (hw y (List.mem_of_mem_take hy)),by rw [e]; omega,some x,cap,by rw [e],?_⟩
    by_cases h0:len=0
    · left; rw [e]; exact h0
    · right
      obtain ⟨b,o,rfl,hcell⟩:=ints_at hc (by omega)
      refine ⟨b,o,rfl,?_,fun i hi=>?_⟩
      · have:=hcell 0 (by omega); exact cell_lt this
      · rw [e] at hi
        have:=hcell i (by omega)
        rw [this]
        congr 2
        rw [List.getElem_take,List.getD_eq_getElem?_getD,List.getElem?_eq_getElem (by omega)]; rfl
theorem ArgInts.below {w w':World} {v:Value} {xs:List Int} (h:ArgInts w v xs) (hb:Below w.heap.size w w'):ArgInts w' v xs:=by
  obtain ⟨h1,h2,p,cap,rfl,h3⟩:=h
  refine ⟨h1,h2,p,cap,rfl,h3.imp id ?_⟩
  rintro ⟨b,o,rfl,hlt,hc⟩
  exact ⟨b,o,rfl,Nat.lt_of_lt_of_le hlt hb.size,fun i hi=>(hb.cell (p:=⟨b,o+i,none⟩) hlt).trans (hc i hi)⟩
end Go.Proofs.Ytmhciohocgeepaa
