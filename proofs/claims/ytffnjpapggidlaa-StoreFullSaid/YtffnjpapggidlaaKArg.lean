/- Arg ArgOps -/
import Derived.Test.YtffnjpapggidlaaKPlain
import Derived.WalkKit
import Derived.ProofKit
import Derived.OpenShut
import Derived.Deep.Slices
import Derived.Deep.Fields
import Derived.ChangeSame
namespace Go.Proofs.Ytffnjpapggidlaa
open Go.RowKit Go.ChangeShapes Go.WideShapes Go.ChangeAt
def IsRow (k:IntKind) (w:World) (a:Option Addr) (len cap:Nat) (zs:List Int):Prop :=
  (a=none∧len=0∧cap=0∧zs=[]) ∨
  ∃ x,a=some x∧len≤cap∧cap≤maxLen∧zs.length=cap∧(∀ i,i<zs.length→w.cell? (x.add i)=some (.int k (zs.getD i 0)))∧∀ n ∈ zs,(Lit.int k n).wf=true
def ArgInts (w:World) (v:Value) (xs:List Int):Prop :=
  (∀ x ∈ xs,Wd x)∧xs.length≤maxLen∧∃ (p:Option Addr) (cap:Nat),v=.slice p xs.length cap ∧
    (xs.length=0 ∨ ∃ b o,p=some ⟨b,o,none⟩∧b<w.heap.size∧∀ i (h:i<xs.length),w.cell? ⟨b,o+i,none⟩=some (.int .i64 (xs[i]'h)))
theorem cell_lt {w:World} {a:Addr} {v:Value} (h:w.cell? a=some v):a.block<w.heap.size:=by
  unfold World.cell? at h
  split at h
  · rename_i hb; exact (Array.getElem?_eq_some_iff.1 hb).1
  · cases h
theorem argInts_of {w:World} {a:Option Addr} {len cap:Nat} {zs:List Int} (h:IsRow .i64 w a len cap zs):ArgInts w (.slice a len cap) (zs.take len):=by
  rcases h with ⟨rfl,rfl,rfl,rfl⟩ | ⟨x,rfl,hl,hm,hz,hc,hw⟩
  · exact ⟨by simp,by simp,none,0,rfl,.inl rfl⟩
  · have e:(zs.take len).length=len:=by simp; omega
    refine ⟨fun y hy=>wd_of_wf (hw y (List.mem_of_mem_take hy)),by rw [e]; omega,some x,cap,by rw [e],?_⟩
    by_cases h0:len=0
    · left; rw [e]; exact h0
    · right
      obtain ⟨b,o,rfl,hcell⟩:=ints_at hc (by omega)
      refine ⟨b,o,rfl,?_,fun i hi=>?_⟩
      · have:=hcell 0 (by omega); exact cell_lt this
      · rw [e] at hi
        have:=hcell i (by omega)
        rw [this]
        congr 2
        rw [List.getElem_take,List.getD_eq_getElem?_getD,List.getElem?_eq_getElem (by omega)]; rfl
theorem ArgInts.below {w w':World} {v:Value} {xs:List Int} (h:ArgInts w v xs) (hb:Below w.heap.size w w'):ArgInts w' v xs:=by
  obtain ⟨h1,h2,p,cap,rfl,h3⟩:=h
  refine ⟨h1,h2,p,cap,rfl,h3.imp id ?_⟩
  rintro ⟨b,o,rfl,hlt,hc⟩
  exact ⟨b,o,rfl,Nat.lt_of_lt_of_le hlt hb.size,fun i hi=>(hb.cell (p:=⟨b,o+i,none⟩) hlt).trans (hc i hi)⟩
end Go.Proofs.Ytffnjpapggidlaa
namespace Go.Proofs.Ytffnjpapggidlaa
open Go.RowKit Go.ChangeShapes Go.WideShapes Go.Deep
def numAt (w:World) (a:Addr):Int:=match w.cell? a with
  | some (.int .i64 n)=>n
  | _=>0
def ArgOps (w:World) (v:Value) (k len:Nat) (f:Nat→Nat→Int):Prop :=
  len≤maxLen∧∃ (p:Option Addr) (cap:Nat),v=.slice p len cap ∧
    (len=0 ∨ ∃ b o,p=some ⟨b,o,none⟩∧b<w.heap.size∧∀ i j,i<len→j<k→w.cell? ⟨b,o+(i * k+j),none⟩=some (.int .i64 (f i j))∧Wd (f i j))
theorem ops_open {H:Type} {enc:TypeId×Value→H} {P:Program} {w:World} {base:Nat} {t e:TypeId} {fs:Array Field} {fuel:Nat} {a:Option Addr} {len cap:Nat} {x:DataW H×List MemPlace}
    (ht:P.underlying t=some (.slice e)) (he:P.underlying e=some (.struct fs)) (hone:oneCellFields P fs=true) (hC:P.cellsOf e=fs.size)
    (hint:∀ (j:Nat) (f:Field),fs[j]?=some f→P.underlying f.type=some (.int .i64)) (hk:0<fs.size)
    (h:DataW.trod enc P w base (fun _=>true) true fuel t (Value.slice a len cap).cells.toList=some x):∃ f,ArgOps w (.slice a len cap) fs.size len f:=by
  have hcs:(Value.slice a len cap).cells.toList=[.slice a len cap]:=by simp [Value.cells]
  rw [hcs] at h
  rcases open_slice ht h with ⟨h0,_⟩ | ⟨a',len',cap',m,n,D,Pl,hv,hb,hl,hm,hmm,hx,hi⟩
  · simp at h0
    obtain ⟨rfl,rfl,rfl⟩:=h0
    exact ⟨fun _ _=>0,by simp,none,0,rfl,.inl rfl⟩
  · simp at hv
    obtain ⟨rfl,rfl,rfl⟩:=hv
    rw [if_pos rfl] at hmm
    subst hmm
    have cells:∀ i,i<len→∀ j,j<fs.size→∃ q,w.cell? (a'.add (i * fs.size+j))=some (.int .i64 q)∧Wd q:=by
      intro i hil j hj
      obtain ⟨cs',hc,ht'⟩:=hi i (by omega)
      rw [hC] at hc
      obtain ⟨ys,n',hn',hy,hlen,hyl,hf⟩:=DataW.trod_struct he ht'
      obtain ⟨_,hcl,hat⟩:=World.cells?_some hc
      have hfj:fs[j]?=some fs[j]:=by simp [hj]
      obtain ⟨ho,hk1⟩:=hone_of hone j fs[j] hfj
      have hcell:=hat j hj
      have h1:=hf j fs[j] hfj
      rw [ho,hk1] at h1
      have hone':(cs'.drop j).take 1=[cs'[j]'(by omega)]:=by rw [List.drop_eq_getElem_cons (by omega)]; rfl
      rw [hone'] at h1
      have hys:ys[j]?=some (ys[j]'(by omega)):=List.getElem?_eq_getElem (by omega)
      rw [hys] at h1
      obtain ⟨q,hq,_,hwf⟩:=DataW.trod_int (hint j _ hfj) h1
      simp at hq
      refine ⟨q,?_,wd_of_wf hwf⟩
      rw [← Go.Deep.add_add,hcell,List.getElem?_eq_getElem (by omega),hq]
    refine ⟨fun i j=>numAt w (a'.add (i * fs.size+j)),by omega,some a',_,rfl,?_⟩
    by_cases h0:len=0
    · exact .inl h0
    · right
      obtain ⟨b,o,s⟩:=a'
      have hs:s=none:=by
        obtain ⟨q,hq,_⟩:=cells 0 (by omega) 0 hk
        simpa [Addr.add] using World.cell?_spot hq
      subst hs
      have hadd:∀ k,(⟨b,o,none⟩:Addr).add k=⟨b,o+k,none⟩:=fun k=>Go.WideShapes.add_plain b o k
      refine ⟨b,o,rfl,?_,fun i j hi' hj=>?_⟩
      · obtain ⟨q,hq,_⟩:=cells 0 (by omega) 0 hk
        have:=cell_lt hq
        rw [hadd] at this
        exact this
      · obtain ⟨q,hq,hw⟩:=cells i hi' j hj
        rw [hadd] at hq
        have e:numAt w ((⟨b,o,none⟩:Addr).add (i * fs.size+j))=q:=by rw [hadd]; unfold numAt; rw [hq]
        simp only [e]
        exact ⟨hq,hw⟩
theorem ArgOps.below {w w':World} {v:Value} {k len:Nat} {f:Nat→Nat→Int} (h:ArgOps w v k len f) (hb:Below w.heap.size w w'):ArgOps w' v k len f:=by
  obtain ⟨h2,p,cap,rfl,h3⟩:=h
  refine ⟨h2,p,cap,rfl,h3.imp id ?_⟩
  rintro ⟨b,o,rfl,hlt,hc⟩
  exact ⟨b,o,rfl,Nat.lt_of_lt_of_le hlt hb.size,fun i j hi hj=>⟨(hb.cell (p:=⟨b,o+(i * k+j),none⟩) hlt).trans (hc i j hi hj).1,(hc i j hi hj).2⟩⟩
end Go.Proofs.Ytffnjpapggidlaa
