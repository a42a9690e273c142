/- ArgS -/
import Derived.Test.YtffnjpapggidlaaKArg
import Derived.Deep.Fields
import Derived.ChangeSame
namespace Go.Proofs.Ytffnjpapggidlaa
open Go.RowKit Go.ChangeShapes Go.WideShapes Go.Deep
theorem list_cons {α:Type} {L:List α} {n:Nat} (h:L.length=n+1):∃ x M,L=x::M∧M.length=n:=by
  match L,h with
  | x::M,h=>exact ⟨x,M,rfl,by simpa using h⟩
def numIn (cs:Array Value) (j:Nat):Int:=match cs[j]? with
  | some (.int .i64 q)=>q
  | _=>0
theorem agg_ints {H:Type} {enc:TypeId×Value→H} {P:Program} {w:World} {base b0:Nat} {r:Reach} {t:TypeId} {fs:Array Field} {v:Value} {d:DataW H} {p:List MemPlace}
    (hs:P.underlying t=some (.struct fs)) (hone:oneCellFields P fs=true) (hC:P.cellsOf t=fs.size)
    (hint:∀ (j:Nat) (f:Field),fs[j]?=some f→P.underlying f.type=some (.int .i64))
    (hv:Value.okWide P w r b0 t v) (h:DataW.Trod enc P w base (fun _=>true) true t v d p):∃ L:List Int,L.length=fs.size∧v=.agg (L.map (Value.int .i64)).toArray∧∀ x ∈ L,Wd x:=by
  obtain ⟨cs,rfl,hsz⟩:=okWide_struct hs hv
  obtain ⟨fuel,hf⟩:=h
  obtain ⟨ys,n',hn',hy,hlen,hyl,hf⟩:=DataW.trod_struct hs hf
  have cell:∀ j (hj:j<fs.size),∃ q,cs[j]?=some (.int .i64 q)∧Wd q:=by
    intro j hj
    have hjc:j<cs.size:=by rw [hsz,hC]; exact hj
    have hfj:fs[j]?=some fs[j]:=by simp [hj]
    obtain ⟨ho,hk1⟩:=hone_of hone j fs[j] hfj
    have h1:=hf j fs[j] hfj
    rw [ho,hk1] at h1
    have hcc:(Value.agg cs).cells.toList=cs.toList:=rfl
    have hone':((Value.agg cs).cells.toList.drop j).take 1=[cs[j]]:=by
      rw [hcc,List.drop_eq_getElem_cons (by simpa using hjc)]; simp
    rw [hone'] at h1
    have hys:ys[j]?=some (ys[j]'(by omega)):=List.getElem?_eq_getElem (by omega)
    rw [hys] at h1
    obtain ⟨q,hq,_,hwf⟩:=DataW.trod_int (hint j _ hfj) h1
    simp at hq
    exact ⟨q,by rw [Array.getElem?_eq_getElem hjc,hq],wd_of_wf hwf⟩
  refine ⟨(List.range fs.size).map (numIn cs),by simp,?_,?_⟩
  · congr 1
    apply Array.ext'
    apply List.ext_getElem?
    intro j
    by_cases hj:j<fs.size
    · obtain ⟨q,hq,_⟩:=cell j hj
      have e:numIn cs j=q:=by unfold numIn; rw [hq]
      rw [Array.getElem?_toList,hq]
      simp [hj,e]
    · rw [List.getElem?_eq_none (by simp; rw [hsz,hC]; omega),List.getElem?_eq_none (by simp; omega)]
  · intro x hx
    simp only [List.mem_map,List.mem_range] at hx
    obtain ⟨j,hj,rfl⟩:=hx
    obtain ⟨q,hq,hw⟩:=cell j hj
    have e:numIn cs j=q:=by unfold numIn; rw [hq]
    rw [e]; exact hw
end Go.Proofs.Ytffnjpapggidlaa
