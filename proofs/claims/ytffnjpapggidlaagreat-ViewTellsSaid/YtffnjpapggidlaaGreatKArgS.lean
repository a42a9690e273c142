/- ArgS ArgS2 -/
import Derived.Test.YtffnjpapggidlaaGreatKPure5
import Derived.Deep.Fields
import Derived.ChangeSame
import Derived.OpenShut
namespace Go.Proofs.YtffnjpapggidlaaGreat
open Go.RowKit Go.ChangeShapes Go.WideShapes Go.Deep
theorem list_cons {α:Type} {L:List α} {n:Nat} (h:L.length=n+1):∃ x M,L=x::M∧M.length=n:=by
  match L,h with
  | x::M,h=>exact ⟨x,M,rfl,by simpa using h⟩
def numIn (cs:Array Value) (j:Nat):Int:=match cs[j]? with
  | some (.int .i64 q)=>q
  | _=>0
theorem agg_ints {H:Type} {enc:TypeId×Value→H} {P:Program} {w:World} {base b0:Nat} {r:Reach} {t:TypeId} {fs:Array Field} {v:Value} {d:DataW H} {p:List MemPlace}
    (hs:P.underlying t=some (.struct fs)) (hone:oneCellFields P fs=true) (hC:P.cellsOf t=fs.size)
    (hint:∀ (j:Nat) (f:Field),fs[j]?=some f→P.underlying f.type=some (.int .i64))
    (hv:Value.okWide P w r b0 t v) (h:DataW.Trod enc P w base (fun _=>true) true t v d p):∃ L:List Int,L.length=fs.size∧v=.agg (L.map (Value.int .i64)).toArray∧∀ x ∈ L,Wd x:=by
  obtain ⟨cs,rfl,hsz⟩:=okWide_struct hs hv
  obtain ⟨fuel,hf⟩:=h
  obtain ⟨ys,n',hn',hy,hlen,hyl,hf⟩:=DataW.trod_struct hs hf
  have cell:∀ j (hj:j<fs.size),∃ q,cs[j]?=some (.int .i64 q)∧Wd q:=by
    intro j hj
    have hjc:j<cs.size:=by rw [hsz,hC]; exact hj
    have hfj:fs[j]?=some fs[j]:=by simp [hj]
    obtain ⟨ho,hk1⟩:=hone_of hone j fs[j] hfj
    have h1:=hf j fs[j] hfj
    rw [ho,hk1] at h1
    have hcc:(Value.agg cs).cells.toList=cs.toList:=rfl
    have hone':((Value.agg cs).cells.toList.drop j).take 1=[cs[j]]:=by
      rw [hcc,List.drop_eq_getElem_cons (by simpa using hjc)]; simp
    rw [hone'] at h1
    have hys:ys[j]?=some (ys[j]'(by omega)):=List.getElem?_eq_getElem (by omega)
    rw [hys] at h1
    obtain ⟨q,hq,_,hwf⟩:=DataW.trod_int (hint j _ hfj) h1
    simp at hq
    exact ⟨q,by rw [Array.getElem?_eq_getElem hjc,hq],wd_of_wf hwf⟩
  refine ⟨(List.range fs.size).map (numIn cs),by simp,?_,?_⟩
  · congr 1
    apply Array.ext'
    apply List.ext_getElem?
    intro j
    by_cases hj:j<fs.size
    · obtain ⟨q,hq,_⟩:=cell j hj
      have e:numIn cs j=q:=by unfold numIn; rw [hq]
      rw [Array.getElem?_toList,hq]
      simp [hj,e]
    · rw [List.getElem?_eq_none (by simp; rw [hsz,hC]; omega),List.getElem?_eq_none (by simp; omega)]
  · intro x hx
    simp only [List.mem_map,List.mem_range] at hx
    obtain ⟨j,hj,rfl⟩:=hx
    obtain ⟨q,hq,hw⟩:=cell j hj
    have e:numIn cs j=q:=by unfold numIn; rw [hq]
    rw [e]; exact hw
end Go.Proofs.YtffnjpapggidlaaGreat
namespace Go.Proofs.YtffnjpapggidlaaGreat
open Go.RowKit Go.ChangeShapes Go.WideShapes Go.Deep
def intsT (P:Program) (t:TypeId):Bool:=match P.underlying t with
  | some (.int .i64)=>P.cellsOf t == 1
  | some (.array n e)=>(match P.underlying e with | some (.int .i64)=>true | _=>false) && P.cellsOf e == 1 && P.cellsOf t == n
  | _=>false
theorem ints_field {H:Type} {enc:TypeId×Value→H} {P:Program} {w:World} {base fuel:Nat} {t:TypeId} {cs:List Value} {x:DataW H×List MemPlace} (ht:intsT P t=true) (hl:cs.length=P.cellsOf t)
    (h:DataW.trod enc P w base (fun _=>true) true fuel t cs=some x):∀ (k:Nat) (hk:k<cs.length),∃ q,cs[k]=.int .i64 q∧Wd q:=by
  unfold intsT at ht
  intro k hk
  split at ht
  · rename_i hu
    obtain ⟨q,hq,_,hwf⟩:=DataW.trod_int hu h
    subst hq
    have:k=0:=by simp at hk; omega
    subst this
    exact ⟨q,rfl,wd_of_wf hwf⟩
  · rename_i n e hu
    simp only [Bool.and_eq_true,beq_iff_eq] at ht
    obtain ⟨⟨he,hce⟩,hct⟩:=ht
    have heu:P.underlying e=some (.int .i64):=by split at he <;> first | assumption | cases he
    obtain ⟨ys,m,_,_,_,hyl,hf⟩:=DataW.trod_array hu h
    have hkn:k<n:=by omega
    have h1:=hf k hkn
    rw [hce,Nat.mul_one] at h1
    have hone:(cs.drop k).take 1=[cs[k]]:=by rw [List.drop_eq_getElem_cons hk]; rfl
    rw [hone,List.getElem?_eq_getElem (by omega)] at h1
    obtain ⟨q,hq,_,hwf⟩:=DataW.trod_int heu h1
    simp at hq
    exact ⟨q,hq,wd_of_wf hwf⟩
  · cases ht
theorem agg_ints2 {H:Type} {enc:TypeId×Value→H} {P:Program} {w:World} {base b0:Nat} {r:Reach} {t:TypeId} {fs:Array Field} {v:Value} {d:DataW H} {p:List MemPlace}
    (hs:P.underlying t=some (.struct fs)) (hall:fs.all (fun f=>intsT P f.type)=true) (hcov:((List.range (P.cellsOf t)).all fun i=>fs.any fun f=>decide (f.offset≤i) && decide (i<f.offset+P.cellsOf f.type) && decide (f.offset+P.cellsOf f.type≤P.cellsOf t))=true)
    (hv:Value.okWide P w r b0 t v) (h:DataW.Trod enc P w base (fun _=>true) true t v d p):∃ L:List Int,L.length=P.cellsOf t∧v=.agg (L.map (Value.int .i64)).toArray∧∀ x ∈ L,Wd x:=by
  obtain ⟨cs,rfl,hsz⟩:=okWide_struct hs hv
  obtain ⟨fuel,hf⟩:=h
  obtain ⟨ys,n',hn',hy,hlen,hyl,hf⟩:=DataW.trod_struct hs hf
  have hcc:(Value.agg cs).cells.toList=cs.toList:=rfl
  have cell:∀ i (hi:i<P.cellsOf t),∃ q,cs[i]?=some (.int .i64 q)∧Wd q:=by
    intro i hi
    have h1:=List.all_eq_true.1 hcov i (List.mem_range.2 hi)
    obtain ⟨j,hj,h2⟩:=Array.any_eq_true.1 h1
    simp only [Bool.and_eq_true,decide_eq_true_eq] at h2
    have hfj:fs[j]?=some fs[j]:=by simp [hj]
    have h3:=hf j fs[j] hfj
    have h4:=(Array.all_eq_true.1 hall) j hj
    rw [List.getElem?_eq_getElem (by omega),hcc] at h3
    have hcl:((cs.toList.drop fs[j].offset).take (P.cellsOf fs[j].type)).length=P.cellsOf fs[j].type:=by
      rw [List.length_take,List.length_drop,Array.length_toList]; omega
    obtain ⟨q,hq,hw⟩:=ints_field h4 hcl h3 (i - fs[j].offset) (by rw [hcl]; omega)
    rw [List.getElem_take,List.getElem_drop] at hq
    refine ⟨q,?_,hw⟩
    have hics:i<cs.size:=by omega
    rw [Array.getElem?_eq_getElem hics]
    have e:fs[j].offset+(i - fs[j].offset)=i:=by omega
    simp only [e] at hq
    rw [Array.getElem_toList] at hq
    rw [hq]
  refine ⟨(List.range (P.cellsOf t)).map (numIn cs),by simp,?_,?_⟩
  · congr 1
    apply Array.ext'
    apply List.ext_getElem?
    intro j
    by_cases hj:j<P.cellsOf t
    · obtain ⟨q,hq,_⟩:=cell j hj
      have e:numIn cs j=q:=by unfold numIn; rw [hq]
      rw [Array.getElem?_toList,hq]
      simp [hj,e]
    · rw [List.getElem?_eq_none (by simp; rw [hsz]; omega),List.getElem?_eq_none (by simp; omega)]
  · intro x hx
    simp only [List.mem_map,List.mem_range] at hx
    obtain ⟨j,hj,rfl⟩:=hx
    obtain ⟨q,hq,hw⟩:=cell j hj
    have e:numIn cs j=q:=by unfold numIn; rw [hq]
    rw [e]; exact hw
end Go.Proofs.YtffnjpapggidlaaGreat
