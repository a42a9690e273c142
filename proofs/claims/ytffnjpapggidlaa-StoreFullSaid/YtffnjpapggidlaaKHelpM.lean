/- HelpM ArgS -/
import Derived.Test.YtffnjpapggidlaaKGHelp
import Derived.Test.YtffnjpapggidlaaKPrim
import Derived.Test.YtffnjpapggidlaaKArg
import Derived.Deep.Fields
import Derived.ChangeSame
namespace Go.Proofs.Ytffnjpapggidlaa
open Go.RowKit
set_option linter.unusedVariables false
set_option linter.unusedSimpArgs false
theorem in_l1 {L:List Int} {x:Int} (hl:L.length<900000):∀ (m j:Nat),j≤L.length→L.length - j<m→help_In.l1 L x m (j:Int)=some (decide (x ∈ L.drop j)):=by
  intro m
  induction m with
  | zero=>intro j _ h; omega
  | succ m ih =>
    intro j hj hm
    show help_In.l1b L x (help_In.l1 L x m) (j:Int)=_
    unfold help_In.l1b
    by_cases hlt:j<L.length
    · rw [if_pos (lt_yes hlt),if_pos (inR_n hlt),atI_n hlt,List.drop_eq_getElem_cons hlt]
      by_cases e:L[j]=x
      · rw [if_pos (by simpa using e)]; simp [e]
      · rw [if_neg (by simpa using e),wr_t _ (by omega) (by omega)]
        have:=ih (j+1) (by omega) (by omega)
        rw [show ((j:Int)+1)=((j+1:Nat):Int) by omega,this]
        have e3:(x ∈ L[j]::L.drop (j+1)) ↔ x ∈ L.drop (j+1):=by rw [List.mem_cons]; exact or_iff_right (Ne.symm e)
        rw [decide_eq_decide.2 e3]
    · rw [if_neg (lt_no hlt),List.drop_eq_nil_of_le (by omega)]; simp
theorem In_m {L:List Int} (x:Int) (hl:L.length<900000) {k:Nat} (hk:L.length<k):help_In.m k L x=some (decide (x ∈ L)):=by
  have:=in_l1 (x:=x) hl k 0 (by omega) (by omega)
  unfold help_In.m
  simpa using this
theorem same_l1 {L M:List Int} {k:Nat} (hl:L.length<5000) (he:L.length=M.length):∀ (m j:Nat),j≤L.length→L.length - j<m→help_Same.l1 L M k m (j:Int)=some (decide (L.drop j=M.drop j)):=by
  intro m
  induction m with
  | zero=>intro j _ h; omega
  | succ m ih =>
    intro j hj hm
    show help_Same.l1b L M k (help_Same.l1 L M k m) (j:Int)=_
    unfold help_Same.l1b
    by_cases hlt:j<L.length
    · have hlt2:j<M.length:=by omega
      rw [if_pos (lt_yes hlt),if_pos (inR_n hlt),if_pos (inR_n hlt2),atI_n hlt,atI_n hlt2]
      unfold help_eq.m
      rw [bind1_y,List.drop_eq_getElem_cons hlt,List.drop_eq_getElem_cons hlt2,wr_t _ (by omega) (by omega)]
      by_cases e:L[j]=M[j]
      · rw [if_neg (by simp [e])]
        have:=ih (j+1) (by omega) (by omega)
        rw [show ((j:Int)+1)=((j+1:Nat):Int) by omega,this]
        have e3:(L.drop (j+1)=M.drop (j+1)) ↔ (L[j]::L.drop (j+1)=M[j]::M.drop (j+1)):=by rw [List.cons.injEq]; exact ⟨fun h=>⟨e,h⟩,fun h=>h.2⟩
        rw [decide_eq_decide.2 e3]
      · rw [if_pos (by simp [e]),decide_eq_false (fun h=>e (List.cons.inj h).1)]
    · rw [if_neg (lt_no hlt),List.drop_eq_nil_of_le (by omega),List.drop_eq_nil_of_le (by omega)]; rfl
theorem Plain_m {L M:List Int} (hl:L.length<5000) {k:Nat} (hk:5000≤k):help_Plain.m k L M=some (decide (L=M)):=by
  unfold help_Plain.m help_Same.m
  by_cases he:L.length=M.length
  · rw [if_neg (by simp [he])]
    have:=same_l1 (k:=k) hl he k 0 (by omega) (by omega)
    rw [show ((0:Int))=((0:Nat):Int) from rfl,this]
    rfl
  · rw [if_pos (by simp; omega)]
    rw [bind1_y]
    have:¬ L=M:=fun e=>he (by rw [e])
    simp [this]
end Go.Proofs.Ytffnjpapggidlaa
namespace Go.Proofs.Ytffnjpapggidlaa
open Go.RowKit Go.ChangeShapes Go.WideShapes Go.Deep
theorem list_cons {α:Type} {L:List α} {n:Nat} (h:L.length=n+1):∃ x M,L=x::M∧M.length=n:=by
  match L,h with
  | x::M,h=>exact ⟨x,M,rfl,by simpa using h⟩
def numIn (cs:Array Value) (j:Nat):Int:=match cs[j]? with
  | some (.int .i64 q)=>q
  | _=>0
theorem agg_ints {H:Type} {enc:TypeId×Value→H} {P:Program} {w:World} {base b0:Nat} {r:Reach} {t:TypeId} {fs:Array Field} {v:Value} {d:DataW H} {p:List MemPlace}
    (hs:P.underlying t=some (.struct fs)) (hone:oneCellFields P fs=true) (hC:P.cellsOf t=fs.size)
    (hint:∀ (j:Nat) (f:Field),fs[j]?=some f→P.underlying f.type=some (.int .i64))
    (hv:Value.okWide P w r b0 t v) (h:DataW.Trod enc P w base (fun _=>true) true t v d p):∃ L:List Int,L.length=fs.size∧v=.agg (L.map (Value.int .i64)).toArray∧∀ x ∈ L,Wd x:=by
  obtain ⟨cs,rfl,hsz⟩:=okWide_struct hs hv
  obtain ⟨fuel,hf⟩:=h
  obtain ⟨ys,n',hn',hy,hlen,hyl,hf⟩:=DataW.trod_struct hs hf
  have cell:∀ j (hj:j<fs.size),∃ q,cs[j]?=some (.int .i64 q)∧Wd q:=by
    intro j hj
    have hjc:j<cs.size:=by rw [hsz,hC]; exact hj
    have hfj:fs[j]?=some fs[j]:=by simp [hj]
    obtain ⟨ho,hk1⟩:=hone_of hone j fs[j] hfj
    have h1:=hf j fs[j] hfj
    rw [ho,hk1] at h1
    have hcc:(Value.agg cs).cells.toList=cs.toList:=rfl
    have hone':((Value.agg cs).cells.toList.drop j).take 1=[cs[j]]:=by
      rw [hcc,List.drop_eq_getElem_cons (by simpa using hjc)]; simp
    rw [hone'] at h1
    have hys:ys[j]?=some (ys[j]'(by omega)):=List.getElem?_eq_getElem (by omega)
    rw [hys] at h1
    obtain ⟨q,hq,_,hwf⟩:=DataW.trod_int (hint j _ hfj) h1
    simp at hq
    exact ⟨q,by rw [Array.getElem?_eq_getElem hjc,hq],wd_of_wf hwf⟩
  refine ⟨(List.range fs.size).map (numIn cs),by simp,?_,?_⟩
  · congr 1
    apply Array.ext'
    apply List.ext_getElem?
    intro j
    by_cases hj:j<fs.size
    · obtain ⟨q,hq,_⟩:=cell j hj
      have e:numIn cs j=q:=by unfold numIn; rw [hq]
      rw [Array.getElem?_toList,hq]
      simp [hj,e]
    · rw [List.getElem?_eq_none (by simp; rw [hsz,hC]; omega),List.getElem?_eq_none (by simp; omega)]
  · intro x hx
    simp only [List.mem_map,List.mem_range] at hx
    obtain ⟨j,hj,rfl⟩:=hx
    obtain ⟨q,hq,hw⟩:=cell j hj
    have e:numIn cs j=q:=by unfold numIn; rw [hq]
    rw [e]; exact hw
end Go.Proofs.Ytffnjpapggidlaa
