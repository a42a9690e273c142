/- HelpM -/
import Derived.Test.YtffnjpapggidlaaKGHelp
import Derived.Test.YtffnjpapggidlaaKPrim
namespace Go.Proofs.Ytffnjpapggidlaa
open Go.RowKit
set_option linter.unusedVariables false
set_option linter.unusedSimpArgs false
theorem in_l1 {L:List Int} {x:Int} (hl:L.length<900000):∀ (m j:Nat),j≤L.length→L.length - j<m→help_In.l1 L x m (j:Int)=some (decide (x ∈ L.drop j)):=by
  intro m
  induction m with
  | zero=>intro j _ h; omega
  | succ m ih =>
    intro j hj hm
    show help_In.l1b L x (help_In.l1 L x m) (j:Int)=_
    unfold help_In.l1b
    by_cases hlt:j<L.length
    · rw [if_pos (lt_yes hlt),if_pos (inR_n hlt),atI_n hlt,List.drop_eq_getElem_cons hlt]
      by_cases e:L[j]=x
      · rw [if_pos (by simpa using e)]; simp [e]
      · rw [if_neg (by simpa using e),wr_t _ (by omega) (by omega)]
        have:=ih (j+1) (by omega) (by omega)
        rw [show ((j:Int)+1)=((j+1:Nat):Int) by omega,this]
        have e3:(x ∈ L[j]::L.drop (j+1)) ↔ x ∈ L.drop (j+1):=by rw [List.mem_cons]; exact or_iff_right (Ne.symm e)
        rw [decide_eq_decide.2 e3]
    · rw [if_neg (lt_no hlt),List.drop_eq_nil_of_le (by omega)]; simp
theorem In_m {L:List Int} (x:Int) (hl:L.length<900000) {k:Nat} (hk:L.length<k):help_In.m k L x=some (decide (x ∈ L)):=by
  have:=in_l1 (x:=x) hl k 0 (by omega) (by omega)
  unfold help_In.m
  simpa using this
theorem same_l1 {L M:List Int} {k:Nat} (hl:L.length<5000) (he:L.length=M.length):∀ (m j:Nat),j≤L.length→L.length - j<m→help_Same.l1 L M k m (j:Int)=some (decide (L.drop j=M.drop j)):=by
  intro m
  induction m with
  | zero=>intro j _ h; omega
  | succ m ih =>
    intro j hj hm
    show help_Same.l1b L M k (help_Same.l1 L M k m) (j:Int)=_
    unfold help_Same.l1b
    by_cases hlt:j<L.length
    · have hlt2:j<M.length:=by omega
      rw [if_pos (lt_yes hlt),if_pos (inR_n hlt),if_pos (inR_n hlt2),atI_n hlt,atI_n hlt2]
      unfold help_eq.m
      rw [bind1_y,List.drop_eq_getElem_cons hlt,List.drop_eq_getElem_cons hlt2,wr_t _ (by omega) (by omega)]
      by_cases e:L[j]=M[j]
      · rw [if_neg (by simp [e])]
        have:=ih (j+1) (by omega) (by omega)
        rw [show ((j:Int)+1)=((j+1:Nat):Int) by omega,this]
        have e3:(L.drop (j+1)=M.drop (j+1)) ↔ (L[j]::L.drop (j+1)=M[j]::M.drop (j+1)):=by rw [List.cons.injEq]; exact ⟨fun h=>⟨e,h⟩,fun h=>h.2⟩
        rw [decide_eq_decide.2 e3]
      · rw [if_pos (by simp [e]),decide_eq_false (fun h=>e (List.cons.inj h).1)]
    · rw [if_neg (lt_no hlt),List.drop_eq_nil_of_le (by omega),List.drop_eq_nil_of_le (by omega)]; rfl
theorem Plain_m {L M:List Int} (hl:L.length<5000) {k:Nat} (hk:5000≤k):help_Plain.m k L M=some (decide (L=M)):=by
  unfold help_Plain.m help_Same.m
  by_cases he:L.length=M.length
  · rw [if_neg (by simp [he])]
    have:=same_l1 (k:=k) hl he k 0 (by omega) (by omega)
    rw [show ((0:Int))=((0:Nat):Int) from rfl,this]
    rfl
  · rw [if_pos (by simp; omega)]
    rw [bind1_y]
    have:¬ L=M:=fun e=>he (by rw [e])
    simp [this]
end Go.Proofs.Ytffnjpapggidlaa
