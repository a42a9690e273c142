/- SameInt HelpM -/
import Derived.Test.YtffnjpapggidlaaGreatKPlain
import Derived.Test.YtffnjpapggidlaaGreatKStepAt
import Derived.Test.YtffnjpapggidlaaGreatKMem
import Derived.Test.YtffnjpapggidlaaGreatKGHelp
import Derived.Test.YtffnjpapggidlaaGreatKPrim
import Derived.Test.YtffnjpapggidlaaGreatRows
import Derived.WalkKit
import Derived.WalkSpells
import Derived.WalkLawsBesides
import Derived.Deep.QuietTactic
import Derived.BigQuiet
import Derived.Lib.Hide
namespace Go.Proofs.YtffnjpapggidlaaGreat
open Go.RowKit
theorem ints_beq (a b:Int):(a == b)=decide (a=b):=by by_cases h:a=b <;> simp [h]
theorem same_oneI (a b:Int) (w:World) :
    Calls Tryz.prog 135 #[.int .i64 a,.int .i64 b] w fun e w'=>e=.returned (.bool (decide (a=b)))∧w=w':=by
  go_enter Tryz.func135,Tryz.ntmps135
  go_wp2
  go_ret
  exact ⟨ret_b (ints_beq a b),rfl⟩
theorem same_int (v1 v2:Value) (xs ys:List Int) (w:World) (h1:Row w v1 (xs.map (.int .i64))) (h2:Row w v2 (ys.map (.int .i64))) :
    Calls Tryz.prog 134 #[v1,v2,.func (.func 135) #[] #[]] w fun e w'=>e=.returned (.bool (decide (xs=ys)))∧∃ n,w'=w.drewN n:=by
  obtain ⟨l1,p1,c1,rfl,h1⟩:=h1
  obtain ⟨l2,p2,c2,rfl,h2⟩:=h2
  simp only [List.length_map] at *
  unfold maxLen at l1 l2
  by_cases hl:xs.length=ys.length
  · have HL:=Lib.hid hl
    have H1:=Lib.hid h1
    have H2:=Lib.hid h2
    have hne:((xs.length:Int) != ys.length)=false:=by rw [hl]; simp
    clear hl h1 h2
    go_enter Tryz.func134,Tryz.ntmps134
    go_wp2
    go_loopw [7] (fun i wr=>∃ k n:Nat,k≤xs.length∧i=.int .i64 k∧wr=w.drewN n∧xs.take k=ys.take k) (fun i _=>xs.length - (intOf i).toNat)
    case atStart=>exact ⟨0,0,by omega,rfl,rfl,rfl⟩
    case round =>
      obtain ⟨k,n,hk,rfl,rfl,ht⟩:=hrel
      by_cases hlt:k<xs.length
      · obtain ⟨b1,o1,rfl,hc1⟩:=H1.out.resolve_left (by omega)
        obtain ⟨b2,o2,rfl,hc2⟩:=H2.out.resolve_left (by have:=HL.out; omega)
        have d1:=hc1 k (.int .i64 xs[k]) (by simp)
        have d2:=hc2 k (.int .i64 (ys[k]'(by have:=HL.out; omega))) (by simp)
        have HT:=Lib.hid ht
        clear hc1 hc2 ht
        have i0:(0:Int)≤k:=by omega
        have i1:(k:Int)<xs.length:=by omega
        have i2:(k:Int)<ys.length:=by have:=HL.out; omega
        go_wp2
        go_quiet ((go_at_call 135; exact quiet_add_left (same_oneI _ _ _)))
        go_wp2
        · have hd:(!decide (xs[k]=ys[k]'(by have:=HL.out; omega)))=true:=by assumption
          go_ret
          refine ⟨ret_b ?_,n+nq,by simp⟩
          symm; rw [decide_eq_false_iff_not]
          intro e
          subst e
          simp at hd
        · have hd:(!decide (xs[k]=ys[k]'(by have:=HL.out; omega)))=false:=by assumption
          refine ⟨⟨k+1,n+nq,by omega,by go_num,by simp,?_⟩,by simp [intOf]; omega⟩
          rw [List.take_succ_eq_append_getElem hlt,List.take_succ_eq_append_getElem (by have:=HL.out; omega),HT.out]
          simp at hd
          rw [hd]
      · go_wp2
        go_ret
        refine ⟨ret_b ?_,n,rfl⟩
        have hk':k=xs.length:=by omega
        have hl:=HL.out
        subst hk'
        rw [List.take_length,hl,List.take_length] at ht
        simp [ht]
  · go_enter Tryz.func134,Tryz.ntmps134
    go_wp2
    go_ret
    exact ⟨ret_b (by simp; intro e; exact hl (by rw [e])),0,rfl⟩
theorem plain_int (v1 v2:Value) (xs ys:List Int) (w:World) (h1:Row w v1 (xs.map (.int .i64))) (h2:Row w v2 (ys.map (.int .i64))) :
    Calls Tryz.prog 51 #[v1,v2] w fun e w'=>e=.returned (.bool (decide (xs=ys)))∧∃ n,w'=w.drewN n:=by
  go_enter Tryz.func51,Tryz.ntmps51
  go_wp2_with (go_at_call 134; refine (same_int _ _ xs ys _ h1 h2).mono ?_; rintro e w' ⟨rfl,n,rfl⟩)
  go_ret
  exact ⟨rfl,_,rfl⟩
theorem St.rowR {w0:World} {F0:List Nat} {ps:List Piece} {wr:World} (h:St w0 F0 ps wr) (k:Nat) {v:Value} {L:List Int} (hk:ps[k]?=some (RowP v L)):Row wr v (L.map (.int .i64)):=by
  have:=Row.of_own (h.row k hk)
  exact this
end Go.Proofs.YtffnjpapggidlaaGreat
namespace Go.Proofs.YtffnjpapggidlaaGreat
open Go.RowKit
set_option linter.unusedVariables false
set_option linter.unusedSimpArgs false
theorem in_l1 {L:List Int} {x:Int} (hl:L.length<900000):∀ (m j:Nat),j≤L.length→L.length - j<m→help_In.l1 L x m (j:Int)=some (decide (x ∈ L.drop j)):=by
  intro m
  induction m with
  | zero=>intro j _ h; omega
  | succ m ih =>
    intro j hj hm
    show help_In.l1b L x (help_In.l1 L x m) (j:Int)=_
    unfold help_In.l1b
    by_cases hlt:j<L.length
    · rw [if_pos (lt_yes hlt),if_pos (inR_n hlt),atI_n hlt,List.drop_eq_getElem_cons hlt]
      by_cases e:L[j]=x
      · rw [if_pos (by simpa using e)]; simp [e]
      · rw [if_neg (by simpa using e),wr_t _ (by omega) (by omega)]
        have:=ih (j+1) (by omega) (by omega)
        rw [show ((j:Int)+1)=((j+1:Nat):Int) by omega,this]
        have e3:(x ∈ L[j]::L.drop (j+1)) ↔ x ∈ L.drop (j+1):=by rw [List.mem_cons]; exact or_iff_right (Ne.symm e)
        rw [decide_eq_decide.2 e3]
    · rw [if_neg (lt_no hlt),List.drop_eq_nil_of_le (by omega)]; simp
theorem In_m {L:List Int} (x:Int) (hl:L.length<900000) {k:Nat} (hk:L.length<k):help_In.m k L x=some (decide (x ∈ L)):=by
  have:=in_l1 (x:=x) hl k 0 (by omega) (by omega)
  unfold help_In.m
  simpa using this
theorem same_l1 {L M:List Int} {k:Nat} (hl:L.length<5000) (he:L.length=M.length):∀ (m j:Nat),j≤L.length→L.length - j<m→help_Same.l1 L M k m (j:Int)=some (decide (L.drop j=M.drop j)):=by
  intro m
  induction m with
  | zero=>intro j _ h; omega
  | succ m ih =>
    intro j hj hm
    show help_Same.l1b L M k (help_Same.l1 L M k m) (j:Int)=_
    unfold help_Same.l1b
    by_cases hlt:j<L.length
    · have hlt2:j<M.length:=by omega
      rw [if_pos (lt_yes hlt),if_pos (inR_n hlt),if_pos (inR_n hlt2),atI_n hlt,atI_n hlt2]
      unfold help_eq.m
      rw [bind1_y,List.drop_eq_getElem_cons hlt,List.drop_eq_getElem_cons hlt2,wr_t _ (by omega) (by omega)]
      by_cases e:L[j]=M[j]
      · rw [if_neg (by simp [e])]
        have:=ih (j+1) (by omega) (by omega)
        rw [show ((j:Int)+1)=((j+1:Nat):Int) by omega,this]
        have e3:(L.drop (j+1)=M.drop (j+1)) ↔ (L[j]::L.drop (j+1)=M[j]::M.drop (j+1)):=by rw [List.cons.injEq]; exact ⟨fun h=>⟨e,h⟩,fun h=>h.2⟩
        rw [decide_eq_decide.2 e3]
      · rw [if_pos (by simp [e]),decide_eq_false (fun h=>e (List.cons.inj h).1)]
    · rw [if_neg (lt_no hlt),List.drop_eq_nil_of_le (by omega),List.drop_eq_nil_of_le (by omega)]; rfl
theorem Plain_m {L M:List Int} (hl:L.length<5000) {k:Nat} (hk:5000≤k):help_Plain.m k L M=some (decide (L=M)):=by
  unfold help_Plain.m help_Same.m
  by_cases he:L.length=M.length
  · rw [if_neg (by simp [he])]
    have:=same_l1 (k:=k) hl he k 0 (by omega) (by omega)
    rw [show ((0:Int))=((0:Nat):Int) from rfl,this]
    rfl
  · rw [if_pos (by simp; omega)]
    rw [bind1_y]
    have:¬ L=M:=fun e=>he (by rw [e])
    simp [this]
end Go.Proofs.YtffnjpapggidlaaGreat
