/- WnL -/
import Derived.Test.YtaojmbkmicjecaaGreatKG14w
import Derived.Test.YtaojmbkmicjecaaGreatKPrimV
namespace Go.Proofs.YtaojmbkmicjecaaGreat
open Go.RowKit
set_option linter.unusedVariables false
set_option linter.unusedSimpArgs false
namespace wn
def bitW (b:List Bool) (v:Nat):Bool:=b.getD v false
def waitW (m v:Nat) (b:List Bool):Prop:=law14_wait.m 100 (NW m v 9 (b.take v)) (NW m v 9 (b.take v)) [0,16,32] (gsN m) (atI (gsN m) (v:Int)) [atI [0,16,32] (Int.tmod (v:Int) 3),atI [0,16,32] (Int.tmod (IntKind.i64.wrap ((v:Int)+1)) 3)] [bitW b v,!(bitW b v)] (IntKind.i64.wrap (2 * (v:Int))) (IntKind.i64.wrap (10 * (v:Int)))=some (true,NW m (v+1) 9 b,NW m (v+1) 9 b)
def tailW (m:Nat) (b:List Bool) (k:Nat):Prop:=(bind3 (view_Gor.m 100 (NW m m 9 b) (atI (gsN m) (k:Int))) fun q706 x707 s708=>WakeNowhere.j9 100 [0,16,32] (gsN m) (k:Int) s708 q706.id q706.status q706.pc q706.a q706.b q706.c q706.d q706.e q706.f q706.sudogs)=some true
theorem gs_len {m:Nat}:(gsN m).length=m:=by simp [gsN]
section
variable {K1:List Bool} {i2:Int} {m k:Nat} {B:List Bool}
theorem loop (hm:2≤m) (hm6:m≤6) (hB:B.length=m) (hb:∀ v,v<m→bitW B v=if (v:Int)<(K1.length:Int) then atB K1 (v:Int) else false) (hk:k<m) (hi:IntKind.i64.wrap (Int.tmod (IntKind.u64.wrap i2) (IntKind.u64.wrap (m:Int)))=(k:Int)) (hW:∀ v,v<m→∀ b:List Bool,b.length=v+1→waitW m v b) (hT:tailW m B k) :
    ∀ (d v f:Nat),v+d=m→d<f→WakeNowhere.l6 K1 i2 100 [0,16,32] (gsN m) f (NW m v 9 (B.take v)) (NW m v 9 (B.take v)) (v:Int)=some true
  | 0,v,f,hv,hf=>by
    obtain ⟨f,rfl⟩:∃ g,f=g+1:=⟨f - 1,by omega⟩
    have hv:v=m:=by omega
    subst hv
    show WakeNowhere.l6b K1 i2 100 [0,16,32] (gsN v) (WakeNowhere.l6 K1 i2 100 [0,16,32] (gsN v) f) _ _ (v:Int)=some true
    unfold WakeNowhere.l6b
    have hu:IntKind.u64.wrap (v:Int)=v:=by
      have:IntKind.u64.wrap (v:Int)=(v:Int) % 18446744073709551616:=rfl
      rw [this]; omega
    rw [gs_len,if_neg (by simp),if_neg (by rw [hu]; simp; omega),hi,bind1_some,if_pos (by simp [inR]; omega)]
    have e:B.take v=B:=List.take_of_length_le (by omega)
    rw [e]
    exact hT
  | d+1,v,f,hv,hf=>by
    obtain ⟨f,rfl⟩:∃ g,f=g+1:=⟨f - 1,by omega⟩
    have ih:=loop hm hm6 hB hb hk hi hW hT d (v+1) f (by omega) (by omega)
    have w:=hW v (by omega) (B.take (v+1)) (by simp; omega)
    unfold waitW at w
    have e1:(B.take (v+1)).take v=B.take v:=by rw [List.take_take]; congr 1; omega
    have e2:bitW (B.take (v+1)) v=bitW B v:=by
      unfold bitW
      simp [List.getD_eq_getElem?_getD,List.getElem?_take]
    rw [e1,e2] at w
    have hj:IntKind.i64.wrap ((v:Int)+1)=((v+1:Nat):Int):=by rw [IntKind.wrap_i64]; omega
    have t3:∀ z:Nat,inR (Int.tmod (z:Int) 3) ([0,16,32]:List Int).length=true:=by
      intro z
      have h1:=Int.tmod_lt_of_pos (z:Int) (b:=3) (by omega)
      have h2:=Int.tmod_nonneg (a:=(z:Int)) 3 (by omega)
      unfold inR; simp; omega
    have j7:WakeNowhere.j7 100 [0,16,32] (gsN m) (NW m v 9 (B.take v)) (NW m v 9 (B.take v)) (v:Int) (WakeNowhere.l6 K1 i2 100 [0,16,32] (gsN m) f) (bitW B v)=some true:=by
      unfold WakeNowhere.j7
      rw [if_pos (by rw [gs_len]; simp [inR]; omega),if_pos (t3 v),if_pos (by rw [hj]; exact t3 (v+1)),w,bind3_some]
      unfold WakeNowhere.j8
      rw [if_neg (by decide),hj]
      exact ih
    show WakeNowhere.l6b K1 i2 100 [0,16,32] (gsN m) (WakeNowhere.l6 K1 i2 100 [0,16,32] (gsN m) f) _ _ (v:Int)=some true
    unfold WakeNowhere.l6b
    rw [if_pos (by rw [gs_len]; simp; omega)]
    have hbv:=hb v (by omega)
    by_cases hl:(v:Int)<(K1.length:Int)
    · rw [if_pos (by simpa using hl),if_pos (by simp [inR]; omega)]
      rw [if_pos hl] at hbv
      rw [← hbv]; exact j7
    · rw [if_neg (by simpa using hl)]
      rw [if_neg hl] at hbv
      rw [← hbv]; exact j7
theorem fin {i0:Int} (hm:2≤m) (hm6:m≤6) (h0:IntKind.i64.wrap (1+(IntKind.i64.wrap (Int.tmod (IntKind.u64.wrap i0) 5)))=((m - 1:Nat):Int)) (haw:law14_awake.m 100=some true) (hmade:law14_made.m 100 [0,0,0] ((m - 1:Nat):Int)=some (NW m 0 9 [],NW m 0 9 [],[0,16,32],gsN m)) (hk:k<m) (hi:IntKind.i64.wrap (Int.tmod (IntKind.u64.wrap i2) (IntKind.u64.wrap (m:Int)))=(k:Int)) (hW:∀ v,v<m→∀ b:List Bool,b.length=v+1→waitW m v b) (hT:∀ b:List Bool,b.length=m→∀ k,k<m→tailW m b k):WakeNowhere.m 100 i0 K1 i2=some true:=by
  unfold WakeNowhere.m
  rw [h0,bind1_some,hmade,bind4_some,haw,bind1_some,if_neg (by decide)]
  unfold WakeNowhere.j1
  rw [if_neg (by decide)]
  have:=loop (K1:=K1) (B:=(List.range m).map fun (v:Nat)=>if (v:Int)<(K1.length:Int) then atB K1 (v:Int) else false) hm hm6 (by simp) (fun v hv=>by
    unfold bitW
    rw [List.getD_eq_getElem?_getD,List.getElem?_map,List.getElem?_range hv]; rfl) hk hi hW (hT _ (by simp) k hk) m 0 100 (by omega) (by omega)
  simpa using this
end
end wn
end Go.Proofs.YtaojmbkmicjecaaGreat
