/- AppM -/
import Derived.Test.YtmhciohocgeepaaKEvMap
import Derived.Test.YtmhciohocgeepaaKRowB
namespace Go.Proofs.Ytmhciohocgeepaa
open Go.RowKit
set_option linter.unusedVariables false
set_option linter.unusedSimpArgs false
def iAnd (k:IntKind) (a b:Int):Int:=k.wrap ((BitVec.ofInt k.bits a &&& BitVec.ofInt k.bits b).toNat:Int)
def appM (L L2:List Int):Option (List Int):=if L.length+L2.length<1000000 then some (L ++ L2) else none
theorem St.growM {w0:World} {F0:List Nat} {ps:List Piece} {wr w3:World} {v v':Value} {L L2:List Int} (h:St w0 F0 (RowP v L::ps) wr)
    (ho:w3.ownsRow 0 3 1 v' (L.length+L2.length) (iV L ++ iV L2)) (hg:wr.grownBy w3 v.ownBlock) (hat:v'.ownBlock=v.ownBlock ∨ v'.ownBlock=some wr.heap.size):St w0 F0 (RowP v' (L ++ L2)::ps) w3 :=
  h.step1 (by
    rintro F ⟨h1,rfl⟩
    refine ⟨v'.ownBlock.toList,⟨by simpa [iV] using ho,rfl⟩,(Keeps.refl _ _).grown hg (fun k hk=>.inl (by simp [hk])),?_⟩
    intro i hi
    simp at hi
    rcases hat with e | e
    · left; simp [← e,hi]
    · right; rw [e] at hi; injection hi with hi; omega)
theorem run_append_none {P:Program} {w:World} {t ty e:TypeId} {i:TypeInfo} (ht:P.underlying t=some (.slice e)) (hi:P.info? e=some i) {base:Option Addr} {n cap c:Nat} (hn:n≤cap) :
    (Builtin.append_ #[t,t] ty #[.slice base n cap,.slice none 0 c]).run P w=.ok (.slice base n cap) w:=by
  cases base with
  | none=>simp [Builtin.append_,run_underlying ht,sizeOf,typeInfo,hi,Builtin.lenOf,Builtin.firstCells,hn]
  | some a=>simp [Builtin.append_,run_underlying ht,sizeOf,typeInfo,hi,Builtin.lenOf,Builtin.firstCells,hn,storeCells]
section
variable {ops:Array Oper} {rest:List Oper} {o:Oper} {n:Nat} {a:Act} {l l':Asc} {w0:World} {F0:List Nat} {ps:List Piece} {w:World}
theorem app_core {K:Act→World→Prop} {Q:Exit→Act→World→Prop} (T:TypeId) (hT:Try.prog.underlying T=some (.slice 3)) {v:Value} {L L2 L3:List Int} {p:Option Addr} {c2:Nat} (d:Nat) (s x:Operand)
    (hF:Fr n a l) (hd:o.dst=some d) (hn:Nat.blt d n=true) (ho:o.op=.call { callee:=.builtin .append,args:=#[s,x],argTypes:=#[T,T] })
    (hs1:hasO l s=true) (hx1:hasO l x=true) (hs:lk l s=v) (hx:lk l x=.slice p L2.length c2)
    (h:St w0 F0 (RowP v L::RowP (.slice p L2.length c2) L2::ps) w) (hm:appM L L2=some L3)
    (hK:∀ v' w' a',St w0 F0 (RowP v' L3::RowP (.slice p L2.length c2) L2::ps) w'→Fr n a' ((d,v')::del d l)→K a' w'):Oper.wp Try.prog o a w K Q:=by
  unfold appM at hm
  split at hm
  · rename_i hlen
    injection hm with hm
    subst hm
    obtain ⟨i0,hi0,hz0,hz1,hz2⟩:=info_parts info_iV
    have hput:∀ v',Fr n (a.put o.dst v') ((d,v')::del d l):=fun v'=>by rw [hd]; exact hF.put (Nat.le_of_ble_eq_true hn) _
    cases p with
    | none =>
      obtain ⟨_,p',c',e,hp'⟩:=h.shape 1 rfl
      injection e with e1 e2 e3
      subst e1; subst e3
      have h0:L2.length=0:=hp'.resolve_right (by rintro ⟨g,e⟩; cases e)
      have e0:L2=[]:=List.eq_nil_of_length_eq_zero h0
      subst e0
      obtain ⟨_,pv,cv,ev,hpv⟩:=h.shape 0 rfl
      have hcap:L.length≤cv:=by
        have:=h.row 0 rfl
        rw [ev] at this
        rcases this.2 with ⟨e,h0⟩ | ⟨g',cap,cs,e,h2,h3,h4,h5,h6,h7⟩
        · rw [h0]; exact Nat.zero_le _
        · injection e with e1 e2 e3
          subst e3; exact h4
      unfold Oper.wp execOp
      have hr:=run_append_none (P:=Try.prog) (w:=w) (t:=T) (ty:=o.type) (e:=3) hT hi0 (base:=pv) (n:=L.length) (cap:=cv) (c:=c2) hcap
      simp only [ho,resolve,invoke,builtin,Sem.run_bind,Sem.run_pure,Result.andThen_ok,List.map_toArray,List.map_cons,List.map_nil,(hF.eval hs1).trans (hs.trans ev),(hF.eval hx1).trans hx]
      simp only [List.length_nil,hr,Result.andThen_ok]
      rw [← ev]
      exact hK v w _ (by simpa using h) (hput v)
    | some q =>
      obtain ⟨hl2,p',c',e,hp'⟩:=h.shape 1 rfl
      injection e with e1 e2 e3
      subst e1; subst e3
      have hq:∀ j u,(iV L2)[j]?=some u→w.cell? (q.add j)=some u:=by
        intro j u hj
        have hjl:j<L2.length:=by
          have:=(List.getElem?_eq_some_iff.1 hj).1
          simpa [iV] using this
        obtain ⟨g,e⟩:=hp'.resolve_left (fun e0=>by rw [e0] at hjl; exact absurd hjl (Nat.not_lt_zero _))
        obtain rfl:q=⟨g,0,none⟩:=Option.some.inj e
        have:=St.num h 1 rfl j hjl
        have e2:(⟨g,0,none⟩:Addr).add j=⟨g,j,none⟩:=by
          have:=add_at g 0 j
          simpa using this
        rw [e2,this]
        simp [iV,hjl] at hj
        rw [hj]
      obtain ⟨v',w',hr,h2,h3,h4,h5⟩:=run_append_own_at (P:=Try.prog) w 0 T o.type 3 i0 (.int .i64 0) 1 8 hT hi0 hz0 hz1 hz2 rfl (by decide) v L.length (iV L) (h.row 0 rfl) q L2.length c2 (iV L2) (by simp [iV]) hq (by intro u hu; simp [iV] at hu; obtain ⟨_,_,rfl⟩:=hu; rfl) (by unfold maxLen; omega) (by omega) (Nat.zero_le _)
      unfold Oper.wp execOp
      simp only [ho,resolve,invoke,builtin,Sem.run_bind,Sem.run_pure,Result.andThen_ok,List.map_toArray,List.map_cons,List.map_nil,(hF.eval hs1).trans hs,(hF.eval hx1).trans hx,hr]
      exact hK v' w' _ (h.growM h2 h3 h5) (hput v')
  · cases hm
theorem ev_appM {Q:Exit→Act→World→Prop} (T:TypeId) (hT:Try.prog.underlying T=some (.slice 3)) {v:Value} {L L2 L3:List Int} {p:Option Addr} {c2:Nat} (d:Nat) (s x:Operand)
    (hF:Fr n a l) (hd:o.dst=some d) (hn:Nat.blt d n=true) (hgd:gdO ops o l=some true) (ho:o.op=.call { callee:=.builtin .append,args:=#[s,x],argTypes:=#[T,T] })
    (hs1:hasO l s=true) (hx1:hasO l x=true) (hs:lk l s=v) (hx:lk l x=.slice p L2.length c2)
    (h:St w0 F0 (RowP v L::RowP (.slice p L2.length c2) L2::ps) w) (hm:appM L L2=some L3)
    (hK:∀ v' w' a',St w0 F0 (RowP v' L3::RowP (.slice p L2.length c2) L2::ps) w'→Fr n a' ((d,v')::del d l)→wpList Try.prog ops Q rest a' w'):wpList Try.prog ops Q (o::rest) a w:=by
  unfold wpList
  rw [gdO_wanted hF hgd]
  simp only [if_true]
  left
  exact app_core T hT d s x hF hd hn ho hs1 hx1 hs hx h hm hK
theorem op_appM {Q:Exit→Act→World→Prop} {S:World→Prop} {listed:Array Bool} {fuel:Nat} (T:TypeId) (hT:Try.prog.underlying T=some (.slice 3)) (i:Nat) (ls:Array Bool) {v:Value} {L L2 L3:List Int} {p:Option Addr} {c2:Nat} (d:Nat) (s x:Operand)
    (hF:Fr n a l) (hi:ops[i]?=some o) (hd:o.dst=some d) (hn:Nat.blt d n=true) (hgd:gdO ops o l=some true) (ho:o.op=.call { callee:=.builtin .append,args:=#[s,x],argTypes:=#[T,T] })
    (hs1:hasO l s=true) (hx1:hasO l x=true) (hs:lk l s=v) (hx:lk l x=.slice p L2.length c2)
    (h:St w0 F0 (RowP v L::RowP (.slice p L2.length c2) L2::ps) w) (hm:appM L L2=some L3) (hl:listed.setIfInBounds i true=ls)
    (hK:∀ v' w' a',St w0 F0 (RowP v' L3::RowP (.slice p L2.length c2) L2::ps) w'→Fr n a' ((d,v')::del d l)→S w'∧wpAnyH Try.prog .any ops Q S fuel ls a' w') :
    wpOp Try.prog ops Q i (fun a' w'=>S w'∧wpAnyH Try.prog .any ops Q S fuel (listed.setIfInBounds i true) a' w') a w:=by
  subst hl
  unfold wpOp
  rw [hi]
  simp only
  rw [gdO_wanted hF hgd]
  simp only [if_true]
  left
  exact app_core T hT d s x hF hd hn ho hs1 hx1 hs hx h hm hK
end
theorem St.arrAt {w0 w:World} {F0:List Nat} {ps:List Piece} {g:Nat} {T:TypeId} {cs:Array Value} (h:St w0 F0 ps w) (k:Nat) (hk:ps[k]?=some (BlkP g T cs)) (off:Nat) (L:List Int) (he:(cs.toList.drop off).take (iV L).length=iV L) {i:Int} (hi:inR i L.length=true):w.cell? ⟨g,off+i.toNat,none⟩=some (.int .i64 (Go.Proofs.Ytmhciohocgeepaa.atI L i)):=by
  obtain ⟨h0,h1⟩:=inR_spec hi
  have h2:=blk_cells h k hk he i.toNat (by simp [iV]; omega)
  rw [h2]
  unfold Go.Proofs.Ytmhciohocgeepaa.atI
  rw [List.getD_eq_getElem?_getD,List.getElem?_eq_getElem (by omega)]
  simp [iV]
theorem any_three {P:Program} {ops:Array Oper} {Q:Exit→Act→World→Prop} {a:Act} {w:World} {S:World→Prop} {listed:Array Bool} {fuel:Nat} (i j l:Nat) (hr:Region.ready .any ops listed=[i,j,l]) (h1:wpOp P ops Q i (fun a' w'=>S w'∧wpAnyH P .any ops Q S fuel (listed.setIfInBounds i true) a' w') a w) (h2:wpOp P ops Q j (fun a' w'=>S w'∧wpAnyH P .any ops Q S fuel (listed.setIfInBounds j true) a' w') a w) (h3:wpOp P ops Q l (fun a' w'=>S w'∧wpAnyH P .any ops Q S fuel (listed.setIfInBounds l true) a' w') a w):wpAnyH P .any ops Q S (fuel+1) listed a w:=by
  refine wpAnyH_all hr (by simp) ?_
  intro k hk
  simp only [List.mem_cons,List.not_mem_nil,or_false] at hk
  rcases hk with rfl | rfl | rfl
  · exact h1
  · exact h2
  · exact h3
theorem wpOp_of_list {P:Program} {ops:Array Oper} {Q:Exit→Act→World→Prop} {K:Act→World→Prop} {a:Act} {w:World} {i:Nat} {o:Oper} (hi:ops[i]?=some o)
    (h:wpList P ops (fun e a w=>match e with | .normal=>K a w | e=>Q e a w) [o] a w):wpOp P ops Q i K a w:=by
  unfold wpOp
  rw [hi]
  simp only
  unfold wpList at h
  split
  · rename_i hw
    rw [if_pos hw] at h
    rcases h with h | ⟨h1,a2,w2,h2⟩
    · left
      unfold Oper.wp at h ⊢
      revert h
      cases (execOp a.eval o).run P w with
      | halt x w'=>cases x <;> exact fun h=>h
      | ok x w'=>cases x <;> exact fun h=>h
    · exact .inr ⟨h1,a2,w2,h2⟩
  · rename_i hw
    rw [if_neg hw] at h
    exact h
theorem op_colSet {ops:Array Oper} {o:Oper} {n:Nat} {a:Act} {l l':Asc} {Q:Exit→Act→World→Prop} {w0:World} {F0:List Nat} {ps:List Piece} {w:World} {mb:Nat} {f:Int→Int} {S:World→Prop} {listed:Array Bool} {fuel:Nat} (i:Nat) (ls:Array Bool) (m x v:Operand) (y z:Int) (hF:Fr n a l) (hS:St w0 F0 (ColP mb f::ps) w) (hi:ops[i]?=some o) (hg:o.guard=none) (hop:o.op=Op.mapUpdate 41 m x v)
    (hm1:hasO l m=true) (hx1:hasO l x=true) (hv1:hasO l v=true) (hm:lk l m=.map (some mb)) (hx:lk l x=.int .i64 y) (hv:lk l v=.int .i64 z) (hy:keyR y=true) (hz:wdR z=true) (hp:putO n o undef l=some l') (hl:listed.setIfInBounds i true=ls)
    (hK:∀ w' a',St w0 F0 (ColP mb (updM f y z)::ps) w'→Fr n a' l'→S w'∧wpAnyH Try.prog .any ops Q S fuel ls a' w'):wpOp Try.prog ops Q i (fun a' w'=>S w'∧wpAnyH Try.prog .any ops Q S fuel (listed.setIfInBounds i true) a' w') a w:=by
  subst hl
  refine wpOp_of_list hi (ev_colSet m x v y z hF hS hg hop hm1 hx1 hv1 hm hx hv hy hz hp fun w' a' h1 h2=>?_)
  exact hK w' a' h1 h2
theorem St.takeR {w0 w:World} {F0:List Nat} {ps:List Piece} {g c k:Nat} {L:List Int} (h:St w0 F0 (RowP (.slice (some ⟨g,0,none⟩) L.length c) L::ps) w) (hk:k≤L.length):St w0 F0 (RowP (.slice (some ⟨g,0,none⟩) k c) (L.take k)::ps) w :=
  h.step1 (by
    rintro F ⟨h1,rfl⟩
    refine ⟨[g],⟨⟨by simp [iV],?_⟩,rfl⟩,Keeps.refl _ _,fun i hi=>.inl (by simpa [Value.ownBlock] using hi)⟩
    rcases h1.2 with ⟨e,h0⟩ | ⟨g',cap,cs,e,h2,h3,h4,h5,h6,h7⟩
    · cases e
    · injection e with e1 e2 e3
      injection e1 with e1
      injection e1 with e1 _ _
      subst e1; subst e3
      refine .inr ⟨g,c,cs,by simp [Nat.min_eq_left hk],h2,h3,by simp; omega,h5,h6,?_⟩
      have e8:(iV L).take k=iV (L.take k):=by simp [iV,List.map_take]
      rw [← e8,← h7,List.take_take]
      simp [Nat.min_eq_left hk])
end Go.Proofs.Ytmhciohocgeepaa
