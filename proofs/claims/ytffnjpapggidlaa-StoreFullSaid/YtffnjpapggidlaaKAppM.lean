/- AppM RowX -/
import Derived.Test.YtffnjpapggidlaaKEvMap
import Derived.Test.YtffnjpapggidlaaKRowB
import Derived.Test.YtffnjpapggidlaaKEv2
import Derived.Laws.MakeOwn
namespace Go.Proofs.Ytffnjpapggidlaa
open Go.RowKit
set_option linter.unusedVariables false
set_option linter.unusedSimpArgs false
def iAnd (k:IntKind) (a b:Int):Int:=k.wrap ((BitVec.ofInt k.bits a &&& BitVec.ofInt k.bits b).toNat:Int)
def appM (L L2:List Int):Option (List Int):=if L.length+L2.length<1000000 then some (L ++ L2) else none
theorem St.growM {w0:World} {F0:List Nat} {ps:List Piece} {wr w3:World} {v v':Value} {L L2:List Int} (h:St w0 F0 (RowP v L::ps) wr)
    (ho:w3.ownsRow 0 3 1 v' (L.length+L2.length) (iV L ++ iV L2)) (hg:wr.grownBy w3 v.ownBlock) (hat:v'.ownBlock=v.ownBlock ∨ v'.ownBlock=some wr.heap.size):St w0 F0 (RowP v' (L ++ L2)::ps) w3 :=
  h.step1 (by
    rintro F ⟨h1,rfl⟩
    refine ⟨v'.ownBlock.toList,⟨by simpa [iV] using ho,rfl⟩,(Keeps.refl _ _).grown hg (fun k hk=>.inl (by simp [hk])),?_⟩
    intro i hi
    simp at hi
    rcases hat with e | e
    · left; simp [← e,hi]
    · right; rw [e] at hi; injection hi with hi; omega)
theorem run_append_none {P:Program} {w:World} {t ty e:TypeId} {i:TypeInfo} (ht:P.underlying t=some (.slice e)) (hi:P.info? e=some i) {base:Option Addr} {n cap c:Nat} (hn:n≤cap) :
    (Builtin.append_ #[t,t] ty #[.slice base n cap,.slice none 0 c]).run P w=.ok (.slice base n cap) w:=by
  cases base with
  | none=>simp [Builtin.append_,run_underlying ht,sizeOf,typeInfo,hi,Builtin.lenOf,Builtin.firstCells,hn]
  | some a=>simp [Builtin.append_,run_underlying ht,sizeOf,typeInfo,hi,Builtin.lenOf,Builtin.firstCells,hn,storeCells]
section
variable {ops:Array Oper} {rest:List Oper} {o:Oper} {n:Nat} {a:Act} {l l':Asc} {w0:World} {F0:List Nat} {ps:List Piece} {w:World}
theorem app_core {K:Act→World→Prop} {Q:Exit→Act→World→Prop} (T:TypeId) (hT:Try.prog.underlying T=some (.slice 3)) {v:Value} {L L2 L3:List Int} {p:Option Addr} {c2:Nat} (d:Nat) (s x:Operand)
    (hF:Fr n a l) (hd:o.dst=some d) (hn:Nat.blt d n=true) (ho:o.op=.call { callee:=.builtin .append,args:=#[s,x],argTypes:=#[T,T] })
    (hs1:hasO l s=true) (hx1:hasO l x=true) (hs:lk l s=v) (hx:lk l x=.slice p L2.length c2)
    (h:St w0 F0 (RowP v L::RowP (.slice p L2.length c2) L2::ps) w) (hm:appM L L2=some L3)
    (hK:∀ v' w' a',St w0 F0 (RowP v' L3::RowP (.slice p L2.length c2) L2::ps) w'→Fr n a' ((d,v')::del d l)→K a' w'):Oper.wp Try.prog o a w K Q:=by
  unfold appM at hm
  split at hm
  · rename_i hlen
    injection hm with hm
    subst hm
    obtain ⟨i0,hi0,hz0,hz1,hz2⟩:=info_parts info_iV
    have hput:∀ v',Fr n (a.put o.dst v') ((d,v')::del d l):=fun v'=>by rw [hd]; exact hF.put (Nat.le_of_ble_eq_true hn) _
    cases p with
    | none =>
      obtain ⟨_,p',c',e,hp'⟩:=h.shape 1 rfl
      injection e with e1 e2 e3
      subst e1; subst e3
      have h0:L2.length=0:=hp'.resolve_right (by rintro ⟨g,e⟩; cases e)
      have e0:L2=[]:=List.eq_nil_of_length_eq_zero h0
      subst e0
      obtain ⟨_,pv,cv,ev,hpv⟩:=h.shape 0 rfl
      have hcap:L.length≤cv:=by
        have:=h.row 0 rfl
        rw [ev] at this
        rcases this.2 with ⟨e,h0⟩ | ⟨g',cap,cs,e,h2,h3,h4,h5,h6,h7⟩
        · rw [h0]; exact Nat.zero_le _
        · injection e with e1 e2 e3
          subst e3; exact h4
      unfold Oper.wp execOp
      have hr:=run_append_none (P:=Try.prog) (w:=w) (t:=T) (ty:=o.type) (e:=3) hT hi0 (base:=pv) (n:=L.length) (cap:=cv) (c:=c2) hcap
      simp only [ho,resolve,invoke,builtin,Sem.run_bind,Sem.run_pure,Result.andThen_ok,List.map_toArray,List.map_cons,List.map_nil,(hF.eval hs1).trans (hs.trans ev),(hF.eval hx1).trans hx]
      simp only [List.length_nil,hr,Result.andThen_ok]
      rw [← ev]
      exact hK v w _ (by simpa using h) (hput v)
    | some q =>
      obtain ⟨hl2,p',c',e,hp'⟩:=h.shape 1 rfl
      injection e with e1 e2 e3
      subst e1; subst e3
      have hq:∀ j u,(iV L2)[j]?=some u→w.cell? (q.add j)=some u:=by
        intro j u hj
        have hjl:j<L2.length:=by
          have:=(List.getElem?_eq_some_iff.1 hj).1
          simpa [iV] using this
        obtain ⟨g,e⟩:=hp'.resolve_left (fun e0=>by rw [e0] at hjl; exact absurd hjl (Nat.not_lt_zero _))
        obtain rfl:q=⟨g,0,none⟩:=Option.some.inj e
        have:=St.num h 1 rfl j hjl
        have e2:(⟨g,0,none⟩:Addr).add j=⟨g,j,none⟩:=by
          have:=add_at g 0 j
          simpa using this
        rw [e2,this]
        simp [iV,hjl] at hj
        rw [hj]
      obtain ⟨v',w',hr,h2,h3,h4,h5⟩:=run_append_own_at (P:=Try.prog) w 0 T o.type 3 i0 (.int .i64 0) 1 8 hT hi0 hz0 hz1 hz2 rfl (by decide) v L.length (iV L) (h.row 0 rfl) q L2.length c2 (iV L2) (by simp [iV]) hq (by intro u hu; simp [iV] at hu; obtain ⟨_,_,rfl⟩:=hu; rfl) (by unfold maxLen; omega) (by omega) (Nat.zero_le _)
      unfold Oper.wp execOp
      simp only [ho,resolve,invoke,builtin,Sem.run_bind,Sem.run_pure,Result.andThen_ok,List.map_toArray,List.map_cons,List.map_nil,(hF.eval hs1).trans hs,(hF.eval hx1).trans hx,hr]
      exact hK v' w' _ (h.growM h2 h3 h5) (hput v')
  · cases hm
theorem ev_appM {Q:Exit→Act→World→Prop} (T:TypeId) (hT:Try.prog.underlying T=some (.slice 3)) {v:Value} {L L2 L3:List Int} {p:Option Addr} {c2:Nat} (d:Nat) (s x:Operand)
    (hF:Fr n a l) (hd:o.dst=some d) (hn:Nat.blt d n=true) (hgd:gdO ops o l=some true) (ho:o.op=.call { callee:=.builtin .append,args:=#[s,x],argTypes:=#[T,T] })
    (hs1:hasO l s=true) (hx1:hasO l x=true) (hs:lk l s=v) (hx:lk l x=.slice p L2.length c2)
    (h:St w0 F0 (RowP v L::RowP (.slice p L2.length c2) L2::ps) w) (hm:appM L L2=some L3)
    (hK:∀ v' w' a',St w0 F0 (RowP v' L3::RowP (.slice p L2.length c2) L2::ps) w'→Fr n a' ((d,v')::del d l)→wpList Try.prog ops Q rest a' w'):wpList Try.prog ops Q (o::rest) a w:=by
  unfold wpList
  rw [gdO_wanted hF hgd]
  simp only [if_true]
  left
  exact app_core T hT d s x hF hd hn ho hs1 hx1 hs hx h hm hK
theorem op_appM {Q:Exit→Act→World→Prop} {S:World→Prop} {listed:Array Bool} {fuel:Nat} (T:TypeId) (hT:Try.prog.underlying T=some (.slice 3)) (i:Nat) (ls:Array Bool) {v:Value} {L L2 L3:List Int} {p:Option Addr} {c2:Nat} (d:Nat) (s x:Operand)
    (hF:Fr n a l) (hi:ops[i]?=some o) (hd:o.dst=some d) (hn:Nat.blt d n=true) (hgd:gdO ops o l=some true) (ho:o.op=.call { callee:=.builtin .append,args:=#[s,x],argTypes:=#[T,T] })
    (hs1:hasO l s=true) (hx1:hasO l x=true) (hs:lk l s=v) (hx:lk l x=.slice p L2.length c2)
    (h:St w0 F0 (RowP v L::RowP (.slice p L2.length c2) L2::ps) w) (hm:appM L L2=some L3) (hl:listed.setIfInBounds i true=ls)
    (hK:∀ v' w' a',St w0 F0 (RowP v' L3::RowP (.slice p L2.length c2) L2::ps) w'→Fr n a' ((d,v')::del d l)→S w'∧wpAnyH Try.prog .any ops Q S fuel ls a' w') :
    wpOp Try.prog ops Q i (fun a' w'=>S w'∧wpAnyH Try.prog .any ops Q S fuel (listed.setIfInBounds i true) a' w') a w:=by
  subst hl
  unfold wpOp
  rw [hi]
  simp only
  rw [gdO_wanted hF hgd]
  simp only [if_true]
  left
  exact app_core T hT d s x hF hd hn ho hs1 hx1 hs hx h hm hK
end
theorem St.arrAt {w0 w:World} {F0:List Nat} {ps:List Piece} {g:Nat} {T:TypeId} {cs:Array Value} (h:St w0 F0 ps w) (k:Nat) (hk:ps[k]?=some (BlkP g T cs)) (off:Nat) (L:List Int) (he:(cs.toList.drop off).take (iV L).length=iV L) {i:Int} (hi:inR i L.length=true):w.cell? ⟨g,off+i.toNat,none⟩=some (.int .i64 (Go.Proofs.Ytffnjpapggidlaa.atI L i)):=by
  obtain ⟨h0,h1⟩:=inR_spec hi
  have h2:=blk_cells h k hk he i.toNat (by simp [iV]; omega)
  rw [h2]
  unfold Go.Proofs.Ytffnjpapggidlaa.atI
  rw [List.getD_eq_getElem?_getD,List.getElem?_eq_getElem (by omega)]
  simp [iV]
theorem any_three {P:Program} {ops:Array Oper} {Q:Exit→Act→World→Prop} {a:Act} {w:World} {S:World→Prop} {listed:Array Bool} {fuel:Nat} (i j l:Nat) (hr:Region.ready .any ops listed=[i,j,l]) (h1:wpOp P ops Q i (fun a' w'=>S w'∧wpAnyH P .any ops Q S fuel (listed.setIfInBounds i true) a' w') a w) (h2:wpOp P ops Q j (fun a' w'=>S w'∧wpAnyH P .any ops Q S fuel (listed.setIfInBounds j true) a' w') a w) (h3:wpOp P ops Q l (fun a' w'=>S w'∧wpAnyH P .any ops Q S fuel (listed.setIfInBounds l true) a' w') a w):wpAnyH P .any ops Q S (fuel+1) listed a w:=by
  refine wpAnyH_all hr (by simp) ?_
  intro k hk
  simp only [List.mem_cons,List.not_mem_nil,or_false] at hk
  rcases hk with rfl | rfl | rfl
  · exact h1
  · exact h2
  · exact h3
theorem wpOp_of_list {P:Program} {ops:Array Oper} {Q:Exit→Act→World→Prop} {K:Act→World→Prop} {a:Act} {w:World} {i:Nat} {o:Oper} (hi:ops[i]?=some o)
    (h:wpList P ops (fun e a w=>match e with | .normal=>K a w | e=>Q e a w) [o] a w):wpOp P ops Q i K a w:=by
  unfold wpOp
  rw [hi]
  simp only
  unfold wpList at h
  split
  · rename_i hw
    rw [if_pos hw] at h
    rcases h with h | ⟨h1,a2,w2,h2⟩
    · left
      unfold Oper.wp at h ⊢
      revert h
      cases (execOp a.eval o).run P w with
      | halt x w'=>cases x <;> exact fun h=>h
      | ok x w'=>cases x <;> exact fun h=>h
    · exact .inr ⟨h1,a2,w2,h2⟩
  · rename_i hw
    rw [if_neg hw] at h
    exact h
theorem op_colSet {ops:Array Oper} {o:Oper} {n:Nat} {a:Act} {l l':Asc} {Q:Exit→Act→World→Prop} {w0:World} {F0:List Nat} {ps:List Piece} {w:World} {mb:Nat} {f:Int→Int} {S:World→Prop} {listed:Array Bool} {fuel:Nat} (i:Nat) (ls:Array Bool) (m x v:Operand) (y z:Int) (hF:Fr n a l) (hS:St w0 F0 (ColP mb f::ps) w) (hi:ops[i]?=some o) (hg:o.guard=none) (hop:o.op=Op.mapUpdate 122 m x v)
    (hm1:hasO l m=true) (hx1:hasO l x=true) (hv1:hasO l v=true) (hm:lk l m=.map (some mb)) (hx:lk l x=.int .i64 y) (hv:lk l v=.int .i64 z) (hy:keyR y=true) (hz:wdR z=true) (hp:putO n o undef l=some l') (hl:listed.setIfInBounds i true=ls)
    (hK:∀ w' a',St w0 F0 (ColP mb (updM f y z)::ps) w'→Fr n a' l'→S w'∧wpAnyH Try.prog .any ops Q S fuel ls a' w'):wpOp Try.prog ops Q i (fun a' w'=>S w'∧wpAnyH Try.prog .any ops Q S fuel (listed.setIfInBounds i true) a' w') a w:=by
  subst hl
  refine wpOp_of_list hi (ev_colSet m x v y z hF hS hg hop hm1 hx1 hv1 hm hx hv hy hz hp fun w' a' h1 h2=>?_)
  exact hK w' a' h1 h2
theorem St.takeR {w0 w:World} {F0:List Nat} {ps:List Piece} {g c k:Nat} {L:List Int} (h:St w0 F0 (RowP (.slice (some ⟨g,0,none⟩) L.length c) L::ps) w) (hk:k≤L.length):St w0 F0 (RowP (.slice (some ⟨g,0,none⟩) k c) (L.take k)::ps) w :=
  h.step1 (by
    rintro F ⟨h1,rfl⟩
    refine ⟨[g],⟨⟨by simp [iV],?_⟩,rfl⟩,Keeps.refl _ _,fun i hi=>.inl (by simpa [Value.ownBlock] using hi)⟩
    rcases h1.2 with ⟨e,h0⟩ | ⟨g',cap,cs,e,h2,h3,h4,h5,h6,h7⟩
    · cases e
    · injection e with e1 e2 e3
      injection e1 with e1
      injection e1 with e1 _ _
      subst e1; subst e3
      refine .inr ⟨g,c,cs,by simp [Nat.min_eq_left hk],h2,h3,by simp; omega,h5,h6,?_⟩
      have e8:(iV L).take k=iV (L.take k):=by simp [iV,List.map_take]
      rw [← e8,← h7,List.take_take]
      simp [Nat.min_eq_left hk])
end Go.Proofs.Ytffnjpapggidlaa
namespace Go.Proofs.Ytffnjpapggidlaa
open Go.RowKit
set_option linter.unusedVariables false
set_option linter.unusedSimpArgs false
structure RowK (α:Type) where
  T:TypeId
  m:Nat
  bt:Nat
  z:Value
  cl:α→List Value
  d:α
  len:∀ x,(cl x).length=m
  one:∀ x,∀ u ∈ cl x,u.oneCell'=true
  flat:∀ x,(cl x).all flatV=true
  info:(Try.prog.info? T).map (fun i=>(i.zero,i.size,i.bytes))=some (some z,m,bt)
  zc:z.cells.toList=cl d
  pos:0<m
  sm:bt≤64
theorem flat_len {α:Type} (K:RowK α):∀ L:List α,(L.flatMap K.cl).length=L.length * K.m
  | []=>by simp
  | x::L=>by simp only [List.flatMap_cons,List.length_append,K.len,flat_len K L,List.length_cons,Nat.add_mul]; omega
theorem flat_get {α:Type} (K:RowK α):∀ (L:List α) (i j:Nat) (hi:i<L.length) (hj:j<K.m),(L.flatMap K.cl)[i * K.m+j]?=(K.cl L[i])[j]?
  | [],i,j,hi,hj=>absurd hi (by simp)
  | x::L,0,j,hi,hj=>by
    simp only [List.flatMap_cons,Nat.zero_mul,Nat.zero_add,List.getElem_cons_zero]
    rw [List.getElem?_append_left (by rw [K.len]; exact hj)]
  | x::L,i+1,j,hi,hj=>by
    simp only [List.flatMap_cons,List.getElem_cons_succ]
    rw [List.getElem?_append_right (by rw [K.len,Nat.add_mul]; omega),K.len,show (i+1) * K.m+j - K.m=i * K.m+j by rw [Nat.add_mul]; omega]
    exact flat_get K L i j (by simpa using hi) hj
def RowX {α:Type} (K:RowK α) (v:Value) (L:List α):Piece where
  at' w F:=w.ownsRow 0 K.T K.m v L.length (L.flatMap K.cl)∧F=v.ownBlock.toList
  keep:=by rintro w w' F G ⟨h,rfl⟩ k hd; exact ⟨k.own h (fun g hg=>hd _ (by simp [hg])),rfl⟩
  lt:=by rintro w F ⟨h,rfl⟩ i hi; simp at hi; exact own_lt h i hi
def atX {α:Type} (K:RowK α) (L:List α) (i:Int):α:=L.getD i.toNat K.d
section
variable {α:Type} {K:RowK α} {w0 w:World} {F0:List Nat} {ps:List Piece} {v:Value} {L:List α}
theorem St.nilX (K:RowK α) (h:St w0 F0 ps w):St w0 F0 (RowX K (.slice none 0 0) []::ps) w :=
  h.push (Below.refl _ _) ⟨[],⟨World.ownsRow_nil _ _ _ _,rfl⟩,by simp⟩
theorem St.shapeX (h:St w0 F0 ps w) (k:Nat) (hk:ps[k]?=some (RowX K v L)):L.length≤maxLen∧∃ p c,v=.slice p L.length c∧(L.length=0 ∨ ∃ g,p=some ⟨g,0,none⟩):=by
  obtain ⟨G,h1⟩:=h.get k hk
  exact own_shape h1.1
theorem St.atX {g n c:Nat} (h:St w0 F0 ps w) (k:Nat) (hk:ps[k]?=some (RowX K (.slice (some ⟨g,0,none⟩) n c) L)) {i:Int} (hi:inR i L.length=true) {cs:List Value} (he:K.cl (Go.Proofs.Ytffnjpapggidlaa.atX K L i)=cs):∀ j (hj:j<cs.length),w.cell? ⟨g,i.toNat * K.m+j,none⟩=some cs[j]:=by
  subst he
  intro j hj
  obtain ⟨h0,h1⟩:=inR_spec hi
  obtain ⟨G,h2⟩:=h.get k hk
  have hc:=h2.1.cells (g:=g) rfl (i.toNat * K.m+j) (K.cl (Go.Proofs.Ytffnjpapggidlaa.atX K L i))[j] (by
    rw [flat_get K L i.toNat j (by omega) (by rw [← K.len]; exact hj)]
    have e:Go.Proofs.Ytffnjpapggidlaa.atX K L i=L[i.toNat]'(by omega):=by
      unfold Go.Proofs.Ytffnjpapggidlaa.atX
      rw [List.getD_eq_getElem?_getD,List.getElem?_eq_getElem (by omega)]; rfl
    rw [← e,List.getElem?_eq_getElem hj])
  rw [add_at,Nat.zero_add] at hc
  exact hc
theorem run_idxX {P:Program} {ρ:Operand→Value} {o:Oper} {t e:TypeId} {x i:Operand} {g m c sz:Nat} {z:Int} {k:IntKind} (ho:o.op=.indexAddr t x i) (hu:P.underlying t=some (.slice e)) (hs:(P.info? e).map (·.size)=some sz)
    (hx:ρ x=.slice (some ⟨g,0,none⟩) m c) (hi:ρ i=.int k z) (h0:0≤z) (h1:z<m) (w:World):(execOp ρ o).run P w=.ok (.value (.pointer (some ⟨g,z.toNat * sz,none⟩))) w:=by
  have ha:(⟨g,0,none⟩:Addr).add (z.toNat * sz)=⟨g,z.toNat * sz,none⟩:=by rw [add_at,Nat.zero_add]
  unfold execOp
  rw [ho]
  simp only [hx,hi]
  apply run_v
  cases hinf:P.info? e with
  | none=>rw [hinf] at hs; simp at hs
  | some inf =>
    rw [hinf] at hs
    simp only [Option.map_some,Option.some.injEq] at hs
    simp only [Instr.indexAt,asIntOf,underlying,program,sizeOf,typeInfo,Sem.run_bind,Sem.run_pure,Sem.run,Result.andThen,hu,hinf,bind,pure,Sem.bind,h0,h1,and_self,if_true,hs,ha]
theorem St.openX {g n c:Nat} (h:St w0 F0 (RowX K (.slice (some ⟨g,0,none⟩) n c) L::ps) w):∃ cur,St w0 F0 (BlkP g K.T cur::ps) w∧n=L.length∧L.length≤c∧c≤maxLen∧cur.size=c * K.m∧cur.toList.take (L.length * K.m)=L.flatMap K.cl:=by
  obtain ⟨F,⟨F1,F2,rfl,⟨⟨h1,h2⟩,rfl⟩,h3,hd⟩,k,h5⟩:=h
  rcases h2 with ⟨e,_⟩ | ⟨g',cap,cur,e,_,hg,hn,hm,hs,ht⟩
  · cases e
  · injection e with e1 e2 e3
    injection e1 with e1
    injection e1 with e1 _ _
    subst e1; subst e3
    exact ⟨cur,⟨_,⟨[g],F2,rfl,⟨hg,rfl⟩,h3,by simpa [Value.ownBlock] using hd⟩,k,by simpa [Value.ownBlock] using h5⟩,e2,hn,hm,hs,ht⟩
theorem St.closeX (K:RowK α) {g c:Nat} {cur:Array Value} (L:List α) (h:St w0 F0 (BlkP g K.T cur::ps) w) (hn:L.length≤c) (hm:c≤maxLen) (hs:cur.size=c * K.m) (ht:cur.toList.take (L.length * K.m)=L.flatMap K.cl):St w0 F0 (RowX K (.slice (some ⟨g,0,none⟩) L.length c) L::ps) w :=
  h.step1 (by
    rintro F ⟨hb,rfl⟩
    exact ⟨[g],⟨⟨flat_len K L,.inr ⟨g,c,cur,rfl,Nat.zero_le _,hb,hn,hm,hs,ht⟩⟩,rfl⟩,Keeps.refl _ _,by simp⟩)
theorem St.litX (K:RowK α) (h:St w0 F0 ps w) (L:List α) (hl:L.length≤maxLen):St w0 F0 (RowX K (.slice (some ⟨w.heap.size,0,none⟩) L.length L.length) L::ps) (w.alloc (.cells (L.flatMap K.cl).toArray K.T)) :=
  St.closeX K L (h.new _ _) (Nat.le_refl _) hl (by rw [List.size_toArray,flat_len]) (by rw [← flat_len K L,List.take_length])
theorem setL_size:∀ (vs:List Value) (cs:Array Value) (off:Nat),(setL cs off vs).size=cs.size
  | [],cs,off=>rfl
  | v::vs,cs,off=>by simp only [setL]; rw [setL_size vs]; simp
theorem setL_get:∀ (vs:List Value) (cs:Array Value) (off k:Nat),off+vs.length≤cs.size→(setL cs off vs)[k]?=if off≤k∧k<off+vs.length then vs[k - off]? else cs[k]?
  | [],cs,off,k,h=>by simp only [setL,List.length_nil]; rw [if_neg (by omega)]
  | v::vs,cs,off,k,h=>by
    simp only [List.length_cons] at h
    simp only [setL]
    rw [setL_get vs _ (off+1) k (by simp; omega)]
    by_cases h1:k=off
    · subst h1
      rw [if_neg (by omega),if_pos (by simp),Array.getElem?_setIfInBounds_self_of_lt (by omega)]; simp
    · by_cases h2:off+1≤k∧k<off+1+vs.length
      · rw [if_pos h2,if_pos (by simp only [List.length_cons]; omega),show k - off=(k - (off+1))+1 by omega]; simp
      · rw [if_neg h2,if_neg (by simp only [List.length_cons]; omega),Array.getElem?_setIfInBounds_ne (by omega)]
theorem flat_set (K:RowK α) {cur:Array Value} {c i:Nat} {y:α} (hi:i<L.length) (hn:L.length≤c) (hs:cur.size=c * K.m) (ht:cur.toList.take (L.length * K.m)=L.flatMap K.cl):(setL cur (i * K.m) (K.cl y)).toList.take ((L.set i y).length * K.m)=(L.set i y).flatMap K.cl:=by
  have hpos:=K.pos
  have hle:i * K.m+K.m≤c * K.m:=by rw [← Nat.succ_mul]; exact Nat.mul_le_mul_right _ (by omega)
  have hlc:L.length * K.m≤c * K.m:=Nat.mul_le_mul_right _ hn
  apply List.ext_getElem?
  intro k
  rw [List.length_set]
  by_cases hk:k<L.length * K.m
  · rw [List.getElem?_take_of_lt hk,Array.getElem?_toList,setL_get _ _ _ _ (by rw [K.len]; omega),K.len]
    have hq:k / K.m<L.length:=by rw [Nat.div_lt_iff_lt_mul hpos]; exact hk
    have hr:k % K.m<K.m:=Nat.mod_lt _ hpos
    have hkk:k=k / K.m * K.m+k % K.m:=by rw [Nat.mul_comm]; exact (Nat.div_add_mod k K.m).symm
    have e1:=flat_get K (L.set i y) (k / K.m) (k % K.m) (by simpa using hq) hr
    have e2:=flat_get K L (k / K.m) (k % K.m) hq hr
    rw [← hkk] at e1 e2
    rw [e1]
    by_cases hqi:k / K.m=i
    · rw [if_pos ⟨by rw [← hqi]; omega,by rw [← hqi]; omega⟩]
      have:k - i * K.m=k % K.m:=by rw [← hqi]; omega
      rw [this,List.getElem_set,if_pos hqi.symm]
    · rw [if_neg,List.getElem_set,if_neg (by omega),← e2,← ht,List.getElem?_take_of_lt hk,Array.getElem?_toList]
      rintro ⟨a1,a2⟩
      apply hqi
      apply Nat.div_eq_of_lt_le <;> rw [Nat.mul_comm] <;> first | (rw [Nat.mul_comm]; exact a1) | (rw [Nat.mul_comm,Nat.succ_mul]; exact a2)
  · rw [List.getElem?_eq_none (by simp; omega),List.getElem?_eq_none (by rw [flat_len,List.length_set]; omega)]
end
def setX {α:Type} (L:List α) (i:Int) (y:α):List α:=L.set i.toNat y
section
variable {α:Type} {ops:Array Oper} {rest:List Oper} {o:Oper} {n:Nat} {a:Act} {l l':Asc} {w0:World} {F0:List Nat} {ps:List Piece} {w:World}
theorem ev_storeX {P:Program} {Q:Exit→Act→World→Prop} (K:RowK α) {g c:Nat} {L:List α} {t:TypeId} {x y:Operand} {i:Int} (u:α) (v:Value) (h:Fr n a l) (h1:gdO ops o l=some true) (h2:o.op=.store t x y) (h3:(hasO l x && hasO l y)=true)
    (hx:lk l x=.pointer (some ⟨g,i.toNat * K.m,none⟩)) (hy:lk l y=v) (hv:v.cells.toList=K.cl u) (hs:(P.info? t).map (·.size)=some K.m) (hi:inR i L.length=true) (hS:St w0 F0 (RowX K (.slice (some ⟨g,0,none⟩) L.length c) L::ps) w) (hp:putO n o undef l=some l')
    (hK:∀ w' a',St w0 F0 (RowX K (.slice (some ⟨g,0,none⟩) L.length c) (setX L i u)::ps) w'→Fr n a' l'→wpList P ops Q rest a' w'):wpList P ops Q (o::rest) a w:=by
  obtain ⟨cur,hB,_,hn,hm,hcs,ht⟩:=hS.openX
  obtain ⟨i0,i1⟩:=inR_spec hi
  have hil:i.toNat<L.length:=by omega
  have hle:i.toNat * K.m+K.m≤c * K.m:=by rw [← Nat.succ_mul]; exact Nat.mul_le_mul_right _ (by omega)
  have hz:v.cells.size=K.m:=by have:=congrArg List.length hv; rw [K.len] at this; simpa using this
  refine ev_store (o:=o) (t:=t) (x:=x) (y:=y) v (setL cur (i.toNat * K.m) v.cells.toList) h h1 h2 h3 hx hy (by rw [hz]; exact hs) hB (Nat.ble_eq_true_of_le (by rw [hz,hcs]; exact hle)) (by rw [hv]; exact K.flat u) rfl hp ?_
  intro w' a' hS' hF'
  refine hK w' a' ?_ hF'
  rw [hv] at hS'
  have e:=flat_set K (y:=u) hil hn hcs ht
  have h9:=St.closeX K (setX L i u) hS' (by unfold setX; simpa using hn) hm (by rw [setL_size]; exact hcs) e
  have e9:(setX L i u).length=L.length:=by unfold setX; simp
  rw [e9] at h9
  exact h9
def mkR (z:Int):Bool:=decide (0≤z) && decide (z≤1000000)
theorem mkR_spec {z:Int} (h:mkR z=true):0≤z∧z≤1000000:=by simpa [mkR] using h
theorem run_makeX {P:Program} {ρ:Operand→Value} {o:Oper} {t e:TypeId} {x y:Operand} {z:Int} {zv:Value} {m bt:Nat} (ho:o.op=.makeSlice t x y) (hu:P.underlying t=some (.slice e)) (hinfo:(P.info? e).map (fun i=>(i.zero,i.size,i.bytes))=some (some zv,m,bt))
    (hx:ρ x=.int .i64 z) (hy:ρ y=.int .i64 z) (hb:bt≤64) (h0:0≤z) (h1:z≤1000000) (w:World):(execOp ρ o).run P w=.ok (.value (.slice (some ⟨w.heap.size,0,none⟩) z.toNat z.toNat)) (w.alloc (.cells (madeCells zv.cells (z.toNat * m)) e)):=by
  obtain ⟨i0,hi,hz0,hz1,hz2⟩:=info_parts hinfo
  subst hz1
  unfold execOp
  rw [ho]
  simp only [hx,hy]
  apply run_v
  have hbb:(i0.bytes:Int) * z≤281474976710656:=by
    rw [hz2]
    have h3:(bt:Int) * z≤64 * z:=Int.mul_le_mul_of_nonneg_right (by omega) h0
    omega
  exact run_make w t e i0 zv hu hi hz0 .i64 .i64 z z h0 (Int.le_refl _) hbb (by omega)
theorem St.madeX (K:RowK α) (z:Int) (h0:0≤z) (h1:z≤1000000) (h:St w0 F0 ps w):St w0 F0 (RowX K (.slice (some ⟨w.heap.size,0,none⟩) z.toNat z.toNat) (List.replicate z.toNat K.d)::ps) (w.alloc (.cells (madeCells K.z.cells (z.toNat * K.m)) K.T)):=by
  have hpos:=K.pos
  have e9:(List.replicate z.toNat K.d).length=z.toNat:=List.length_replicate
  rw [show Value.slice (some ⟨w.heap.size,0,none⟩) z.toNat z.toNat=Value.slice (some ⟨w.heap.size,0,none⟩) (List.replicate z.toNat K.d).length z.toNat by rw [e9]]
  refine St.closeX K _ (h.new _ _) (by simp) (by unfold maxLen; omega) (size_madeCells _ _) ?_
  have hzs:K.z.cells.size=K.m:=by rw [← K.len K.d,← K.zc]; simp
  apply List.ext_getElem?
  intro k
  rw [List.length_replicate]
  by_cases hk:k<z.toNat * K.m
  · have hq:k / K.m<z.toNat:=by rw [Nat.div_lt_iff_lt_mul hpos]; exact hk
    have hr:k % K.m<K.m:=Nat.mod_lt _ hpos
    have e1:=flat_get K (List.replicate z.toNat K.d) (k / K.m) (k % K.m) (by simpa using hq) hr
    have hkk:k / K.m * K.m+k % K.m=k:=by rw [Nat.mul_comm]; exact Nat.div_add_mod k K.m
    rw [hkk,List.getElem_replicate,← K.zc] at e1
    rw [e1,List.getElem?_take_of_lt hk,Array.getElem?_toList]
    unfold madeCells
    rw [Array.getElem?_map,Array.getElem?_range]
    rw [if_pos hk,Option.map_some,hzs,Array.getElem?_toList]
    rw [Array.getElem?_eq_getElem (by rw [hzs]; exact hr),getElem!_pos _ _ (by rw [hzs]; exact hr)]
  · rw [List.getElem?_eq_none (by simp; omega),List.getElem?_eq_none (by rw [flat_len,List.length_replicate]; omega)]
def appX (L L2:List α):Option (List α):=if L.length+L2.length<1000000 then some (L ++ L2) else none
theorem St.rowX {K:RowK α} (h:St w0 F0 ps w) (k:Nat) {v:Value} {L:List α} (hk:ps[k]?=some (RowX K v L)):w.ownsRow 0 K.T K.m v L.length (L.flatMap K.cl):=by
  obtain ⟨G,h1⟩:=h.get k hk; exact h1.1
theorem St.growX {K:RowK α} {w3:World} {v v':Value} {L L2:List α} (h:St w0 F0 (RowX K v L::ps) w)
    (ho:w3.ownsRow 0 K.T K.m v' (L.length+L2.length) (L.flatMap K.cl ++ L2.flatMap K.cl)) (hg:w.grownBy w3 v.ownBlock) (hat:v'.ownBlock=v.ownBlock ∨ v'.ownBlock=some w.heap.size):St w0 F0 (RowX K v' (L ++ L2)::ps) w3 :=
  h.step1 (by
    rintro F ⟨h1,rfl⟩
    refine ⟨v'.ownBlock.toList,⟨by simpa using ho,rfl⟩,(Keeps.refl _ _).grown hg (fun k hk=>.inl (by simp [hk])),?_⟩
    intro i hi
    simp at hi
    rcases hat with e | e
    · left; simp [← e,hi]
    · right; rw [e] at hi; injection hi with hi; omega)
theorem app_coreX (K:RowK α) {KK:Act→World→Prop} {Q:Exit→Act→World→Prop} (T:TypeId) (hT:Try.prog.underlying T=some (.slice K.T)) {v:Value} {L L2 L3:List α} {p:Option Addr} {c2:Nat} (d:Nat) (s x:Operand)
    (hF:Fr n a l) (hd:o.dst=some d) (hn:Nat.blt d n=true) (ho:o.op=.call { callee:=.builtin .append,args:=#[s,x],argTypes:=#[T,T] })
    (hs1:hasO l s=true) (hx1:hasO l x=true) (hs:lk l s=v) (hx:lk l x=.slice p L2.length c2)
    (h:St w0 F0 (RowX K v L::RowX K (.slice p L2.length c2) L2::ps) w) (hm:appX L L2=some L3)
    (hK:∀ v' w' a',St w0 F0 (RowX K v' L3::RowX K (.slice p L2.length c2) L2::ps) w'→Fr n a' ((d,v')::del d l)→KK a' w'):Oper.wp Try.prog o a w KK Q:=by
  unfold appX at hm
  split at hm
  · rename_i hlen
    injection hm with hm
    subst hm
    obtain ⟨i0,hi0,hz0,hz1,hz2⟩:=info_parts K.info
    have hput:∀ v',Fr n (a.put o.dst v') ((d,v')::del d l):=fun v'=>by rw [hd]; exact hF.put (Nat.le_of_ble_eq_true hn) _
    cases p with
    | none =>
      obtain ⟨_,p',c',e,hp'⟩:=h.shapeX 1 rfl
      injection e with e1 e2 e3
      subst e1; subst e3
      have h0:L2.length=0:=hp'.resolve_right (by rintro ⟨g,e⟩; cases e)
      have e0:L2=[]:=List.eq_nil_of_length_eq_zero h0
      subst e0
      obtain ⟨_,pv,cv,ev,hpv⟩:=h.shapeX 0 rfl
      have hcap:L.length≤cv:=by
        have:=h.rowX 0 rfl
        rw [ev] at this
        rcases this.2 with ⟨e,h0⟩ | ⟨g',cap,cs,e,h2,h3,h4,h5,h6,h7⟩
        · rw [h0]; exact Nat.zero_le _
        · injection e with e1 e2 e3
          subst e3; exact h4
      unfold Oper.wp execOp
      have hr:=run_append_none (P:=Try.prog) (w:=w) (t:=T) (ty:=o.type) (e:=K.T) hT hi0 (base:=pv) (n:=L.length) (cap:=cv) (c:=c2) hcap
      simp only [ho,resolve,invoke,builtin,Sem.run_bind,Sem.run_pure,Result.andThen_ok,List.map_toArray,List.map_cons,List.map_nil,(hF.eval hs1).trans (hs.trans ev),(hF.eval hx1).trans hx]
      simp only [List.length_nil,hr,Result.andThen_ok]
      rw [← ev]
      exact hK v w _ (by simpa using h) (hput v)
    | some q =>
      obtain ⟨hl2,p',c',e,hp'⟩:=h.shapeX 1 rfl
      injection e with e1 e2 e3
      subst e1; subst e3
      have hq:∀ j u,(L2.flatMap K.cl)[j]?=some u→w.cell? (q.add j)=some u:=by
        intro j u hj
        have hjl:j<L2.length * K.m:=by
          have:=(List.getElem?_eq_some_iff.1 hj).1
          rw [flat_len] at this; exact this
        obtain ⟨g,e⟩:=hp'.resolve_left (fun e0=>by rw [e0] at hjl; simp at hjl)
        obtain rfl:q=⟨g,0,none⟩:=Option.some.inj e
        exact (h.rowX 1 rfl).cells rfl j u hj
      obtain ⟨v',w',hr,h2,h3,h4,h5⟩:=run_append_own_at (P:=Try.prog) w 0 T o.type K.T i0 K.z K.m K.bt hT hi0 hz0 hz1 hz2 (by rw [← K.len K.d,← K.zc]; simp) K.pos v L.length (L.flatMap K.cl) (h.rowX 0 rfl) q L2.length c2 (L2.flatMap K.cl) (flat_len K L2) hq (by intro u hu; obtain ⟨y,_,hy⟩:=List.mem_flatMap.1 hu; exact K.one y u hy) (by unfold maxLen; omega) (by
        have h9:(L.length+L2.length) * K.bt≤1000000 * 64:=Nat.mul_le_mul (by omega) K.sm
        omega) (Nat.zero_le _)
      unfold Oper.wp execOp
      simp only [ho,resolve,invoke,builtin,Sem.run_bind,Sem.run_pure,Result.andThen_ok,List.map_toArray,List.map_cons,List.map_nil,(hF.eval hs1).trans hs,(hF.eval hx1).trans hx,hr]
      exact hK v' w' _ (h.growX h2 h3 h5) (hput v')
  · cases hm
theorem ev_appX (K:RowK α) {Q:Exit→Act→World→Prop} (T:TypeId) (hT:Try.prog.underlying T=some (.slice K.T)) {v:Value} {L L2 L3:List α} {p:Option Addr} {c2:Nat} (d:Nat) (s x:Operand)
    (hF:Fr n a l) (hd:o.dst=some d) (hn:Nat.blt d n=true) (hgd:gdO ops o l=some true) (ho:o.op=.call { callee:=.builtin .append,args:=#[s,x],argTypes:=#[T,T] })
    (hs1:hasO l s=true) (hx1:hasO l x=true) (hs:lk l s=v) (hx:lk l x=.slice p L2.length c2)
    (h:St w0 F0 (RowX K v L::RowX K (.slice p L2.length c2) L2::ps) w) (hm:appX L L2=some L3)
    (hK:∀ v' w' a',St w0 F0 (RowX K v' L3::RowX K (.slice p L2.length c2) L2::ps) w'→Fr n a' ((d,v')::del d l)→wpList Try.prog ops Q rest a' w'):wpList Try.prog ops Q (o::rest) a w:=by
  unfold wpList
  rw [gdO_wanted hF hgd]
  simp only [if_true]
  left
  exact app_coreX K T hT d s x hF hd hn ho hs1 hx1 hs hx h hm hK
theorem op_appX (K:RowK α) {Q:Exit→Act→World→Prop} {S:World→Prop} {listed:Array Bool} {fuel:Nat} (T:TypeId) (hT:Try.prog.underlying T=some (.slice K.T)) (i:Nat) (ls:Array Bool) {v:Value} {L L2 L3:List α} {p:Option Addr} {c2:Nat} (d:Nat) (s x:Operand)
    (hF:Fr n a l) (hi:ops[i]?=some o) (hd:o.dst=some d) (hn:Nat.blt d n=true) (hgd:gdO ops o l=some true) (ho:o.op=.call { callee:=.builtin .append,args:=#[s,x],argTypes:=#[T,T] })
    (hs1:hasO l s=true) (hx1:hasO l x=true) (hs:lk l s=v) (hx:lk l x=.slice p L2.length c2)
    (h:St w0 F0 (RowX K v L::RowX K (.slice p L2.length c2) L2::ps) w) (hm:appX L L2=some L3) (hl:listed.setIfInBounds i true=ls)
    (hK:∀ v' w' a',St w0 F0 (RowX K v' L3::RowX K (.slice p L2.length c2) L2::ps) w'→Fr n a' ((d,v')::del d l)→S w'∧wpAnyH Try.prog .any ops Q S fuel ls a' w') :
    wpOp Try.prog ops Q i (fun a' w'=>S w'∧wpAnyH Try.prog .any ops Q S fuel (listed.setIfInBounds i true) a' w') a w:=by
  subst hl
  unfold wpOp
  rw [hi]
  simp only
  rw [gdO_wanted hF hgd]
  simp only [if_true]
  left
  exact app_coreX K T hT d s x hF hd hn ho hs1 hx1 hs hx h hm hK
end
end Go.Proofs.Ytffnjpapggidlaa
