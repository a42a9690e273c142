/- Ev2 Ev3 Ev4 -/
import Derived.Test.YtffnjpapggidlaaKMem
import Derived.Test.YtffnjpapggidlaaKSepLit
import Derived.Laws.StructEq
namespace Go.Proofs.Ytffnjpapggidlaa
open Go.RowKit
set_option linter.unusedVariables false
set_option linter.unusedSimpArgs false
section
variable {P:Program} {ops:Array Oper} {Q:Exit→Act→World→Prop} {n:Nat} {a:Act} {l l':Asc} {w w':World}
theorem run_v {s:Sem Value} {v:Value} {w w':World} (h:s.run P w=.ok v w'):(Sem.run P (do pure (Next.value (← s))) w)=.ok (.value v) w':=by
  rw [Sem.run_bind,h]; rfl
theorem run_u {s:Sem Unit} {w w':World} (h:s.run P w=.ok () w'):(Sem.run P (do s; pure Next.skip) w)=.ok .skip w':=by
  rw [Sem.run_bind,h]; rfl
theorem ev_one {o:Oper} {rest:List Oper} (v:Value) (w':World) (h:Fr n a l) (h1:gdO ops o l=some true) (h2:notSel o.op=true) (h3:o.op.operands.toList.all (hasO l)=true)
    (h4:(execOp (lk l) o).run P w=.ok (.value v) w') (hp:putO n o v l=some l') (hK:∀ a',Fr n a' l'→wpList P ops Q rest a' w'):wpList P ops Q (o::rest) a w:=by
  unfold wpList
  rw [gdO_wanted h h1]
  simp only [if_true]
  left
  unfold Oper.wp
  rw [exec_same h h2 h3,h4]
  exact hK _ (putO_fr h hp)
theorem ev_skip {o:Oper} {rest:List Oper} (w':World) (h:Fr n a l) (h1:gdO ops o l=some true) (h2:notSel o.op=true) (h3:o.op.operands.toList.all (hasO l)=true)
    (h4:(execOp (lk l) o).run P w=.ok .skip w') (hp:putO n o undef l=some l') (hK:∀ a',Fr n a' l'→wpList P ops Q rest a' w'):wpList P ops Q (o::rest) a w:=by
  unfold wpList
  rw [gdO_wanted h h1]
  simp only [if_true]
  left
  unfold Oper.wp
  rw [exec_same h h2 h3,h4]
  exact hK _ (putO_fr h hp)
theorem run_idx {ρ:Operand→Value} {o:Oper} {t e:TypeId} {x i:Operand} {g m c:Nat} {z:Int} {k:IntKind} (ho:o.op=.indexAddr t x i) (hu:P.underlying t=some (.slice e)) (hs:(P.info? e).map (·.size)=some 1)
    (hx:ρ x=.slice (some ⟨g,0,none⟩) m c) (hi:ρ i=.int k z) (h0:0≤z) (h1:z<m) (w:World):(execOp ρ o).run P w=.ok (.value (.pointer (some ⟨g,z.toNat,none⟩))) w:=by
  have ha:(⟨g,0,none⟩:Addr).add (z.toNat * 1)=⟨g,z.toNat,none⟩:=by unfold Addr.add; split <;> simp_all
  unfold execOp
  rw [ho]
  simp only [hx,hi]
  apply run_v
  cases hinf:P.info? e with
  | none=>rw [hinf] at hs; simp at hs
  | some inf =>
    rw [hinf] at hs
    simp only [Option.map_some,Option.some.injEq] at hs
    simp only [Instr.indexAt,asIntOf,underlying,program,sizeOf,typeInfo,Sem.run_bind,Sem.run_pure,Sem.run,Result.andThen,hu,hinf,bind,pure,Sem.bind,h0,h1,and_self,if_true,hs,ha]
theorem run_load1 {ρ:Operand→Value} {o:Oper} {t:TypeId} {x:Operand} {p:Addr} {v:Value} (ho:o.op=.load t x) (hu:P.underlying t=some (.int .i64)) (hx:ρ x=.pointer (some p)) {w:World} (hc:w.cell? p=some v):(execOp ρ o).run P w=.ok (.value v) w:=by
  unfold execOp
  rw [ho]
  simp only [hx]
  apply run_v
  simp only [Instr.loadAt,Instr.sureAddr,loadVar,isAgg,underlying,program,load,Sem.run_bind,Sem.run_pure,Sem.run,Result.andThen,hu,bind,pure,Sem.bind,hc,Bool.false_eq_true,if_false]
theorem ev_region {id:Nat} {os:List Oper} {rest:Code} (live:List Nat) (h:Fr n a l) (hr:(runsE P n os.toArray os l w).map (fun p=>(keepT live p.1,p.2))=some (l',w')) (hK:∀ a',Fr n a' l'→rest.wp P Q a' w'):(Code.seq (Code.region id os.toArray false) rest).wp P Q a w:=by
  refine wp_seq (wp_region_lit ?_)
  cases hx:runsE P n os.toArray os l w with
  | none=>rw [hx] at hr; simp at hr
  | some p =>
    obtain ⟨l2,w2⟩:=p
    rw [hx] at hr
    simp only [Option.map_some,Option.some.injEq,Prod.mk.injEq] at hr
    obtain ⟨rfl,rfl⟩:=hr
    have:=runs_sound (rest:=[]) (ops:=os.toArray) (Q:=Exit.then (rest.wp P Q) Q) h hx (fun a' h'=>hK a' (h'.keep live))
    simpa using this
theorem ev_regionL {id:Nat} {os:List Oper} {K:Act→World→Prop} (live:List Nat) (h:Fr n a l) (hr:(runsE P n os.toArray os l w).map (fun p=>(keepT live p.1,p.2))=some (l',w')) (hK:∀ a',Fr n a' l'→Q .normal a' w'):(Code.region id os.toArray false).wp P Q a w:=by
  refine wp_region_lit ?_
  cases hx:runsE P n os.toArray os l w with
  | none=>rw [hx] at hr; simp at hr
  | some p =>
    obtain ⟨l2,w2⟩:=p
    rw [hx] at hr
    simp only [Option.map_some,Option.some.injEq,Prod.mk.injEq] at hr
    obtain ⟨rfl,rfl⟩:=hr
    have:=runs_sound (rest:=[]) (ops:=os.toArray) (Q:=Q) h hx (fun a' h'=>hK a' (h'.keep live))
    simpa using this
end
theorem St.left {w0 w:World} {F0:List Nat}:∀ {qs ps:List Piece},St w0 F0 (ps ++ qs) w→St w0 F0 ps w:=by
  intro qs ps h
  obtain ⟨F,h1,k,h3⟩:=h
  obtain ⟨F1,F2,rfl,g1,g2,gd⟩:=sepAt_append.1 h1
  exact ⟨F1,g1,k,fun i hi=>h3 i (List.mem_append_left _ hi)⟩
theorem St.ord {w0 w:World} {F0:List Nat} {ps:List Piece} (h:St w0 F0 ps w) (σ:List Nat) (hσ:σ.isPerm (List.range ps.length)=true):St w0 F0 (σ.filterMap (ps[·]?)) w:=by
  have h1:(σ.filterMap (ps[·]?)).Perm ((List.range ps.length).filterMap (ps[·]?)):=(List.isPerm_iff.1 hσ).filterMap _
  have h2:(List.range ps.length).filterMap (ps[·]?)=ps:=by
    clear h h1 hσ
    have:∀ (qs rs:List Piece),(List.range' rs.length qs.length).filterMap ((rs ++ qs)[·]?)=qs:=by
      intro qs
      induction qs with
      | nil=>intro rs; rfl
      | cons q qs ih =>
        intro rs
        have:=ih (rs ++ [q])
        simp only [List.length_cons,List.range'_succ,List.filterMap_cons]
        have e:(rs ++ q::qs)[rs.length]?=some q:=by simp
        rw [e]
        simp only [List.length_append,List.length_cons,List.length_nil,List.append_assoc,List.cons_append,List.nil_append] at this
        rw [this]
    have:=this ps []
    simpa [List.range_eq_range'] using this
  rw [h2] at h1
  exact h.perm h1.symm
theorem St.sel {w0 w:World} {F0:List Nat} {ps:List Piece} (h:St w0 F0 ps w) (σ τ:List Nat) (hσ:(σ ++ τ).isPerm (List.range ps.length)=true):St w0 F0 (σ.filterMap (ps[·]?)) w:=by
  have:=h.ord (σ ++ τ) hσ
  rw [List.filterMap_append] at this
  exact this.left
def bind1 {α R:Type} (m:Option α) (k:α→Option R):Option R:=m.bind k
def bind2 {α β R:Type} (m:Option (α×β)) (k:α→β→Option R):Option R:=m.bind fun x=>k x.1 x.2
def bind3 {α β γ R:Type} (m:Option (α×β×γ)) (k:α→β→γ→Option R):Option R:=m.bind fun x=>k x.1 x.2.1 x.2.2
def bind4 {α β γ δ R:Type} (m:Option (α×β×γ×δ)) (k:α→β→γ→δ→Option R):Option R:=m.bind fun x=>k x.1 x.2.1 x.2.2.1 x.2.2.2
def bind5 {α β γ δ ε R:Type} (m:Option (α×β×γ×δ×ε)) (k:α→β→γ→δ→ε→Option R):Option R:=m.bind fun x=>k x.1 x.2.1 x.2.2.1 x.2.2.2.1 x.2.2.2.2
theorem bind1E {α R:Type} {m:Option α} {k:α→Option R} {r:R} (h:bind1 m k=some r):∃ x,m=some x∧k x=some r:=Option.bind_eq_some_iff.1 h
theorem bind2E {α β R:Type} {m:Option (α×β)} {k:α→β→Option R} {r:R} (h:bind2 m k=some r):∃ x y,m=some (x,y)∧k x y=some r:=by
  obtain ⟨⟨x,y⟩,h1,h2⟩:=Option.bind_eq_some_iff.1 h; exact ⟨x,y,h1,h2⟩
theorem bind3E {α β γ R:Type} {m:Option (α×β×γ)} {k:α→β→γ→Option R} {r:R} (h:bind3 m k=some r):∃ x y z,m=some (x,y,z)∧k x y z=some r:=by
  obtain ⟨⟨x,y,z⟩,h1,h2⟩:=Option.bind_eq_some_iff.1 h; exact ⟨x,y,z,h1,h2⟩
theorem bind4E {α β γ δ R:Type} {m:Option (α×β×γ×δ)} {k:α→β→γ→δ→Option R} {r:R} (h:bind4 m k=some r):∃ x y z u,m=some (x,y,z,u)∧k x y z u=some r:=by
  obtain ⟨⟨x,y,z,u⟩,h1,h2⟩:=Option.bind_eq_some_iff.1 h; exact ⟨x,y,z,u,h1,h2⟩
theorem bind5E {α β γ δ ε R:Type} {m:Option (α×β×γ×δ×ε)} {k:α→β→γ→δ→ε→Option R} {r:R} (h:bind5 m k=some r):∃ x y z u v,m=some (x,y,z,u,v)∧k x y z u v=some r:=by
  obtain ⟨⟨x,y,z,u,v⟩,h1,h2⟩:=Option.bind_eq_some_iff.1 h; exact ⟨x,y,z,u,v,h1,h2⟩
section
variable {P:Program} {Q:Exit→Act→World→Prop} {K:Act→World→Prop} {a:Act} {w:World}
theorem thenN (h:K a w):Exit.then K Q .normal a w:=h
theorem thenE {id:Nat} (h:Q (.exit id) a w):Exit.then K Q (.exit id) a w:=h
theorem thenR (h:Q .ret a w):Exit.then K Q .ret a w:=h
theorem blockN {id:Nat} (h:Q .normal a w):Exit.inBlock id Q .normal a w:=h
theorem blockE {id:Nat} (h:Q .normal a w):Exit.inBlock id Q (.exit id) a w:=by unfold Exit.inBlock; simp only [if_true]; exact h
theorem blockX {id id':Nat} (hne:id'≠id) (h:Q (.exit id') a w):Exit.inBlock id Q (.exit id') a w:=by unfold Exit.inBlock; simp only [hne,if_false]; exact h
theorem blockR {id:Nat} (h:Q .ret a w):Exit.inBlock id Q .ret a w:=h
def resOf (l:Asc):List Nat→Value
  | [t]=>lkT l t
  | ts=>.tuple (ts.map (lkT l)).toArray
theorem ev_ret {fn:Func} {R:Ending→World→Prop} {n:Nat} {l:Asc} (h:Fr n a l) (ts:List Nat) (v:Value) (hr:fn.results=(ts.map ResultVar.tmp).toArray) (hb:ts.all (hasT l)=true) (hv:resOf l ts=v) (hR:R (.returned v) w):bodyPost P fn R .ret a w:=by
  refine bodyPost_ret (v:=v) ?_ h.defers hR
  have hm:∀ ts:List Nat,ts.all (hasT l)=true→ts.map (fun t=>a.tmps.getD t undef)=ts.map (lkT l):=by
    intro ts hts
    exact List.map_congr_left fun t ht=>(h.val t (List.all_eq_true.1 hts t ht)).2
  have key:∀ (f:ResultVar→Sem Value) (hf:∀ t,f (.tmp t)=pure (a.tmps.getD t undef)) (ts:List Nat),(List.mapM (m:=Sem) f (ts.map ResultVar.tmp)).run P w=.ok (ts.map (fun t=>a.tmps.getD t undef)) w:=by
    intro f hf ts
    induction ts with
    | nil=>rfl
    | cons t ts ih =>
      simp only [List.map_cons,List.mapM_cons,Sem.run_bind,hf]
      rw [show Sem.run P (pure (a.tmps.getD t undef)) w=.ok (a.tmps.getD t undef) w from rfl]
      simp only [Result.andThen]
      rw [ih]
      rfl
  unfold results
  rw [hr,List.mapM_toArray,Sem.run_bind]
  simp only [map_eq_pure_bind,Sem.run_bind]
  rw [key _ (fun t=>rfl) ts]
  simp only [Result.andThen]
  rw [hm ts hb]
  subst hv
  match ts with
  | []=>rfl
  | [t]=>rfl
  | t::u::ts=>rfl
end
theorem St.ordP {w0 w:World} {F0:List Nat} (qs ps:List Piece) (h:St w0 F0 (qs ++ ps) w) (σ τ:List Nat) (hσ:(σ ++ τ).isPerm (List.range qs.length)=true):St w0 F0 (σ.filterMap (qs[·]?) ++ ps) w:=by
  have h1:((σ ++ τ).filterMap (qs[·]?)).Perm ((List.range qs.length).filterMap (qs[·]?)):=(List.isPerm_iff.1 hσ).filterMap _
  have h2:(List.range qs.length).filterMap (qs[·]?)=qs:=by
    clear h h1 hσ
    have:∀ (qs rs:List Piece),(List.range' rs.length qs.length).filterMap ((rs ++ qs)[·]?)=qs:=by
      intro qs
      induction qs with
      | nil=>intro rs; rfl
      | cons q qs ih =>
        intro rs
        have:=ih (rs ++ [q])
        simp only [List.length_cons,List.range'_succ,List.filterMap_cons]
        have e:(rs ++ q::qs)[rs.length]?=some q:=by simp
        rw [e]
        simp only [List.length_append,List.length_cons,List.length_nil,List.append_assoc,List.cons_append,List.nil_append] at this
        rw [this]
    have:=this qs []
    simpa [List.range_eq_range'] using this
  rw [h2,List.filterMap_append] at h1
  have h3:(qs ++ ps).Perm (σ.filterMap (qs[·]?) ++ ps ++ τ.filterMap (qs[·]?)):=by
    refine (h1.symm.append_right ps).trans ?_
    rw [List.append_assoc,List.append_assoc]
    exact List.Perm.append_left _ List.perm_append_comm
  exact (h.perm h3).left
theorem St.shapeP {w0 w:World} {F0:List Nat} {ps:List Piece} (h:St w0 F0 ps w) (k:Nat) {p:Option Addr} {n c:Nat} {L:List Int} (hk:ps[k]?=some (RowP (.slice p n c) L)):L.length=0 ∨ ∃ g,p=some ⟨g,0,none⟩:=by
  obtain ⟨_,p',c',e,hp⟩:=h.shape k hk
  injection e with e1 e2 e3
  subst e1; exact hp
def pushM {α:Type} (L:List α) (x:α):Option (List α):=if L.length<1000000 then some (L ++ [x]) else none
theorem ev_push {ops:Array Oper} {rest:List Oper} {o:Oper} {n:Nat} {a:Act} {l:Asc} {Q:Exit→Act→World→Prop} {w0:World} {F0:List Nat} {ps:List Piece} {W:World} {v:Value} {L L2:List Int} {y:Int} (d:Nat) (s x:Operand)
    (hF:Fr n a l) (hd:o.dst=some d) (hn:Nat.blt d n=true) (hgd:o.guard=none) (ho:o.op=.call { callee:=.builtin .append,args:=#[s,x],argTypes:=#[22,22] })
    (hs1:hasO l s=true) (hx1:hasO l x=true) (hs:lk l s=v) (hx:lk l x=.slice (some ⟨W.heap.size,0,none⟩) 1 1)
    (h:St w0 F0 (RowP v L::ps) W) (hm:pushM L y=some L2)
    (hK:∀ g c w' a',St w0 F0 (RowP (.slice (some ⟨g,0,none⟩) L2.length c) L2::ps) w'→Fr n a' ((d,.slice (some ⟨g,0,none⟩) L2.length c)::del d l)→wpList Try.prog ops Q rest a' w') :
    wpList Try.prog ops Q (o::rest) a (W.alloc (.cells #[.int .i64 y] 3)):=by
  unfold pushM at hm
  split at hm
  · rename_i hl
    injection hm with hm
    subst hm
    refine wpList_grow hgd s x ho h rfl ((hF.eval hs1).trans hs) ((hF.eval hx1).trans hx) hl ?_
    intro v' w' h' hne
    obtain ⟨_,p,c,rfl,hp⟩:=h'.shape 0 rfl
    obtain ⟨g,rfl⟩:=hp.resolve_left (by simp)
    rw [hd]
    exact hK g c w' _ h' (hF.put (Nat.le_of_ble_eq_true hn) _)
  · cases hm
theorem ev_condT {P:Program} {Q:Exit→Act→World→Prop} {n:Nat} {a:Act} {l:Asc} {w:World} {c:Operand} {x y:Code} (h:Fr n a l) (hh:hasO l c=true) (hv:lk l c=.bool true) (hK:x.wp P Q a w):(Code.cond c x y).wp P Q a w:=wp_cond_true ((h.eval hh).trans hv) hK
theorem ev_condF {P:Program} {Q:Exit→Act→World→Prop} {n:Nat} {a:Act} {l:Asc} {w:World} {c:Operand} {x y:Code} (h:Fr n a l) (hh:hasO l c=true) (hv:lk l c=.bool false) (hK:y.wp P Q a w):(Code.cond c x y).wp P Q a w:=wp_cond_false ((h.eval hh).trans hv) hK
def inR (i:Int) (n:Nat):Bool:=decide (0≤i) && decide (i<n)
theorem inR_spec {i:Int} {n:Nat} (h:inR i n=true):0≤i∧i<n:=by simpa [inR] using h
def atI (L:List Int) (i:Int):Int:=L.getD i.toNat 0
theorem St.atI {w0 w:World} {F0:List Nat} {ps:List Piece} {g n c:Nat} {L:List Int} (h:St w0 F0 ps w) (k:Nat) (hk:ps[k]?=some (RowP (.slice (some ⟨g,0,none⟩) n c) L)) {i:Int} (hi:inR i L.length=true):w.cell? ⟨g,i.toNat,none⟩=some (.int .i64 (atI L i)):=by
  obtain ⟨h0,h1⟩:=inR_spec hi
  have:=h.num k hk i.toNat (by omega)
  rw [this]
  unfold Go.Proofs.Ytffnjpapggidlaa.atI
  rw [List.getD_eq_getElem?_getD,List.getElem?_eq_getElem (by omega)]; rfl
section
variable {P:Program} {ops:Array Oper} {Q:Exit→Act→World→Prop} {n:Nat} {a:Act} {l l':Asc} {w w':World} {S:World→Prop} {listed:Array Bool} {fuel:Nat}
theorem any_start {id:Nat} {os:List Oper} (S:World→Prop) (sz:Nat) (ls:Array Bool) (hsz:os.toArray.size=sz) (hl:Array.replicate os.toArray.size false=ls) (hm:P.follows .mixedOrders=true) (h:wpAnyH P .any os.toArray Q S sz ls a w.drew):(Code.region id os.toArray true).wp P Q a w :=
  wp_region_held (S:=S) hm (by rw [hl,hsz]; exact h)
theorem any_take (i:Nat) (ls:Array Bool) {o:Oper} (v:Value) (hF:Fr n a l) (hi:ops[i]?=some o) (h1:gdO ops o l=some true) (h2:notSel o.op=true) (h3:o.op.operands.toList.all (hasO l)=true)
    (h4:∀ w,S w→(execOp (lk l) o).run P w=.ok (.value v) w) (hp:putO n o v l=some l')
    (hs:Region.noSelect ops=true) (hf:Region.free .any ops listed i=true) (hr:(Region.ready .any ops listed).contains i=true)
    (hQ:∀ c a w,Q (.panic c) (a.put o.dst v) w→Q (.panic c) a w) (hS:S w) (hl:listed.setIfInBounds i true=ls)
    (hK:∀ a',Fr n a' l'→wpAnyH P .any ops Q S fuel ls a' w):wpAnyH P .any ops Q S (fuel+1) listed a w :=
  wpAnyH_take hi hs hf hr hQ (.inl ⟨gdO_wanted hF h1,fun w hw=>by rw [exec_same hF h2 h3]; exact h4 w hw⟩) hS (by rw [hl]; exact hK _ (putO_fr hF hp))
theorem any_pass (i:Nat) (ls:Array Bool) {o:Oper} (hF:Fr n a l) (hi:ops[i]?=some o) (h1:gdO ops o l=some false) (hp:putO n o undef l=some l')
    (hs:Region.noSelect ops=true) (hf:Region.free .any ops listed i=true) (hr:(Region.ready .any ops listed).contains i=true)
    (hQ:∀ c a w,Q (.panic c) (a.put o.dst undef) w→Q (.panic c) a w) (hS:S w) (hl:listed.setIfInBounds i true=ls)
    (hK:∀ a',Fr n a' l'→wpAnyH P .any ops Q S fuel ls a' w):wpAnyH P .any ops Q S (fuel+1) listed a w :=
  wpAnyH_take hi hs hf hr hQ (.inr ⟨gdO_wanted hF h1,rfl⟩) hS (by rw [hl]; exact hK _ (putO_fr hF hp))
theorem any_call (i:Nat) (ls:Array Bool) {o:Oper} (f:FuncId) (args:Array Value) {d:Nat} (hF:Fr n a l) (hi:ops[i]?=some o) (hr:Region.ready .any ops listed=[i]) (hd:o.dst=some d) (hn:Nat.blt d n=true)
    (h1:gdO ops o l=some true) (h2:notSel o.op=true) (h3:o.op.operands.toList.all (hasO l)=true) (h4:∀ w,(execOp (lk l) o).run P w=.ok (.enter f args) w) (hl:listed.setIfInBounds i true=ls)
    (hc:Calls P f args w (RetV fun v w'=>S w'∧∀ a',Fr n a' ((d,v)::del d l)→wpAnyH P .any ops Q S fuel ls a' w')):wpAnyH P .any ops Q S (fuel+1) listed a w:=by
  subst hl
  refine wpAnyH_all hr (by simp) ?_
  intro j hj
  simp only [List.mem_singleton] at hj
  subst hj
  unfold wpOp
  rw [hi]
  simp only
  rw [gdO_wanted hF h1]
  simp only [if_true]
  left
  unfold Oper.wp
  rw [exec_same hF h2 h3,h4,Oper.upon_enter,hd]
  refine Calls.mono hc fun e w'' he=>?_
  cases e with
  | returned v=>exact ⟨he.1,he.2 _ (hF.put (Nat.le_of_ble_eq_true hn) v)⟩
  | panicked c=>exact he.elim
  | outgrown=>exact he.elim
theorem any_done (hr:Region.ready .any ops listed=[]) (h:Q .normal a w):wpAnyH P .any ops Q S fuel listed a w:=wpAnyH_done hr h fuel
theorem ev_retN {fn:Func} {R:Ending→World→Prop} (h:Fr n a l) (ts:List Nat) (v:Value) (hr:fn.results=(ts.map ResultVar.tmp).toArray) (hb:ts.all (hasT l)=true) (hv:resOf l ts=v) (hR:R (.returned v) w):bodyPost P fn R .normal a w :=
  ev_ret (P:=P) (a:=a) (w:=w) h ts v hr hb hv hR
end
theorem thenJ {P:Program} {Q:Exit→Act→World→Prop} {a:Act} {w:World} {x y:Code} (J:Act→World→Prop) (hx:x.wp P (Exit.then J Q) a w) (hy:∀ a w,J a w→y.wp P Q a w):x.wp P (Exit.then (y.wp P Q) Q) a w :=
  Code.wp_mono (fun e a w h=>by cases e <;> first | exact hy _ _ h | exact h) hx
def subL (l' l:Asc):Prop:=∀ p ∈ l',hasT l p.1=true∧lkT l p.1=lkT l' p.1
theorem hasT_mem:∀ {l:Asc} {t:Nat},hasT l t=true→∃ p ∈ l,p.1=t
  | [],t,h=>by simp [hasT] at h
  | p::l,t,h=>by
    simp only [hasT,Bool.or_eq_true] at h
    rcases h with h | h
    · exact ⟨p,List.mem_cons_self,Nat.eq_of_beq_eq_true h⟩
    · obtain ⟨q,hq,e⟩:=hasT_mem h
      exact ⟨q,List.mem_cons_of_mem _ hq,e⟩
theorem Fr.re {n:Nat} {a:Act} {l l':Asc} (h:Fr n a l) (hk:(l'.map fun p=>(hasT l p.1,lkT l p.1))=l'.map fun p=>(true,lkT l' p.1)):Fr n a l':=by
  refine ⟨h.size,h.defers,fun t ht=>?_⟩
  obtain ⟨p,hp,rfl⟩:=hasT_mem ht
  have:=List.map_inj_left.1 hk p hp
  injection this with h1 h2
  rw [← h2]
  exact h.val _ h1
end Go.Proofs.Ytffnjpapggidlaa
namespace Go.Proofs.Ytffnjpapggidlaa
open Go.RowKit
set_option linter.unusedVariables false
set_option linter.unusedSimpArgs false
section
variable {P:Program} {ops:Array Oper} {Q:Exit→Act→World→Prop} {n:Nat} {a:Act} {l l':Asc} {w w':World}
theorem add_at (g off i:Nat):(⟨g,off,none⟩:Addr).add i=⟨g,off+i,none⟩:=by unfold Addr.add; split <;> simp_all
theorem run_cells {g off:Nat} {cs:List Value} (hc:∀ j (h:j<cs.length),w.cell? ⟨g,off+j,none⟩=some cs[j]):∀ (m i:Nat) (acc:Array Value),i+m=cs.length→(loadCellsFrom ⟨g,off,none⟩ i m acc).run P w=.ok (acc ++ (cs.drop i).toArray) w
  | 0,i,acc,h=>by
    simp only [loadCellsFrom,Sem.run_pure]
    rw [List.drop_eq_nil_of_le (by omega)]; simp
  | m+1,i,acc,h=>by
    simp only [loadCellsFrom,Sem.run_bind,load,Sem.run,add_at]
    rw [hc i (by omega)]
    simp only [Sem.run,Result.andThen]
    rw [run_cells hc m (i+1) _ (by omega)]
    rw [List.drop_eq_getElem_cons (show i<cs.length by omega)]
    simp [pure,Sem.run]
theorem run_loadA {t:TypeId} {g off:Nat} {cs:List Value} {d:TypeDesc} (hu:P.underlying t=some d) (hd:(match d with | .struct _=>true | .array _ _=>true | _=>false)=true) (hs:(P.info? t).map (·.size)=some cs.length) (hc:∀ j (h:j<cs.length),w.cell? ⟨g,off+j,none⟩=some cs[j]):(loadVar t ⟨g,off,none⟩).run P w=.ok (.agg cs.toArray) w:=by
  cases hinf:P.info? t with
  | none=>rw [hinf] at hs; simp at hs
  | some inf =>
    rw [hinf] at hs
    simp only [Option.map_some,Option.some.injEq] at hs
    have hagg:(isAgg t).run P w=.ok true w:=by
      unfold isAgg
      cases d <;> first | (simp at hd; done) | (simp only [underlying,program,Sem.run_bind,Sem.run,hu,bind,pure,Sem.bind,Result.andThen])
    have hsz:(sizeOf t).run P w=.ok cs.length w:=by
      simp only [sizeOf,typeInfo,program,Sem.run_bind,Sem.run,hinf,bind,pure,Sem.bind,hs,Result.andThen]
    have hcl:(loadCells ⟨g,off,none⟩ cs.length).run P w=.ok cs.toArray w:=by
      unfold loadCells
      rw [run_cells hc cs.length 0 #[] (by omega)]
      simp
    unfold loadVar
    rw [Sem.run_bind,hagg]
    simp only [Result.andThen,if_true]
    rw [Sem.run_bind,hsz]
    simp only [Result.andThen]
    rw [Sem.run_bind,hcl]
    rfl
theorem run_loadS {t:TypeId} {p:Addr} {v:Value} {d:TypeDesc} (hu:P.underlying t=some d) (hd:(match d with | .struct _=>false | .array _ _=>false | _=>true)=true) (hc:w.cell? p=some v):(loadVar t p).run P w=.ok v w:=by
  unfold loadVar isAgg
  cases d <;> first | (simp at hd; done) | (simp only [underlying,program,load,Sem.run_bind,Sem.run,hu,bind,pure,Sem.bind,Result.andThen,hc,Bool.false_eq_true,if_false])
theorem run_loadV {ρ:Operand→Value} {o:Oper} {t:TypeId} {x:Operand} {p:Addr} {v:Value} (ho:o.op=.load t x) (hx:ρ x=.pointer (some p)) (h:(loadVar t p).run P w=.ok v w):(execOp ρ o).run P w=.ok (.value v) w:=by
  unfold execOp
  rw [ho]
  simp only [hx]
  apply run_v
  simp only [Instr.loadAt,Instr.sureAddr,Sem.run_bind,Sem.run_pure,Result.andThen,pure,Sem.run]
  exact h
def setL (cs:Array Value) (off:Nat):List Value→Array Value
  | []=>cs
  | v::vs=>setL (cs.setIfInBounds off v) (off+1) vs
def flatV:Value→Bool
  | .agg _=>false
  | .tuple _=>false
  | _=>true
theorem run_storeL {w0:World} {F0:List Nat} {ps:List Piece} {g:Nat} {T:TypeId}:∀ (vs:List Value) (w:World) (cs:Array Value) (off i:Nat),St w0 F0 (BlkP g T cs::ps) w→off+i+vs.length≤cs.size→vs.all flatV=true →
    ∃ w',(storeCells ⟨g,off,none⟩ vs i).run P w=.ok () w'∧St w0 F0 (BlkP g T (setL cs (off+i) vs)::ps) w'
  | [],w,cs,off,i,h,_,_=>⟨w,rfl,h⟩
  | v::vs,w,cs,off,i,h,hl,hf=>by
    simp only [List.all_cons,Bool.and_eq_true] at hf
    simp only [List.length_cons] at hl
    have hc:w.cell? ⟨g,off+i,none⟩=some cs[off+i]:=h.cell 0 rfl (off+i) (Array.getElem?_eq_getElem (by omega))
    have hfr:=h.free 0 rfl (off+i)
    have h2:=h.set (off+i) v
    obtain ⟨w',e,h3⟩:=run_storeL vs _ _ off (i+1) h2 (by simp; omega) hf.2
    refine ⟨w',?_,h3⟩
    simp only [storeCells,Sem.run_bind,store,add_at]
    have:(Sem.store Mode.plain ⟨g,off+i,none⟩ v (Sem.pure ())).run P w=.ok () (w.setCell ⟨g,off+i,none⟩ v):=by
      cases v <;> first | (simp [flatV] at hf; done) | simp only [Sem.run,hc,hfr,Bool.false_eq_true,if_false]
    rw [this]
    simp only [Result.andThen]
    exact e
theorem ev_store {w0:World} {F0:List Nat} {ps:List Piece} {g off:Nat} {T:TypeId} {cs:Array Value} {o:Oper} {rest:List Oper} {t:TypeId} {x y:Operand} (v:Value) (cs':Array Value) (h:Fr n a l) (h1:gdO ops o l=some true) (h2:o.op=.store t x y) (h3:(hasO l x && hasO l y)=true)
    (hx:lk l x=.pointer (some ⟨g,off,none⟩)) (hy:lk l y=v) (hs:(P.info? t).map (·.size)=some v.cells.size) (hS:St w0 F0 (BlkP g T cs::ps) w) (hb:Nat.ble (off+v.cells.size) cs.size=true) (hf:v.cells.toList.all flatV=true) (he:setL cs off v.cells.toList=cs') (hp:putO n o undef l=some l')
    (hK:∀ w' a',St w0 F0 (BlkP g T cs'::ps) w'→Fr n a' l'→wpList P ops Q rest a' w'):wpList P ops Q (o::rest) a w:=by
  simp only [Bool.and_eq_true] at h3
  have hns:notSel o.op=true:=by rw [h2]; rfl
  have hbd:o.op.operands.toList.all (hasO l)=true:=by rw [h2]; simp [Op.operands,h3.1,h3.2]
  obtain ⟨w',e,hS'⟩:=run_storeL (P:=P) v.cells.toList w cs off 0 hS (by have:=Nat.le_of_ble_eq_true hb; simpa using this) hf
  refine ev_skip w' h h1 hns hbd ?_ hp (fun a' hF'=>hK w' a' (he ▸ hS') hF')
  unfold execOp
  rw [h2]
  simp only [hx,hy]
  apply run_u
  cases hinf:P.info? t with
  | none=>rw [hinf] at hs; simp at hs
  | some inf =>
    rw [hinf] at hs
    simp only [Option.map_some,Option.some.injEq] at hs
    simp only [Instr.storeAt,Instr.sureAddr,storeVar,sizeOf,typeInfo,program,Sem.run_bind,Sem.run,Result.andThen,hinf,bind,pure,Sem.bind,hs,ne_eq,not_true_eq_false,if_false]
    exact e
end
def ResV (P:Program) (w:World) (l:Asc):ResultVar→Value→Prop
  | .tmp t,v=>hasT l t=true∧lkT l t=v
  | .cell p ty,v=>hasT l p=true∧∃ a,lkT l p=.pointer (some a)∧(loadVar ty a).run P w=.ok v w
def ResVs (P:Program) (w:World) (l:Asc):List ResultVar→List Value→Prop
  | [],[]=>True
  | r::rs,v::vs=>ResV P w l r v∧ResVs P w l rs vs
  | _,_=>False
def oneOf:List Value→Value
  | [v]=>v
  | vs=>.tuple vs.toArray
theorem ev_retC {P:Program} {a:Act} {w:World} {fn:Func} {R:Ending→World→Prop} {n:Nat} {l:Asc} (h:Fr n a l) (rs:List ResultVar) (vs:List Value) (v:Value) (hr:fn.results=rs.toArray) (hv:ResVs P w l rs vs) (he:oneOf vs=v) (hR:R (.returned v) w):bodyPost P fn R .ret a w:=by
  refine bodyPost_ret (v:=v) ?_ h.defers hR
  have key:∀ (f:ResultVar→Sem Value) (hf:∀ r v,ResV P w l r v→(f r).run P w=.ok v w) (rs:List ResultVar) (vs:List Value),ResVs P w l rs vs→(List.mapM (m:=Sem) f rs).run P w=.ok vs w:=by
    intro f hf rs
    induction rs with
    | nil=>intro vs hv; cases vs with
      | nil=>rfl
      | cons v vs=>exact hv.elim
    | cons r rs ih =>
      intro vs hv
      cases vs with
      | nil=>exact hv.elim
      | cons v vs =>
        simp only [List.mapM_cons,Sem.run_bind]
        rw [hf _ _ hv.1]
        simp only [Result.andThen]
        rw [ih _ hv.2]
        rfl
  unfold results
  rw [hr,List.mapM_toArray,Sem.run_bind]
  simp only [map_eq_pure_bind,Sem.run_bind]
  rw [key _ ?_ rs vs hv]
  · simp only [Result.andThen]
    subst he
    match vs with
    | []=>rfl
    | [t]=>rfl
    | t::u::ts=>rfl
  · intro r v hrv
    cases r with
    | tmp t =>
      obtain ⟨h1,rfl⟩:=hrv
      show Sem.run P (pure (a.tmps.getD t undef)) w=_
      rw [(h.val t h1).2]; rfl
    | cell p ty =>
      obtain ⟨h1,ad,h2,h3⟩:=hrv
      show Sem.run P (do loadVar ty (← asAddr (a.tmps.getD p undef))) w=_
      rw [(h.val p h1).2,h2]
      simp only [asAddr,Sem.run_bind,Sem.run,pure,Result.andThen]
      exact h3
theorem blk_cells {w0 w:World} {F0:List Nat} {ps:List Piece} {g off:Nat} {T:TypeId} {cs:Array Value} {vs:List Value} (h:St w0 F0 ps w) (k:Nat) (hk:ps[k]?=some (BlkP g T cs)) (he:(cs.toList.drop off).take vs.length=vs):∀ j (hj:j<vs.length),w.cell? ⟨g,off+j,none⟩=some vs[j]:=by
  intro j hj
  refine h.cell k hk (off+j) ?_
  have h1:vs[j]?=some vs[j]:=List.getElem?_eq_getElem hj
  have h2:=congrArg (fun l:List Value=>l[j]?) he
  change _=vs[j]? at h2
  rw [h1,List.getElem?_take_of_lt hj,List.getElem?_drop] at h2
  simpa using h2
def leR (i:Int) (n:Nat):Bool:=decide (0≤i) && decide (i≤n)
theorem leR_spec {i:Int} {n:Nat} (h:leR i n=true):0≤i∧i≤n:=by simpa [leR] using h
theorem leR_nat {i:Int} {n:Nat} (h:leR i n=true):i.toNat≤n:=by have:=leR_spec h; omega
theorem St.cap {w0 w:World} {F0:List Nat} {ps:List Piece} (h:St w0 F0 ps w) (k:Nat) {p:Option Addr} {n c:Nat} {L:List Int} (hk:ps[k]?=some (RowP (.slice p n c) L)):L.length≤c:=by
  obtain ⟨G,h1⟩:=h.get k hk
  rcases h1.1.2 with ⟨e,h0⟩ | ⟨g',cap,cs,e,h2,h3,h4,h5,h6,h7⟩
  · rw [h0]; exact Nat.zero_le _
  · injection e with e1 e2 e3
    subst e3; exact h4
theorem run_sliceHi {P:Program} {ρ:Operand→Value} {o:Oper} {t e:TypeId} {x i:Operand} {g m c:Nat} {z:Int} {k:IntKind} (ho:o.op=.slice t x none (some i) none) (hu:P.underlying t=some (.slice e)) (hs:(P.info? e).map (·.size)=some 1)
    (hx:ρ x=.slice (some ⟨g,0,none⟩) m c) (hi:ρ i=.int k z) (h0:0≤z) (h1:z≤c) (w:World):(execOp ρ o).run P w=.ok (.value (.slice (some ⟨g,0,none⟩) z.toNat c)) w:=by
  have ha:(⟨g,0,none⟩:Addr).add (0 * 1)=⟨g,0,none⟩:=rfl
  unfold execOp
  rw [ho]
  simp only [Option.map_none,Option.map_some,hx,hi]
  apply run_v
  cases hinf:P.info? e with
  | none=>rw [hinf] at hs; simp at hs
  | some inf =>
    rw [hinf] at hs
    simp only [Option.map_some,Option.some.injEq] at hs
    have hb:(Instr.sliceBounds true m c none (some (.int k z)) none).run P w=.ok (0,z.toNat,c) w:=by
      simp only [Instr.sliceBounds,Instr.sliceBound,asIntOf,Sem.run_bind,Sem.run_pure,Sem.run,Result.andThen,bind,pure,Sem.bind,h0,h1,and_self,if_true]
    have hsz:(sizeOf e).run P w=.ok 1 w:=by
      simp only [sizeOf,typeInfo,program,Sem.run_bind,Sem.run,hinf,bind,pure,Sem.bind,hs,Result.andThen]
    have hun:(underlying t).run P w=.ok (.slice e) w:=by
      simp only [underlying,program,Sem.run_bind,Sem.run,hu,bind,pure,Sem.bind,Result.andThen]
    unfold Instr.sliceAt
    rw [Sem.run_bind,hun]
    simp only [Result.andThen]
    unfold Instr.slice
    rw [Sem.run_bind,hun]
    simp only [Result.andThen]
    rw [Sem.run_bind,hb]
    simp only [Result.andThen]
    rw [Sem.run_bind,hsz]
    simp only [Result.andThen,Nat.sub_zero,Option.map_some,ha]
    by_cases hc:c=0 <;> simp [hc,pure,Sem.run]
theorem run_rem {P:Program} {ρ:Operand→Value} {o:Oper} {t t2:TypeId} {x y:Operand} {k:IntKind} {a b:Int} (ho:o.op=.binOp .rem t x y t2) (hx:ρ x=.int k a) (hy:ρ y=.int k b) (hb:(b == 0)=false) (w:World):(execOp ρ o).run P w=.ok (.value (.int k (a.tmod b))) w:=by
  have hb':¬ b=0:=by simpa using hb
  unfold execOp
  rw [ho]
  simp only [hx,hy]
  apply run_v
  simp only [eqGuard,binOp,Op.intDiv,hb',if_false,Sem.run_bind,Sem.run,bind,pure,Sem.bind,Result.andThen,ne_eq,not_true_eq_false,Bool.not_false,if_true]
theorem run_quo {P:Program} {ρ:Operand→Value} {o:Oper} {t t2:TypeId} {x y:Operand} {k:IntKind} {a b:Int} (ho:o.op=.binOp .quo t x y t2) (hx:ρ x=.int k a) (hy:ρ y=.int k b) (hb:(b == 0)=false) (w:World):(execOp ρ o).run P w=.ok (.value (.int k (k.wrap (a.tdiv b)))) w:=by
  have hb':¬ b=0:=by simpa using hb
  unfold execOp
  rw [ho]
  simp only [hx,hy]
  apply run_v
  simp only [eqGuard,binOp,Op.intDiv,hb',if_false,Sem.run_bind,Sem.run,bind,pure,Sem.bind,Result.andThen,ne_eq,not_true_eq_false,Bool.not_false,if_true]
theorem run_idxA {P:Program} {ρ:Operand→Value} {o:Oper} {t e:TypeId} {x i:Operand} {g off ln sz off':Nat} {q:Int} {k:IntKind} (ho:o.op=.indexAddr t x i) (hu:P.underlying t=some (.array ln e)) (hs:(P.info? e).map (·.size)=some sz)
    (hx:ρ x=.pointer (some ⟨g,off,none⟩)) (hi:ρ i=.int k q) (h0:0≤q) (h1:q<ln) (he:off+q.toNat * sz=off') (w:World):(execOp ρ o).run P w=.ok (.value (.pointer (some ⟨g,off',none⟩))) w:=by
  unfold execOp
  rw [ho]
  simp only [hx,hi]
  apply run_v
  cases hinf:P.info? e with
  | none=>rw [hinf] at hs; simp at hs
  | some inf =>
    rw [hinf] at hs
    simp only [Option.map_some,Option.some.injEq] at hs
    simp only [Instr.indexAt,asIntOf,underlying,program,sizeOf,typeInfo,Instr.sureAddr,Sem.run_bind,Sem.run_pure,Sem.run,Result.andThen,hu,hinf,bind,pure,Sem.bind,h0,h1,and_self,if_true,hs,add_at,he]
theorem ev_pushT (T:TypeId) (hT:Try.prog.underlying T=some (.slice 3)) {ops:Array Oper} {rest:List Oper} {o:Oper} {n:Nat} {a:Act} {l:Asc} {Q:Exit→Act→World→Prop} {w0:World} {F0:List Nat} {ps:List Piece} {W:World} {v:Value} {L L2:List Int} {y:Int} (d:Nat) (s x:Operand)
    (hF:Fr n a l) (hd:o.dst=some d) (hn:Nat.blt d n=true) (hgd:o.guard=none) (ho:o.op=.call { callee:=.builtin .append,args:=#[s,x],argTypes:=#[T,T] })
    (hs1:hasO l s=true) (hx1:hasO l x=true) (hs:lk l s=v) (hx:lk l x=.slice (some ⟨W.heap.size,0,none⟩) 1 1)
    (h:St w0 F0 (RowP v L::ps) W) (hm:pushM L y=some L2)
    (hK:∀ g c w' a',St w0 F0 (RowP (.slice (some ⟨g,0,none⟩) L2.length c) L2::ps) w'→Fr n a' ((d,.slice (some ⟨g,0,none⟩) L2.length c)::del d l)→wpList Try.prog ops Q rest a' w') :
    wpList Try.prog ops Q (o::rest) a (W.alloc (.cells #[.int .i64 y] 3)):=by
  unfold pushM at hm
  split at hm
  · rename_i hl
    injection hm with hm
    subst hm
    obtain ⟨i0,hi,hz0,hz1,hz2⟩:=info_parts info_iV
    refine wpList_append_own_at _ hgd s x T ho 0 3 i0 (.int .i64 0) 1 8 hT hi hz0 hz1 hz2 rfl (by decide) v L.length (iV L) ((hF.eval hs1).trans hs) ((h.row 0 rfl).alloc _) ⟨W.heap.size,0,none⟩ 1 1 [.int .i64 y] ((hF.eval hx1).trans hx) rfl (cell_one_new _ _ _) ?_ (by unfold maxLen; omega) (by omega) (Nat.zero_le _) ?_
    · intro u hu; simp at hu; subst hu; rfl
    · intro v' w' ho' hg' hn' hat'
      have h':=h.grow ho' hg' hat'
      obtain ⟨_,p,c,rfl,hp⟩:=h'.shape 0 rfl
      obtain ⟨g,rfl⟩:=hp.resolve_left (by simp)
      rw [hd]
      exact hK g c w' _ h' (hF.put (Nat.le_of_ble_eq_true hn) _)
  · cases hm
section
variable {P:Program} {d:Nat} {xs ys:Array Value} {f:Field} {fs:List Field} {r s:Bool} {w:World}
theorem eqf_nil:(Op.eqFields d xs ys []).run P w=.ok true w:=by simp [Op.eqFields]
theorem eqf_gen (hn : (f.name == "_") = false) {a b : Value} (ha : (part f.type xs f.offset).run P w = .ok a w) (hb : (part f.type ys f.offset).run P w = .ok b w) (he : (Op.equalIn d f.type a b).run P w = .ok r w) (hr : (Op.eqFields d xs ys fs).run P w = .ok s w) : (Op.eqFields d xs ys (f :: fs)).run P w = .ok (r && s) w := by
  have hn' : f.name ≠ "_" := by simpa using hn
  rw [Op.eqFields]
  simp only [if_pos hn',Sem.run_bind,ha,hb,he,Result.andThen_ok]
  cases r
  · simp
  · simpa using hr
theorem part_int {t:TypeId} {k:IntKind} {off:Nat} {v:Value} (hu:P.underlying t=some (.int k)) (hx:xs[off]?=some v):(part t xs off).run P w=.ok v w:=by
  have hagg:(isAgg t).run P w=.ok false w:=by
    simp only [isAgg,underlying,program,Sem.run_bind,Sem.run,hu,bind,pure,Sem.bind,Result.andThen]
  unfold part
  rw [Sem.run_bind,hagg]
  simp only [Result.andThen,Bool.false_eq_true,if_false,hx]
  rfl
theorem eqf_int {k k' : IntKind} {a b : Int} (hn : (f.name == "_") = false) (hu : P.underlying f.type = some (.int k)) (hx : xs[f.offset]? = some (.int k' a)) (hy : ys[f.offset]? = some (.int k' b)) (hr : (Op.eqFields (d + 1) xs ys fs).run P w = .ok s w) : (Op.eqFields (d + 1) xs ys (f :: fs)).run P w = .ok ((a == b) && s) w :=
  eqf_gen hn (part_int hu hx) (part_int hu hy) (run_equalIn_int w d f.type k' k a b hu) hr
theorem run_eqS {ρ:Operand→Value} {o:Oper} {t t2:TypeId} {x y:Operand} {fa:Array Field} (ho:o.op=.binOp .eql t x y t2) (hx:ρ x=.agg xs) (hy:ρ y=.agg ys) (hg:P.eqGuardType P.depth t=false) (hu:P.underlying t=some (.struct fa)) (hp:P.stoodInHeld t=false) (h:(Op.eqFields 9999 xs ys fa.toList).run P w=.ok r w):(execOp ρ o).run P w=.ok (.value (.bool r)) w:=by
  have hf:P.fieldsOf t=fa:=by simp [Program.fieldsOf,hu]
  unfold execOp
  rw [ho]
  simp only [hx,hy]
  apply run_v
  rw [Sem.run_bind,run_eqGuard_agg w .eql t x y xs ys hg]
  simp only [Result.andThen]
  rw [run_eql_struct,run_equalIn_struct (P:=P) w 9999 t xs ys (by rw [hf]; exact hu) hp,hf,h]
  rfl
theorem run_neS {ρ:Operand→Value} {o:Oper} {t t2:TypeId} {x y:Operand} {fa:Array Field} (ho:o.op=.binOp .neq t x y t2) (hx:ρ x=.agg xs) (hy:ρ y=.agg ys) (hg:P.eqGuardType P.depth t=false) (hu:P.underlying t=some (.struct fa)) (hp:P.stoodInHeld t=false) (h:(Op.eqFields 9999 xs ys fa.toList).run P w=.ok r w):(execOp ρ o).run P w=.ok (.value (.bool (!r))) w:=by
  have hf:P.fieldsOf t=fa:=by simp [Program.fieldsOf,hu]
  unfold execOp
  rw [ho]
  simp only [hx,hy]
  apply run_v
  rw [Sem.run_bind,run_eqGuard_agg w .neq t x y xs ys hg]
  simp only [Result.andThen]
  rw [run_neq_struct,run_equalIn_struct (P:=P) w 9999 t xs ys (by rw [hf]; exact hu) hp,hf,h]
  rfl
end
section
variable {P:Program} {ops:Array Oper} {Q:Exit→Act→World→Prop} {n:Nat} {a:Act} {l l':Asc} {w w':World} {S:World→Prop} {listed:Array Bool} {fuel:Nat}
theorem op_step (i:Nat) (ls:Array Bool) {o:Oper} (v:Value) (w2:World) (hF:Fr n a l) (hi:ops[i]?=some o) (h1:gdO ops o l=some true) (h2:notSel o.op=true) (h3:o.op.operands.toList.all (hasO l)=true)
    (h4:(execOp (lk l) o).run P w=.ok (.value v) w2) (hp:putO n o v l=some l') (hS:S w2) (hl:listed.setIfInBounds i true=ls)
    (hK:∀ a',Fr n a' l'→wpAnyH P .any ops Q S fuel ls a' w2):wpOp P ops Q i (fun a' w'=>S w'∧wpAnyH P .any ops Q S fuel (listed.setIfInBounds i true) a' w') a w:=by
  subst hl
  unfold wpOp
  rw [hi]
  simp only
  rw [gdO_wanted hF h1]
  simp only [if_true]
  left
  unfold Oper.wp
  rw [exec_same hF h2 h3,h4]
  exact ⟨hS,hK _ (putO_fr hF hp)⟩
theorem op_call (i:Nat) (ls:Array Bool) {o:Oper} (f:FuncId) (args:Array Value) {d:Nat} (hF:Fr n a l) (hi:ops[i]?=some o) (hd:o.dst=some d) (hn:Nat.blt d n=true)
    (h1:gdO ops o l=some true) (h2:notSel o.op=true) (h3:o.op.operands.toList.all (hasO l)=true) (h4:∀ w,(execOp (lk l) o).run P w=.ok (.enter f args) w) (hl:listed.setIfInBounds i true=ls)
    (hc:Calls P f args w (RetV fun v w'=>S w'∧∀ a',Fr n a' ((d,v)::del d l)→wpAnyH P .any ops Q S fuel ls a' w')):wpOp P ops Q i (fun a' w'=>S w'∧wpAnyH P .any ops Q S fuel (listed.setIfInBounds i true) a' w') a w:=by
  subst hl
  unfold wpOp
  rw [hi]
  simp only
  rw [gdO_wanted hF h1]
  simp only [if_true]
  left
  unfold Oper.wp
  rw [exec_same hF h2 h3,h4,Oper.upon_enter,hd]
  refine Calls.mono hc fun e w'' he=>?_
  cases e with
  | returned v=>exact ⟨he.1,he.2 _ (hF.put (Nat.le_of_ble_eq_true hn) v)⟩
  | panicked c=>exact he.elim
  | outgrown=>exact he.elim
theorem any_two (i j:Nat) (hr:Region.ready .any ops listed=[i,j]) (h1:wpOp P ops Q i (fun a' w'=>S w'∧wpAnyH P .any ops Q S fuel (listed.setIfInBounds i true) a' w') a w) (h2:wpOp P ops Q j (fun a' w'=>S w'∧wpAnyH P .any ops Q S fuel (listed.setIfInBounds j true) a' w') a w):wpAnyH P .any ops Q S (fuel+1) listed a w:=by
  refine wpAnyH_all hr (by simp) ?_
  intro k hk
  simp only [List.mem_cons,List.not_mem_nil,or_false] at hk
  rcases hk with rfl | rfl
  · exact h1
  · exact h2
end
section
variable {P:Program} {ops:Array Oper} {Q:Exit→Act→World→Prop} {n:Nat} {a:Act} {l l':Asc} {w w':World} {S:World→Prop} {listed:Array Bool} {fuel:Nat}
theorem any_one (i:Nat) (hr:Region.ready .any ops listed=[i]) (h1:wpOp P ops Q i (fun a' w'=>S w'∧wpAnyH P .any ops Q S fuel (listed.setIfInBounds i true) a' w') a w):wpAnyH P .any ops Q S (fuel+1) listed a w:=by
  refine wpAnyH_all hr (by simp) ?_
  intro k hk
  simp only [List.mem_singleton] at hk
  subst hk
  exact h1
theorem op_store (i:Nat) (ls:Array Bool) {w0:World} {F0:List Nat} {ps:List Piece} {g off:Nat} {T:TypeId} {cs:Array Value} {o:Oper} {t:TypeId} {x y:Operand} (v:Value) (cs':Array Value) (h:Fr n a l) (hi:ops[i]?=some o) (h1:gdO ops o l=some true) (h2:o.op=.store t x y) (h3:(hasO l x && hasO l y)=true)
    (hx:lk l x=.pointer (some ⟨g,off,none⟩)) (hy:lk l y=v) (hs:(P.info? t).map (·.size)=some v.cells.size) (hS:St w0 F0 (BlkP g T cs::ps) w) (hb:Nat.ble (off+v.cells.size) cs.size=true) (hf:v.cells.toList.all flatV=true) (he:setL cs off v.cells.toList=cs') (hp:putO n o undef l=some l') (hl:listed.setIfInBounds i true=ls)
    (hK:∀ w' a',St w0 F0 (BlkP g T cs'::ps) w'→Fr n a' l'→S w'∧wpAnyH P .any ops Q S fuel ls a' w'):wpOp P ops Q i (fun a' w'=>S w'∧wpAnyH P .any ops Q S fuel (listed.setIfInBounds i true) a' w') a w:=by
  subst hl
  simp only [Bool.and_eq_true] at h3
  have hns:notSel o.op=true:=by rw [h2]; rfl
  have hbd:o.op.operands.toList.all (hasO l)=true:=by rw [h2]; simp [Op.operands,h3.1,h3.2]
  obtain ⟨w',e,hS'⟩:=run_storeL (P:=P) v.cells.toList w cs off 0 hS (by have:=Nat.le_of_ble_eq_true hb; simpa using this) hf
  have hrun:(execOp (lk l) o).run P w=.ok .skip w':=by
    unfold execOp
    rw [h2]
    simp only [hx,hy]
    apply run_u
    cases hinf:P.info? t with
    | none=>rw [hinf] at hs; simp at hs
    | some inf =>
      rw [hinf] at hs
      simp only [Option.map_some,Option.some.injEq] at hs
      simp only [Instr.storeAt,Instr.sureAddr,storeVar,sizeOf,typeInfo,program,Sem.run_bind,Sem.run,Result.andThen,hinf,bind,pure,Sem.bind,hs,ne_eq,not_true_eq_false,if_false]
      exact e
  unfold wpOp
  rw [hi]
  simp only
  rw [gdO_wanted h h1]
  simp only [if_true]
  left
  unfold Oper.wp
  rw [exec_same h hns hbd,hrun]
  exact hK w' _ (he ▸ hS') (putO_fr h hp)
end
end Go.Proofs.Ytffnjpapggidlaa
namespace Go.Proofs.Ytffnjpapggidlaa
open Go.RowKit
set_option linter.unusedVariables false
set_option linter.unusedSimpArgs false
def opA (ops:Array Oper) (i:Nat):Oper:=ops.getD i default
def dstA (ops:Array Oper) (i:Nat):Nat:=(opA ops i).dst.getD 0
def statB (n:Nat) (ops:Array Oper) (ls:Array Bool) (l:Asc) (i:Nat) (v:Option Value):Bool :=
  Nat.blt i ops.size && (match (opA ops i).dst with | some d=>Nat.blt d n | none=>false) && Region.free .any ops ls i && (Region.ready .any ops ls).contains i &&
  (match v,gdO ops (opA ops i) l with
   | some _,some true=>notSel (opA ops i).op && (opA ops i).op.operands.toList.all (hasO l)
   | none,some false=>true
   | _,_=>false)
def putA (ops:Array Oper) (l:Asc) (i:Nat) (v:Option Value):Asc:=(dstA ops i,v.getD undef)::del (dstA ops i) l
def statsB (n:Nat) (ops:Array Oper):List (Nat×Option Value)→Asc→Array Bool→Bool
  | [],_,_=>true
  | (i,v)::is,l,ls=>statB n ops ls l i v && statsB n ops is (putA ops l i v) (ls.setIfInBounds i true)
def runsP (P:Program) (ops:Array Oper) (S:World→Prop):List (Nat×Option Value)→Asc→Prop
  | [],_=>True
  | (i,v)::is,l=>(match v with | some x=>∀ w,S w→(execOp (lk l) (opA ops i)).run P w=.ok (.value x) w | none=>True)∧runsP P ops S is (putA ops l i v)
def finA (ops:Array Oper):List (Nat×Option Value)→Asc→Array Bool→Asc×Array Bool
  | [],l,ls=>(l,ls)
  | (i,v)::is,l,ls=>finA ops is (putA ops l i v) (ls.setIfInBounds i true)
section
variable {P:Program} {ops:Array Oper} {Q:Exit→Act→World→Prop} {n:Nat} {w:World} {S:World→Prop}
theorem any_many0 (hs:Region.noSelect ops=true) (hQ:∀ c (a:Act) (d:Nat) (v:Value) w,Q (.panic c) (a.put (some d) v) w→Q (.panic c) a w) (hS:S w) :
    ∀ (is:List (Nat×Option Value)) (l:Asc) (ls:Array Bool) (a:Act) (fuel:Nat),Fr n a l→statsB n ops is l ls=true→runsP P ops S is l →
      (∀ a',Fr n a' (finA ops is l ls).1→wpAnyH P .any ops Q S fuel (finA ops is l ls).2 a' w)→wpAnyH P .any ops Q S (fuel+is.length) ls a w
  | [],l,ls,a,fuel,hF,_,_,hK=>hK a hF
  | (i,v)::is,l,ls,a,fuel,hF,hb,hr,hK=>by
    simp only [statsB,Bool.and_eq_true] at hb
    obtain ⟨hb,hb2⟩:=hb
    simp only [statB,Bool.and_eq_true] at hb
    obtain ⟨⟨⟨⟨h1,h2⟩,h3⟩,h4⟩,h5⟩:=hb
    have hi:ops[i]?=some (opA ops i):=by
      have hlt:i<ops.size:=Nat.le_of_ble_eq_true h1
      unfold opA
      rw [Array.getElem?_eq_getElem hlt,Array.getD_eq_getD_getElem?,Array.getElem?_eq_getElem hlt]; rfl
    cases hd:(opA ops i).dst with
    | none=>rw [hd] at h2; simp at h2
    | some d =>
      rw [hd] at h2
      have hda:dstA ops i=d:=by unfold dstA; rw [hd]; rfl
      have hput:∀ x:Value,putO n (opA ops i) x l=some ((d,x)::del d l):=by
        intro x; unfold putO; rw [hd]; simp only [h2,cond_true]
      obtain ⟨hr1,hr2⟩:=hr
      have rest:∀ a',Fr n a' (putA ops l i v)→wpAnyH P .any ops Q S (fuel+is.length) (ls.setIfInBounds i true) a' w:=fun a' hF' =>
        any_many0 hs hQ hS is _ _ a' fuel hF' hb2 hr2 hK
      cases v with
      | some x =>
        cases hg:gdO ops (opA ops i) l with
        | none=>rw [hg] at h5; simp at h5
        | some b =>
          cases b with
          | false=>rw [hg] at h5; simp at h5
          | true =>
            rw [hg] at h5
            simp only [Bool.and_eq_true] at h5
            refine any_take i (ls.setIfInBounds i true) x hF hi hg h5.1 h5.2 hr1 (hput x) hs h3 h4 (by rw [hd]; exact fun c a w=>hQ c a d x w) hS rfl ?_
            intro a' hF'
            refine rest a' ?_
            unfold putA; rw [hda]; exact hF'
      | none =>
        cases hg:gdO ops (opA ops i) l with
        | none=>rw [hg] at h5; simp at h5
        | some b =>
          cases b with
          | true=>rw [hg] at h5; simp at h5
          | false =>
            refine any_pass i (ls.setIfInBounds i true) hF hi hg (hput undef) hs h3 h4 (by rw [hd]; exact fun c a w=>hQ c a d undef w) hS rfl ?_
            intro a' hF'
            refine rest a' ?_
            unfold putA; rw [hda]; exact hF'
theorem any_many (m:Nat) (is:List (Nat×Option Value)) (live:List Nat) {l l':Asc} (ls:Array Bool) {ls0:Array Bool} {a:Act} {fuel:Nat} (hm:is.length=m) (hF:Fr n a l) (hs:Region.noSelect ops=true) (hb:statsB n ops is l ls0=true) (hr:runsP P ops S is l)
    (hQ:∀ c (a:Act) (d:Nat) (v:Value) w,Q (.panic c) (a.put (some d) v) w→Q (.panic c) a w) (hS:S w) (he:(keepT live (finA ops is l ls0).1,(finA ops is l ls0).2)=(l',ls))
    (hK:∀ a',Fr n a' l'→wpAnyH P .any ops Q S fuel ls a' w):wpAnyH P .any ops Q S (fuel+m) ls0 a w:=by
  subst hm
  injection he with e1 e2
  refine any_many0 hs hQ hS is l ls0 a fuel hF hb hr ?_
  intro a' hF'
  rw [e2]
  refine hK a' ?_
  rw [← e1]
  exact hF'.keep live
end
end Go.Proofs.Ytffnjpapggidlaa
