/- RowG -/
import Derived.Test.YtffnjpapggidlaaKAppM
import Derived.Test.YtffnjpapggidlaaKSepHeap
namespace Go.Proofs.Ytffnjpapggidlaa
open Go.RowKit
set_option linter.unusedVariables false
set_option linter.unusedSimpArgs false
def atG (l:List Gn) (i:Int):Gn:=l.getD i.toNat ⟨0,0,[],false⟩
theorem gnCells_append:∀ (vs vs2:List Value) (l l2:List Gn),vs.length=l.length→gnCells (vs ++ vs2) (l ++ l2)=gnCells vs l ++ gnCells vs2 l2
  | [],vs2,[],l2,_=>rfl
  | v::vs,vs2,g::l,l2,h=>by
    simp only [List.cons_append,gnCells]
    rw [gnCells_append vs vs2 l l2 (by simpa using h)]
theorem gnCells_one:∀ (vs:List Value) (l:List Gn),(∀ v ∈ vs,v.oneCell'=true)→∀ u ∈ gnCells vs l,u.oneCell'=true
  | [],l,_,u,hu=>by cases l <;> simp [gnCells] at hu
  | v::vs,[],_,u,hu=>by simp [gnCells] at hu
  | v::vs,g::l,h,u,hu=>by
    simp only [gnCells,List.mem_cons] at hu
    rcases hu with rfl | rfl | rfl | rfl | hu
    · rfl
    · rfl
    · exact h _ List.mem_cons_self
    · rfl
    · exact gnCells_one vs l (fun x hx=>h x (List.mem_cons_of_mem _ hx)) u hu
section
variable {w0 w:World} {F0:List Nat} {ps:List Piece}
theorem St.atG {k g n c:Nat} {l:List Gn} (hs:St w0 F0 ps w) (hk:ps[k]?=some (GonesP (.slice (some ⟨g,0,none⟩) n c) l)) {i:Int} (hi:inR i l.length=true) :
    ∃ vv:Value,flatV vv=true∧∀ j (hj:j<[Value.int .i64 (Go.Proofs.Ytffnjpapggidlaa.atG l i).kind,.int .i64 (Go.Proofs.Ytffnjpapggidlaa.atG l i).at',vv,.bool (Go.Proofs.Ytffnjpapggidlaa.atG l i).kept].length),w.cell? ⟨g,i.toNat * 4+j,none⟩=some ([Value.int .i64 (Go.Proofs.Ytffnjpapggidlaa.atG l i).kind,.int .i64 (Go.Proofs.Ytffnjpapggidlaa.atG l i).at',vv,.bool (Go.Proofs.Ytffnjpapggidlaa.atG l i).kept][j]):=by
  obtain ⟨h0,h1⟩:=inR_spec hi
  obtain ⟨G,vs,e,F1,F2,_,h2,h3,_⟩:=hs.get k hk
  have hil:i.toNat<l.length:=by omega
  have hc:=h2.1.cells (g:=g) rfl
  obtain ⟨a0,a1,a2,a3⟩:=gnCells_get vs l e i.toNat hil
  have add:∀ j,(⟨g,0,none⟩:Addr).add j=⟨g,j,none⟩:=by
    intro j; have:=Go.WideShapes.add_plain g 0 j; simpa using this
  have b0:=hc _ _ a0
  have b1:=hc _ _ a1
  have b2:=hc _ _ a2
  have b3:=hc _ _ a3
  rw [add] at b0 b1 b2 b3
  have el:Go.Proofs.Ytffnjpapggidlaa.atG l i=l[i.toNat]:=by
    unfold Go.Proofs.Ytffnjpapggidlaa.atG
    rw [List.getD_eq_getElem?_getD,List.getElem?_eq_getElem hil]; rfl
  rw [el]
  refine ⟨vs[i.toNat]'(by omega),?_,fun j hj=>?_⟩
  · -- a row's slice
    have hz:(rowsG vs l)[i.toNat]?=some (RowP (vs[i.toNat]'(by omega)) l[i.toNat].words):=by
      unfold rowsG
      rw [List.getElem?_zipWith,List.getElem?_eq_getElem (by omega),List.getElem?_eq_getElem hil]
    obtain ⟨G2,h4⟩:=h3.get i.toNat hz
    obtain ⟨_,p,c',e4,_⟩:=own_shape h4.1
    rw [e4]; rfl
  · match j,hj with
    | 0,_=>exact b0
    | 1,_=>exact b1
    | 2,_=>exact b2
    | 3,_=>exact b3
theorem St.atGf {k g n c:Nat} {l:List Gn} (hs:St w0 F0 ps w) (hk:ps[k]?=some (GonesP (.slice (some ⟨g,0,none⟩) n c) l)) {i:Int} (hi:inR i l.length=true) :
    w.cell? ⟨g,i.toNat * 4,none⟩=some (.int .i64 (Go.Proofs.Ytffnjpapggidlaa.atG l i).kind)∧w.cell? ⟨g,i.toNat * 4+1,none⟩=some (.int .i64 (Go.Proofs.Ytffnjpapggidlaa.atG l i).at')∧w.cell? ⟨g,i.toNat * 4+3,none⟩=some (.bool (Go.Proofs.Ytffnjpapggidlaa.atG l i).kept):=by
  obtain ⟨vv,_,h⟩:=hs.atG hk hi
  exact ⟨h 0 (Nat.le_of_ble_eq_true rfl),h 1 (Nat.le_of_ble_eq_true rfl),h 3 (Nat.le_of_ble_eq_true rfl)⟩
theorem St.nilG' (h:St w0 F0 ps w):St w0 F0 (GonesP (.slice none 0 0) []::ps) w:=St.nilG h
end
section
variable {ops:Array Oper} {rest:List Oper} {o:Oper} {n:Nat} {a:Act} {l l':Asc} {w0:World} {F0:List Nat} {ps:List Piece} {w:World}
theorem app_coreG {KK:Act→World→Prop} {Q:Exit→Act→World→Prop} (T:TypeId) (hT:Try.prog.underlying T=some (.slice 141)) {v:Value} {L L2 L3:List Gn} {p:Option Addr} {c2:Nat} (d:Nat) (s x:Operand)
    (hF:Fr n a l) (hd:o.dst=some d) (hn:Nat.blt d n=true) (ho:o.op=.call { callee:=.builtin .append,args:=#[s,x],argTypes:=#[T,T] })
    (hs1:hasO l s=true) (hx1:hasO l x=true) (hs:lk l s=v) (hx:lk l x=.slice p L2.length c2)
    (h:St w0 F0 (GonesP v L::GonesP (.slice p L2.length c2) L2::ps) w) (hm:appX L L2=some L3)
    (hK:∀ v' w' a',St w0 F0 (GonesP v' L3::ps) w'→Fr n a' ((d,v')::del d l)→KK a' w'):Oper.wp Try.prog o a w KK Q:=by
  unfold appX at hm
  split at hm
  · rename_i hlen
    injection hm with hm
    subst hm
    obtain ⟨i0,hi0,hz0,hz1,hz2⟩:=info_parts info_gone
    have hput:∀ v',Fr n (a.put o.dst v') ((d,v')::del d l):=fun v'=>by rw [hd]; exact hF.put (Nat.le_of_ble_eq_true hn) _
    obtain ⟨_,p',c',e,hp'⟩:=h.shapeG (k:=1) rfl
    injection e with e1 e2 e3
    subst e1; subst e3
    cases p with
    | none =>
      have h0:L2.length=0:=hp'.resolve_right (by rintro ⟨g,e⟩; cases e)
      have e0:L2=[]:=List.eq_nil_of_length_eq_zero h0
      subst e0
      obtain ⟨_,pv,cv,ev,hpv⟩:=h.shapeG (k:=0) rfl
      have hcap:L.length≤cv:=by
        obtain ⟨vs,e1,h1⟩:=St.openG.1 h
        obtain ⟨G,h2⟩:=h1.head
        have:=h2.1
        rw [ev] at this
        rcases this.2 with ⟨e,h0⟩ | ⟨g',cap,cs,e,h2,h3,h4,h5,h6,h7⟩
        · rw [h0]; exact Nat.zero_le _
        · injection e with e1 e2 e3
          subst e3; exact h4
      unfold Oper.wp execOp
      have hr:=run_append_none (P:=Try.prog) (w:=w) (t:=T) (ty:=o.type) (e:=141) hT hi0 (base:=pv) (n:=L.length) (cap:=cv) (c:=c2) hcap
      simp only [ho,resolve,invoke,builtin,Sem.run_bind,Sem.run_pure,Result.andThen_ok,List.map_toArray,List.map_cons,List.map_nil,(hF.eval hs1).trans (hs.trans ev),(hF.eval hx1).trans hx]
      simp only [List.length_nil,hr,Result.andThen_ok]
      rw [← ev]
      exact hK v w _ (by simpa using h.pick1.drop) (hput v)
    | some q =>
      obtain ⟨vs,e1,h1⟩:=St.openG.1 h
      have h2:St w0 F0 (GonesP (.slice (some q) L2.length c2) L2::(RowG v vs L::(rowsG vs L ++ ps))) w:=h1.perm (List.perm_middle (l₁:=RowG v vs L::rowsG vs L))
      obtain ⟨vs2,e2,h3⟩:=St.openG.1 h2
      have h4:St w0 F0 (RowG v vs L::RowG (.slice (some q) L2.length c2) vs2 L2::(rowsG vs L ++ rowsG vs2 L2 ++ ps)) w:=by
        refine h3.perm (((List.perm_middle (l₁:=rowsG vs2 L2)).cons _).trans ((List.Perm.swap _ _ _).trans (List.Perm.cons _ (List.Perm.cons _ ?_))))
        rw [← List.append_assoc]
        exact List.perm_append_comm.append_right ps
      have hown:w.ownsRow 0 141 4 v L.length (gnCells vs L):=by obtain ⟨G,h5⟩:=h4.head; exact h5.1
      have hown2:w.ownsRow 0 141 4 (.slice (some q) L2.length c2) L2.length (gnCells vs2 L2):=by obtain ⟨G,h5⟩:=h4.get 1 rfl; exact h5.1
      have hone:∀ v ∈ vs2,v.oneCell'=true:=by
        intro v hv
        obtain ⟨i,hi,rfl⟩:=List.mem_iff_getElem.1 hv
        have hz:(rowsG vs2 L2 ++ (RowG (.slice (some q) L2.length c2) vs2 L2::[]))[i]?=some (RowP vs2[i] (L2[i]'(by omega)).words):=by
          unfold rowsG
          rw [List.getElem?_append_left (by simp; omega),List.getElem?_zipWith,List.getElem?_eq_getElem (by omega),List.getElem?_eq_getElem (by omega)]
        have h6:St w0 F0 (rowsG vs2 L2 ++ (RowG v vs L::(rowsG vs L ++ ps))) w:=h3.drop
        have hz2:(rowsG vs2 L2 ++ (RowG v vs L::(rowsG vs L ++ ps)))[i]?=some (RowP vs2[i] (L2[i]'(by omega)).words):=by
          unfold rowsG
          rw [List.getElem?_append_left (by simp; omega),List.getElem?_zipWith,List.getElem?_eq_getElem (by omega),List.getElem?_eq_getElem (by omega)]
        obtain ⟨G2,h7⟩:=h6.get i hz2
        obtain ⟨_,p,c',e4,_⟩:=own_shape h7.1
        rw [e4]; rfl
      have hq:∀ j u,(gnCells vs2 L2)[j]?=some u→w.cell? (q.add j)=some u:=by
        intro j u hj
        have hjl:0<L2.length:=by
          have:=(List.getElem?_eq_some_iff.1 hj).1
          rw [gnCells_len vs2 L2 e2] at this; omega
        obtain ⟨g,e⟩:=hp'.resolve_left (by omega)
        obtain rfl:q=⟨g,0,none⟩:=Option.some.inj e
        exact hown2.cells rfl j u hj
      obtain ⟨v',w',hr,h5,h6,h7,h8⟩:=run_append_own_at (P:=Try.prog) w 0 T o.type 141 i0 (.agg #[.int .i64 0,.int .i64 0,.slice none 0 0,.bool false]) 4 48 hT hi0 hz0 hz1 hz2 rfl (by decide) v L.length (gnCells vs L) hown q L2.length c2 (gnCells vs2 L2) (gnCells_len vs2 L2 e2) hq (gnCells_one vs2 L2 hone) (by unfold maxLen; omega) (by omega) (Nat.zero_le _)
      unfold Oper.wp execOp
      simp only [ho,resolve,invoke,builtin,Sem.run_bind,Sem.run_pure,Result.andThen_ok,List.map_toArray,List.map_cons,List.map_nil,(hF.eval hs1).trans hs,(hF.eval hx1).trans hx,hr]
      refine hK v' w' _ (St.openG.2 ⟨vs ++ vs2,by simp [e1,e2],?_⟩) (hput v')
      have h9:St w0 F0 (RowG v' (vs ++ vs2) (L ++ L2)::RowG (.slice (some q) L2.length c2) vs2 L2::(rowsG vs L ++ rowsG vs2 L2 ++ ps)) w':=by
        refine h4.step1 ?_
        rintro F ⟨hg,rfl⟩
        refine ⟨v'.ownBlock.toList,⟨?_,rfl⟩,(Keeps.refl _ _).grown h6 (fun k hk=>.inl (by simp [hk])),?_⟩
        · rw [gnCells_append vs vs2 L L2 e1,List.length_append]; exact h5
        · intro i hi
          simp at hi
          rcases h8 with e | e
          · left; simp [← e,hi]
          · right; rw [e] at hi; injection hi with hi; omega
      have h10:rowsG (vs ++ vs2) (L ++ L2)=rowsG vs L ++ rowsG vs2 L2:=by unfold rowsG; rw [List.zipWith_append e1]
      rw [h10]
      exact h9.pick1.drop
  · cases hm
theorem ev_appG {Q:Exit→Act→World→Prop} (T:TypeId) (hT:Try.prog.underlying T=some (.slice 141)) {v:Value} {L L2 L3:List Gn} {p:Option Addr} {c2:Nat} (d:Nat) (s x:Operand)
    (hF:Fr n a l) (hd:o.dst=some d) (hn:Nat.blt d n=true) (hgd:gdO ops o l=some true) (ho:o.op=.call { callee:=.builtin .append,args:=#[s,x],argTypes:=#[T,T] })
    (hs1:hasO l s=true) (hx1:hasO l x=true) (hs:lk l s=v) (hx:lk l x=.slice p L2.length c2)
    (h:St w0 F0 (GonesP v L::GonesP (.slice p L2.length c2) L2::ps) w) (hm:appX L L2=some L3)
    (hK:∀ v' w' a',St w0 F0 (GonesP v' L3::ps) w'→Fr n a' ((d,v')::del d l)→wpList Try.prog ops Q rest a' w'):wpList Try.prog ops Q (o::rest) a w:=by
  unfold wpList
  rw [gdO_wanted hF hgd]
  simp only [if_true]
  left
  exact app_coreG T hT d s x hF hd hn ho hs1 hx1 hs hx h hm hK
theorem op_appG {Q:Exit→Act→World→Prop} {S:World→Prop} {listed:Array Bool} {fuel:Nat} (T:TypeId) (hT:Try.prog.underlying T=some (.slice 141)) (i:Nat) (ls:Array Bool) {v:Value} {L L2 L3:List Gn} {p:Option Addr} {c2:Nat} (d:Nat) (s x:Operand)
    (hF:Fr n a l) (hi:ops[i]?=some o) (hd:o.dst=some d) (hn:Nat.blt d n=true) (hgd:gdO ops o l=some true) (ho:o.op=.call { callee:=.builtin .append,args:=#[s,x],argTypes:=#[T,T] })
    (hs1:hasO l s=true) (hx1:hasO l x=true) (hs:lk l s=v) (hx:lk l x=.slice p L2.length c2)
    (h:St w0 F0 (GonesP v L::GonesP (.slice p L2.length c2) L2::ps) w) (hm:appX L L2=some L3) (hl:listed.setIfInBounds i true=ls)
    (hK:∀ v' w' a',St w0 F0 (GonesP v' L3::ps) w'→Fr n a' ((d,v')::del d l)→S w'∧wpAnyH Try.prog .any ops Q S fuel ls a' w') :
    wpOp Try.prog ops Q i (fun a' w'=>S w'∧wpAnyH Try.prog .any ops Q S fuel (listed.setIfInBounds i true) a' w') a w:=by
  subst hl
  unfold wpOp
  rw [hi]
  simp only
  rw [gdO_wanted hF hgd]
  simp only [if_true]
  left
  exact app_coreG T hT d s x hF hd hn ho hs1 hx1 hs hx h hm hK
end
end Go.Proofs.Ytffnjpapggidlaa
