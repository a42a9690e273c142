/- RowO3 AppK -/
import Derived.Test.YtffnjpapggidlaaGreatKArgK
import Derived.Test.YtffnjpapggidlaaGreatKAppM
namespace Go.Proofs.YtffnjpapggidlaaGreat
open Go.RowKit
set_option linter.unusedVariables false
set_option linter.unusedSimpArgs false
theorem blk_setCells {g:Nat} {T:TypeId}:∀ (vs:List Value) (w:World) (cs:Array Value) (off:Nat),Blk w g T cs→Blk (w.setCells g off vs) g T (setL cs off vs)
  | [],w,cs,off,h=>h
  | v::vs,w,cs,off,h=>blk_setCells vs _ _ _ (h.set off v)
theorem keeps_setCells {F:List Nat} {a:World} {g:Nat} (hg:g ∈ F):∀ (vs:List Value) (w:World) (off:Nat),Keeps F a w→Keeps F a (w.setCells g off vs)
  | [],w,off,h=>h
  | v::vs,w,off,h=>keeps_setCells hg vs _ _ (h.set (.inl hg) _)
theorem iV_get {L:List Int} {j:Nat} (h:j<L.length):(iV L)[j]?=some (.int .i64 L[j]):=by simp [iV,h]
theorem app_runO {w0 w:World} {F0:List Nat} {ps:List Piece} {v:Value} {L L2:List Int} {q:Addr} {c0:Nat} (T ty:TypeId) (hT:Tryz.prog.underlying T=some (.slice 3)) (h:St w0 F0 (OffP v L::RowP (.slice (some q) L2.length c0) L2::ps) w) (hl:L.length+L2.length<1000000) :
    ∃ v' w',(Builtin.append_ #[T,T] ty #[v,.slice (some q) L2.length c0]).run Tryz.prog w=.ok v' w'∧St w0 F0 (OffP v' (L ++ L2)::RowP (.slice (some q) L2.length c0) L2::ps) w':=by
  obtain ⟨i0,hi,hz0,hz1,hz2⟩:=info_parts info_iV
  obtain ⟨_,p',c',e,hp'⟩:=h.shape 1 rfl
  injection e with e1 e2 e3
  subst e1; subst e3
  have hnew:∀ (j:Nat) (u:Value),(iV L2)[j]?=some u→w.cell? (q.add j)=some u:=by
    intro j u hj
    have hjl:j<L2.length:=by have:=(List.getElem?_eq_some_iff.1 hj).1; simpa [iV] using this
    obtain ⟨g,e⟩:=hp'.resolve_left (by omega)
    obtain rfl:q=⟨g,0,none⟩:=Option.some.inj e
    exact (h.row 1 rfl).cells rfl j u hj
  have h1:∀ u ∈ iV L2,u.oneCell'=true:=by intro u hu; simp [iV] at hu; obtain ⟨_,_,rfl⟩:=hu; rfl
  have hnl:(iV L2).length=L2.length * 1:=by simp [iV]
  obtain ⟨G,hp⟩:=h.get 0 rfl
  rcases hp with ⟨rfl,rfl,_⟩ | ⟨g,of,c,cs,rfl,hb,h3,h4,h5,h6,rfl⟩
  · obtain ⟨v',w',hr,ho',hg',_,hat'⟩:=run_append_own_at (P:=Tryz.prog) w 0 T ty 3 i0 (.int .i64 0) 1 8 hT hi hz0 hz1 hz2 rfl (by decide) (.slice none 0 0) 0 [] (World.ownsRow_nil _ _ _ _) q L2.length c0 (iV L2) hnl hnew h1 (by unfold maxLen; omega) (by omega) (Nat.zero_le _)
    refine ⟨v',w',hr,h.step1 fun F hF=>?_⟩
    have hF:F=[]:=by
      rcases hF with ⟨_,_,rfl⟩ | ⟨g',o',c',cs',e,_⟩
      · rfl
      · cases e
    subst hF
    refine ⟨v'.ownBlock.toList,off_of_row ⟨by simpa [iV] using ho',rfl⟩,(Keeps.refl _ _).grown hg' (fun k hk=>by cases hk),?_⟩
    intro i hi
    simp at hi
    rcases hat' with e | e
    · rw [e] at hi; cases hi
    · right; rw [e] at hi; injection hi with hi; omega
  · by_cases hroom:L.length+L2.length≤c
    · have hlt:of+L.length+L2.length≤cs.size:=by omega
      have hr:=run_append_room_cells (P:=Tryz.prog) w T ty 3 i0 hT hi g of L.length c q L2.length c0 (iV L2) (by rw [hz1]; exact hnl) hnew h1 hroom (fun j hj=>by rw [hz1,Nat.mul_one,hb.cell,Array.getElem?_eq_getElem (by simp [iV] at hj; omega)]; rfl) (fun j hj=>by rw [hb.free])
      refine ⟨_,_,hr,h.step1 fun F hF=>?_⟩
      rcases hF with ⟨hF,_⟩ | ⟨g',o',c',cs',e,hb',h3',h4',h5',h6',rfl⟩
      · cases hF
      · injection e with e1 e2 e3
        injection e1 with e1
        injection e1 with e1 e4 e5
        subst e1; subst e4; subst e3
        rw [hz1,Nat.mul_one]
        refine ⟨[g],.inr ⟨g,of,c,setL cs' (of+L.length) (iV L2),by simp,blk_setCells _ _ _ _ hb',by rw [setL_size]; exact h3',by simp; omega,h5',?_,rfl⟩,keeps_setCells (by simp) _ _ _ (Keeps.refl _ _),fun i hi=>.inl hi⟩
        intro i hi
        simp only [List.length_append] at hi
        rw [setL_get _ _ _ _ (by simp [iV]; omega)]
        by_cases hi2:i<L.length
        · rw [if_neg (by omega),h6' i hi2,List.getElem_append_left hi2]
        · rw [if_pos (by simp [iV]; omega),show of+i - (of+L.length)=i - L.length by omega,iV_get (by omega),List.getElem_append_right (by omega)]
    · obtain ⟨v',w',hr,ho',hg'⟩:=run_append_arg_grows (P:=Tryz.prog) w T ty 3 i0 (.int .i64 0) 1 8 hT hi hz0 hz1 hz2 rfl (by decide) ⟨g,of,none⟩ L.length c (iV L) (by simp [iV]) (fun j u hj=>by
        rw [Addr.add_lit,hb.cell]
        have hjl:j<L.length:=by have:=(List.getElem?_eq_some_iff.1 hj).1; simpa [iV] using this
        rw [iV_get hjl] at hj
        rw [h6 j hjl]; exact hj) q L2.length c0 (iV L2) hnl hnew (by omega) (by unfold maxLen; omega) (by omega)
      refine ⟨v',w',hr,h.step1 fun F hF=>⟨v'.ownBlock.toList,off_of_row ⟨?_,rfl⟩,(Keeps.refl _ _).grown hg' (fun k hk=>by cases hk),?_⟩⟩
      · have h0:w'.ownsRow 0 3 1 v' (L.length+L2.length) (iV L ++ iV L2):=⟨ho'.1,ho'.2.imp id fun ⟨g,cap,cur,hv,_,r⟩=>⟨g,cap,cur,hv,Nat.zero_le _,r⟩⟩
        simpa [iV] using h0
      · intro i hi
        simp at hi
        right
        exact (ho'.lt _ hi).1
theorem app_runO0 {w0 w:World} {F0:List Nat} {ps:List Piece} {v:Value} {L L2:List Int} {p:Option Addr} {c0:Nat} (T ty:TypeId) (hT:Tryz.prog.underlying T=some (.slice 3)) (h:St w0 F0 (OffP v L::RowP (.slice p L2.length c0) L2::ps) w) (hl:L.length+L2.length<1000000) :
    ∃ v' w',(Builtin.append_ #[T,T] ty #[v,.slice p L2.length c0]).run Tryz.prog w=.ok v' w'∧St w0 F0 (OffP v' (L ++ L2)::RowP (.slice p L2.length c0) L2::ps) w':=by
  cases p with
  | some q=>exact app_runO T ty hT h hl
  | none =>
    obtain ⟨i0,hi,hz0,hz1,hz2⟩:=info_parts info_iV
    obtain ⟨_,p',c',e,hp'⟩:=h.shape 1 rfl
    injection e with e1 e2 e3
    subst e1; subst e3
    have h0:L2.length=0:=hp'.resolve_right (by rintro ⟨g,e⟩; cases e)
    have e0:L2=[]:=List.eq_nil_of_length_eq_zero h0
    subst e0
    obtain ⟨G,hp⟩:=h.get 0 rfl
    have key:∃ pv n cv,v=.slice pv n cv∧n≤cv:=by
      rcases hp with ⟨rfl,rfl,_⟩ | ⟨g,of,c,cs,rfl,hb,h3,h4,h5,h6,rfl⟩
      · exact ⟨_,_,_,rfl,Nat.le_refl _⟩
      · exact ⟨_,_,_,rfl,h4⟩
    obtain ⟨pv,n,cv,rfl,hcap⟩:=key
    exact ⟨_,w,run_append_none hT hi hcap,by simpa using h⟩
section
variable {ops:Array Oper} {rest:List Oper} {o:Oper} {n:Nat} {a:Act} {l:Asc} {Q:Exit→Act→World→Prop} {w0 w:World} {F0:List Nat} {ps:List Piece}
theorem app_coreO {KK:Act→World→Prop} (T:TypeId) (hT:Tryz.prog.underlying T=some (.slice 3)) {v:Value} {L L2 L3:List Int} {p:Option Addr} {c2:Nat} (d:Nat) (s x:Operand)
    (hF:Fr n a l) (hd:o.dst=some d) (hn:Nat.blt d n=true) (ho:o.op=.call { callee:=.builtin .append,args:=#[s,x],argTypes:=#[T,T] })
    (hs1:hasO l s=true) (hx1:hasO l x=true) (hs:lk l s=v) (hx:lk l x=.slice p L2.length c2)
    (h:St w0 F0 (OffP v L::RowP (.slice p L2.length c2) L2::ps) w) (hm:appM L L2=some L3)
    (hK:∀ p' c' w' a',St w0 F0 (OffP (.slice p' L3.length c') L3::RowP (.slice p L2.length c2) L2::ps) w'→(L3.length=0 ∨ ∃ g o,p'=some ⟨g,o,none⟩)→Fr n a' ((d,.slice p' L3.length c')::del d l)→KK a' w'):Oper.wp Tryz.prog o a w KK Q:=by
  unfold appM at hm
  split at hm
  · rename_i hlen
    injection hm with hm
    subst hm
    obtain ⟨v',w',hr,h'⟩:=app_runO0 T o.type hT h hlen
    obtain ⟨_,p3,c3,rfl,hp3⟩:=h'.shapeO 0 rfl
    have e1:a.eval s=v:=(hF.eval hs1).trans hs
    have e2:a.eval x=.slice p L2.length c2:=(hF.eval hx1).trans hx
    unfold Oper.wp execOp
    simp only [ho,resolve,invoke,builtin,Sem.run_bind,Sem.run_pure,Result.andThen_ok,List.map_toArray,List.map_cons,List.map_nil,e1,e2,hr]
    have hk:=hK p3 c3 w' (a.put (some d) (.slice p3 (L ++ L2).length c3)) h' hp3 (hF.put (Nat.le_of_ble_eq_true hn) _)
    rw [← hd] at hk
    exact hk
  · cases hm
theorem ev_appO (T:TypeId) (hT:Tryz.prog.underlying T=some (.slice 3)) {v:Value} {L L2 L3:List Int} {p:Option Addr} {c2:Nat} (d:Nat) (s x:Operand)
    (hF:Fr n a l) (hd:o.dst=some d) (hn:Nat.blt d n=true) (hgd:gdO ops o l=some true) (ho:o.op=.call { callee:=.builtin .append,args:=#[s,x],argTypes:=#[T,T] })
    (hs1:hasO l s=true) (hx1:hasO l x=true) (hs:lk l s=v) (hx:lk l x=.slice p L2.length c2)
    (h:St w0 F0 (OffP v L::RowP (.slice p L2.length c2) L2::ps) w) (hm:appM L L2=some L3)
    (hK:∀ p' c' w' a',St w0 F0 (OffP (.slice p' L3.length c') L3::RowP (.slice p L2.length c2) L2::ps) w'→(L3.length=0 ∨ ∃ g o,p'=some ⟨g,o,none⟩)→Fr n a' ((d,.slice p' L3.length c')::del d l)→wpList Tryz.prog ops Q rest a' w'):wpList Tryz.prog ops Q (o::rest) a w:=by
  unfold wpList
  rw [gdO_wanted hF hgd]
  simp only [if_true]
  left
  exact app_coreO T hT d s x hF hd hn ho hs1 hx1 hs hx h hm hK
theorem op_appO {S:World→Prop} {listed:Array Bool} {fuel:Nat} (T:TypeId) (hT:Tryz.prog.underlying T=some (.slice 3)) (i:Nat) (ls:Array Bool) {v:Value} {L L2 L3:List Int} {p:Option Addr} {c2:Nat} (d:Nat) (s x:Operand)
    (hF:Fr n a l) (hi:ops[i]?=some o) (hd:o.dst=some d) (hn:Nat.blt d n=true) (hgd:gdO ops o l=some true) (ho:o.op=.call { callee:=.builtin .append,args:=#[s,x],argTypes:=#[T,T] })
    (hs1:hasO l s=true) (hx1:hasO l x=true) (hs:lk l s=v) (hx:lk l x=.slice p L2.length c2)
    (h:St w0 F0 (OffP v L::RowP (.slice p L2.length c2) L2::ps) w) (hm:appM L L2=some L3) (hl:listed.setIfInBounds i true=ls)
    (hK:∀ p' c' w' a',St w0 F0 (OffP (.slice p' L3.length c') L3::RowP (.slice p L2.length c2) L2::ps) w'→(L3.length=0 ∨ ∃ g o,p'=some ⟨g,o,none⟩)→Fr n a' ((d,.slice p' L3.length c')::del d l)→S w'∧wpAnyH Tryz.prog .any ops Q S fuel ls a' w') :
    wpOp Tryz.prog ops Q i (fun a' w'=>S w'∧wpAnyH Tryz.prog .any ops Q S fuel (listed.setIfInBounds i true) a' w') a w:=by
  subst hl
  unfold wpOp
  rw [hi]
  simp only
  rw [gdO_wanted hF hgd]
  simp only [if_true]
  left
  exact app_coreO T hT d s x hF hd hn ho hs1 hx1 hs hx h hm hK
end
end Go.Proofs.YtffnjpapggidlaaGreat
namespace Go.Proofs.YtffnjpapggidlaaGreat
open Go.RowKit
set_option linter.unusedVariables false
set_option linter.unusedSimpArgs false
theorem appK_run {w0 w:World} {ps:List Piece} {L2:List Int} {p:Option Addr} {c2:Nat} (T ty:TypeId) (hT:Tryz.prog.underlying T=some (.slice 3)) (hS:St w0 [] ps w) (hA:ArgInts w0 (.slice p L2.length c2) L2) (hl:L2.length<1000000) :
    ∃ v' w',(Builtin.append_ #[T,T] ty #[.slice none 0 0,.slice p L2.length c2]).run Tryz.prog w=.ok v' w'∧St w0 [] (RowP v' L2::ps) w':=by
  obtain ⟨i0,hi0,hz0,hz1,hz2⟩:=info_parts info_iV
  have h:=St.nil hS
  obtain ⟨_,_,p',c',e,h3⟩:=hA
  injection e with e1 e2 e3
  subst e1; subst e3
  cases p with
  | none =>
    have h0:L2=[]:=List.eq_nil_of_length_eq_zero (h3.resolve_right (by rintro ⟨b,o,e,_⟩; cases e))
    subst h0
    exact ⟨_,w,run_append_none hT hi0 (Nat.le_refl _),h⟩
  | some q =>
    have hq:∀ j u,(iV L2)[j]?=some u→w.cell? (q.add j)=some u:=by
      intro j u hj
      have hjl:j<L2.length:=by
        have:=(List.getElem?_eq_some_iff.1 hj).1
        simpa [iV] using this
      obtain ⟨b,o,e,hb,hc⟩:=h3.resolve_left (by omega)
      obtain rfl:q=⟨b,o,none⟩:=Option.some.inj e
      rw [add_at,hS.old.cell (p:=⟨b,o+j,none⟩) hb,hc j hjl]
      simp [iV,hjl] at hj
      rw [hj]
    obtain ⟨v',w',hr,h2,h3,h4,h5⟩:=run_append_own_at (P:=Tryz.prog) w 0 T ty 3 i0 (.int .i64 0) 1 8 hT hi0 hz0 hz1 hz2 rfl (by decide) (.slice none 0 0) 0 [] (h.row 0 rfl) q L2.length c2 (iV L2) (by simp [iV]) hq (by intro u hu; simp [iV] at hu; obtain ⟨_,_,rfl⟩:=hu; rfl) (by unfold maxLen; omega) (by omega) (Nat.zero_le _)
    exact ⟨v',w',hr,by simpa using h.growM (L:=[]) (by simpa [iV] using h2) h3 h5⟩
section
variable {ops:Array Oper} {rest:List Oper} {o:Oper} {n:Nat} {a:Act} {l:Asc} {Q:Exit→Act→World→Prop} {w0 w:World} {ps:List Piece}
theorem ev_appK (T:TypeId) (hT:Tryz.prog.underlying T=some (.slice 3)) {L2 L3:List Int} {p:Option Addr} {c2:Nat} (d:Nat) (s x:Operand)
    (hF:Fr n a l) (hd:o.dst=some d) (hn:Nat.blt d n=true) (hgd:gdO ops o l=some true) (ho:o.op=.call { callee:=.builtin .append,args:=#[s,x],argTypes:=#[T,T] })
    (hs1:hasO l s=true) (hx1:hasO l x=true) (hs:lk l s=.slice none 0 0) (hx:lk l x=.slice p L2.length c2)
    (hS:St w0 [] ps w) (hA:ArgInts w0 (.slice p L2.length c2) L2) (hm:appM [] L2=some L3)
    (hK:∀ v' w' a',St w0 [] (RowP v' L3::ps) w'→Fr n a' ((d,v')::del d l)→wpList Tryz.prog ops Q rest a' w'):wpList Tryz.prog ops Q (o::rest) a w:=by
  unfold appM at hm
  split at hm
  · rename_i hlen
    injection hm with hm
    subst hm
    obtain ⟨v',w',hr,h'⟩:=appK_run T o.type hT hS hA (by simpa using hlen)
    have e1:a.eval s=.slice none 0 0:=(hF.eval hs1).trans hs
    have e2:a.eval x=.slice p L2.length c2:=(hF.eval hx1).trans hx
    unfold wpList
    rw [gdO_wanted hF hgd]
    simp only [if_true]
    left
    unfold Oper.wp execOp
    simp only [ho,resolve,invoke,builtin,Sem.run_bind,Sem.run_pure,Result.andThen_ok,List.map_toArray,List.map_cons,List.map_nil,e1,e2,hr]
    have hk:=hK v' w' (a.put (some d) v') h' (hF.put (Nat.le_of_ble_eq_true hn) _)
    rw [← hd] at hk
    exact hk
  · cases hm
theorem ev_appKO (T:TypeId) (hT:Tryz.prog.underlying T=some (.slice 3)) {L2 L3:List Int} {p:Option Addr} {c2:Nat} (d:Nat) (s x:Operand)
    (hF:Fr n a l) (hd:o.dst=some d) (hn:Nat.blt d n=true) (hgd:gdO ops o l=some true) (ho:o.op=.call { callee:=.builtin .append,args:=#[s,x],argTypes:=#[T,T] })
    (hs1:hasO l s=true) (hx1:hasO l x=true) (hs:lk l s=.slice none 0 0) (hx:lk l x=.slice p L2.length c2)
    (hS:St w0 [] ps w) (hA:ArgInts w0 (.slice p L2.length c2) L2) (hm:appM [] L2=some L3)
    (hK:∀ p' c' w' a',St w0 [] (OffP (.slice p' L3.length c') L3::ps) w'→(L3.length=0 ∨ ∃ g o,p'=some ⟨g,o,none⟩)→Fr n a' ((d,.slice p' L3.length c')::del d l)→wpList Tryz.prog ops Q rest a' w'):wpList Tryz.prog ops Q (o::rest) a w:=by
  refine ev_appK T hT d s x hF hd hn hgd ho hs1 hx1 hs hx hS hA hm fun v' w' a' h1 h2=>?_
  obtain ⟨_,p',c',rfl,hp'⟩:=h1.shape 0 rfl
  refine hK p' c' w' a' (h1.step1 fun F hF=>⟨F,off_of_row hF,Keeps.refl _ _,fun i hi=>.inl hi⟩) (hp'.imp id fun ⟨g,e⟩=>⟨g,0,e⟩) h2
end
end Go.Proofs.YtffnjpapggidlaaGreat
