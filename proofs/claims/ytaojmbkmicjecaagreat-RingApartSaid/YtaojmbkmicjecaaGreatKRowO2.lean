/- RowO2 -/
import Derived.Test.YtaojmbkmicjecaaGreatKArgK
import Derived.Test.YtaojmbkmicjecaaGreatKEvMap
namespace Go.Proofs.YtaojmbkmicjecaaGreat
open Go.RowKit
set_option linter.unusedVariables false
set_option linter.unusedSimpArgs false
theorem push_run {w0 w:World} {F0:List Nat} {ps:List Piece} {v:Value} {L:List Int} {y:Int} {g0 c0:Nat} (T ty:TypeId) (hT:Tryz.prog.underlying T=some (.slice 3)) (h:St w0 F0 (OffP v L::RowP (.slice (some ⟨g0,0,none⟩) 1 c0) [y]::ps) w) (hl:L.length<1000000) :
    ∃ v' w',(Builtin.append_ #[T,T] ty #[v,.slice (some ⟨g0,0,none⟩) 1 c0]).run Tryz.prog w=.ok v' w'∧St w0 F0 (OffP v' (L ++ [y])::RowP (.slice (some ⟨g0,0,none⟩) 1 c0) [y]::ps) w':=by
  obtain ⟨i0,hi,hz0,hz1,hz2⟩:=info_parts info_iV
  have hnew:∀ (j:Nat) (u:Value),[Value.int .i64 y][j]?=some u→w.cell? ((⟨g0,0,none⟩:Addr).add j)=some u:=by
    intro j u hj
    cases j with
    | zero=>simp at hj; subst hj; exact h.atI 1 rfl (i:=0) rfl
    | succ j=>simp at hj
  have h1:∀ u ∈ [Value.int .i64 y],u.oneCell'=true:=by intro u hu; simp at hu; subst hu; rfl
  obtain ⟨G,hp⟩:=h.get 0 rfl
  rcases hp with ⟨rfl,rfl,_⟩ | ⟨g,of,c,cs,rfl,hb,h3,h4,h5,h6,rfl⟩
  · obtain ⟨v',w',hr,ho',hg',_,hat'⟩:=run_append_own_at (P:=Tryz.prog) w 0 T ty 3 i0 (.int .i64 0) 1 8 hT hi hz0 hz1 hz2 rfl (by decide) (.slice none 0 0) 0 [] (World.ownsRow_nil _ _ _ _) ⟨g0,0,none⟩ 1 c0 [.int .i64 y] rfl hnew h1 (by unfold maxLen; omega) (by omega) (Nat.zero_le _)
    refine ⟨v',w',hr,h.step1 fun F hF=>?_⟩
    have hF:F=[]:=by
      rcases hF with ⟨_,_,rfl⟩ | ⟨g',o',c',cs',e,_⟩
      · rfl
      · cases e
    subst hF
    refine ⟨v'.ownBlock.toList,off_of_row ⟨by simpa [iV] using ho',rfl⟩,(Keeps.refl _ _).grown hg' (fun k hk=>by cases hk),?_⟩
    intro i hi
    simp at hi
    rcases hat' with e | e
    · rw [e] at hi; cases hi
    · right; rw [e] at hi; injection hi with hi; omega
  · have hc1:∀ j,j<[Value.int .i64 y].length→of+L.length+j=of+L.length:=by intro j hj; simp at hj; omega
    by_cases hroom:L.length+1≤c
    · have hlt:of+L.length<cs.size:=by omega
      have hr:=run_append_room_cells (P:=Tryz.prog) w T ty 3 i0 hT hi g of L.length c ⟨g0,0,none⟩ 1 c0 [.int .i64 y] (by rw [hz1]; rfl) hnew h1 hroom (fun j hj=>by rw [hz1,Nat.mul_one,hc1 j hj,hb.cell,Array.getElem?_eq_getElem hlt]; rfl) (fun j hj=>by rw [hb.free])
      refine ⟨_,_,hr,h.step1 fun F hF=>?_⟩
      rcases hF with ⟨hF,_⟩ | ⟨g',o',c',cs',e,hb',h3',h4',h5',h6',rfl⟩
      · cases hF
      · injection e with e1 e2 e3
        injection e1 with e1
        injection e1 with e1 e4 e5
        subst e1; subst e4; subst e3
        rw [hz1]
        refine ⟨[g],.inr ⟨g,of,c,cs'.setIfInBounds (of+L.length) (.int .i64 y),by simp,?_,by simpa using h3',by simp; omega,h5',?_,rfl⟩,(Keeps.refl _ _).set (by simp) _,fun i hi=>.inl hi⟩
        · simpa [World.setCells] using hb'.set (of+L.length) (.int .i64 y)
        · intro i hi
          simp only [List.length_append,List.length_cons,List.length_nil] at hi
          by_cases hi2:i<L.length
          · rw [Array.getElem?_setIfInBounds_ne (by omega),h6' i hi2,List.getElem_append_left hi2]
          · have:i=L.length:=by omega
            subst this
            rw [Array.getElem?_setIfInBounds_self_of_lt (by omega)]; simp
    · obtain ⟨v',w',hr,ho',hg'⟩:=run_append_arg_grows (P:=Tryz.prog) w T ty 3 i0 (.int .i64 0) 1 8 hT hi hz0 hz1 hz2 rfl (by decide) ⟨g,of,none⟩ L.length c (iV L) (by simp [iV]) (fun j u hj=>by
        rw [Addr.add_lit,hb.cell]
        simp only [iV,List.getElem?_map] at hj
        cases e:L[j]? with
        | none=>rw [e] at hj; cases hj
        | some z =>
          rw [e] at hj
          obtain ⟨hj1,hj2⟩:=List.getElem?_eq_some_iff.1 e
          rw [h6 j hj1,hj2]; exact hj) ⟨g0,0,none⟩ 1 c0 [.int .i64 y] rfl hnew (by omega) (by unfold maxLen; omega) (by omega)
      refine ⟨v',w',hr,h.step1 fun F hF=>⟨v'.ownBlock.toList,off_of_row ⟨?_,rfl⟩,(Keeps.refl _ _).grown hg' (fun k hk=>by cases hk),?_⟩⟩
      · have h0:w'.ownsRow 0 3 1 v' (L.length+1) (iV L ++ [.int .i64 y]):=⟨ho'.1,ho'.2.imp id fun ⟨g,cap,cur,hv,_,r⟩=>⟨g,cap,cur,hv,Nat.zero_le _,r⟩⟩
        simpa [iV] using h0
      · intro i hi
        simp at hi
        right
        exact (ho'.lt _ hi).1
section
variable {ops:Array Oper} {o:Oper} {n:Nat} {a:Act} {l:Asc} {Q:Exit→Act→World→Prop} {w0 w:World} {F0:List Nat} {ps:List Piece}
theorem op_pushO {S:World→Prop} {listed:Array Bool} {fuel:Nat} (T:TypeId) (hT:Tryz.prog.underlying T=some (.slice 3)) (i:Nat) (ls:Array Bool) {v:Value} {L L2:List Int} {y:Int} {g0 c0:Nat} (d:Nat) (s x:Operand)
    (hF:Fr n a l) (hi:ops[i]?=some o) (hd:o.dst=some d) (hn:Nat.blt d n=true) (hgd:o.guard=none) (ho:o.op=.call { callee:=.builtin .append,args:=#[s,x],argTypes:=#[T,T] })
    (hs1:hasO l s=true) (hx1:hasO l x=true) (hs:lk l s=v) (hx:lk l x=.slice (some ⟨g0,0,none⟩) 1 c0)
    (h:St w0 F0 (OffP v L::RowP (.slice (some ⟨g0,0,none⟩) 1 c0) [y]::ps) w) (hm:pushM L y=some L2) (hl:listed.setIfInBounds i true=ls)
    (hK:∀ p c w' a',St w0 F0 (OffP (.slice p L2.length c) L2::RowP (.slice (some ⟨g0,0,none⟩) 1 c0) [y]::ps) w'→(L2.length=0 ∨ ∃ g o,p=some ⟨g,o,none⟩)→Fr n a' ((d,.slice p L2.length c)::del d l)→S w'∧wpAnyH Tryz.prog .any ops Q S fuel ls a' w') :
    wpOp Tryz.prog ops Q i (fun a' w'=>S w'∧wpAnyH Tryz.prog .any ops Q S fuel (listed.setIfInBounds i true) a' w') a w:=by
  subst hl
  unfold pushM at hm
  split at hm
  · rename_i hlen
    injection hm with hm
    subst hm
    obtain ⟨v',w',hr,h'⟩:=push_run T o.type hT h hlen
    obtain ⟨_,p,c,rfl,hp⟩:=h'.shapeO 0 rfl
    unfold wpOp
    rw [hi]
    simp only
    have hw:Region.wanted o (yielded ops a.tmps)=true:=by simp [Region.wanted,hgd]
    rw [if_pos hw]
    left
    have e1:a.eval s=v:=(hF.eval hs1).trans hs
    have e2:a.eval x=.slice (some ⟨g0,0,none⟩) 1 c0:=(hF.eval hx1).trans hx
    unfold Oper.wp execOp
    simp only [ho,resolve,invoke,builtin,Sem.run_bind,Sem.run_pure,Result.andThen_ok,List.map_toArray,List.map_cons,List.map_nil,e1,e2,hr]
    have hk:=hK p c w' (a.put (some d) (.slice p (L ++ [y]).length c)) h' hp (hF.put (Nat.le_of_ble_eq_true hn) _)
    rw [← hd] at hk
    exact hk
  · cases hm
end
end Go.Proofs.YtaojmbkmicjecaaGreat
