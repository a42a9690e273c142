/- RowO -/
import Derived.Test.YtffnjpapggidlaaKArgK
import Derived.ArgAppend
namespace Go.Proofs.Ytffnjpapggidlaa
open Go.RowKit
set_option linter.unusedVariables false
set_option linter.unusedSimpArgs false
def OffP (v:Value) (L:List Int):Piece where
  at' w F:=(v=.slice none 0 0∧L=[]∧F=[]) ∨ ∃ g o c cs,v=.slice (some ⟨g,o,none⟩) L.length c∧Blk w g 3 cs∧o+c≤cs.size∧L.length≤c∧c≤maxLen∧(∀ (i:Nat) (h:i<L.length),cs[o+i]?=some (.int .i64 L[i]))∧F=[g]
  keep:=by
    rintro w w' F G h k hd
    rcases h with h | ⟨g,o,c,cs,rfl,hb,h3,h4,h5,h6,rfl⟩
    · exact .inl h
    · exact .inr ⟨g,o,c,cs,rfl,k.blk hb (hd _ (by simp)),h3,h4,h5,h6,rfl⟩
  lt:=by
    rintro w F h i hi
    rcases h with ⟨_,_,rfl⟩ | ⟨g,o,c,cs,rfl,hb,h3,h4,h5,h6,rfl⟩
    · simp at hi
    · simp at hi; subst hi; exact hb.lt
theorem off_of_row {w:World} {v:Value} {L:List Int} {F:List Nat} (h:(RowP v L).at' w F):(OffP v L).at' w F:=by
  obtain ⟨⟨_,h1⟩,rfl⟩:=h
  rcases h1 with ⟨rfl,hn⟩ | ⟨g,cap,cur,rfl,_,hg,hn,hm,hs,ht⟩
  · exact .inl ⟨rfl,List.eq_nil_of_length_eq_zero hn,rfl⟩
  · refine .inr ⟨g,0,cap,cur,rfl,hg,by simp [hs],hn,hm,fun i hi=>?_,rfl⟩
    have e:cur.toList[i]?=(iV L)[i]?:=by
      rw [← ht,List.getElem?_take,if_pos (by omega)]
    rw [Nat.zero_add,← Array.getElem?_toList,e]
    simp [iV,hi]
section
variable {w0 w:World} {F0:List Nat} {ps:List Piece} {v:Value} {L:List Int}
theorem St.off (h:St w0 F0 (RowP v L::ps) w):St w0 F0 (OffP v L::ps) w :=
  h.step1 fun F hp=>⟨F,off_of_row hp,Keeps.refl _ _,fun i hi=>.inl hi⟩
theorem St.nilO (h:St w0 F0 ps w):St w0 F0 (OffP (.slice none 0 0) []::ps) w:=h.nil.off
theorem St.shapeO (h:St w0 F0 ps w) (k:Nat) (hk:ps[k]?=some (OffP v L)):L.length≤maxLen∧∃ p c,v=.slice p L.length c∧(L.length=0 ∨ ∃ g o,p=some ⟨g,o,none⟩):=by
  obtain ⟨G,h1⟩:=h.get k hk
  rcases h1 with ⟨rfl,rfl,_⟩ | ⟨g,o,c,cs,rfl,hb,h3,h4,h5,h6,rfl⟩
  · exact ⟨Nat.zero_le _,none,0,rfl,.inl rfl⟩
  · exact ⟨by omega,_,_,rfl,.inr ⟨g,o,rfl⟩⟩
theorem St.atO {g o m c:Nat} (h:St w0 F0 ps w) (k:Nat) (hk:ps[k]?=some (OffP (.slice (some ⟨g,o,none⟩) m c) L)) {i:Int} (hi:inR i L.length=true):w.cell? ⟨g,o+i.toNat,none⟩=some (.int .i64 (Go.Proofs.Ytffnjpapggidlaa.atI L i)):=by
  obtain ⟨h0,h1⟩:=inR_spec hi
  obtain ⟨G,h2⟩:=h.get k hk
  rcases h2 with ⟨h2,_⟩ | ⟨g',o',c',cs,e,hb,h3,h4,h5,h6,rfl⟩
  · cases h2
  · injection e with e1 e2 e3
    injection e1 with e1
    injection e1 with e1 e4 e5
    subst e1; subst e4
    rw [hb.cell,h6 i.toNat (by omega)]
    unfold Go.Proofs.Ytffnjpapggidlaa.atI
    rw [List.getD_eq_getElem?_getD,List.getElem?_eq_getElem (by omega)]; rfl
def dropM (L:List Int) (k:Int):Option (List Int):=if 0≤k∧k≤L.length then some (L.drop k.toNat) else none
theorem St.cutO {g o m c:Nat} {k:Int} {L2:List Int} (h:St w0 F0 (OffP (.slice (some ⟨g,o,none⟩) m c) L::ps) w) (hx:dropM L k=some L2):(0≤k∧k≤m∧m≤c)∧m=L.length∧L2.length=m - k.toNat∧St w0 F0 (OffP (.slice (some ⟨g,if c=k.toNat then o else o+k.toNat,none⟩) L2.length (c - k.toNat)) L2::ps) w:=by
  unfold dropM at hx
  split at hx
  · rename_i hk
    injection hx with hx
    subst hx
    obtain ⟨G,h2⟩:=h.get 0 rfl
    have key:m=L.length∧m≤c:=by
      rcases h2 with ⟨h2,_⟩ | ⟨g',o',c',cs,e,hb,h3,h4,h5,h6,rfl⟩
      · cases h2
      · injection e with e1 e2 e3
        subst e3
        exact ⟨e2,by omega⟩
    refine ⟨⟨hk.1,by omega,key.2⟩,key.1,by simp; omega,h.step1 fun F hp=>⟨F,?_,Keeps.refl _ _,fun i hi=>.inl hi⟩⟩
    rcases hp with ⟨h2,_⟩ | ⟨g',o',c',cs,e,hb,h3,h4,h5,h6,rfl⟩
    · cases h2
    · injection e with e1 e2 e3
      injection e1 with e1
      injection e1 with e1 e4 e5
      subst e1; subst e4; subst e3
      refine .inr ⟨g,if c=k.toNat then o else o+k.toNat,c - k.toNat,cs,rfl,hb,by split <;> omega,by simp; omega,by omega,fun i hi=>?_,rfl⟩
      simp only [List.length_drop] at hi
      rw [if_neg (by omega),Nat.add_assoc,h6 (k.toNat+i) (by omega)]
      simp
  · cases hx
theorem run_sliceLo {P:Program} {ρ:Operand→Value} {o:Oper} {t e:TypeId} {x i:Operand} {g off m c:Nat} {z:Int} {k:IntKind} (ho:o.op=.slice t x (some i) none none) (hu:P.underlying t=some (.slice e)) (hs:(P.info? e).map (·.size)=some 1)
    (hx:ρ x=.slice (some ⟨g,off,none⟩) m c) (hi:ρ i=.int k z) (h0:0≤z) (h1:z≤m) (h2:m≤c) (w:World):(execOp ρ o).run P w=.ok (.value (.slice (some ⟨g,if c=z.toNat then off else off+z.toNat,none⟩) (m - z.toNat) (c - z.toNat))) w:=by
  have ha:(⟨g,off,none⟩:Addr).add (z.toNat * 1)=⟨g,off+z.toNat,none⟩:=by unfold Addr.add; split <;> simp_all
  unfold execOp
  rw [ho]
  simp only [Option.map_none,Option.map_some,hx,hi]
  apply run_v
  cases hinf:P.info? e with
  | none=>rw [hinf] at hs; simp at hs
  | some inf =>
    rw [hinf] at hs
    simp only [Option.map_some,Option.some.injEq] at hs
    have hb:(Instr.sliceBounds true m c (some (.int k z)) none none).run P w=.ok (z.toNat,m,c) w:=by
      simp only [Instr.sliceBounds,Instr.sliceBound,asIntOf,Sem.run_bind,Sem.run_pure,Sem.run,Result.andThen,bind,pure,Sem.bind,h0,h1,h2,and_self,if_true,Int.ofNat_le,Nat.le_refl,true_and,Int.natCast_nonneg]
    have hsz:(sizeOf e).run P w=.ok 1 w:=by
      simp only [sizeOf,typeInfo,program,Sem.run_bind,Sem.run,hinf,bind,pure,Sem.bind,hs,Result.andThen]
    have hun:(underlying t).run P w=.ok (.slice e) w:=by
      simp only [underlying,program,Sem.run_bind,Sem.run,hu,bind,pure,Sem.bind,Result.andThen]
    unfold Instr.sliceAt
    rw [Sem.run_bind,hun]
    simp only [Result.andThen]
    unfold Instr.slice
    rw [Sem.run_bind,hun]
    simp only [Result.andThen]
    rw [Sem.run_bind,hb]
    simp only [Result.andThen]
    rw [Sem.run_bind,hsz]
    simp only [Result.andThen,Option.map_some,ha]
    split <;> rfl
end
theorem push_runO {w0:World} {F0:List Nat} {ps:List Piece} {W:World} {v:Value} {L:List Int} {y:Int} {ops:Array Oper} {rest:List Oper} {o:Oper} {a:Act} {Q:Exit→Act→World→Prop} (T:TypeId) (hT:Try.prog.underlying T=some (.slice 3))
    (hgd:o.guard=none) (s x:Operand) (ho:o.op=.call { callee:=.builtin .append,args:=#[s,x],argTypes:=#[T,T] }) (h:St w0 F0 (OffP v L::ps) W) (hs:a.eval s=v) (hx:a.eval x=.slice (some ⟨W.heap.size,0,none⟩) 1 1) (hl:L.length<1000000)
    (hK:∀ v' w',St w0 F0 (OffP v' (L ++ [y])::ps) w'→wpList Try.prog ops Q rest (a.put o.dst v') w'):wpList Try.prog ops Q (o::rest) a (W.alloc (.cells #[.int .i64 y] 3)):=by
  obtain ⟨i0,hi,hz0,hz1,hz2⟩:=info_parts info_iV
  obtain ⟨G,hp⟩:=h.get 0 rfl
  rcases hp with ⟨rfl,rfl,_⟩ | ⟨g,of,c,cs,rfl,hb,h3,h4,h5,h6,rfl⟩
  · refine wpList_append_own_at _ hgd s x T ho 0 3 i0 (.int .i64 0) 1 8 hT hi hz0 hz1 hz2 rfl (by decide) (.slice none 0 0) 0 [] hs (World.ownsRow_nil _ _ _ _) ⟨W.heap.size,0,none⟩ 1 1 [.int .i64 y] hx rfl (cell_one_new _ _ _) ?_ (by unfold maxLen; omega) (by omega) (Nat.zero_le _) ?_
    · intro u hu; simp at hu; subst hu; rfl
    · intro v' w' ho' hg' hn' hat'
      refine hK v' w' (h.step1 fun F hF=>?_)
      have hF:F=[]:=by
        rcases hF with ⟨_,_,rfl⟩ | ⟨g',o',c',cs',e,_⟩
        · rfl
        · cases e
      subst hF
      refine ⟨v'.ownBlock.toList,off_of_row ⟨by simpa [iV] using ho',rfl⟩,((Keeps.refl _ _).alloc _).grown hg' (fun k hk=>by cases hk),?_⟩
      intro i hi
      simp at hi
      rcases hat' with e | e
      · rw [e] at hi; cases hi
      · right; rw [e] at hi; injection hi with hi; have:(W.alloc (.cells #[.int .i64 y] 3)).heap.size=W.heap.size+1:=by simp
        omega
  · have hlt:=hb.lt
    have hb2:Blk (W.alloc (.cells #[.int .i64 y] 3)) g 3 cs:=((Keeps.refl [] W).alloc _).blk hb (by simp)
    refine wpList_append_arg _ hgd s x T ho 3 i0 (.int .i64 0) 1 8 hT hi hz0 hz1 hz2 rfl (by decide) g of L.length c (iV L) hs (by simp [iV]) ?_ ⟨W.heap.size,0,none⟩ 1 1 [.int .i64 y] hx rfl (cell_one_new _ _ _) ?_ ?_ (by unfold maxLen; omega) (by omega) ?_ ?_
    · intro j u hj
      rw [hb2.cell]
      simp only [iV,List.getElem?_map] at hj
      cases e:L[j]? with
      | none=>rw [e] at hj; cases hj
      | some z =>
        rw [e] at hj
        obtain ⟨hj1,hj2⟩:=List.getElem?_eq_some_iff.1 e
        rw [h6 j hj1,hj2]; exact hj
    · intro u hu; simp at hu; subst hu; rfl
    · intro hroom j hj
      simp at hj; subst hj
      rw [hb2.cell,hb2.free]
      refine ⟨?_,rfl⟩
      rw [Array.getElem?_eq_getElem (by omega)]; rfl
    · intro hroom
      refine hK _ _ (St.step1 (h.alloc (.cells #[.int .i64 y] 3)) fun F hF=>?_)
      rcases hF with ⟨hF,_⟩ | ⟨g',o',c',cs',e,hb',h3',h4',h5',h6',rfl⟩
      · cases hF
      · injection e with e1 e2 e3
        injection e1 with e1
        injection e1 with e1 e4 e5
        subst e1; subst e4; subst e3
        refine ⟨[g],.inr ⟨g,of,c,cs'.setIfInBounds (of+L.length) (.int .i64 y),by simp,?_,by simpa using h3',by simp; omega,h5',?_,rfl⟩,(Keeps.refl _ _).set (by simp) _,fun i hi=>.inl hi⟩
        · simpa [World.setCells] using hb'.set (of+L.length) (.int .i64 y)
        · intro i hi
          simp only [List.length_append,List.length_cons,List.length_nil] at hi
          by_cases hi2:i<L.length
          · rw [Array.getElem?_setIfInBounds_ne (by omega),h6' i hi2,List.getElem_append_left hi2]
          · have:i=L.length:=by omega
            subst this
            rw [Array.getElem?_setIfInBounds_self_of_lt (by omega)]; simp
    · intro hgrow v' w' ho' hg'
      refine hK v' w' (St.step1 (h.alloc (.cells #[.int .i64 y] 3)) fun F hF=>⟨v'.ownBlock.toList,off_of_row ⟨?_,rfl⟩,(Keeps.refl _ _).grown hg' (fun k hk=>by cases hk),?_⟩)
      · have h0:w'.ownsRow 0 3 1 v' (L.length+1) (iV L ++ [.int .i64 y]):=⟨ho'.1,ho'.2.imp id fun ⟨g,cap,cur,hv,_,r⟩=>⟨g,cap,cur,hv,Nat.zero_le _,r⟩⟩
        simpa [iV] using h0
      · intro i hi
        simp at hi
        right
        exact (ho'.lt _ hi).1
theorem ev_pushO {ops:Array Oper} {rest:List Oper} {o:Oper} {n:Nat} {a:Act} {l:Asc} {Q:Exit→Act→World→Prop} {w0:World} {F0:List Nat} {ps:List Piece} {W:World} {v:Value} {L L2:List Int} {y:Int} (T:TypeId) (hT:Try.prog.underlying T=some (.slice 3)) (d:Nat) (s x:Operand)
    (hF:Fr n a l) (hd:o.dst=some d) (hn:Nat.blt d n=true) (hgd:o.guard=none) (ho:o.op=.call { callee:=.builtin .append,args:=#[s,x],argTypes:=#[T,T] })
    (hs1:hasO l s=true) (hx1:hasO l x=true) (hs:lk l s=v) (hx:lk l x=.slice (some ⟨W.heap.size,0,none⟩) 1 1)
    (h:St w0 F0 (OffP v L::ps) W) (hm:pushM L y=some L2)
    (hK:∀ p c w' a',St w0 F0 (OffP (.slice p L2.length c) L2::ps) w'→(L2.length=0 ∨ ∃ g o,p=some ⟨g,o,none⟩)→Fr n a' ((d,.slice p L2.length c)::del d l)→wpList Try.prog ops Q rest a' w') :
    wpList Try.prog ops Q (o::rest) a (W.alloc (.cells #[.int .i64 y] 3)):=by
  unfold pushM at hm
  split at hm
  · rename_i hl
    injection hm with hm
    subst hm
    refine push_runO T hT hgd s x ho h ((hF.eval hs1).trans hs) ((hF.eval hx1).trans hx) hl ?_
    intro v' w' h'
    obtain ⟨_,p,c,rfl,hp⟩:=h'.shapeO 0 rfl
    rw [hd]
    exact hK p c w' _ h' hp (hF.put (Nat.le_of_ble_eq_true hn) _)
  · cases hm
end Go.Proofs.Ytffnjpapggidlaa
