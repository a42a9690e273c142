/- SubS -/
import Derived.Test.YtffnjpapggidlaaKAppM
import Derived.Test.YtffnjpapggidlaaKRowO
import Derived.Test.YtffnjpapggidlaaKClass
namespace Go.Proofs.Ytffnjpapggidlaa
open Go.RowKit
set_option linter.unusedVariables false
set_option linter.unusedSimpArgs false
theorem add_none (a:Addr):a.add 0=a:=by unfold Addr.add; split <;> simp_all
def subP (p:Option Addr) (c z:Nat):Option Addr:=p.map fun a=>if c=z then a else a.add z
theorem run_subHi {P:Program} {ρ:Operand→Value} {o:Oper} {t e:TypeId} {x i:Operand} {p:Option Addr} {m c:Nat} {z:Int} {k:IntKind} (ho:o.op=.slice t x none (some i) none) (hu:P.underlying t=some (.slice e)) (hs:(P.info? e).map (·.size)=some 1)
    (hx:ρ x=.slice p m c) (hi:ρ i=.int k z) (h0:0≤z) (h1:z≤c) (w:World):(execOp ρ o).run P w=.ok (.value (.slice p z.toNat c)) w:=by
  unfold execOp
  rw [ho]
  simp only [Option.map_none,Option.map_some,hx,hi]
  apply run_v
  cases hinf:P.info? e with
  | none=>rw [hinf] at hs; simp at hs
  | some inf =>
    rw [hinf] at hs
    simp only [Option.map_some,Option.some.injEq] at hs
    have hb:(Instr.sliceBounds true m c none (some (.int k z)) none).run P w=.ok (0,z.toNat,c) w:=by
      simp only [Instr.sliceBounds,Instr.sliceBound,asIntOf,Sem.run_bind,Sem.run_pure,Sem.run,Result.andThen,bind,pure,Sem.bind,h0,h1,and_self,if_true]
    have hsz:(sizeOf e).run P w=.ok 1 w:=by
      simp only [sizeOf,typeInfo,program,Sem.run_bind,Sem.run,hinf,bind,pure,Sem.bind,hs,Result.andThen]
    have hun:(underlying t).run P w=.ok (.slice e) w:=by
      simp only [underlying,program,Sem.run_bind,Sem.run,hu,bind,pure,Sem.bind,Result.andThen]
    unfold Instr.sliceAt
    rw [Sem.run_bind,hun]
    simp only [Result.andThen]
    unfold Instr.slice
    rw [Sem.run_bind,hun]
    simp only [Result.andThen]
    rw [Sem.run_bind,hb]
    simp only [Result.andThen]
    rw [Sem.run_bind,hsz]
    cases p with
    | none=>simp only [Result.andThen,Nat.sub_zero,Option.map_none]; by_cases hc:c=0 <;> simp [hc,pure,Sem.run]
    | some a=>simp only [Result.andThen,Nat.sub_zero,Option.map_some,Nat.zero_mul,add_none]; by_cases hc:c=0 <;> simp [hc,pure,Sem.run]
theorem run_subLo {P:Program} {ρ:Operand→Value} {o:Oper} {t e:TypeId} {x i:Operand} {p:Option Addr} {m c:Nat} {z:Int} {k:IntKind} (ho:o.op=.slice t x (some i) none none) (hu:P.underlying t=some (.slice e)) (hs:(P.info? e).map (·.size)=some 1)
    (hx:ρ x=.slice p m c) (hi:ρ i=.int k z) (h0:0≤z) (h1:z≤m) (h2:m≤c) (w:World):(execOp ρ o).run P w=.ok (.value (.slice (subP p c z.toNat) (m - z.toNat) (c - z.toNat))) w:=by
  unfold execOp subP
  rw [ho]
  simp only [Option.map_none,Option.map_some,hx,hi]
  apply run_v
  cases hinf:P.info? e with
  | none=>rw [hinf] at hs; simp at hs
  | some inf =>
    rw [hinf] at hs
    simp only [Option.map_some,Option.some.injEq] at hs
    have hb:(Instr.sliceBounds true m c (some (.int k z)) none none).run P w=.ok (z.toNat,m,c) w:=by
      simp only [Instr.sliceBounds,Instr.sliceBound,asIntOf,Sem.run_bind,Sem.run_pure,Sem.run,Result.andThen,bind,pure,Sem.bind,h0,h1,h2,and_self,if_true,Int.ofNat_le,Nat.le_refl,true_and,Int.natCast_nonneg]
    have hsz:(sizeOf e).run P w=.ok 1 w:=by
      simp only [sizeOf,typeInfo,program,Sem.run_bind,Sem.run,hinf,bind,pure,Sem.bind,hs,Result.andThen]
    have hun:(underlying t).run P w=.ok (.slice e) w:=by
      simp only [underlying,program,Sem.run_bind,Sem.run,hu,bind,pure,Sem.bind,Result.andThen]
    unfold Instr.sliceAt
    rw [Sem.run_bind,hun]
    simp only [Result.andThen]
    unfold Instr.slice
    rw [Sem.run_bind,hun]
    simp only [Result.andThen]
    rw [Sem.run_bind,hb]
    simp only [Result.andThen]
    rw [Sem.run_bind,hsz]
    cases p with
    | none=>simp only [Result.andThen,Option.map_none]; first | rfl | (split <;> rfl)
    | some a=>simp only [Result.andThen,Option.map_some,Nat.mul_one]; first | rfl | (split <;> rfl)
def Src (w:World) (p:Option Addr) (L:List Int):Prop:=(p=none→L=[])∧∀ q,p=some q→∀ j u,(iV L)[j]?=some u→w.cell? (q.add j)=some u
section
variable {w0 w:World} {F0:List Nat} {ps:List Piece} {p:Option Addr} {n c:Nat} {L:List Int}
theorem iV_get {L:List Int} {j:Nat} {u:Value} (h:(iV L)[j]?=some u):∃ hj:j<L.length,u=.int .i64 L[j]:=by
  have hl:j<L.length:=by
    have:=(List.getElem?_eq_some_iff.1 h).1
    simpa [iV] using this
  refine ⟨hl,?_⟩
  simp [iV,hl] at h
  exact h.symm
theorem St.rowAt (h:St w0 F0 ps w) (k:Nat) (hk:ps[k]?=some (RowP (.slice p n c) L)) {q:Addr} (hq:p=some q) {j:Nat} (hj:j<L.length):w.cell? (q.add j)=some (.int .i64 L[j]):=by
  obtain ⟨_,p',c',e,hp'⟩:=h.shape k hk
  injection e with e1 e2 e3
  subst e1
  obtain ⟨g,e⟩:=hp'.resolve_left (fun e0=>by omega)
  obtain rfl:q=⟨g,0,none⟩:=Option.some.inj (hq.symm.trans e)
  subst hq
  have e2:(⟨g,0,none⟩:Addr).add j=⟨g,j,none⟩:=by
    have:=add_at g 0 j
    simpa using this
  rw [e2]
  exact St.num h k hk j hj
theorem St.srcHi (h:St w0 F0 ps w) (k:Nat) (hk:ps[k]?=some (RowP (.slice p n c) L)) {z:Nat} (hz:z≤L.length):Src w p (L.take z):=by
  constructor
  · intro e
    subst e
    obtain ⟨_,p',c',e,hp'⟩:=h.shape k hk
    injection e with e1 e2 e3
    subst e1
    have h0:L.length=0:=hp'.resolve_right (by rintro ⟨g,e⟩; cases e)
    exact List.eq_nil_of_length_eq_zero (by simp [h0])
  · intro q hq j u hu
    obtain ⟨hj,rfl⟩:=iV_get hu
    rw [List.length_take] at hj
    rw [St.rowAt h k hk hq (by omega),List.getElem_take]
theorem St.srcLo (h:St w0 F0 ps w) (k:Nat) (hk:ps[k]?=some (RowP (.slice p n c) L)) {z:Nat} (hz:z≤L.length):Src w (subP p c z) (L.drop z):=by
  have hcap:=St.cap h k hk
  obtain ⟨_,p',c',e,hp'⟩:=h.shape k hk
  injection e with e1 e2 e3
  subst e1
  unfold subP
  constructor
  · intro e
    cases p with
    | some a=>cases e
    | none =>
      have h0:L.length=0:=hp'.resolve_right (by rintro ⟨g,e⟩; cases e)
      exact List.eq_nil_of_length_eq_zero (by simp [h0])
  · intro q hq j u hu
    obtain ⟨hj,rfl⟩:=iV_get hu
    rw [List.length_drop] at hj
    obtain ⟨g,e⟩:=hp'.resolve_left (fun e0=>by omega)
    subst e
    rw [Option.map_some,if_neg (by omega)] at hq
    have hq:=Option.some.inj hq
    have e2:∀ m,(⟨g,0,none⟩:Addr).add m=⟨g,m,none⟩:=by
      intro m
      have:=add_at g 0 m
      simpa using this
    have:=St.rowAt h k hk rfl (j:=z+j) (by omega)
    rw [e2] at this
    rw [← hq,e2,add_at,this,List.getElem_drop]
end
section
variable {ops:Array Oper} {rest:List Oper} {o:Oper} {n:Nat} {a:Act} {l l':Asc} {w0:World} {F0:List Nat} {ps:List Piece} {w:World}
theorem appV_core {K:Act→World→Prop} {Q:Exit→Act→World→Prop} (T:TypeId) (hT:Try.prog.underlying T=some (.slice 3)) {v:Value} {L L2 L3:List Int} {p:Option Addr} {n2 c2:Nat} (d:Nat) (s x:Operand)
    (hF:Fr n a l) (hd:o.dst=some d) (hn:Nat.blt d n=true) (ho:o.op=.call { callee:=.builtin .append,args:=#[s,x],argTypes:=#[T,T] })
    (hs1:hasO l s=true) (hx1:hasO l x=true) (hs:lk l s=v) (hx:lk l x=.slice p n2 c2)
    (h:St w0 F0 (RowP v L::ps) w) (hm:appM L L2=some L3) (hn2:n2=L2.length) (hsrc:Src w p L2)
    (hK:∀ v' w' a',St w0 F0 (RowP v' L3::ps) w'→Fr n a' ((d,v')::del d l)→K a' w'):Oper.wp Try.prog o a w K Q:=by
  subst hn2
  unfold appM at hm
  split at hm
  · rename_i hlen
    injection hm with hm
    subst hm
    obtain ⟨i0,hi0,hz0,hz1,hz2⟩:=info_parts info_iV
    have hput:∀ v',Fr n (a.put o.dst v') ((d,v')::del d l):=fun v'=>by rw [hd]; exact hF.put (Nat.le_of_ble_eq_true hn) _
    cases p with
    | none =>
      have e0:L2=[]:=hsrc.1 rfl
      subst e0
      obtain ⟨_,pv,cv,ev,hpv⟩:=h.shape 0 rfl
      have hcap:L.length≤cv:=by
        have:=h.row 0 rfl
        rw [ev] at this
        rcases this.2 with ⟨e,h0⟩ | ⟨g',cap,cs,e,h2,h3,h4,h5,h6,h7⟩
        · rw [h0]; exact Nat.zero_le _
        · injection e with e1 e2 e3
          subst e3; exact h4
      unfold Oper.wp execOp
      have hr:=run_append_none (P:=Try.prog) (w:=w) (t:=T) (ty:=o.type) (e:=3) hT hi0 (base:=pv) (n:=L.length) (cap:=cv) (c:=c2) hcap
      simp only [ho,resolve,invoke,builtin,Sem.run_bind,Sem.run_pure,Result.andThen_ok,List.map_toArray,List.map_cons,List.map_nil,(hF.eval hs1).trans (hs.trans ev),(hF.eval hx1).trans hx]
      simp only [List.length_nil,hr,Result.andThen_ok]
      rw [← ev]
      exact hK v w _ (by simpa using h) (hput v)
    | some q =>
      have hq:=hsrc.2 q rfl
      obtain ⟨v',w',hr,h2,h3,h4,h5⟩:=run_append_own_at (P:=Try.prog) w 0 T o.type 3 i0 (.int .i64 0) 1 8 hT hi0 hz0 hz1 hz2 rfl (by decide) v L.length (iV L) (h.row 0 rfl) q L2.length c2 (iV L2) (by simp [iV]) hq (by intro u hu; simp [iV] at hu; obtain ⟨_,_,rfl⟩:=hu; rfl) (by unfold maxLen; omega) (by omega) (Nat.zero_le _)
      unfold Oper.wp execOp
      simp only [ho,resolve,invoke,builtin,Sem.run_bind,Sem.run_pure,Result.andThen_ok,List.map_toArray,List.map_cons,List.map_nil,(hF.eval hs1).trans hs,(hF.eval hx1).trans hx,hr]
      exact hK v' w' _ (h.growM h2 h3 h5) (hput v')
  · cases hm
theorem op_appV {Q:Exit→Act→World→Prop} {S:World→Prop} {listed:Array Bool} {fuel:Nat} (T:TypeId) (hT:Try.prog.underlying T=some (.slice 3)) (i:Nat) (ls:Array Bool) {v:Value} {L L2 L3:List Int} {p:Option Addr} {n2 c2:Nat} (d:Nat) (s x:Operand)
    (hF:Fr n a l) (hi:ops[i]?=some o) (hd:o.dst=some d) (hn:Nat.blt d n=true) (hgd:gdO ops o l=some true) (ho:o.op=.call { callee:=.builtin .append,args:=#[s,x],argTypes:=#[T,T] })
    (hs1:hasO l s=true) (hx1:hasO l x=true) (hs:lk l s=v) (hx:lk l x=.slice p n2 c2)
    (h:St w0 F0 (RowP v L::ps) w) (hm:appM L L2=some L3) (hn2:n2=L2.length) (hsrc:Src w p L2) (hl:listed.setIfInBounds i true=ls)
    (hK:∀ v' w' a',St w0 F0 (RowP v' L3::ps) w'→Fr n a' ((d,v')::del d l)→S w'∧wpAnyH Try.prog .any ops Q S fuel ls a' w') :
    wpOp Try.prog ops Q i (fun a' w'=>S w'∧wpAnyH Try.prog .any ops Q S fuel (listed.setIfInBounds i true) a' w') a w:=by
  subst hl
  unfold wpOp
  rw [hi]
  simp only
  rw [gdO_wanted hF hgd]
  simp only [if_true]
  left
  exact appV_core T hT d s x hF hd hn ho hs1 hx1 hs hx h hm hn2 hsrc hK
end
section
variable {w0 w:World} {F0:List Nat} {ps:List Piece}
theorem q_ClassOf {a:Int} (hs:St w0 F0 ps w):Calls Try.prog 41 #[.int .i64 a] w fun e w'=>e=.returned (.tuple #[.int .i64 (cOf a),.bool (cFits a)])∧St w0 F0 ps w' :=
  (refc_ClassOf a w).mono fun e w' ⟨he,hw⟩=>⟨he,hs.below hw⟩
theorem q_Slots {a:Int} (hs:St w0 F0 ps w):Calls Try.prog 42 #[.int .i64 a] w fun e w'=>e=.returned (.int .i64 (cSlots a))∧St w0 F0 ps w' :=
  (refc_Slots a w).mono fun e w' ⟨he,hw⟩=>⟨he,hs.below hw⟩
end
end Go.Proofs.Ytffnjpapggidlaa
