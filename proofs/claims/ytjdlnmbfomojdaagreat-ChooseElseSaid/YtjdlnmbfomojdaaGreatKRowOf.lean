/- RowOf ArrV -/
import Derived.Test.YtjdlnmbfomojdaaGreatKEv2
import Derived.WalkKit
import Derived.Laws.AppendOwn
namespace Go.Proofs.YtjdlnmbfomojdaaGreat
open Go.RowKit
def Row (w:World) (v:Value) (xs:List Value):Prop :=
  xs.length≤maxLen∧∃ (p:Option Addr) (cap:Nat),v=.slice p xs.length cap∧(xs.length=0 ∨ ∃ b o,p=some ⟨b,o,none⟩∧∀ i u,xs[i]?=some u→w.cell? ⟨b,o+i,none⟩=some u)
theorem Row.nil (w:World):Row w (.slice none 0 0) []:=⟨by simp,none,0,rfl,.inl rfl⟩
theorem Row.below {B:Nat} {w w':World} {v:Value} {xs:List Value} (h:Row w v xs) (hb:Below B w w') (hv:∀ b,v.ownBlock=some b→b<B):Row w' v xs:=by
  obtain ⟨hl,p,cap,rfl,h⟩:=h
  refine ⟨hl,p,cap,rfl,h.imp id ?_⟩
  rintro ⟨b,o,rfl,hc⟩
  exact ⟨b,o,rfl,fun i u hu=>(hb.cell (p:=⟨b,o+i,none⟩) (hv b rfl)).trans (hc i u hu)⟩
theorem Row.of_own {w:World} {B e:Nat} {v:Value} {n:Nat} {xs:List Value} (h:w.ownsRow B e 1 v n xs):Row w v xs:=by
  have hc:=@World.ownsRow.cells w B e 1 v n xs h
  obtain ⟨hl,⟨rfl,rfl⟩ | ⟨g,cap,cur,rfl,hB,hg,hn,hm,hs,ht⟩⟩:=h
  · have:xs=[]:=List.eq_nil_of_length_eq_zero (by simpa using hl)
    subst this; exact Row.nil w
  · have e1:xs.length=n:=by simpa using hl
    refine ⟨by omega,some ⟨g,0,none⟩,cap,by rw [e1],.inr ⟨g,0,rfl,fun i u hu=>?_⟩⟩
    have:=hc rfl i u hu
    by_cases h0:i=0
    · subst h0; simpa [Addr.add] using this
    · simpa [Addr.add,h0] using this
end Go.Proofs.YtjdlnmbfomojdaaGreat
namespace Go.Proofs.YtjdlnmbfomojdaaGreat
open Go.RowKit
set_option linter.unusedVariables false
set_option linter.unusedSimpArgs false
theorem run_indexV {P:Program} {ρ:Operand→Value} {o:Oper} {t e:TypeId} {x i:Operand} {L:List Int} {cs:Array Value} {len:Nat} {z:Int} {k:IntKind} (ho:o.op=.index t x i) (hu:P.underlying t=some (.array len e)) (he:P.underlying e=some (.int .i64)) (hs:(P.info? e).map (·.size)=some 1)
    (hx:ρ x=.agg cs) (hcs:cs=(L.map (Value.int .i64)).toArray) (hi:ρ i=.int k z) (hl:L.length=len) (hr:inR z len=true) (w:World):(execOp ρ o).run P w=.ok (.value (.int .i64 (atI L z))) w:=by
  obtain ⟨h0,h1⟩:=inR_spec hr
  have hlt:z.toNat<L.length:=by omega
  unfold execOp
  rw [ho]
  simp only [hx,hi]
  apply run_v
  cases hinf:P.info? e with
  | none=>rw [hinf] at hs; simp at hs
  | some inf =>
    rw [hinf] at hs
    simp only [Option.map_some,Option.some.injEq] at hs
    have hsz:(sizeOf e).run P w=.ok 1 w:=by
      simp only [sizeOf,typeInfo,program,Sem.run_bind,Sem.run,hinf,bind,pure,Sem.bind,hs,Result.andThen]
    have hun:(underlying t).run P w=.ok (.array len e) w:=by
      simp only [underlying,program,Sem.run_bind,Sem.run,hu,bind,pure,Sem.bind,Result.andThen]
    have hg:cs[z.toNat]?=some (.int .i64 (atI L z)):=by
      subst hcs
      unfold atI
      rw [List.getD_eq_getElem?_getD,List.getElem?_eq_getElem hlt]
      simp [hlt]
    unfold Instr.index
    simp only [asIntOf,Sem.run_bind,Sem.run_pure,Result.andThen]
    rw [hun]
    simp only [Result.andThen,Sem.run_bind]
    rw [if_pos ⟨h0,h1⟩,Sem.run_bind,hsz]
    simp only [Result.andThen,Nat.mul_one]
    exact part_int he hg
end Go.Proofs.YtjdlnmbfomojdaaGreat
