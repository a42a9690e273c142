/- ArgX -/
import Derived.Test.YtffnjpapggidlaaKArg
import Derived.Test.YtffnjpapggidlaaKAppM
import Derived.Test.YtffnjpapggidlaaKArgK
namespace Go.Proofs.Ytffnjpapggidlaa
open Go.RowKit
set_option linter.unusedVariables false
set_option linter.unusedSimpArgs false
def ArgX {α:Type} (K:RowK α) (w:World) (v:Value) (xs:List α):Prop :=
  xs.length≤maxLen∧∃ (p:Option Addr) (cap:Nat),v=.slice p xs.length cap ∧
    (xs.length=0 ∨ ∃ b o,p=some ⟨b,o,none⟩∧b<w.heap.size∧∀ i (h:i<xs.length) j (hj:j<(K.cl xs[i]).length),w.cell? ⟨b,o+(i * K.m+j),none⟩=some ((K.cl xs[i])[j]))
section
variable {α:Type} {K:RowK α} {w0 w:World} {ps:List Piece} {p:Option Addr} {b o c:Nat} {L:List α}
theorem argKX (h:ArgX K w0 (.slice p L.length c) L) {i:Int} (hi:inR i L.length=true):∃ b o,p=some ⟨b,o,none⟩:=by
  obtain ⟨h0,h1⟩:=inR_spec hi
  obtain ⟨_,p',c',e,h3⟩:=h
  injection e with e1 e2 e3
  subst e1
  rcases h3 with h3 | ⟨b,o,rfl,_⟩
  · omega
  · exact ⟨b,o,rfl⟩
theorem argAtX (h:ArgX K w0 (.slice (some ⟨b,o,none⟩) L.length c) L) (hS:St w0 [] ps w) {i:Int} (hi:inR i L.length=true) {cs:List Value} (he:K.cl (atX K L i)=cs):∀ j (hj:j<cs.length),w.cell? ⟨b,o+i.toNat * K.m+j,none⟩=some cs[j]:=by
  subst he
  intro j hj
  obtain ⟨h0,h1⟩:=inR_spec hi
  obtain ⟨_,p',c',e,h3⟩:=h
  injection e with e1 e2 e3
  subst e1
  rcases h3 with h3 | ⟨b',o',e,hb,hc⟩
  · omega
  · injection e with e
    injection e with e1 e2 e3
    subst e1; subst e2
    have hil:i.toNat<L.length:=by omega
    have el:atX K L i=L[i.toNat]:=by
      unfold atX
      rw [List.getD_eq_getElem?_getD,List.getElem?_eq_getElem hil]; rfl
    rw [hS.old.cell (p:=⟨b,o+i.toNat * K.m+j,none⟩) hb,Nat.add_assoc]
    have hj2:j<(K.cl L[i.toNat]).length:=by rw [← el]; exact hj
    rw [hc i.toNat hil j hj2]
    simp only [el]
end
theorem run_idxXO {P:Program} {ρ:Operand→Value} {o:Oper} {t e:TypeId} {x i:Operand} {g off m c sz:Nat} {z:Int} {k:IntKind} (ho:o.op=.indexAddr t x i) (hu:P.underlying t=some (.slice e)) (hs:(P.info? e).map (·.size)=some sz)
    (hx:ρ x=.slice (some ⟨g,off,none⟩) m c) (hi:ρ i=.int k z) (h0:0≤z) (h1:z<m) (w:World):(execOp ρ o).run P w=.ok (.value (.pointer (some ⟨g,off+z.toNat * sz,none⟩))) w:=by
  have ha:(⟨g,off,none⟩:Addr).add (z.toNat * sz)=⟨g,off+z.toNat * sz,none⟩:=add_at _ _ _
  unfold execOp
  rw [ho]
  simp only [hx,hi]
  apply run_v
  cases hinf:P.info? e with
  | none=>rw [hinf] at hs; simp at hs
  | some inf =>
    rw [hinf] at hs
    simp only [Option.map_some,Option.some.injEq] at hs
    simp only [Instr.indexAt,asIntOf,underlying,program,sizeOf,typeInfo,Sem.run_bind,Sem.run_pure,Sem.run,Result.andThen,hu,hinf,bind,pure,Sem.bind,h0,h1,and_self,if_true,hs,ha]
theorem argX_of {α:Type} (K:RowK α) (mk:(Nat→Int)→α) (hmk:∀ f,K.cl (mk f)=(List.range K.m).map fun j=>.int .i64 (f j)) {w:World} {v:Value} {len:Nat} {f:Nat→Nat→Int} (h:ArgOps w v K.m len f) :
    ArgX K w v ((List.range len).map fun i=>mk (f i))∧∀ i<len,∀ j<K.m,Wd (f i j):=by
  obtain ⟨h1,p,cap,rfl,h2⟩:=h
  refine ⟨⟨by simpa using h1,p,cap,by simp,?_⟩,?_⟩
  · rcases h2 with h2 | ⟨b,o,rfl,hb,hc⟩
    · left; simpa using h2
    · right
      refine ⟨b,o,rfl,hb,fun i hi j hj=>?_⟩
      have hil:i<len:=by simpa using hi
      have e:((List.range len).map fun i=>mk (f i))[i]=mk (f i):=by simp
      have hjm:j<K.m:=by rw [K.len] at hj; exact hj
      rw [(hc i j hil hjm).1]
      congr 1
      have:(K.cl ((List.range len).map fun i=>mk (f i))[i])[j]?=some (.int .i64 (f i j)):=by rw [e,hmk]; simp [hjm]
      rw [List.getElem?_eq_getElem hj] at this
      exact (Option.some.inj this).symm
  · intro i hi j hj
    rcases h2 with h2 | ⟨b,o,rfl,hb,hc⟩
    · omega
    · exact (hc i j hi hj).2
end Go.Proofs.Ytffnjpapggidlaa
