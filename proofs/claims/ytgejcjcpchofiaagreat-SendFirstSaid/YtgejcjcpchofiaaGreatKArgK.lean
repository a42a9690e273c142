/- ArgK -/
import Derived.Test.YtgejcjcpchofiaaGreatKArg
import Derived.Test.YtgejcjcpchofiaaGreatKEv2
import Derived.Test.YtgejcjcpchofiaaGreatKRowB
import Derived.Deep.Grids
import Derived.OpenShut
import Derived.ChangeSame
namespace Go.Proofs.YtgejcjcpchofiaaGreat
open Go.RowKit
set_option linter.unusedVariables false
set_option linter.unusedSimpArgs false
theorem argK {w0:World} {p:Option Addr} {c:Nat} {L:List Int} (h:ArgInts w0 (.slice p L.length c) L) {i:Int} (hi:inR i L.length=true):∃ b o,p=some ⟨b,o,none⟩:=by
  obtain ⟨h0,h1⟩:=inR_spec hi
  obtain ⟨_,_,p',c',e,h3⟩:=h
  injection e with e1 e2 e3
  subst e1
  rcases h3 with h3 | ⟨b,o,rfl,_⟩
  · omega
  · exact ⟨b,o,rfl⟩
theorem argAt {w0 w:World} {ps:List Piece} {b o c:Nat} {L:List Int} (h:ArgInts w0 (.slice (some ⟨b,o,none⟩) L.length c) L) (hS:St w0 [] ps w) {i:Int} (hi:inR i L.length=true):w.cell? ⟨b,o+i.toNat,none⟩=some (.int .i64 (atI L i)):=by
  obtain ⟨h0,h1⟩:=inR_spec hi
  obtain ⟨_,_,p',c',e,h3⟩:=h
  injection e with e1 e2 e3
  subst e1
  rcases h3 with h3 | ⟨b',o',e,hb,hc⟩
  · omega
  · injection e with e
    injection e with e1 e2 e3
    subst e1; subst e2
    rw [hS.old.cell (p:=⟨b,o+i.toNat,none⟩) hb,hc i.toNat (by omega)]
    unfold Go.Proofs.YtgejcjcpchofiaaGreat.atI
    rw [List.getD_eq_getElem?_getD,List.getElem?_eq_getElem (by omega)]; rfl
theorem run_idxO {P:Program} {ρ:Operand→Value} {o:Oper} {t e:TypeId} {x i:Operand} {g off m c:Nat} {z:Int} {k:IntKind} (ho:o.op=.indexAddr t x i) (hu:P.underlying t=some (.slice e)) (hs:(P.info? e).map (·.size)=some 1)
    (hx:ρ x=.slice (some ⟨g,off,none⟩) m c) (hi:ρ i=.int k z) (h0:0≤z) (h1:z<m) (w:World):(execOp ρ o).run P w=.ok (.value (.pointer (some ⟨g,off+z.toNat,none⟩))) w:=by
  have ha:(⟨g,off,none⟩:Addr).add (z.toNat * 1)=⟨g,off+z.toNat,none⟩:=by unfold Addr.add; split <;> simp_all
  unfold execOp
  rw [ho]
  simp only [hx,hi]
  apply run_v
  cases hinf:P.info? e with
  | none=>rw [hinf] at hs; simp at hs
  | some inf =>
    rw [hinf] at hs
    simp only [Option.map_some,Option.some.injEq] at hs
    simp only [Instr.indexAt,asIntOf,underlying,program,sizeOf,typeInfo,Sem.run_bind,Sem.run_pure,Sem.run,Result.andThen,hu,hinf,bind,pure,Sem.bind,h0,h1,and_self,if_true,hs,ha]
theorem argInts_len {w:World} {a:Option Addr} {len cap:Nat} {zs:List Int} (h:IsRow .i64 w a len cap zs):∃ L:List Int,L.length=len∧ArgInts w (.slice a L.length cap) L:=by
  have h1:=argInts_of h
  obtain ⟨_,_,p',c',e,_⟩:=id h1
  injection e with e1 e2 e3
  exact ⟨_,e2.symm,e2 ▸ h1⟩
end Go.Proofs.YtgejcjcpchofiaaGreat
