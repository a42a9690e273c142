/- ArgK -/
import Derived.Test.YtffnjpapggidlaaKArg
import Derived.Test.YtffnjpapggidlaaKEv2
import Derived.Test.YtffnjpapggidlaaKRowB
import Derived.Deep.Grids
import Derived.OpenShut
import Derived.ChangeSame
namespace Go.Proofs.Ytffnjpapggidlaa
open Go.RowKit
set_option linter.unusedVariables false
set_option linter.unusedSimpArgs false
theorem argK {w0:World} {p:Option Addr} {c:Nat} {L:List Int} (h:ArgInts w0 (.slice p L.length c) L) {i:Int} (hi:inR i L.length=true):∃ b o,p=some ⟨b,o,none⟩:=by
  obtain ⟨h0,h1⟩:=inR_spec hi
  obtain ⟨_,_,p',c',e,h3⟩:=h
  injection e with e1 e2 e3
  subst e1
  rcases h3 with h3 | ⟨b,o,rfl,_⟩
  · omega
  · exact ⟨b,o,rfl⟩
theorem argAt {w0 w:World} {ps:List Piece} {b o c:Nat} {L:List Int} (h:ArgInts w0 (.slice (some ⟨b,o,none⟩) L.length c) L) (hS:St w0 [] ps w) {i:Int} (hi:inR i L.length=true):w.cell? ⟨b,o+i.toNat,none⟩=some (.int .i64 (atI L i)):=by
  obtain ⟨h0,h1⟩:=inR_spec hi
  obtain ⟨_,_,p',c',e,h3⟩:=h
  injection e with e1 e2 e3
  subst e1
  rcases h3 with h3 | ⟨b',o',e,hb,hc⟩
  · omega
  · injection e with e
    injection e with e1 e2 e3
    subst e1; subst e2
    rw [hS.old.cell (p:=⟨b,o+i.toNat,none⟩) hb,hc i.toNat (by omega)]
    unfold Go.Proofs.Ytffnjpapggidlaa.atI
    rw [List.getD_eq_getElem?_getD,List.getElem?_eq_getElem (by omega)]; rfl
theorem argWd {w0:World} {v:Value} {L:List Int} (h:ArgInts w0 v L) {i:Int} (hi:inR i L.length=true):Wd (atI L i):=by
  obtain ⟨h0,h1⟩:=inR_spec hi
  unfold Go.Proofs.Ytffnjpapggidlaa.atI
  rw [List.getD_eq_getElem?_getD,List.getElem?_eq_getElem (by omega)]
  exact h.1 _ (List.getElem_mem _)
theorem run_idxO {P:Program} {ρ:Operand→Value} {o:Oper} {t e:TypeId} {x i:Operand} {g off m c:Nat} {z:Int} {k:IntKind} (ho:o.op=.indexAddr t x i) (hu:P.underlying t=some (.slice e)) (hs:(P.info? e).map (·.size)=some 1)
    (hx:ρ x=.slice (some ⟨g,off,none⟩) m c) (hi:ρ i=.int k z) (h0:0≤z) (h1:z<m) (w:World):(execOp ρ o).run P w=.ok (.value (.pointer (some ⟨g,off+z.toNat,none⟩))) w:=by
  have ha:(⟨g,off,none⟩:Addr).add (z.toNat * 1)=⟨g,off+z.toNat,none⟩:=by unfold Addr.add; split <;> simp_all
  unfold execOp
  rw [ho]
  simp only [hx,hi]
  apply run_v
  cases hinf:P.info? e with
  | none=>rw [hinf] at hs; simp at hs
  | some inf =>
    rw [hinf] at hs
    simp only [Option.map_some,Option.some.injEq] at hs
    simp only [Instr.indexAt,asIntOf,underlying,program,sizeOf,typeInfo,Sem.run_bind,Sem.run_pure,Sem.run,Result.andThen,hu,hinf,bind,pure,Sem.bind,h0,h1,and_self,if_true,hs,ha]
theorem argInts_len {w:World} {a:Option Addr} {len cap:Nat} {zs:List Int} (h:IsRow .i64 w a len cap zs):∃ L:List Int,L.length=len∧ArgInts w (.slice a L.length cap) L:=by
  have h1:=argInts_of h
  obtain ⟨_,_,p',c',e,_⟩:=id h1
  injection e with e1 e2 e3
  exact ⟨_,e2.symm,e2 ▸ h1⟩
def ArgBools (w:World) (v:Value) (xs:List Bool):Prop :=
  xs.length≤maxLen∧∃ (p:Option Addr) (cap:Nat),v=.slice p xs.length cap ∧
    (xs.length=0 ∨ ∃ b o,p=some ⟨b,o,none⟩∧b<w.heap.size∧∀ i (h:i<xs.length),w.cell? ⟨b,o+i,none⟩=some (.bool (xs[i]'h)))
theorem argKB {w0:World} {p:Option Addr} {c:Nat} {L:List Bool} (h:ArgBools w0 (.slice p L.length c) L) {i:Int} (hi:inR i L.length=true):∃ b o,p=some ⟨b,o,none⟩:=by
  obtain ⟨h0,h1⟩:=inR_spec hi
  obtain ⟨_,p',c',e,h3⟩:=h
  injection e with e1 e2 e3
  subst e1
  rcases h3 with h3 | ⟨b,o,rfl,_⟩
  · omega
  · exact ⟨b,o,rfl⟩
theorem argAtB {w0 w:World} {ps:List Piece} {b o c:Nat} {L:List Bool} (h:ArgBools w0 (.slice (some ⟨b,o,none⟩) L.length c) L) (hS:St w0 [] ps w) {i:Int} (hi:inR i L.length=true):w.cell? ⟨b,o+i.toNat,none⟩=some (.bool (atB L i)):=by
  obtain ⟨h0,h1⟩:=inR_spec hi
  obtain ⟨_,p',c',e,h3⟩:=h
  injection e with e1 e2 e3
  subst e1
  rcases h3 with h3 | ⟨b',o',e,hb,hc⟩
  · omega
  · injection e with e
    injection e with e1 e2 e3
    subst e1; subst e2
    rw [hS.old.cell (p:=⟨b,o+i.toNat,none⟩) hb,hc i.toNat (by omega)]
    unfold Go.Proofs.Ytffnjpapggidlaa.atB
    rw [List.getD_eq_getElem?_getD,List.getElem?_eq_getElem (by omega)]; rfl
theorem argBools_len {w:World} {a:Option Addr} {len cap:Nat} {z:List Bool} (h:ArgBools w (.slice a len cap) z):len=z.length:=by
  obtain ⟨_,p,c,e,_⟩:=h
  injection e
theorem bools_open {H:Type} {enc:TypeId×Value→H} {P:Program} {w:World} {base:Nat} {t e:TypeId} {fuel:Nat} {a:Option Addr} {len cap:Nat} {x:DataW H×List MemPlace}
    (ht:P.underlying t=some (.slice e)) (he:P.underlying e=some .bool) (hC:P.cellsOf e=1)
    (h:DataW.trod enc P w base (fun _=>true) true fuel t (Value.slice a len cap).cells.toList=some x):∃ z:List Bool,ArgBools w (.slice a len cap) z:=by
  have hcs:(Value.slice a len cap).cells.toList=[.slice a len cap]:=by simp [Value.cells]
  rw [hcs] at h
  rcases Go.Deep.open_bools ht he hC h with ⟨h0,_⟩ | ⟨a',len',cap',B,hv,hb,hl,hm,hx,hi⟩
  · simp at h0
    obtain ⟨rfl,rfl,rfl⟩:=h0
    exact ⟨[],by simp,none,0,rfl,.inl rfl⟩
  · simp at hv
    obtain ⟨rfl,rfl,rfl⟩:=hv
    refine ⟨(List.range len).map B,by simp; omega,some a',cap,by simp,?_⟩
    by_cases h0:len=0
    · left; simpa using h0
    · right
      have h1:=hi 0 (by omega)
      obtain ⟨b,o,s⟩:=a'
      have hs:s=none:=by simpa [Addr.add] using World.cell?_spot h1
      subst hs
      have hadd:∀ k,(⟨b,o,none⟩:Addr).add k=⟨b,o+k,none⟩:=fun k=>Go.WideShapes.add_plain b o k
      refine ⟨b,o,rfl,?_,fun i hi'=>?_⟩
      · have:=cell_lt h1
        rw [hadd] at this
        exact this
      · simp at hi'
        have:=hi i (by omega)
        rw [hadd] at this
        rw [this]; simp
end Go.Proofs.Ytffnjpapggidlaa
