/- ArgK RowO -/
import Derived.Test.YtaojmbkmicjecaaGreatKArg
import Derived.Test.YtaojmbkmicjecaaGreatKEv2
import Derived.Test.YtaojmbkmicjecaaGreatKRowB
import Derived.Deep.Grids
import Derived.OpenShut
import Derived.ChangeSame
import Derived.ArgAppend
namespace Go.Proofs.YtaojmbkmicjecaaGreat
open Go.RowKit
set_option linter.unusedVariables false
set_option linter.unusedSimpArgs false
theorem argK {w0:World} {p:Option Addr} {c:Nat} {L:List Int} (h:ArgInts w0 (.slice p L.length c) L) {i:Int} (hi:inR i L.length=true):∃ b o,p=some ⟨b,o,none⟩:=by
  obtain ⟨h0,h1⟩:=inR_spec hi
  obtain ⟨_,_,p',c',e,h3⟩:=h
  injection e with e1 e2 e3
  subst e1
  rcases h3 with h3 | ⟨b,o,rfl,_⟩
  · omega
  · exact ⟨b,o,rfl⟩
theorem argAt {w0 w:World} {ps:List Piece} {b o c:Nat} {L:List Int} (h:ArgInts w0 (.slice (some ⟨b,o,none⟩) L.length c) L) (hS:St w0 [] ps w) {i:Int} (hi:inR i L.length=true):w.cell? ⟨b,o+i.toNat,none⟩=some (.int .i64 (atI L i)):=by
  obtain ⟨h0,h1⟩:=inR_spec hi
  obtain ⟨_,_,p',c',e,h3⟩:=h
  injection e with e1 e2 e3
  subst e1
  rcases h3 with h3 | ⟨b',o',e,hb,hc⟩
  · omega
  · injection e with e
    injection e with e1 e2 e3
    subst e1; subst e2
    rw [hS.old.cell (p:=⟨b,o+i.toNat,none⟩) hb,hc i.toNat (by omega)]
    unfold Go.Proofs.YtaojmbkmicjecaaGreat.atI
    rw [List.getD_eq_getElem?_getD,List.getElem?_eq_getElem (by omega)]; rfl
theorem run_idxO {P:Program} {ρ:Operand→Value} {o:Oper} {t e:TypeId} {x i:Operand} {g off m c:Nat} {z:Int} {k:IntKind} (ho:o.op=.indexAddr t x i) (hu:P.underlying t=some (.slice e)) (hs:(P.info? e).map (·.size)=some 1)
    (hx:ρ x=.slice (some ⟨g,off,none⟩) m c) (hi:ρ i=.int k z) (h0:0≤z) (h1:z<m) (w:World):(execOp ρ o).run P w=.ok (.value (.pointer (some ⟨g,off+z.toNat,none⟩))) w:=by
  have ha:(⟨g,off,none⟩:Addr).add (z.toNat * 1)=⟨g,off+z.toNat,none⟩:=by unfold Addr.add; split <;> simp_all
  unfold execOp
  rw [ho]
  simp only [hx,hi]
  apply run_v
  cases hinf:P.info? e with
  | none=>rw [hinf] at hs; simp at hs
  | some inf =>
    rw [hinf] at hs
    simp only [Option.map_some,Option.some.injEq] at hs
    simp only [Instr.indexAt,asIntOf,underlying,program,sizeOf,typeInfo,Sem.run_bind,Sem.run_pure,Sem.run,Result.andThen,hu,hinf,bind,pure,Sem.bind,h0,h1,and_self,if_true,hs,ha]
theorem argInts_len {w:World} {a:Option Addr} {len cap:Nat} {zs:List Int} (h:IsRow .i64 w a len cap zs):∃ L:List Int,L.length=len∧ArgInts w (.slice a L.length cap) L:=by
  have h1:=argInts_of h
  obtain ⟨_,_,p',c',e,_⟩:=id h1
  injection e with e1 e2 e3
  exact ⟨_,e2.symm,e2 ▸ h1⟩
end Go.Proofs.YtaojmbkmicjecaaGreat
namespace Go.Proofs.YtaojmbkmicjecaaGreat
open Go.RowKit
set_option linter.unusedVariables false
set_option linter.unusedSimpArgs false
def OffP (v:Value) (L:List Int):Piece where
  at' w F:=(v=.slice none 0 0∧L=[]∧F=[]) ∨ ∃ g o c cs,v=.slice (some ⟨g,o,none⟩) L.length c∧Blk w g 3 cs∧o+c≤cs.size∧L.length≤c∧c≤maxLen∧(∀ (i:Nat) (h:i<L.length),cs[o+i]?=some (.int .i64 L[i]))∧F=[g]
  keep:=by
    rintro w w' F G h k hd
    rcases h with h | ⟨g,o,c,cs,rfl,hb,h3,h4,h5,h6,rfl⟩
    · exact .inl h
    · exact .inr ⟨g,o,c,cs,rfl,k.blk hb (hd _ (by simp)),h3,h4,h5,h6,rfl⟩
  lt:=by
    rintro w F h i hi
    rcases h with ⟨_,_,rfl⟩ | ⟨g,o,c,cs,rfl,hb,h3,h4,h5,h6,rfl⟩
    · simp at hi
    · simp at hi; subst hi; exact hb.lt
theorem off_of_row {w:World} {v:Value} {L:List Int} {F:List Nat} (h:(RowP v L).at' w F):(OffP v L).at' w F:=by
  obtain ⟨⟨_,h1⟩,rfl⟩:=h
  rcases h1 with ⟨rfl,hn⟩ | ⟨g,cap,cur,rfl,_,hg,hn,hm,hs,ht⟩
  · exact .inl ⟨rfl,List.eq_nil_of_length_eq_zero hn,rfl⟩
  · refine .inr ⟨g,0,cap,cur,rfl,hg,by simp [hs],hn,hm,fun i hi=>?_,rfl⟩
    have e:cur.toList[i]?=(iV L)[i]?:=by
      rw [← ht,List.getElem?_take,if_pos (by omega)]
    rw [Nat.zero_add,← Array.getElem?_toList,e]
    simp [iV,hi]
section
variable {w0 w:World} {F0:List Nat} {ps:List Piece} {v:Value} {L:List Int}
theorem St.off (h:St w0 F0 (RowP v L::ps) w):St w0 F0 (OffP v L::ps) w :=
  h.step1 fun F hp=>⟨F,off_of_row hp,Keeps.refl _ _,fun i hi=>.inl hi⟩
theorem St.nilO (h:St w0 F0 ps w):St w0 F0 (OffP (.slice none 0 0) []::ps) w:=h.nil.off
theorem St.shapeO (h:St w0 F0 ps w) (k:Nat) (hk:ps[k]?=some (OffP v L)):L.length≤maxLen∧∃ p c,v=.slice p L.length c∧(L.length=0 ∨ ∃ g o,p=some ⟨g,o,none⟩):=by
  obtain ⟨G,h1⟩:=h.get k hk
  rcases h1 with ⟨rfl,rfl,_⟩ | ⟨g,o,c,cs,rfl,hb,h3,h4,h5,h6,rfl⟩
  · exact ⟨Nat.zero_le _,none,0,rfl,.inl rfl⟩
  · exact ⟨by omega,_,_,rfl,.inr ⟨g,o,rfl⟩⟩
theorem St.atO {g o m c:Nat} (h:St w0 F0 ps w) (k:Nat) (hk:ps[k]?=some (OffP (.slice (some ⟨g,o,none⟩) m c) L)) {i:Int} (hi:inR i L.length=true):w.cell? ⟨g,o+i.toNat,none⟩=some (.int .i64 (Go.Proofs.YtaojmbkmicjecaaGreat.atI L i)):=by
  obtain ⟨h0,h1⟩:=inR_spec hi
  obtain ⟨G,h2⟩:=h.get k hk
  rcases h2 with ⟨h2,_⟩ | ⟨g',o',c',cs,e,hb,h3,h4,h5,h6,rfl⟩
  · cases h2
  · injection e with e1 e2 e3
    injection e1 with e1
    injection e1 with e1 e4 e5
    subst e1; subst e4
    rw [hb.cell,h6 i.toNat (by omega)]
    unfold Go.Proofs.YtaojmbkmicjecaaGreat.atI
    rw [List.getD_eq_getElem?_getD,List.getElem?_eq_getElem (by omega)]; rfl
def dropM (L:List Int) (k:Int):Option (List Int):=if 0≤k∧k≤L.length then some (L.drop k.toNat) else none
theorem St.cutO {g o m c:Nat} {k:Int} {L2:List Int} (h:St w0 F0 (OffP (.slice (some ⟨g,o,none⟩) m c) L::ps) w) (hx:dropM L k=some L2):(0≤k∧k≤m∧m≤c)∧m=L.length∧L2.length=m - k.toNat∧St w0 F0 (OffP (.slice (some ⟨g,if c=k.toNat then o else o+k.toNat,none⟩) L2.length (c - k.toNat)) L2::ps) w:=by
  unfold dropM at hx
  split at hx
  · rename_i hk
    injection hx with hx
    subst hx
    obtain ⟨G,h2⟩:=h.get 0 rfl
    have key:m=L.length∧m≤c:=by
      rcases h2 with ⟨h2,_⟩ | ⟨g',o',c',cs,e,hb,h3,h4,h5,h6,rfl⟩
      · cases h2
      · injection e with e1 e2 e3
        subst e3
        exact ⟨e2,by omega⟩
    refine ⟨⟨hk.1,by omega,key.2⟩,key.1,by simp; omega,h.step1 fun F hp=>⟨F,?_,Keeps.refl _ _,fun i hi=>.inl hi⟩⟩
    rcases hp with ⟨h2,_⟩ | ⟨g',o',c',cs,e,hb,h3,h4,h5,h6,rfl⟩
    · cases h2
    · injection e with e1 e2 e3
      injection e1 with e1
      injection e1 with e1 e4 e5
      subst e1; subst e4; subst e3
      refine .inr ⟨g,if c=k.toNat then o else o+k.toNat,c - k.toNat,cs,rfl,hb,by split <;> omega,by simp; omega,by omega,fun i hi=>?_,rfl⟩
      simp only [List.length_drop] at hi
      rw [if_neg (by omega),Nat.add_assoc,h6 (k.toNat+i) (by omega)]
      simp
  · cases hx
theorem run_sliceLo {P:Program} {ρ:Operand→Value} {o:Oper} {t e:TypeId} {x i:Operand} {g off m c:Nat} {z:Int} {k:IntKind} (ho:o.op=.slice t x (some i) none none) (hu:P.underlying t=some (.slice e)) (hs:(P.info? e).map (·.size)=some 1)
    (hx:ρ x=.slice (some ⟨g,off,none⟩) m c) (hi:ρ i=.int k z) (h0:0≤z) (h1:z≤m) (h2:m≤c) (w:World):(execOp ρ o).run P w=.ok (.value (.slice (some ⟨g,if c=z.toNat then off else off+z.toNat,none⟩) (m - z.toNat) (c - z.toNat))) w:=by
  have ha:(⟨g,off,none⟩:Addr).add (z.toNat * 1)=⟨g,off+z.toNat,none⟩:=by unfold Addr.add; split <;> simp_all
  unfold execOp
  rw [ho]
  simp only [Option.map_none,Option.map_some,hx,hi]
  apply run_v
  cases hinf:P.info? e with
  | none=>rw [hinf] at hs; simp at hs
  | some inf =>
    rw [hinf] at hs
    simp only [Option.map_some,Option.some.injEq] at hs
    have hb:(Instr.sliceBounds true m c (some (.int k z)) none none).run P w=.ok (z.toNat,m,c) w:=by
      simp only [Instr.sliceBounds,Instr.sliceBound,asIntOf,Sem.run_bind,Sem.run_pure,Sem.run,Result.andThen,bind,pure,Sem.bind,h0,h1,h2,and_self,if_true,Int.ofNat_le,Nat.le_refl,true_and,Int.natCast_nonneg]
    have hsz:(sizeOf e).run P w=.ok 1 w:=by
      simp only [sizeOf,typeInfo,program,Sem.run_bind,Sem.run,hinf,bind,pure,Sem.bind,hs,Result.andThen]
    have hun:(underlying t).run P w=.ok (.slice e) w:=by
      simp only [underlying,program,Sem.run_bind,Sem.run,hu,bind,pure,Sem.bind,Result.andThen]
    unfold Instr.sliceAt
    rw [Sem.run_bind,hun]
    simp only [Result.andThen]
    unfold Instr.slice
    rw [Sem.run_bind,hun]
    simp only [Result.andThen]
    rw [Sem.run_bind,hb]
    simp only [Result.andThen]
    rw [Sem.run_bind,hsz]
    simp only [Result.andThen,Option.map_some,ha]
    split <;> rfl
end
end Go.Proofs.YtaojmbkmicjecaaGreat
