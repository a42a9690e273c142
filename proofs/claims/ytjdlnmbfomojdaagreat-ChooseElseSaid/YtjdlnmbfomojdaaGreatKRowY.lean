/- RowY -/
import Derived.Test.YtjdlnmbfomojdaaGreatKAppM
namespace Go.Proofs.YtjdlnmbfomojdaaGreat
open Go.RowKit
set_option linter.unusedVariables false
set_option linter.unusedSimpArgs false
def RowY {α:Type} (K:RowK α) (v:Value) (L:List α) (o:Option (Nat×Array Value)):Piece where
  at' w F:=match o with
    | none=>v=.slice none 0 0∧L=[]∧F=[]
    | some (g,cur)=>Blk w g K.T cur∧F=[g]∧∃ c,v=.slice (some ⟨g,0,none⟩) L.length c∧L.length≤c∧c≤maxLen∧cur.size=c * K.m∧cur.toList.take (L.length * K.m)=L.flatMap K.cl
  keep:=by
    rintro w w' F G h k hd
    match o with
    | none=>exact h
    | some (g,cur)=>obtain ⟨h1,rfl,h2⟩:=h; exact ⟨k.blk h1 (hd _ (by simp)),rfl,h2⟩
  lt:=by
    rintro w F h i hi
    match o with
    | none=>obtain ⟨_,_,rfl⟩:=h; simp at hi
    | some (g,cur)=>obtain ⟨h1,rfl,h2⟩:=h; simp at hi; subst hi; exact h1.lt
section
variable {α:Type} {K:RowK α} {w0 w:World} {F0:List Nat} {ps:List Piece} {v:Value} {L:List α} {o:Option (Nat×Array Value)}
theorem y_row {F:List Nat} (h:(RowY K v L o).at' w F):(RowX K v L).at' w F:=by
  match o with
  | none=>obtain ⟨rfl,rfl,rfl⟩:=h; exact ⟨World.ownsRow_nil _ _ _ _,rfl⟩
  | some (g,cur) =>
    obtain ⟨h1,rfl,c,rfl,h2,h3,h4,h5⟩:=h
    exact ⟨⟨flat_len K L,.inr ⟨g,c,cur,rfl,Nat.zero_le _,h1,h2,h3,h4,h5⟩⟩,rfl⟩
theorem St.ofY (h:St w0 F0 (RowY K v L o::ps) w):St w0 F0 (RowX K v L::ps) w :=
  h.step1 fun F hp=>⟨F,y_row hp,Keeps.refl _ _,fun i hi=>.inl hi⟩
theorem St.toY (h:St w0 F0 (RowX K v L::ps) w):∃ o,St w0 F0 (RowY K v L o::ps) w:=by
  obtain ⟨F,⟨F1,F2,rfl,⟨⟨h1,h2⟩,rfl⟩,h3,hd⟩,k,h5⟩:=h
  rcases h2 with ⟨rfl,hn⟩ | ⟨g,cap,cur,rfl,_,hg,hn,hm,hs,ht⟩
  · exact ⟨none,_,⟨[],F2,rfl,⟨rfl,List.eq_nil_of_length_eq_zero hn,rfl⟩,h3,by simp⟩,k,by simpa [Value.ownBlock] using h5⟩
  · exact ⟨some (g,cur),_,⟨[g],F2,rfl,⟨hg,rfl,cap,rfl,hn,hm,hs,ht⟩,h3,by simpa [Value.ownBlock] using hd⟩,k,by simpa [Value.ownBlock] using h5⟩
theorem St.cutY {g n c k:Nat} (h:St w0 F0 (RowX K (.slice (some ⟨g,0,none⟩) n c) L::ps) w) (hk:k≤L.length):∃ o,St w0 F0 (RowY K (.slice (some ⟨g,0,none⟩) k c) (L.take k) o::ps) w∧∀ {w':World} {ps':List Piece},St w0 F0 (RowY K (.slice (some ⟨g,0,none⟩) k c) (L.take k) o::ps') w'→St w0 F0 (RowX K (.slice (some ⟨g,0,none⟩) n c) L::ps') w':=by
  obtain ⟨cur,hB,hn,hl,hm,hs,ht⟩:=h.openX
  subst hn
  have hlk:(L.take k).length=k:=by simp; omega
  have hft:(L.take k).flatMap K.cl=(L.flatMap K.cl).take (k * K.m):=by
    have e:L.flatMap K.cl=(L.take k).flatMap K.cl ++ (L.drop k).flatMap K.cl:=by rw [← List.flatMap_append,List.take_append_drop]
    have e2:((L.take k).flatMap K.cl).length=k * K.m:=by rw [flat_len,hlk]
    rw [e,← e2,List.take_left]
  refine ⟨some (g,cur),hB.step1 ?_,?_⟩
  · rintro F ⟨hb,rfl⟩
    refine ⟨[g],⟨hb,rfl,c,by rw [hlk],by rw [hlk]; omega,hm,hs,?_⟩,Keeps.refl _ _,by simp⟩
    rw [hlk,hft,← ht,List.take_take,Nat.min_eq_left (Nat.mul_le_mul_right _ hk)]
  · intro w' ps' h'
    refine h'.step1 ?_
    rintro F ⟨hb,rfl,_⟩
    exact ⟨[g],⟨⟨flat_len K L,.inr ⟨g,c,cur,rfl,Nat.zero_le _,hb,hl,hm,hs,ht⟩⟩,rfl⟩,Keeps.refl _ _,by simp⟩
theorem St.getY (h:St w0 F0 ps w) (k:Nat) (hk:ps[k]?=some (RowY K v L o)):∃ G,(RowX K v L).at' w G:=by
  obtain ⟨G,h1⟩:=h.get k hk; exact ⟨G,y_row h1⟩
theorem St.shapeY (h:St w0 F0 ps w) (k:Nat) (hk:ps[k]?=some (RowY K v L o)):L.length≤maxLen∧∃ p c,v=.slice p L.length c∧(L.length=0 ∨ ∃ g,p=some ⟨g,0,none⟩):=by
  obtain ⟨G,h1⟩:=h.getY k hk
  exact own_shape h1.1
theorem St.atY {g n c:Nat} (h:St w0 F0 ps w) (k:Nat) (hk:ps[k]?=some (RowY K (.slice (some ⟨g,0,none⟩) n c) L o)) {i:Int} (hi:inR i L.length=true) {cs:List Value} (he:K.cl (Go.Proofs.YtjdlnmbfomojdaaGreat.atX K L i)=cs):∀ j (hj:j<cs.length),w.cell? ⟨g,i.toNat * K.m+j,none⟩=some cs[j]:=by
  subst he
  intro j hj
  obtain ⟨h0,h1⟩:=inR_spec hi
  obtain ⟨G,h2⟩:=h.getY k hk
  have hc:=h2.1.cells (g:=g) rfl (i.toNat * K.m+j) (K.cl (Go.Proofs.YtjdlnmbfomojdaaGreat.atX K L i))[j] (by
    rw [flat_get K L i.toNat j (by omega) (by rw [← K.len]; exact hj)]
    have e:Go.Proofs.YtjdlnmbfomojdaaGreat.atX K L i=L[i.toNat]'(by omega):=by
      unfold Go.Proofs.YtjdlnmbfomojdaaGreat.atX
      rw [List.getD_eq_getElem?_getD,List.getElem?_eq_getElem (by omega)]; rfl
    rw [← e,List.getElem?_eq_getElem hj])
  rw [add_at,Nat.zero_add] at hc
  exact hc
theorem St.capX {p:Option Addr} {n c:Nat} (h:St w0 F0 ps w) (k:Nat) (hk:ps[k]?=some (RowX K (.slice p n c) L)):L.length≤c:=by
  obtain ⟨G,h1⟩:=h.get k hk
  rcases h1.1.2 with ⟨e,h0⟩ | ⟨g',cap,cs,e,h2,h3,h4,h5,h6,h7⟩
  · rw [h0]; exact Nat.zero_le _
  · injection e with e1 e2 e3
    subst e3; exact h4
end
theorem run_sliceHiX {P:Program} {ρ:Operand→Value} {o:Oper} {t e:TypeId} {x i:Operand} {g m c sz:Nat} {z:Int} {k:IntKind} (ho:o.op=.slice t x none (some i) none) (hu:P.underlying t=some (.slice e)) (hs:(P.info? e).map (·.size)=some sz)
    (hx:ρ x=.slice (some ⟨g,0,none⟩) m c) (hi:ρ i=.int k z) (h0:0≤z) (h1:z≤c) (w:World):(execOp ρ o).run P w=.ok (.value (.slice (some ⟨g,0,none⟩) z.toNat c)) w:=by
  have ha:(⟨g,0,none⟩:Addr).add (0 * sz)=⟨g,0,none⟩:=by rw [Nat.zero_mul]; rfl
  unfold execOp
  rw [ho]
  simp only [Option.map_none,Option.map_some,hx,hi]
  apply run_v
  cases hinf:P.info? e with
  | none=>rw [hinf] at hs; simp at hs
  | some inf =>
    rw [hinf] at hs
    simp only [Option.map_some,Option.some.injEq] at hs
    have hb:(Instr.sliceBounds true m c none (some (.int k z)) none).run P w=.ok (0,z.toNat,c) w:=by
      simp only [Instr.sliceBounds,Instr.sliceBound,asIntOf,Sem.run_bind,Sem.run_pure,Sem.run,Result.andThen,bind,pure,Sem.bind,h0,h1,and_self,if_true]
    have hsz:(sizeOf e).run P w=.ok sz w:=by
      simp only [sizeOf,typeInfo,program,Sem.run_bind,Sem.run,hinf,bind,pure,Sem.bind,hs,Result.andThen]
    have hun:(underlying t).run P w=.ok (.slice e) w:=by
      simp only [underlying,program,Sem.run_bind,Sem.run,hu,bind,pure,Sem.bind,Result.andThen]
    unfold Instr.sliceAt
    rw [Sem.run_bind,hun]
    simp only [Result.andThen]
    unfold Instr.slice
    rw [Sem.run_bind,hun]
    simp only [Result.andThen]
    rw [Sem.run_bind,hb]
    simp only [Result.andThen]
    rw [Sem.run_bind,hsz]
    simp only [Result.andThen,Nat.sub_zero,Option.map_some,ha]
    by_cases hc:c=0 <;> simp [hc,pure,Sem.run]
end Go.Proofs.YtjdlnmbfomojdaaGreat
