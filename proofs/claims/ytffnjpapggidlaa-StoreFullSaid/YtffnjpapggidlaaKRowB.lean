/- RowB -/
import Derived.Test.YtffnjpapggidlaaKEv2
namespace Go.Proofs.Ytffnjpapggidlaa
open Go.RowKit
set_option linter.unusedVariables false
set_option linter.unusedSimpArgs false
def bV (l:List Bool):List Value:=l.map .bool
def BoolsP (v:Value) (L:List Bool):Piece where
  at' w F:=w.ownsRow 0 4 1 v L.length (bV L)∧F=v.ownBlock.toList
  keep:=by rintro w w' F G ⟨h,rfl⟩ k hd; exact ⟨k.own h (fun g hg=>hd _ (by simp [hg])),rfl⟩
  lt:=by rintro w F ⟨h,rfl⟩ i hi; simp at hi; exact own_lt h i hi
theorem St.nilB {w0:World} {F0:List Nat} {ps:List Piece} {wr:World} (h:St w0 F0 ps wr):St w0 F0 (BoolsP (.slice none 0 0) []::ps) wr :=
  h.push (Below.refl _ _) ⟨[],⟨World.ownsRow_nil _ _ _ _,rfl⟩,by simp⟩
theorem St.litB {w0 w:World} {F0:List Nat} {ps:List Piece} (hs:St w0 F0 ps w) (L:List Bool) (hl:L.length≤maxLen) :
    St w0 F0 (BoolsP (.slice (some ⟨w.heap.size,0,none⟩) L.length L.length) L::ps) (w.alloc (.cells (bV L).toArray 4)) :=
  hs.push (p:=BoolsP _ L) ((Below.refl _ _).alloc (Nat.le_refl _) _) ⟨_,⟨⟨by simp [bV],.inr ⟨w.heap.size,L.length,_,rfl,Nat.zero_le _,Blk.new _ _ _,Nat.le_refl _,hl,by simp [bV],by rw [List.take_of_length_le (by simp [bV])]⟩⟩,rfl⟩,by simp [Value.ownBlock]⟩
theorem St.shapeB {w0:World} {F0:List Nat} {ps:List Piece} {wr:World} (h:St w0 F0 ps wr) (k:Nat) {v:Value} {L:List Bool} (hk:ps[k]?=some (BoolsP v L)):L.length≤maxLen∧∃ p c,v=.slice p L.length c∧(L.length=0 ∨ ∃ g,p=some ⟨g,0,none⟩):=by
  obtain ⟨G,h1⟩:=h.get k hk
  exact own_shape h1.1
def atB (L:List Bool) (i:Int):Bool:=L.getD i.toNat false
theorem St.atB {w0 w:World} {F0:List Nat} {ps:List Piece} {g n c:Nat} {L:List Bool} (h:St w0 F0 ps w) (k:Nat) (hk:ps[k]?=some (BoolsP (.slice (some ⟨g,0,none⟩) n c) L)) {i:Int} (hi:inR i L.length=true):w.cell? ⟨g,i.toNat,none⟩=some (.bool (atB L i)):=by
  obtain ⟨h0,h1⟩:=inR_spec hi
  obtain ⟨G,h2⟩:=h.get k hk
  have:=own_cell h2.1 (g:=g) rfl i.toNat (by simp [bV]; omega)
  rw [this]
  unfold Go.Proofs.Ytffnjpapggidlaa.atB
  rw [List.getD_eq_getElem?_getD,List.getElem?_eq_getElem (by omega)]; simp [bV]
theorem run_loadB {P:Program} {ρ:Operand→Value} {o:Oper} {t:TypeId} {x:Operand} {p:Addr} {v:Value} (ho:o.op=.load t x) (hu:P.underlying t=some .bool) (hx:ρ x=.pointer (some p)) {w:World} (hc:w.cell? p=some v):(execOp ρ o).run P w=.ok (.value v) w:=by
  unfold execOp
  rw [ho]
  simp only [hx]
  apply run_v
  simp only [Instr.loadAt,Instr.sureAddr,loadVar,isAgg,underlying,program,load,Sem.run_bind,Sem.run_pure,Sem.run,Result.andThen,hu,bind,pure,Sem.bind,hc,Bool.false_eq_true,if_false]
end Go.Proofs.Ytffnjpapggidlaa
