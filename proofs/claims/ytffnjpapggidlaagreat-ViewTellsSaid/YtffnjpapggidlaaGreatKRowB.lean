/- RowB View2N -/
import Derived.Test.YtffnjpapggidlaaGreatKEv2
import Derived.Test.YtffnjpapggidlaaGreatKView
import Derived.Laws.ResultCell
import Derived.Deep.RegionHeld3
namespace Go.Proofs.YtffnjpapggidlaaGreat
open Go.RowKit
set_option linter.unusedVariables false
set_option linter.unusedSimpArgs false
def bV (l:List Bool):List Value:=l.map .bool
def BoolsP (v:Value) (L:List Bool):Piece where
  at' w F:=w.ownsRow 0 4 1 v L.length (bV L)∧F=v.ownBlock.toList
  keep:=by rintro w w' F G ⟨h,rfl⟩ k hd; exact ⟨k.own h (fun g hg=>hd _ (by simp [hg])),rfl⟩
  lt:=by rintro w F ⟨h,rfl⟩ i hi; simp at hi; exact own_lt h i hi
theorem St.nilB {w0:World} {F0:List Nat} {ps:List Piece} {wr:World} (h:St w0 F0 ps wr):St w0 F0 (BoolsP (.slice none 0 0) []::ps) wr :=
  h.push (Below.refl _ _) ⟨[],⟨World.ownsRow_nil _ _ _ _,rfl⟩,by simp⟩
theorem St.litB {w0 w:World} {F0:List Nat} {ps:List Piece} (hs:St w0 F0 ps w) (L:List Bool) (hl:L.length≤maxLen) :
    St w0 F0 (BoolsP (.slice (some ⟨w.heap.size,0,none⟩) L.length L.length) L::ps) (w.alloc (.cells (bV L).toArray 4)) :=
  hs.push (p:=BoolsP _ L) ((Below.refl _ _).alloc (Nat.le_refl _) _) ⟨_,⟨⟨by simp [bV],.inr ⟨w.heap.size,L.length,_,rfl,Nat.zero_le _,Blk.new _ _ _,Nat.le_refl _,hl,by simp [bV],by rw [List.take_of_length_le (by simp [bV])]⟩⟩,rfl⟩,by simp [Value.ownBlock]⟩
theorem St.shapeB {w0:World} {F0:List Nat} {ps:List Piece} {wr:World} (h:St w0 F0 ps wr) (k:Nat) {v:Value} {L:List Bool} (hk:ps[k]?=some (BoolsP v L)):L.length≤maxLen∧∃ p c,v=.slice p L.length c∧(L.length=0 ∨ ∃ g,p=some ⟨g,0,none⟩):=by
  obtain ⟨G,h1⟩:=h.get k hk
  exact own_shape h1.1
def atB (L:List Bool) (i:Int):Bool:=L.getD i.toNat false
theorem St.atB {w0 w:World} {F0:List Nat} {ps:List Piece} {g n c:Nat} {L:List Bool} (h:St w0 F0 ps w) (k:Nat) (hk:ps[k]?=some (BoolsP (.slice (some ⟨g,0,none⟩) n c) L)) {i:Int} (hi:inR i L.length=true):w.cell? ⟨g,i.toNat,none⟩=some (.bool (atB L i)):=by
  obtain ⟨h0,h1⟩:=inR_spec hi
  obtain ⟨G,h2⟩:=h.get k hk
  have:=own_cell h2.1 (g:=g) rfl i.toNat (by simp [bV]; omega)
  rw [this]
  unfold Go.Proofs.YtffnjpapggidlaaGreat.atB
  rw [List.getD_eq_getElem?_getD,List.getElem?_eq_getElem (by omega)]; simp [bV]
theorem run_loadB {P:Program} {ρ:Operand→Value} {o:Oper} {t:TypeId} {x:Operand} {p:Addr} {v:Value} (ho:o.op=.load t x) (hu:P.underlying t=some .bool) (hx:ρ x=.pointer (some p)) {w:World} (hc:w.cell? p=some v):(execOp ρ o).run P w=.ok (.value v) w:=by
  unfold execOp
  rw [ho]
  simp only [hx]
  apply run_v
  simp only [Instr.loadAt,Instr.sureAddr,loadVar,isAgg,underlying,program,load,Sem.run_bind,Sem.run_pure,Sem.run,Result.andThen,hu,bind,pure,Sem.bind,hc,Bool.false_eq_true,if_false]
end Go.Proofs.YtffnjpapggidlaaGreat
namespace Go.Proofs.YtffnjpapggidlaaGreat
open Go.RowKit
set_option linter.unusedVariables false
set_option linter.unusedSimpArgs false
section
variable {w0 w:World} {F0:List Nat} {ps:List Piece} {b ab:Nat} {h:HSt}
set_option maxRecDepth 100000 in
set_option maxHeartbeats 4000000 in
theorem v_Chan_nil (p:Int) (w:World) :
    Calls Tryz.prog 25 #[.pointer none,.int .i64 p] w fun e w'=>e=.returned (.tuple #[chV ch0,.int .i64 2])∧Below w.heap.size w w':=by
  obtain ⟨tb,htb⟩:∃ tb,w.heap.size=tb:=⟨_,rfl⟩
  have h2:=(St.empty w).new #[.int .i64 0,.int .i64 0,.int .i64 0,.int .i64 0,.int .i64 0,.int .i64 0,.int .i64 0,.int .i64 0,.int .i64 0] 23
  rw [htb] at h2
  go_enter Tryz.func25,Tryz.ntmps25
  go_wp2_with fail
  refine (v_seen_nil _ _ _).mono ?_
  rintro e w1 ⟨rfl,hw1⟩
  rw [hw1] at h2
  clear hw1 htb
  have e0:=h2.cell 0 rfl 0 rfl
  have f0:=h2.free 0 rfl 0
  have e1:=h2.cell 0 rfl 1 rfl
  have f1:=h2.free 0 rfl 1
  have e2:=h2.cell 0 rfl 2 rfl
  have f2:=h2.free 0 rfl 2
  have e3:=h2.cell 0 rfl 3 rfl
  have f3:=h2.free 0 rfl 3
  have e4:=h2.cell 0 rfl 4 rfl
  have f4:=h2.free 0 rfl 4
  have e5:=h2.cell 0 rfl 5 rfl
  have f5:=h2.free 0 rfl 5
  have e6:=h2.cell 0 rfl 6 rfl
  have f6:=h2.free 0 rfl 6
  have e7:=h2.cell 0 rfl 7 rfl
  have f7:=h2.free 0 rfl 7
  have e8:=h2.cell 0 rfl 8 rfl
  have f8:=h2.free 0 rfl 8
  have hf:=(((((((((h2.set 0 (.int .i64 0)).set 1 (.int .i64 0)).set 2 (.int .i64 0)).set 3 (.int .i64 0)).set 4 (.int .i64 0)).set 5 (.int .i64 0)).set 6 (.int .i64 0)).set 7 (.int .i64 0)).set 8 (.int .i64 0)).drop.old
  go_wp2
  (try simp only [Exit.inBlock,Exit.then])
  refine bodyPost_ret (v:=.tuple #[chV ch0,.int .i64 2]) (by rw [results_cell_tmp rfl]; go_simp; rfl) rfl ?_
  exact ⟨rfl,hf⟩
set_option maxRecDepth 100000 in
set_option maxHeartbeats 4000000 in
theorem v_Sudog_nil (p:Int) (w:World) :
    Calls Tryz.prog 27 #[.pointer none,.int .i64 p] w fun e w'=>e=.returned (.tuple #[suV su0,.int .i64 2])∧Below w.heap.size w w':=by
  obtain ⟨tb,htb⟩:∃ tb,w.heap.size=tb:=⟨_,rfl⟩
  have h2:=(St.empty w).new #[.int .i64 0,.int .i64 0,.int .i64 0,.int .i64 0,.int .i64 0,.int .i64 0,.int .i64 0] 25
  rw [htb] at h2
  go_enter Tryz.func27,Tryz.ntmps27
  go_wp2_with fail
  refine (v_seen_nil _ _ _).mono ?_
  rintro e w1 ⟨rfl,hw1⟩
  rw [hw1] at h2
  clear hw1 htb
  have e0:=h2.cell 0 rfl 0 rfl
  have f0:=h2.free 0 rfl 0
  have e1:=h2.cell 0 rfl 1 rfl
  have f1:=h2.free 0 rfl 1
  have e2:=h2.cell 0 rfl 2 rfl
  have f2:=h2.free 0 rfl 2
  have e3:=h2.cell 0 rfl 3 rfl
  have f3:=h2.free 0 rfl 3
  have e4:=h2.cell 0 rfl 4 rfl
  have f4:=h2.free 0 rfl 4
  have e5:=h2.cell 0 rfl 5 rfl
  have f5:=h2.free 0 rfl 5
  have e6:=h2.cell 0 rfl 6 rfl
  have f6:=h2.free 0 rfl 6
  have hf:=(((((((h2.set 0 (.int .i64 0)).set 1 (.int .i64 0)).set 2 (.int .i64 0)).set 3 (.int .i64 0)).set 4 (.int .i64 0)).set 5 (.int .i64 0)).set 6 (.int .i64 0)).drop.old
  go_wp2
  (try simp only [Exit.inBlock,Exit.then])
  refine bodyPost_ret (v:=.tuple #[suV su0,.int .i64 2]) (by rw [results_cell_tmp rfl]; go_simp; rfl) rfl ?_
  exact ⟨rfl,hf⟩
end
end Go.Proofs.YtffnjpapggidlaaGreat
