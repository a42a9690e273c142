/- View ViewV View2 -/
import Derived.Test.YtffnjpapggidlaaKSepHeap
import Derived.Test.YtffnjpapggidlaaKSepLit
import Derived.Test.YtffnjpapggidlaaKRecord
import Derived.Test.YtffnjpapggidlaaKPureView
import Derived.Laws.ResultCell
import Derived.Deep.RegionHeld3
namespace Go.Proofs.Ytffnjpapggidlaa
open Go.RowKit
set_option linter.unusedVariables false
section
variable {w0 w:World} {F0:List Nat} {ps:List Piece} {b ab:Nat} {h:HSt}
theorem getD_at {L:List Int} {k:Nat} (hk:k<L.length):L.getD k 0=L[k]:=by rw [List.getD_eq_getElem?_getD,List.getElem?_eq_getElem hk]; rfl
end
end Go.Proofs.Ytffnjpapggidlaa
namespace Go.Proofs.Ytffnjpapggidlaa
open Go.RowKit
set_option linter.unusedVariables false
set_option linter.unusedSimpArgs false
def chV (c:Ch):Value:=.agg #[.int .i64 c.cap,.int .i64 c.closed,.int .i64 c.count,.int .i64 c.start,.int .i64 c.buf,.int .i64 c.th,.int .i64 c.tt,.int .i64 c.sh,.int .i64 c.st]
def suV (s:Su):Value:=.agg #[.int .i64 s.gor,.int .i64 s.chan,.int .i64 s.value,.int .i64 s.next,.int .i64 s.to,.int .i64 s.reg,.int .i64 s.more]
def goV (g:Gr):Value:=.agg #[.int .i64 g.id,.int .i64 g.status,.int .i64 g.pc,.int .i64 g.a,.int .i64 g.b,.int .i64 g.c,.int .i64 g.d,.int .i64 g.e,.int .i64 g.f,.int .i64 g.sudogs]
theorem need_ch:rNeed 1 0=((9:Nat):Int):=rfl
theorem need_su:rNeed 3 0=((7:Nat):Int):=rfl
theorem need_go:rNeed 4 0=((10:Nat):Int):=rfl
theorem St.rowNe {w0:World} {F0:List Nat} {g n c g':Nat} {t':TypeId} {L:List Int} {cs':Array Value} {qs:List Piece} {wr:World} (h:St w0 F0 (RowP (.slice (some ⟨g,0,none⟩) n c) L::BlkP g' t' cs'::qs) wr):g≠g':=by
  obtain ⟨F,⟨F1,F2,rfl,⟨h1,rfl⟩,⟨F3,F4,rfl,⟨h3,rfl⟩,h4,hd4⟩,hd⟩,k,h3⟩:=h
  intro e; subst e; exact hd g (by simp [Value.ownBlock]) (by simp)
theorem far_set {w:World} {tb gv i j:Nat} {v a:Value} (hne:gv≠tb) (h:w.cell? ⟨gv,i,none⟩=some v):(w.setCell ⟨tb,j,none⟩ a).cell? ⟨gv,i,none⟩=some v:=by
  rw [World.cell?_setCell_other _ _ _ _ (fun e=>hne (by injection e with e1; exact e1.symm))]; exact h
theorem far_drew {w:World} {x:Addr} {v:Value} (h:w.cell? x=some v):w.drew.cell? x=some v:=h
theorem keep9 {w:World} {tb gv i:Nat} {v a0 a1 a2 a3 a4 a5 a6 a7 a8:Value} (hne:gv≠tb) (h:w.cell? ⟨gv,i,none⟩=some v) :
    (((((((((w.setCell ⟨tb,0,none⟩ a0).setCell ⟨tb,1,none⟩ a1).setCell ⟨tb,2,none⟩ a2).setCell ⟨tb,3,none⟩ a3).setCell ⟨tb,4,none⟩ a4).setCell ⟨tb,5,none⟩ a5).setCell ⟨tb,6,none⟩ a6).setCell ⟨tb,7,none⟩ a7).setCell ⟨tb,8,none⟩ a8).drew.cell? ⟨gv,i,none⟩=some v :=
  far_drew (far_set hne (far_set hne (far_set hne (far_set hne (far_set hne (far_set hne (far_set hne (far_set hne (far_set hne h)))))))))
theorem keep7 {w:World} {tb gv i:Nat} {v a0 a1 a2 a3 a4 a5 a6:Value} (hne:gv≠tb) (h:w.cell? ⟨gv,i,none⟩=some v) :
    (((((((w.setCell ⟨tb,0,none⟩ a0).setCell ⟨tb,1,none⟩ a1).setCell ⟨tb,2,none⟩ a2).setCell ⟨tb,3,none⟩ a3).setCell ⟨tb,4,none⟩ a4).setCell ⟨tb,5,none⟩ a5).setCell ⟨tb,6,none⟩ a6).drew.cell? ⟨gv,i,none⟩=some v :=
  far_drew (far_set hne (far_set hne (far_set hne (far_set hne (far_set hne (far_set hne (far_set hne h)))))))
end Go.Proofs.Ytffnjpapggidlaa
namespace Go.Proofs.Ytffnjpapggidlaa
open Go.RowKit
set_option linter.unusedVariables false
set_option linter.unusedSimpArgs false
section
variable {w0 w:World} {F0:List Nat} {ps:List Piece} {b ab:Nat} {h:HSt}
end
end Go.Proofs.Ytffnjpapggidlaa
