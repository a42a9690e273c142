/- RowBM -/
import Derived.Test.YtinagphkkegmnaaKAppM
import Derived.Test.YtinagphkkegmnaaKRowB
namespace Go.Proofs.Ytinagphkkegmnaa
open Go.RowKit
set_option linter.unusedVariables false
set_option linter.unusedSimpArgs false
def kBo:RowK Bool where
  T:=4
  m:=1
  bt:=1
  z:=.bool false
  cl x:=[.bool x]
  d:=false
  len _:=rfl
  one x u hu:=by simp at hu; subst hu; rfl
  flat x:=rfl
  info:=by kernel_rfl
  zc:=rfl
  pos:=by decide
  sm:=by decide
theorem flat_bo (L:List Bool):L.flatMap kBo.cl=bV L:=by
  induction L with
  | nil=>rfl
  | cons x L ih=>rw [List.flatMap_cons,ih]; rfl
theorem bools_rowX (v:Value) (L:List Bool):RowX kBo v L=BoolsP v L:=by
  unfold BoolsP RowX
  rw [Piece.mk.injEq]
  funext w F
  rw [flat_bo]
  rfl
section
variable {w0 w:World} {F0:List Nat} {ps:List Piece}
theorem St.madeB (z:Int) (h0:0≤z) (h1:z≤1000000) (h:St w0 F0 ps w):St w0 F0 (BoolsP (.slice (some ⟨w.heap.size,0,none⟩) z.toNat z.toNat) (List.replicate z.toNat false)::ps) (w.alloc (.cells (madeCells kBo.z.cells (z.toNat * kBo.m)) kBo.T)):=by
  have:=St.madeX kBo z h0 h1 h
  rw [bools_rowX] at this
  exact this
theorem ev_storeB {n:Nat} {a:Act} {l l':Asc} {ops:Array Oper} {rest:List Oper} {o:Oper} {Q:Exit→Act→World→Prop} {g c:Nat} {L:List Bool} {t:TypeId} {x y:Operand} {i:Int} (u:Bool) (h:Fr n a l) (h1:gdO ops o l=some true) (h2:o.op=.store t x y) (h3:(hasO l x && hasO l y)=true)
    (hx:lk l x=.pointer (some ⟨g,i.toNat,none⟩)) (hy:lk l y=.bool u) (hs:(Try.prog.info? t).map (·.size)=some 1) (hi:inR i L.length=true) (hS:St w0 F0 (BoolsP (.slice (some ⟨g,0,none⟩) L.length c) L::ps) w) (hp:putO n o undef l=some l')
    (hK:∀ w' a',St w0 F0 (BoolsP (.slice (some ⟨g,0,none⟩) L.length c) (setX L i u)::ps) w'→Fr n a' l'→wpList Try.prog ops Q rest a' w'):wpList Try.prog ops Q (o::rest) a w:=by
  rw [← bools_rowX] at hS
  refine ev_storeX kBo (i:=i) u (.bool u) h h1 h2 h3 ?_ hy rfl hs hi hS hp fun w' a' h4 h5=>hK w' a' ?_ h5
  · rw [hx]; simp [kBo]
  · rw [← bools_rowX]; exact h4
end
end Go.Proofs.Ytinagphkkegmnaa
