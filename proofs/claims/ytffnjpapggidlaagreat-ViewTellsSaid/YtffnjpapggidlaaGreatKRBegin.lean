/- RBegin RowBM HelpM -/
import Derived.Test.YtffnjpapggidlaaGreatKRHeap3
import Derived.Test.YtffnjpapggidlaaGreatKPrimV
import Derived.Test.YtffnjpapggidlaaGreatKAppM
import Derived.Test.YtffnjpapggidlaaGreatKRowB
import Derived.Test.YtffnjpapggidlaaGreatKGHelp
import Derived.Test.YtffnjpapggidlaaGreatKPrim
namespace Go.Proofs.YtffnjpapggidlaaGreat
open Go.RowKit
set_option linter.unusedVariables false
section
variable {w0 w:World} {F0:List Nat} {ps:List Piece} {b ab sb g cb:Nat} {s s':HSt}
theorem q_Begin {v:Value} {L:List Int} {e0:Int} (hs:St w0 F0 (RHeapP b ab sb g cb s::RowP v L::ps) w) (hx:pBegin s L=some (e0,s')) :
    Calls Tryz.prog 58 #[.pointer (some ⟨b,0,none⟩),v] w fun e w'=>e=.returned (.int .i64 e0)∧St w0 F0 (RHeapP b ab sb g cb s'::RowP v L::ps) w':=by
  unfold pBegin at hx
  split at hx
  · simp only [Option.some.injEq,Prod.mk.injEq] at hx
    obtain ⟨rfl,rfl⟩:=hx
    exact rh_BeginR (sees_row v L) hs
  · cases hx
theorem q_BeginS {g1 n c k:Nat} {L:List Int} {e0:Int} (hk:k≤L.length) (hs:St w0 F0 (RHeapP b ab sb g cb s::RowP (.slice (some ⟨g1,0,none⟩) n c) L::ps) w) (hx:pBegin s (L.take k)=some (e0,s')) :
    Calls Tryz.prog 58 #[.pointer (some ⟨b,0,none⟩),.slice (some ⟨g1,0,none⟩) k c] w fun e w'=>e=.returned (.int .i64 e0)∧St w0 F0 (RHeapP b ab sb g cb s'::RowP (.slice (some ⟨g1,0,none⟩) n c) L::ps) w':=by
  unfold pBegin at hx
  split at hx
  · simp only [Option.some.injEq,Prod.mk.injEq] at hx
    obtain ⟨rfl,rfl⟩:=hx
    exact rh_BeginR (sees_take k hk) hs
  · cases hx
end
end Go.Proofs.YtffnjpapggidlaaGreat
namespace Go.Proofs.YtffnjpapggidlaaGreat
open Go.RowKit
set_option linter.unusedVariables false
set_option linter.unusedSimpArgs false
def kBo:RowK Bool where
  T:=4
  m:=1
  bt:=1
  z:=.bool false
  cl x:=[.bool x]
  d:=false
  len _:=rfl
  one x u hu:=by simp at hu; subst hu; rfl
  flat x:=rfl
  info:=by kernel_rfl
  zc:=rfl
  pos:=by decide
  sm:=by decide
theorem flat_bo (L:List Bool):L.flatMap kBo.cl=bV L:=by
  induction L with
  | nil=>rfl
  | cons x L ih=>rw [List.flatMap_cons,ih]; rfl
theorem bools_rowX (v:Value) (L:List Bool):RowX kBo v L=BoolsP v L:=by
  unfold BoolsP RowX
  rw [Piece.mk.injEq]
  funext w F
  rw [flat_bo]
  rfl
section
variable {w0 w:World} {F0:List Nat} {ps:List Piece}
theorem St.madeB (z:Int) (h0:0≤z) (h1:z≤1000000) (h:St w0 F0 ps w):St w0 F0 (BoolsP (.slice (some ⟨w.heap.size,0,none⟩) z.toNat z.toNat) (List.replicate z.toNat false)::ps) (w.alloc (.cells (madeCells kBo.z.cells (z.toNat * kBo.m)) kBo.T)):=by
  have:=St.madeX kBo z h0 h1 h
  rw [bools_rowX] at this
  exact this
theorem ev_storeB {n:Nat} {a:Act} {l l':Asc} {ops:Array Oper} {rest:List Oper} {o:Oper} {Q:Exit→Act→World→Prop} {g c:Nat} {L:List Bool} {t:TypeId} {x y:Operand} {i:Int} (u:Bool) (h:Fr n a l) (h1:gdO ops o l=some true) (h2:o.op=.store t x y) (h3:(hasO l x && hasO l y)=true)
    (hx:lk l x=.pointer (some ⟨g,i.toNat,none⟩)) (hy:lk l y=.bool u) (hs:(Tryz.prog.info? t).map (·.size)=some 1) (hi:inR i L.length=true) (hS:St w0 F0 (BoolsP (.slice (some ⟨g,0,none⟩) L.length c) L::ps) w) (hp:putO n o undef l=some l')
    (hK:∀ w' a',St w0 F0 (BoolsP (.slice (some ⟨g,0,none⟩) L.length c) (setX L i u)::ps) w'→Fr n a' l'→wpList Tryz.prog ops Q rest a' w'):wpList Tryz.prog ops Q (o::rest) a w:=by
  rw [← bools_rowX] at hS
  refine ev_storeX kBo (i:=i) u (.bool u) h h1 h2 h3 ?_ hy rfl hs hi hS hp fun w' a' h4 h5=>hK w' a' ?_ h5
  · rw [hx]; simp [kBo]
  · rw [← bools_rowX]; exact h4
end
end Go.Proofs.YtffnjpapggidlaaGreat
namespace Go.Proofs.YtffnjpapggidlaaGreat
open Go.RowKit
set_option linter.unusedVariables false
set_option linter.unusedSimpArgs false
theorem in_l1 {L:List Int} {x:Int} (hl:L.length<900000):∀ (m j:Nat),j≤L.length→L.length - j<m→help_In.l1 L x m (j:Int)=some (decide (x ∈ L.drop j)):=by
  intro m
  induction m with
  | zero=>intro j _ h; omega
  | succ m ih =>
    intro j hj hm
    show help_In.l1b L x (help_In.l1 L x m) (j:Int)=_
    unfold help_In.l1b
    by_cases hlt:j<L.length
    · rw [if_pos (lt_yes hlt),if_pos (inR_n hlt),atI_n hlt,List.drop_eq_getElem_cons hlt]
      by_cases e:L[j]=x
      · rw [if_pos (by simpa using e)]; simp [e]
      · rw [if_neg (by simpa using e),wr_t _ (by omega) (by omega)]
        have:=ih (j+1) (by omega) (by omega)
        rw [show ((j:Int)+1)=((j+1:Nat):Int) by omega,this]
        have e3:(x ∈ L[j]::L.drop (j+1)) ↔ x ∈ L.drop (j+1):=by rw [List.mem_cons]; exact or_iff_right (Ne.symm e)
        rw [decide_eq_decide.2 e3]
    · rw [if_neg (lt_no hlt),List.drop_eq_nil_of_le (by omega)]; simp
theorem In_m {L:List Int} (x:Int) (hl:L.length<900000) {k:Nat} (hk:L.length<k):help_In.m k L x=some (decide (x ∈ L)):=by
  have:=in_l1 (x:=x) hl k 0 (by omega) (by omega)
  unfold help_In.m
  simpa using this
theorem same_l1 {L M:List Int} {k:Nat} (hl:L.length<5000) (he:L.length=M.length):∀ (m j:Nat),j≤L.length→L.length - j<m→help_Same.l1 L M k m (j:Int)=some (decide (L.drop j=M.drop j)):=by
  intro m
  induction m with
  | zero=>intro j _ h; omega
  | succ m ih =>
    intro j hj hm
    show help_Same.l1b L M k (help_Same.l1 L M k m) (j:Int)=_
    unfold help_Same.l1b
    by_cases hlt:j<L.length
    · have hlt2:j<M.length:=by omega
      rw [if_pos (lt_yes hlt),if_pos (inR_n hlt),if_pos (inR_n hlt2),atI_n hlt,atI_n hlt2]
      unfold help_eq.m
      rw [bind1_y,List.drop_eq_getElem_cons hlt,List.drop_eq_getElem_cons hlt2,wr_t _ (by omega) (by omega)]
      by_cases e:L[j]=M[j]
      · rw [if_neg (by simp [e])]
        have:=ih (j+1) (by omega) (by omega)
        rw [show ((j:Int)+1)=((j+1:Nat):Int) by omega,this]
        have e3:(L.drop (j+1)=M.drop (j+1)) ↔ (L[j]::L.drop (j+1)=M[j]::M.drop (j+1)):=by rw [List.cons.injEq]; exact ⟨fun h=>⟨e,h⟩,fun h=>h.2⟩
        rw [decide_eq_decide.2 e3]
      · rw [if_pos (by simp [e]),decide_eq_false (fun h=>e (List.cons.inj h).1)]
    · rw [if_neg (lt_no hlt),List.drop_eq_nil_of_le (by omega),List.drop_eq_nil_of_le (by omega)]; rfl
theorem Plain_m {L M:List Int} (hl:L.length<5000) {k:Nat} (hk:5000≤k):help_Plain.m k L M=some (decide (L=M)):=by
  unfold help_Plain.m help_Same.m
  by_cases he:L.length=M.length
  · rw [if_neg (by simp [he])]
    have:=same_l1 (k:=k) hl he k 0 (by omega) (by omega)
    rw [show ((0:Int))=((0:Nat):Int) from rfl,this]
    rfl
  · rw [if_pos (by simp; omega)]
    rw [bind1_y]
    have:¬ L=M:=fun e=>he (by rw [e])
    simp [this]
end Go.Proofs.YtffnjpapggidlaaGreat
