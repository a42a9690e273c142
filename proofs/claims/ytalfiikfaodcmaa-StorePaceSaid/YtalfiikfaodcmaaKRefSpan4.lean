/- RefSpan4 RefSpan5 -/
import Derived.Test.YtalfiikfaodcmaaKView3
import Derived.Test.YtalfiikfaodcmaaKStepAt
import Derived.Test.YtalfiikfaodcmaaKOrdersL
namespace Go.Proofs.Ytalfiikfaodcmaa
open Go.RowKit
set_option linter.unusedVariables false
set_option linter.unusedSimpArgs false
def b8:Value:=.agg #[.bool false,.bool false,.bool false,.bool false,.bool false,.bool false,.bool false,.bool false]
def falses (n:Nat):List Value:=List.replicate (n * 8) (.bool false)
def f8:Array Value:=#[.bool false,.bool false,.bool false,.bool false,.bool false,.bool false,.bool false,.bool false]
section
variable {ops:Array Oper} {o:Oper} {a:Act} {K:Act→World→Prop} {Q:Exit→Act→World→Prop} {E:Prop} {w0 W:World} {F0:List Nat} {ps:List Piece} {v:Value} {g k:Nat}
theorem step_grow {L:List Int} {y:Int} (hgd:o.guard=none) (s x:Operand) (ho:o.op=.call { callee:=.builtin .append,args:=#[s,x],argTypes:=#[38,38] })
    (h:St w0 F0 (RowP v L::BlkP g 3 #[.int .i64 y]::ps) W) (hs:a.eval s=v) {g':Nat} (hx:a.eval x=.slice (some ⟨g',0,none⟩) 1 1) (hg':g'=g) (n:Nat) (hn:L.length=n) (hl:n<1000000)
    (hK:∀ p c w',St w0 F0 (RowP (.slice p (n+1) c) (L ++ [y])::ps) w'→K (a.put o.dst (.slice p (n+1) c)) w'):if Region.wanted o (yielded ops a.tmps)=true then Oper.wp Try.prog o a W K Q else E:=by
  subst hn
  rw [hg'] at hx
  clear hg'
  obtain ⟨i0,hi,hz0,hz1,hz2⟩:=info_parts info_iV
  refine step_append_at hgd s x 38 ho 0 3 i0 (.int .i64 0) 1 8 Try.underlying38 hi hz0 hz1 hz2 rfl (by decide) v L.length (iV L) hs (h.row 0 rfl) ⟨g,0,none⟩ 1 1 [.int .i64 y] hx rfl ?_ ?_ (by unfold maxLen; omega) (by omega) (Nat.zero_le _) ?_
  · intro j u hj
    cases j with
    | zero=>simp at hj; subst hj; exact h.cell 1 rfl 0 rfl
    | succ j=>simp at hj
  · intro u hu; simp at hu; subst hu; rfl
  · intro v' w' ho' hg' hn' hat'
    obtain ⟨_,p,c,rfl,_⟩:=own_shape ho'
    exact hK p c w' (h.pick1.drop.grow' ho' hg' hat')
theorem falses_succ (k:Nat):falses k ++ f8.toList=falses (k+1):=by
  have:f8.toList=List.replicate 8 (Value.bool false):=rfl
  unfold falses
  rw [this,List.replicate_append_replicate,Nat.add_mul]
end
def NS (B:Nat) (v1 v2:Value) (L:Array Bool) (w:World):Prop:=(L.getD 7 false=false→w.cell? ⟨B,0,none⟩=some v1)∧(L.getD 14 false=false→w.cell? ⟨B,1,none⟩=some v2)
theorem NS.set {B:Nat} {v1 v2:Value} {i:Nat} (h1:i≠7) (h2:i≠14) (L:Array Bool) (w:World):NS B v1 v2 (L.setIfInBounds i true) w ↔ NS B v1 v2 L w:=by
  unfold NS; rw [getD_set_ne false h1,getD_set_ne false h2]
end Go.Proofs.Ytalfiikfaodcmaa
namespace Go.Proofs.Ytalfiikfaodcmaa
open Go.RowKit
set_option linter.unusedVariables false
def padC (r:SRow) (k:Nat):Nat:=((List.range k).filter (pad r)).length
theorem padC_succ (r:SRow) (k:Nat):padC r (k+1)=padC r k+if pad r k then 1 else 0:=by
  unfold padC; rw [List.range_succ,List.filter_append,List.length_append]
  cases h:pad r k <;> simp [h]
theorem padC_le (r:SRow) (k:Nat):padC r k≤k:=Nat.le_trans (List.length_filter_le _ _) (by simp)
theorem padC_take (r:SRow) (k:Nat):padC r k=used (r.2.take k):=by
  induction k with
  | zero=>rfl
  | succ k ih =>
    rw [padC_succ,ih]
    by_cases h:k<r.2.length
    · rw [used_snoc _ _ h]
      unfold pad
      rw [List.getElem?_eq_getElem h]
      cases r.2[k] <;> rfl
    · rw [List.take_of_length_le (by omega),List.take_of_length_le (by omega)]
      have:pad r k=false:=by unfold pad; rw [List.getElem?_eq_none (by omega)]; rfl
      rw [this]; rfl
theorem padC_all (r:SRow) (h:r.2.length≤8):padC r 8=used r.2:=by rw [padC_take,List.take_of_length_le h]
theorem sWords_succ (l:List SRow) (i:Nat) (h:i<l.length):sWords (l.take (i+1))=sWords (l.take i)+(used l[i].2:Int) * cWords l[i].1:=by
  unfold sWords; rw [List.take_succ_eq_append_getElem h,List.map_append,List.sum_append]; simp
section
variable {w0 w:World} {F0:List Nat} {ps:List Piece} {b:Nat} {l:List SRow}
end
end Go.Proofs.Ytalfiikfaodcmaa
