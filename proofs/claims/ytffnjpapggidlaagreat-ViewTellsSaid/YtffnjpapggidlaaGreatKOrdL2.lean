/- OrdL2 -/
import Derived.Test.YtffnjpapggidlaaGreatKOrdersL
import Derived.Test.YtffnjpapggidlaaGreatKAppM
import Derived.Test.YtffnjpapggidlaaGreatKEv2
namespace Go.Proofs.YtffnjpapggidlaaGreat
open Go.RowKit
set_option linter.unusedVariables false
set_option linter.unusedSimpArgs false
def SL (t:Nat) (S0:World→Prop):Array Bool→World→Prop:=fun L w=>L.getD t false=false→S0 w
section
variable {P:Program} {ops:Array Oper} {Q:Exit→Act→World→Prop} {n:Nat} {a:Act} {l l':Asc} {w w':World} {S0:World→Prop} {listed:Array Bool} {fuel:Nat}
theorem anyL_start {id:Nat} {os:List Oper} (t:Nat) (S0:World→Prop) (sz:Nat) (ls:Array Bool) (hsz:os.toArray.size=sz) (hl:Array.replicate os.toArray.size false=ls) (hm:P.follows .mixedOrders=true) (h:wpAnyL P .any os.toArray Q (SL t S0) sz ls a w.drew):(Code.region id os.toArray true).wp P Q a w :=
  wp_region_L (SL t S0) hm (by rw [hl,hsz]; exact h)
theorem sl_set {i t:Nat} (hit:Nat.beq i t=false) (L:Array Bool) (w:World):SL t S0 (L.setIfInBounds i true) w ↔ SL t S0 L w:=by
  have hne:i≠t:=fun e=>by rw [e,Nat.beq_refl] at hit; cases hit
  unfold SL
  rw [show (L.setIfInBounds i true).getD t false=L.getD t false by rw [Array.getD_eq_getD_getElem?,Array.getD_eq_getD_getElem?,Array.getElem?_setIfInBounds_ne hne]]
theorem anyL_take (t i:Nat) (ls:Array Bool) {o:Oper} (v:Value) (hF:Fr n a l) (hi:ops[i]?=some o) (h1:gdO ops o l=some true) (h2:notSel o.op=true) (h3:o.op.operands.toList.all (hasO l)=true)
    (h4:∀ w,S0 w→(execOp (lk l) o).run P w=.ok (.value v) w) (hp:putO n o v l=some l')
    (hs:Region.noSelect ops=true) (hf:Region.free .any ops listed i=true) (hr:(Region.ready .any ops listed).contains i=true) (hw:((waiters .any ops i).all fun j=>!listed.getD j false)=true) (hk:(waiters .any ops i).contains t=true) (hit:Nat.beq i t=false)
    (hQ:∀ c a w,Q (.panic c) (a.put o.dst v) w→Q (.panic c) a w) (hS:S0 w) (hl:listed.setIfInBounds i true=ls)
    (hK:∀ a',Fr n a' l'→wpAnyL P .any ops Q (SL t S0) fuel ls a' w):wpAnyL P .any ops Q (SL t S0) (fuel+1) listed a w :=
  wpAnyL_load v S0 t hi hs hf hr hw hk hQ (fun L w h hS=>hS h) (fun L w=>sl_set hit L w) (fun _=>hS) (gdO_wanted hF h1) (fun w hw=>by rw [exec_same hF h2 h3]; exact h4 w hw) (by rw [hl]; exact hK _ (putO_fr hF hp))
theorem anyL_call (t i:Nat) (ls:Array Bool) {o:Oper} (f:FuncId) (args:Array Value) {d:Nat} (hF:Fr n a l) (hi:ops[i]?=some o) (hr:Region.ready .any ops listed=[i]) (hd:o.dst=some d) (hn:Nat.blt d n=true)
    (h1:gdO ops o l=some true) (h2:notSel o.op=true) (h3:o.op.operands.toList.all (hasO l)=true) (h4:∀ w,(execOp (lk l) o).run P w=.ok (.enter f args) w) (hl:listed.setIfInBounds i true=ls)
    (hc:Calls P f args w (RetV fun v w'=>S0 w'∧∀ a',Fr n a' ((d,v)::del d l)→wpAnyL P .any ops Q (SL t S0) fuel ls a' w')):wpAnyL P .any ops Q (SL t S0) (fuel+1) listed a w:=by
  subst hl
  refine wpAnyL_all hr (by simp) ?_
  intro j hj
  simp only [List.mem_singleton] at hj
  subst hj
  unfold wpOp
  rw [hi]
  simp only
  rw [gdO_wanted hF h1]
  simp only [if_true]
  left
  unfold Oper.wp
  rw [exec_same hF h2 h3,h4,Oper.upon_enter,hd]
  refine Calls.mono hc fun e w'' he=>?_
  cases e with
  | returned v=>exact ⟨fun _=>he.1,he.2 _ (hF.put (Nat.le_of_ble_eq_true hn) v)⟩
  | panicked c=>exact he.elim
  | outgrown=>exact he.elim
theorem anyL_done {S:Array Bool→World→Prop} (hr:Region.ready .any ops listed=[]) (h:Q .normal a w):wpAnyL P .any ops Q S fuel listed a w:=wpAnyL_done hr h fuel
theorem anyL_after (t i:Nat) (ls:Array Bool) {o:Oper} (v:Value) (hF:Fr n a l) (hi:ops[i]?=some o) (h1:gdO ops o l=some true) (h2:notSel o.op=true) (h3:o.op.operands.toList.all (hasO l)=true)
    (h4:∀ w,(execOp (lk l) o).run P w=.ok (.value v) w) (hp:putO n o v l=some l')
    (hs:Region.noSelect ops=true) (hf:Region.free .any ops listed i=true) (hr:(Region.ready .any ops listed).contains i=true) (hw:((waiters .any ops i).all fun j=>!listed.getD j false)=true) (hit:Nat.beq i t=false)
    (hQ:∀ c a w,Q (.panic c) (a.put o.dst v) w→Q (.panic c) a w) (ht:listed.getD t false=true) (hl:listed.setIfInBounds i true=ls)
    (hK:∀ a',Fr n a' l'→wpAnyL P .any ops Q (SL t S0) fuel ls a' w):wpAnyL P .any ops Q (SL t S0) (fuel+1) listed a w :=
  wpAnyL_pure v hi hs hf hr hw hQ (fun L w=>sl_set hit L w) (fun h=>by rw [ht] at h; cases h) (gdO_wanted hF h1) (fun w=>by rw [exec_same hF h2 h3]; exact h4 w) (by rw [hl]; exact hK _ (putO_fr hF hp))
theorem anyL_store {w0:World} {F0:List Nat} {ps:List Piece} {g off:Nat} {T:TypeId} {cs:Array Value} {o:Oper} {tt:TypeId} {x y:Operand} (t i:Nat) (ls:Array Bool) (v:Value) (cs':Array Value) (h:Fr n a l) (hi:ops[i]?=some o) (hr:Region.ready .any ops listed=[i]) (h1:gdO ops o l=some true) (h2:o.op=.store tt x y) (h3:(hasO l x && hasO l y)=true)
    (hx:lk l x=.pointer (some ⟨g,off,none⟩)) (hy:lk l y=v) (hs:(P.info? tt).map (·.size)=some v.cells.size) (hS:St w0 F0 (BlkP g T cs::ps) w) (hb:Nat.ble (off+v.cells.size) cs.size=true) (hf:v.cells.toList.all flatV=true) (he:setL cs off v.cells.toList=cs') (hp:putO n o undef l=some l') (hl:listed.setIfInBounds i true=ls) (ht:ls.getD t false=true)
    (hK:∀ w' a',St w0 F0 (BlkP g T cs'::ps) w'→Fr n a' l'→wpAnyL P .any ops Q (SL t S0) fuel ls a' w'):wpAnyL P .any ops Q (SL t S0) (fuel+1) listed a w:=by
  subst hl
  refine wpAnyL_all hr (by simp) ?_
  intro j hj
  simp only [List.mem_singleton] at hj
  subst hj
  refine wpOp_of_list hi (ev_store v cs' h h1 h2 h3 hx hy hs hS hb hf he hp fun w' a' h4 h5=>?_)
  refine ⟨fun h6=>?_,hK w' a' h4 h5⟩
  rw [ht] at h6; cases h6
end
end Go.Proofs.YtffnjpapggidlaaGreat
