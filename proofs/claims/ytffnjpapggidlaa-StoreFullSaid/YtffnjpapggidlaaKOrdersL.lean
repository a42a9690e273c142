/- OrdersL -/
import Derived.Test.YtffnjpapggidlaaRows
import Derived.OrdersHeld
import Derived.RegionTactic
import Derived.WalkKit
namespace Go.Proofs.Ytffnjpapggidlaa
set_option linter.unusedVariables false
section
variable {P:Program} {ops:Array Oper} {Q:Exit→Act→World→Prop} {md:Region.Mode} {S:Array Bool→World→Prop}
def wpAnyL (P:Program) (md:Region.Mode) (ops:Array Oper) (Q:Exit→Act→World→Prop) (S:Array Bool→World→Prop):Nat→Array Bool→Act→World→Prop
  | 0,listed,a,w=>Region.ready md ops listed=[]∧Q .normal a w
  | fuel+1,listed,a,w =>
    (Region.ready md ops listed=[]→Q .normal a w) ∧
    ∀ i ∈ Region.ready md ops listed,wpOp P ops Q i (fun a' w'=>S (listed.setIfInBounds i true) w'∧wpAnyL P md ops Q S fuel (listed.setIfInBounds i true) a' w') a w
theorem wpAny_of_L:∀ (fuel:Nat) (listed:Array Bool) (a:Act) (w:World),wpAnyL P md ops Q S fuel listed a w→wpAny P md ops Q fuel listed a w
  | 0,_,_,_,h=>h
  | fuel+1,_,_,_,h=>⟨h.1,fun i hi=>wpOp_mono (fun a' w' h'=>wpAny_of_L fuel _ a' w' h'.2) (h.2 i hi)⟩
def Waits (md:Region.Mode) (ops:Array Oper) (i:Nat) (L:Array Bool):Prop:=∀ j oj,ops[j]?=some oj→(∃ e ∈ oj.after,Region.binds md e=true∧e.on=i)→L.getD j false=false
theorem wpAnyL_first {i:Nat} {oi:Oper} {v:Value} {T:World→Prop} (hi:ops[i]?=some oi) (hsel:∀ (j:Nat) (o:Oper) cs b,ops[j]?=some o→o.op≠.select cs b)
    (hQ:∀ c a w,Q (.panic c) (a.put oi.dst v) w→Q (.panic c) a w) (hST:∀ L w,Waits md ops i L→S L w→T w) (hSi:∀ L w,S (L.setIfInBounds i true) w→S L w) :
    ∀ (fuel:Nat) (listed:Array Bool) (a:Act) (w:World),
      (∀ j oj,ops[j]?=some oj→j≠i→listed.getD j true=false→(∀ e ∈ oj.after,Region.binds md e=true→e.on≠i)→oi.apart ops oj=true) →
      i ∈ Region.ready md ops listed→Waits md ops i listed→YieldsIf P ops T oi v a→S listed w →
      S (listed.setIfInBounds i true) w→wpAnyL P md ops Q S fuel (listed.setIfInBounds i true) (a.put oi.dst v) w→wpAnyL P md ops Q S (fuel+1) listed a w:=by
  intro fuel
  induction fuel with
  | zero =>
    intro listed a w _ hr hwt hy hS hS2 H
    refine ⟨fun h=>(by rw [h] at hr; cases hr),fun j hj=>?_⟩
    by_cases hji:j=i
    · subst hji; exact hy.wpOp hi (hST _ _ hwt hS) ⟨hS2,H⟩
    · have:=ready_mono hj hji
      rw [H.1] at this
      cases this
  | succ fuel ih =>
    intro listed a w hfree hr hwt hy hS hS2 H
    refine ⟨fun h=>(by rw [h] at hr; cases hr),fun j hj=>?_⟩
    by_cases hji:j=i
    · subst hji; exact hy.wpOp hi (hST _ _ hwt hS) ⟨hS2,H⟩
    · have h1:=H.2 j (ready_mono hj hji)
      obtain ⟨hjun,oj,hoj,hall⟩:=mem_ready.1 hj
      have hnot:∀ e ∈ oj.after,Region.binds md e=true→e.on≠i:=fun e he hb heq=>by
        have h1:=hall e he hb
        have h0:=(mem_ready.1 hr).1
        rw [heq] at h1
        rcases Nat.lt_or_ge i listed.size with h' | h'
        · simp [h'] at h0 h1; rw [h0] at h1; cases h1
        · simp [Array.getElem?_eq_none h'] at h1
      have h2:=wpOp_putIf hoj (hfree j oj hoj hji hjun hnot) (fun cs b=>hsel i oi cs b hi) (fun cs b=>hsel j oj cs b hoj) hQ hy h1
      have hfree':∀ k ok,ops[k]?=some ok→k≠i→(listed.setIfInBounds j true).getD k true=false →
          (∀ e ∈ ok.after,Region.binds md e=true→e.on≠i)→oi.apart ops ok=true:=fun k ok hk hki hun hno=>by
        refine hfree k ok hk hki ?_ hno
        by_cases hjk:j=k
        · subst hjk; exact hjun
        · rw [getD_set_ne true hjk] at hun; exact hun
      have hwt':Waits md ops i (listed.setIfInBounds j true):=by
        intro k ok hk hex
        by_cases hjk:j=k
        · subst hjk
          rw [hoj] at hk; injection hk with hk; subst hk
          obtain ⟨e,he,hb,heq⟩:=hex
          exact absurd heq (hnot e he hb)
        · rw [getD_set_ne false hjk]; exact hwt k ok hk hex
      refine wpOp_mono (fun a' w' h3=>?_) h2
      have hS3:S (listed.setIfInBounds j true) w':=hSi _ _ (by rw [Array.setIfInBounds_comm _ _ hji]; exact h3.2.1)
      refine ⟨hS3,ih (listed.setIfInBounds j true) a' w' hfree' (ready_mono hr (Ne.symm hji)) hwt' h3.1 hS3 ?_ ?_⟩
      · rw [Array.setIfInBounds_comm _ _ hji]; exact h3.2.1
      · rw [Array.setIfInBounds_comm _ _ hji]; exact h3.2.2
def waiters (md:Region.Mode) (ops:Array Oper) (i:Nat):List Nat:=(List.range ops.size).filter fun j=>((ops[j]?).map fun o=>o.after.any fun e=>Region.binds md e && e.on == i).getD false
theorem waits_iff {i:Nat} {L:Array Bool}:Waits md ops i L ↔ ∀ j ∈ waiters md ops i,L.getD j false=false:=by
  constructor
  · intro h j hj
    unfold waiters at hj
    rw [List.mem_filter] at hj
    cases ho:ops[j]? with
    | none=>rw [ho] at hj; simp at hj
    | some o =>
      rw [ho] at hj
      simp only [Option.map_some,Option.getD_some] at hj
      obtain ⟨e,he,hh⟩:=Array.any_eq_true'.1 hj.2
      simp only [Bool.and_eq_true,beq_iff_eq] at hh
      exact h j o ho ⟨e,he,hh.1,hh.2⟩
  · intro h j oj hj ⟨e,he,hb,heq⟩
    refine h j ?_
    unfold waiters
    rw [List.mem_filter]
    refine ⟨List.mem_range.2 (Array.getElem?_eq_some_iff.1 hj).1,?_⟩
    rw [hj]
    simp only [Option.map_some,Option.getD_some]
    exact Array.any_eq_true'.2 ⟨e,he,by simp [hb,heq]⟩
theorem wpAnyL_take {i:Nat} {oi:Oper} (v:Value) (T:World→Prop) {ws:List Nat} {fuel:Nat} {listed:Array Bool} {a:Act} {w:World} (hi:ops[i]?=some oi)
    (hs:Region.noSelect ops=true) (hf:Region.free md ops listed i=true) (hr:(Region.ready md ops listed).contains i=true)
    (hws:waiters md ops i=ws) (hw:(ws.all fun j=>!listed.getD j false)=true)
    (hQ:∀ c a w,Q (.panic c) (a.put oi.dst v) w→Q (.panic c) a w) (hST:∀ L w,(∀ j ∈ ws,L.getD j false=false)→S L w→T w) (hSi:∀ L w,S (L.setIfInBounds i true) w ↔ S L w) (hy:YieldsIf P ops T oi v a) (hS:S listed w)
    (h:wpAnyL P md ops Q S fuel (listed.setIfInBounds i true) (a.put oi.dst v) w):wpAnyL P md ops Q S (fuel+1) listed a w :=
  wpAnyL_first hi (Region.noSelect_spec hs) hQ (fun L w hL=>hST L w (by rw [← hws]; exact waits_iff.1 hL)) (fun L w=>(hSi L w).1) fuel listed a w (Region.free_spec hi hf) (by simpa using hr)
    (waits_iff.2 (by rw [hws]; intro j hj; have:=List.all_eq_true.1 hw j hj; simpa using this)) hy hS ((hSi _ _).2 hS) h
theorem wpAnyL_pure {i:Nat} {oi:Oper} (v:Value) {fuel:Nat} {listed:Array Bool} {a:Act} {w:World} (hi:ops[i]?=some oi)
    (hs:Region.noSelect ops=true) (hf:Region.free md ops listed i=true) (hr:(Region.ready md ops listed).contains i=true)
    (hw:((waiters md ops i).all fun j=>!listed.getD j false)=true)
    (hQ:∀ c a w,Q (.panic c) (a.put oi.dst v) w→Q (.panic c) a w) (hSi:∀ L w,S (L.setIfInBounds i true) w ↔ S L w) (hS:S listed w) (hwt:Region.wanted oi (yielded ops a.tmps)=true)
    (hy:∀ w,(execOp a.eval oi).run P w=.ok (.value v) w)
    (h:wpAnyL P md ops Q S fuel (listed.setIfInBounds i true) (a.put oi.dst v) w):wpAnyL P md ops Q S (fuel+1) listed a w :=
  wpAnyL_take v (fun _=>True) hi hs hf hr rfl hw hQ (fun _ _ _ _=>trivial) hSi (Or.inl ⟨hwt,fun w _=>hy w⟩) hS h
theorem wpAnyL_load {i:Nat} {oi:Oper} (v:Value) (T:World→Prop) (k:Nat) {fuel:Nat} {listed:Array Bool} {a:Act} {w:World} (hi:ops[i]?=some oi)
    (hs:Region.noSelect ops=true) (hf:Region.free md ops listed i=true) (hr:(Region.ready md ops listed).contains i=true)
    (hw:((waiters md ops i).all fun j=>!listed.getD j false)=true) (hk:(waiters md ops i).contains k=true)
    (hQ:∀ c a w,Q (.panic c) (a.put oi.dst v) w→Q (.panic c) a w) (hST:∀ L w,L.getD k false=false→S L w→T w) (hSi:∀ L w,S (L.setIfInBounds i true) w ↔ S L w) (hS:S listed w) (hwt:Region.wanted oi (yielded ops a.tmps)=true)
    (hy:∀ w,T w→(execOp a.eval oi).run P w=.ok (.value v) w)
    (h:wpAnyL P md ops Q S fuel (listed.setIfInBounds i true) (a.put oi.dst v) w):wpAnyL P md ops Q S (fuel+1) listed a w :=
  wpAnyL_take v T hi hs hf hr rfl hw hQ (fun L w hL hS=>hST L w (hL k (by simpa using hk)) hS) hSi (Or.inl ⟨hwt,hy⟩) hS h
theorem wpAnyL_one {i:Nat} {oi:Oper} {L':Array Bool} {fuel:Nat} {listed:Array Bool} {a:Act} {w:World} (hi:ops[i]?=some oi) (hL:listed.setIfInBounds i true=L')
    (h:∀ K:Act→World→Prop,(∀ a' w',S L' w'→wpAnyL P md ops Q S fuel L' a' w'→K a' w')→if Region.wanted oi (yielded ops a.tmps)=true then Oper.wp P oi a w K Q else K (a.put oi.dst undef) w) :
    wpOp P ops Q i (fun a' w'=>S (listed.setIfInBounds i true) w'∧wpAnyL P md ops Q S fuel (listed.setIfInBounds i true) a' w') a w:=by
  unfold wpOp
  rw [hi,hL]
  simp only
  have:=h (fun a' w'=>S L' w'∧wpAnyL P md ops Q S fuel L' a' w') (fun a' w' h1 h2=>⟨h1,h2⟩)
  split
  · rename_i hw; rw [if_pos hw] at this; exact .inl this
  · rename_i hw; rw [if_neg hw] at this; exact this
theorem wpAnyL_all {rs:List Nat} {fuel:Nat} {listed:Array Bool} {a:Act} {w:World} (hr:Region.ready md ops listed=rs) (hne:rs≠[])
    (h:∀ i ∈ rs,wpOp P ops Q i (fun a' w'=>S (listed.setIfInBounds i true) w'∧wpAnyL P md ops Q S fuel (listed.setIfInBounds i true) a' w') a w):wpAnyL P md ops Q S (fuel+1) listed a w :=
  ⟨fun h0=>absurd (hr ▸ h0) hne,hr ▸ h⟩
theorem wpAnyL_done {listed:Array Bool} {a:Act} {w:World} (hr:Region.ready md ops listed=[]) (h:Q .normal a w):∀ fuel,wpAnyL P md ops Q S fuel listed a w
  | 0=>⟨hr,h⟩
  | _+1=>⟨fun _=>h,by rw [hr]; simp⟩
theorem wp_region_L {id:Nat} {a:Act} {w:World} (S:Array Bool→World→Prop) (hm:P.follows .mixedOrders=true)
    (h:wpAnyL P .any ops Q S ops.size (Array.replicate ops.size false) a w.drew):(Code.region id ops true).wp P Q a w :=
  wp_region_any hm (wpAny_of_L _ _ _ _ h)
end
end Go.Proofs.Ytffnjpapggidlaa
