/- OrdersL EvMap ArgK -/
import Derived.Test.YtaojmbkmicjecaaGreatKEv2
import Derived.Test.YtaojmbkmicjecaaGreatKSpan
import Derived.Test.YtaojmbkmicjecaaGreatKPlain
import Derived.Test.YtaojmbkmicjecaaGreatKView2N
import Derived.Test.YtaojmbkmicjecaaGreatRows
import Derived.OrdersHeld
import Derived.RegionTactic
import Derived.WalkKit
import Derived.Deep.Grids
import Derived.OpenShut
import Derived.ChangeSame
namespace Go.Proofs.YtaojmbkmicjecaaGreat
set_option linter.unusedVariables false
section
variable {P:Program} {ops:Array Oper} {Q:Exit→Act→World→Prop} {md:Region.Mode} {S:Array Bool→World→Prop}
def wpAnyL (P:Program) (md:Region.Mode) (ops:Array Oper) (Q:Exit→Act→World→Prop) (S:Array Bool→World→Prop):Nat→Array Bool→Act→World→Prop
  | 0,listed,a,w=>Region.ready md ops listed=[]∧Q .normal a w
  | fuel+1,listed,a,w =>
    (Region.ready md ops listed=[]→Q .normal a w) ∧
    ∀ i ∈ Region.ready md ops listed,wpOp P ops Q i (fun a' w'=>S (listed.setIfInBounds i true) w'∧wpAnyL P md ops Q S fuel (listed.setIfInBounds i true) a' w') a w
theorem wpAny_of_L:∀ (fuel:Nat) (listed:Array Bool) (a:Act) (w:World),wpAnyL P md ops Q S fuel listed a w→wpAny P md ops Q fuel listed a w
  | 0,_,_,_,h=>h
  | fuel+1,_,_,_,h=>⟨h.1,fun i hi=>wpOp_mono (fun a' w' h'=>wpAny_of_L fuel _ a' w' h'.2) (h.2 i hi)⟩
def Waits (md:Region.Mode) (ops:Array Oper) (i:Nat) (L:Array Bool):Prop:=∀ j oj,ops[j]?=some oj→(∃ e ∈ oj.after,Region.binds md e=true∧e.on=i)→L.getD j false=false
theorem wpAnyL_first {i:Nat} {oi:Oper} {v:Value} {T:World→Prop} (hi:ops[i]?=some oi) (hsel:∀ (j:Nat) (o:Oper) cs b,ops[j]?=some o→o.op≠.select cs b)
    (hQ:∀ c a w,Q (.panic c) (a.put oi.dst v) w→Q (.panic c) a w) (hST:∀ L w,Waits md ops i L→S L w→T w) (hSi:∀ L w,S (L.setIfInBounds i true) w→S L w) :
    ∀ (fuel:Nat) (listed:Array Bool) (a:Act) (w:World),
      (∀ j oj,ops[j]?=some oj→j≠i→listed.getD j true=false→(∀ e ∈ oj.after,Region.binds md e=true→e.on≠i)→oi.apart ops oj=true) →
      i ∈ Region.ready md ops listed→Waits md ops i listed→YieldsIf P ops T oi v a→S listed w →
      S (listed.setIfInBounds i true) w→wpAnyL P md ops Q S fuel (listed.setIfInBounds i true) (a.put oi.dst v) w→wpAnyL P md ops Q S (fuel+1) listed a w:=by
  intro fuel
  induction fuel with
  | zero =>
    intro listed a w _ hr hwt hy hS hS2 H
    refine ⟨fun h=>(by rw [h] at hr; cases hr),fun j hj=>?_⟩
    by_cases hji:j=i
    · subst hji; exact hy.wpOp hi (hST _ _ hwt hS) ⟨hS2,H⟩
    · have:=ready_mono hj hji
      rw [H.1] at this
      cases this
  | succ fuel ih =>
    intro listed a w hfree hr hwt hy hS hS2 H
    refine ⟨fun h=>(by rw [h] at hr; cases hr),fun j hj=>?_⟩
    by_cases hji:j=i
    · subst hji; exact hy.wpOp hi (hST _ _ hwt hS) ⟨hS2,H⟩
    · have h1:=H.2 j (ready_mono hj hji)
      obtain ⟨hjun,oj,hoj,hall⟩:=mem_ready.1 hj
      have hnot:∀ e ∈ oj.after,Region.binds md e=true→e.on≠i:=fun e he hb heq=>by
        have h1:=hall e he hb
        have h0:=(mem_ready.1 hr).1
        rw [heq] at h1
        rcases Nat.lt_or_ge i listed.size with h' | h'
        · simp [h'] at h0 h1; rw [h0] at h1; cases h1
        · simp [Array.getElem?_eq_none h'] at h1
      have h2:=wpOp_putIf hoj (hfree j oj hoj hji hjun hnot) (fun cs b=>hsel i oi cs b hi) (fun cs b=>hsel j oj cs b hoj) hQ hy h1
      have hfree':∀ k ok,ops[k]?=some ok→k≠i→(listed.setIfInBounds j true).getD k true=false →
          (∀ e ∈ ok.after,Region.binds md e=true→e.on≠i)→oi.apart ops ok=true:=fun k ok hk hki hun hno=>by
        refine hfree k ok hk hki ?_ hno
        by_cases hjk:j=k
        · subst hjk; exact hjun
        · rw [getD_set_ne true hjk] at hun; exact hun
      have hwt':Waits md ops i (listed.setIfInBounds j true):=by
        intro k ok hk hex
        by_cases hjk:j=k
        · subst hjk
          rw [hoj] at hk; injection hk with hk; subst hk
          obtain ⟨e,he,hb,heq⟩:=hex
          exact absurd heq (hnot e he hb)
        · rw [getD_set_ne false hjk]; exact hwt k ok hk hex
      refine wpOp_mono (fun a' w' h3=>?_) h2
      have hS3:S (listed.setIfInBounds j true) w':=hSi _ _ (by rw [Array.setIfInBounds_comm _ _ hji]; exact h3.2.1)
      refine ⟨hS3,ih (listed.setIfInBounds j true) a' w' hfree' (ready_mono hr (Ne.symm hji)) hwt' h3.1 hS3 ?_ ?_⟩
      · rw [Array.setIfInBounds_comm _ _ hji]; exact h3.2.1
      · rw [Array.setIfInBounds_comm _ _ hji]; exact h3.2.2
def waiters (md:Region.Mode) (ops:Array Oper) (i:Nat):List Nat:=(List.range ops.size).filter fun j=>((ops[j]?).map fun o=>o.after.any fun e=>Region.binds md e && e.on == i).getD false
theorem waits_iff {i:Nat} {L:Array Bool}:Waits md ops i L ↔ ∀ j ∈ waiters md ops i,L.getD j false=false:=by
  constructor
  · intro h j hj
    unfold waiters at hj
    rw [List.mem_filter] at hj
    cases ho:ops[j]? with
    | none=>rw [ho] at hj; simp at hj
    | some o =>
      rw [ho] at hj
      simp only [Option.map_some,Option.getD_some] at hj
      obtain ⟨e,he,hh⟩:=Array.any_eq_true'.1 hj.2
      simp only [Bool.and_eq_true,beq_iff_eq] at hh
      exact h j o ho ⟨e,he,hh.1,hh.2⟩
  · intro h j oj hj ⟨e,he,hb,heq⟩
    refine h j ?_
    unfold waiters
    rw [List.mem_filter]
    refine ⟨List.mem_range.2 (Array.getElem?_eq_some_iff.1 hj).1,?_⟩
    rw [hj]
    simp only [Option.map_some,Option.getD_some]
    exact Array.any_eq_true'.2 ⟨e,he,by simp [hb,heq]⟩
theorem wpAnyL_take {i:Nat} {oi:Oper} (v:Value) (T:World→Prop) {ws:List Nat} {fuel:Nat} {listed:Array Bool} {a:Act} {w:World} (hi:ops[i]?=some oi)
    (hs:Region.noSelect ops=true) (hf:Region.free md ops listed i=true) (hr:(Region.ready md ops listed).contains i=true)
    (hws:waiters md ops i=ws) (hw:(ws.all fun j=>!listed.getD j false)=true)
    (hQ:∀ c a w,Q (.panic c) (a.put oi.dst v) w→Q (.panic c) a w) (hST:∀ L w,(∀ j ∈ ws,L.getD j false=false)→S L w→T w) (hSi:∀ L w,S (L.setIfInBounds i true) w ↔ S L w) (hy:YieldsIf P ops T oi v a) (hS:S listed w)
    (h:wpAnyL P md ops Q S fuel (listed.setIfInBounds i true) (a.put oi.dst v) w):wpAnyL P md ops Q S (fuel+1) listed a w :=
  wpAnyL_first hi (Region.noSelect_spec hs) hQ (fun L w hL=>hST L w (by rw [← hws]; exact waits_iff.1 hL)) (fun L w=>(hSi L w).1) fuel listed a w (Region.free_spec hi hf) (by simpa using hr)
    (waits_iff.2 (by rw [hws]; intro j hj; have:=List.all_eq_true.1 hw j hj; simpa using this)) hy hS ((hSi _ _).2 hS) h
theorem wpAnyL_pure {i:Nat} {oi:Oper} (v:Value) {fuel:Nat} {listed:Array Bool} {a:Act} {w:World} (hi:ops[i]?=some oi)
    (hs:Region.noSelect ops=true) (hf:Region.free md ops listed i=true) (hr:(Region.ready md ops listed).contains i=true)
    (hw:((waiters md ops i).all fun j=>!listed.getD j false)=true)
    (hQ:∀ c a w,Q (.panic c) (a.put oi.dst v) w→Q (.panic c) a w) (hSi:∀ L w,S (L.setIfInBounds i true) w ↔ S L w) (hS:S listed w) (hwt:Region.wanted oi (yielded ops a.tmps)=true)
    (hy:∀ w,(execOp a.eval oi).run P w=.ok (.value v) w)
    (h:wpAnyL P md ops Q S fuel (listed.setIfInBounds i true) (a.put oi.dst v) w):wpAnyL P md ops Q S (fuel+1) listed a w :=
  wpAnyL_take v (fun _=>True) hi hs hf hr rfl hw hQ (fun _ _ _ _=>trivial) hSi (Or.inl ⟨hwt,fun w _=>hy w⟩) hS h
theorem wpAnyL_load {i:Nat} {oi:Oper} (v:Value) (T:World→Prop) (k:Nat) {fuel:Nat} {listed:Array Bool} {a:Act} {w:World} (hi:ops[i]?=some oi)
    (hs:Region.noSelect ops=true) (hf:Region.free md ops listed i=true) (hr:(Region.ready md ops listed).contains i=true)
    (hw:((waiters md ops i).all fun j=>!listed.getD j false)=true) (hk:(waiters md ops i).contains k=true)
    (hQ:∀ c a w,Q (.panic c) (a.put oi.dst v) w→Q (.panic c) a w) (hST:∀ L w,L.getD k false=false→S L w→T w) (hSi:∀ L w,S (L.setIfInBounds i true) w ↔ S L w) (hS:S listed w) (hwt:Region.wanted oi (yielded ops a.tmps)=true)
    (hy:∀ w,T w→(execOp a.eval oi).run P w=.ok (.value v) w)
    (h:wpAnyL P md ops Q S fuel (listed.setIfInBounds i true) (a.put oi.dst v) w):wpAnyL P md ops Q S (fuel+1) listed a w :=
  wpAnyL_take v T hi hs hf hr rfl hw hQ (fun L w hL hS=>hST L w (hL k (by simpa using hk)) hS) hSi (Or.inl ⟨hwt,hy⟩) hS h
theorem wpAnyL_one {i:Nat} {oi:Oper} {L':Array Bool} {fuel:Nat} {listed:Array Bool} {a:Act} {w:World} (hi:ops[i]?=some oi) (hL:listed.setIfInBounds i true=L')
    (h:∀ K:Act→World→Prop,(∀ a' w',S L' w'→wpAnyL P md ops Q S fuel L' a' w'→K a' w')→if Region.wanted oi (yielded ops a.tmps)=true then Oper.wp P oi a w K Q else K (a.put oi.dst undef) w) :
    wpOp P ops Q i (fun a' w'=>S (listed.setIfInBounds i true) w'∧wpAnyL P md ops Q S fuel (listed.setIfInBounds i true) a' w') a w:=by
  unfold wpOp
  rw [hi,hL]
  simp only
  have:=h (fun a' w'=>S L' w'∧wpAnyL P md ops Q S fuel L' a' w') (fun a' w' h1 h2=>⟨h1,h2⟩)
  split
  · rename_i hw; rw [if_pos hw] at this; exact .inl this
  · rename_i hw; rw [if_neg hw] at this; exact this
theorem wpAnyL_all {rs:List Nat} {fuel:Nat} {listed:Array Bool} {a:Act} {w:World} (hr:Region.ready md ops listed=rs) (hne:rs≠[])
    (h:∀ i ∈ rs,wpOp P ops Q i (fun a' w'=>S (listed.setIfInBounds i true) w'∧wpAnyL P md ops Q S fuel (listed.setIfInBounds i true) a' w') a w):wpAnyL P md ops Q S (fuel+1) listed a w :=
  ⟨fun h0=>absurd (hr ▸ h0) hne,hr ▸ h⟩
theorem wpAnyL_done {listed:Array Bool} {a:Act} {w:World} (hr:Region.ready md ops listed=[]) (h:Q .normal a w):∀ fuel,wpAnyL P md ops Q S fuel listed a w
  | 0=>⟨hr,h⟩
  | _+1=>⟨fun _=>h,by rw [hr]; simp⟩
theorem wp_region_L {id:Nat} {a:Act} {w:World} (S:Array Bool→World→Prop) (hm:P.follows .mixedOrders=true)
    (h:wpAnyL P .any ops Q S ops.size (Array.replicate ops.size false) a w.drew):(Code.region id ops true).wp P Q a w :=
  wp_region_any hm (wpAny_of_L _ _ _ _ h)
end
end Go.Proofs.YtaojmbkmicjecaaGreat
namespace Go.Proofs.YtaojmbkmicjecaaGreat
open Go.RowKit
set_option linter.unusedVariables false
def wdR (x:Int):Bool:=decide (-9223372036854775808≤x) && decide (x≤9223372036854775807)
def keyR (x:Int):Bool:=decide (0≤x) && decide (x<4096)
theorem wdR_spec {x:Int} (h:wdR x=true):Wd x:=by simp [wdR] at h; unfold Wd; omega
theorem keyR_spec {x:Int} (h:keyR x=true):0≤x∧x<4096:=by simpa [keyR] using h
section
variable {ops:Array Oper} {rest:List Oper} {o:Oper} {n:Nat} {a:Act} {l l':Asc} {Q:Exit→Act→World→Prop} {w0:World} {F0:List Nat} {ps:List Piece} {w:World} {mb:Nat} {f:Int→Int}
theorem ev_colGet (d k:Nat) (m x:Operand) (y:Int) (hF:Fr n a l) (hS:St w0 F0 ps w) (hk:ps[k]?=some (ColP mb f)) (hg:o.guard=none) (hd:o.dst=some d) (hn:Nat.blt d n=true) (hop:o.op=Op.lookup 73 m x false)
    (hm1:hasO l m=true) (hx1:hasO l x=true) (hm:lk l m=.map (some mb)) (hx:lk l x=.int .i64 y) (hy:wdR y=true)
    (hK:∀ a',Fr n a' ((d,.int .i64 (f y))::del d l)→wpList Tryz.prog ops Q rest a' w):wpList Tryz.prog ops Q (o::rest) a w:=by
  refine wpList_colGet hg m x hop hS k hk ((hF.eval hm1).trans hm) y (wdR_spec hy) ((hF.eval hx1).trans hx) ?_
  rw [hd]
  exact hK _ (hF.put (Nat.le_of_ble_eq_true hn) _)
theorem ev_colSet (m x v:Operand) (y z:Int) (hF:Fr n a l) (hS:St w0 F0 (ColP mb f::ps) w) (hg:o.guard=none) (hop:o.op=Op.mapUpdate 73 m x v)
    (hm1:hasO l m=true) (hx1:hasO l x=true) (hv1:hasO l v=true) (hm:lk l m=.map (some mb)) (hx:lk l x=.int .i64 y) (hv:lk l v=.int .i64 z) (hy:keyR y=true) (hz:wdR z=true) (hp:putO n o undef l=some l')
    (hK:∀ w' a',St w0 F0 (ColP mb (updM f y z)::ps) w'→Fr n a' l'→wpList Tryz.prog ops Q rest a' w'):wpList Tryz.prog ops Q (o::rest) a w :=
  wpList_colSet hg m x v hop hS ((hF.eval hm1).trans hm) y z (keyR_spec hy).1 (keyR_spec hy).2 (wdR_spec hz) ((hF.eval hx1).trans hx) ((hF.eval hv1).trans hv) fun w' hS'=>hK w' _ hS' (putO_fr hF hp)
theorem op_push {S:World→Prop} {listed:Array Bool} {fuel:Nat} (T:TypeId) (hT:Tryz.prog.underlying T=some (.slice 3)) (i:Nat) (ls:Array Bool) {v:Value} {L L2:List Int} {y:Int} {g0 c0:Nat} (d:Nat) (s x:Operand)
    (hF:Fr n a l) (hi:ops[i]?=some o) (hd:o.dst=some d) (hn:Nat.blt d n=true) (hgd:o.guard=none) (ho:o.op=.call { callee:=.builtin .append,args:=#[s,x],argTypes:=#[T,T] })
    (hs1:hasO l s=true) (hx1:hasO l x=true) (hs:lk l s=v) (hx:lk l x=.slice (some ⟨g0,0,none⟩) 1 c0)
    (h:St w0 F0 (RowP v L::RowP (.slice (some ⟨g0,0,none⟩) 1 c0) [y]::ps) w) (hm:pushM L y=some L2) (hl:listed.setIfInBounds i true=ls)
    (hK:∀ g c w' a',St w0 F0 (RowP (.slice (some ⟨g,0,none⟩) L2.length c) L2::RowP (.slice (some ⟨g0,0,none⟩) 1 c0) [y]::ps) w'→Fr n a' ((d,.slice (some ⟨g,0,none⟩) L2.length c)::del d l)→S w'∧wpAnyH Tryz.prog .any ops Q S fuel ls a' w') :
    wpOp Tryz.prog ops Q i (fun a' w'=>S w'∧wpAnyH Tryz.prog .any ops Q S fuel (listed.setIfInBounds i true) a' w') a w:=by
  subst hl
  unfold pushM at hm
  split at hm
  · rename_i hlen
    injection hm with hm
    subst hm
    obtain ⟨i0,hi0,hz0,hz1,hz2⟩:=info_parts info_iV
    have key:=step_append_at (P:=Tryz.prog) (ops:=ops) (o:=o) (a:=a) (w:=w) (K:=fun a' w'=>S w'∧wpAnyH Tryz.prog .any ops Q S fuel (listed.setIfInBounds i true) a' w') (Q:=Q) (E:=False) hgd s x T ho 0 3 i0 (.int .i64 0) 1 8 hT hi0 hz0 hz1 hz2 rfl (by decide) v L.length (iV L) ((hF.eval hs1).trans hs) (h.row 0 rfl) ⟨g0,0,none⟩ 1 c0 [.int .i64 y] ((hF.eval hx1).trans hx) rfl ?_ ?_ (by unfold maxLen; omega) (by omega) (Nat.zero_le _) ?_
    · unfold wpOp
      rw [hi]
      simp only
      have hw:Region.wanted o (yielded ops a.tmps)=true:=by simp [Region.wanted,hgd]
      rw [if_pos hw] at key ⊢
      left
      exact key
    · intro j u hj
      cases j with
      | zero=>simp at hj; subst hj; exact h.atI 1 rfl (i:=0) rfl
      | succ j=>simp at hj
    · intro u hu; simp at hu; subst hu; rfl
    · intro v' w' ho' hg' hn' hat'
      have h':=h.grow' ho' hg' hat'
      obtain ⟨_,p,c,rfl,hp⟩:=h'.shape 0 rfl
      obtain ⟨g,rfl⟩:=hp.resolve_left (by simp)
      rw [hd]
      exact hK g c w' _ h' (hF.put (Nat.le_of_ble_eq_true hn) _)
  · cases hm
end
end Go.Proofs.YtaojmbkmicjecaaGreat
namespace Go.Proofs.YtaojmbkmicjecaaGreat
open Go.RowKit
set_option linter.unusedVariables false
set_option linter.unusedSimpArgs false
theorem run_idxO {P:Program} {ρ:Operand→Value} {o:Oper} {t e:TypeId} {x i:Operand} {g off m c:Nat} {z:Int} {k:IntKind} (ho:o.op=.indexAddr t x i) (hu:P.underlying t=some (.slice e)) (hs:(P.info? e).map (·.size)=some 1)
    (hx:ρ x=.slice (some ⟨g,off,none⟩) m c) (hi:ρ i=.int k z) (h0:0≤z) (h1:z<m) (w:World):(execOp ρ o).run P w=.ok (.value (.pointer (some ⟨g,off+z.toNat,none⟩))) w:=by
  have ha:(⟨g,off,none⟩:Addr).add (z.toNat * 1)=⟨g,off+z.toNat,none⟩:=by unfold Addr.add; split <;> simp_all
  unfold execOp
  rw [ho]
  simp only [hx,hi]
  apply run_v
  cases hinf:P.info? e with
  | none=>rw [hinf] at hs; simp at hs
  | some inf =>
    rw [hinf] at hs
    simp only [Option.map_some,Option.some.injEq] at hs
    simp only [Instr.indexAt,asIntOf,underlying,program,sizeOf,typeInfo,Sem.run_bind,Sem.run_pure,Sem.run,Result.andThen,hu,hinf,bind,pure,Sem.bind,h0,h1,and_self,if_true,hs,ha]
def ArgBools (w:World) (v:Value) (xs:List Bool):Prop :=
  xs.length≤maxLen∧∃ (p:Option Addr) (cap:Nat),v=.slice p xs.length cap ∧
    (xs.length=0 ∨ ∃ b o,p=some ⟨b,o,none⟩∧b<w.heap.size∧∀ i (h:i<xs.length),w.cell? ⟨b,o+i,none⟩=some (.bool (xs[i]'h)))
theorem argKB {w0:World} {p:Option Addr} {c:Nat} {L:List Bool} (h:ArgBools w0 (.slice p L.length c) L) {i:Int} (hi:inR i L.length=true):∃ b o,p=some ⟨b,o,none⟩:=by
  obtain ⟨h0,h1⟩:=inR_spec hi
  obtain ⟨_,p',c',e,h3⟩:=h
  injection e with e1 e2 e3
  subst e1
  rcases h3 with h3 | ⟨b,o,rfl,_⟩
  · omega
  · exact ⟨b,o,rfl⟩
theorem argAtB {w0 w:World} {ps:List Piece} {b o c:Nat} {L:List Bool} (h:ArgBools w0 (.slice (some ⟨b,o,none⟩) L.length c) L) (hS:St w0 [] ps w) {i:Int} (hi:inR i L.length=true):w.cell? ⟨b,o+i.toNat,none⟩=some (.bool (atB L i)):=by
  obtain ⟨h0,h1⟩:=inR_spec hi
  obtain ⟨_,p',c',e,h3⟩:=h
  injection e with e1 e2 e3
  subst e1
  rcases h3 with h3 | ⟨b',o',e,hb,hc⟩
  · omega
  · injection e with e
    injection e with e1 e2 e3
    subst e1; subst e2
    rw [hS.old.cell (p:=⟨b,o+i.toNat,none⟩) hb,hc i.toNat (by omega)]
    unfold Go.Proofs.YtaojmbkmicjecaaGreat.atB
    rw [List.getD_eq_getElem?_getD,List.getElem?_eq_getElem (by omega)]; rfl
theorem bools_open {H:Type} {enc:TypeId×Value→H} {P:Program} {w:World} {base:Nat} {t e:TypeId} {fuel:Nat} {a:Option Addr} {len cap:Nat} {x:DataW H×List MemPlace}
    (ht:P.underlying t=some (.slice e)) (he:P.underlying e=some .bool) (hC:P.cellsOf e=1)
    (h:DataW.trod enc P w base (fun _=>true) true fuel t (Value.slice a len cap).cells.toList=some x):∃ z:List Bool,ArgBools w (.slice a len cap) z:=by
  have hcs:(Value.slice a len cap).cells.toList=[.slice a len cap]:=by simp [Value.cells]
  rw [hcs] at h
  rcases Go.Deep.open_bools ht he hC h with ⟨h0,_⟩ | ⟨a',len',cap',B,hv,hb,hl,hm,hx,hi⟩
  · simp at h0
    obtain ⟨rfl,rfl,rfl⟩:=h0
    exact ⟨[],by simp,none,0,rfl,.inl rfl⟩
  · simp at hv
    obtain ⟨rfl,rfl,rfl⟩:=hv
    refine ⟨(List.range len).map B,by simp; omega,some a',cap,by simp,?_⟩
    by_cases h0:len=0
    · left; simpa using h0
    · right
      have h1:=hi 0 (by omega)
      obtain ⟨b,o,s⟩:=a'
      have hs:s=none:=by simpa [Addr.add] using World.cell?_spot h1
      subst hs
      have hadd:∀ k,(⟨b,o,none⟩:Addr).add k=⟨b,o+k,none⟩:=fun k=>Go.WideShapes.add_plain b o k
      refine ⟨b,o,rfl,?_,fun i hi'=>?_⟩
      · have:=cell_lt h1
        rw [hadd] at this
        exact this
      · simp at hi'
        have:=hi i (by omega)
        rw [hadd] at this
        rw [this]; simp
end Go.Proofs.YtaojmbkmicjecaaGreat
