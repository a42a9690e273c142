/- SepMap -/
import Derived.Test.YtffnjpapggidlaaKMem
import Derived.Test.YtffnjpapggidlaaKPlain
import Derived.Maps.OwnOps
import Derived.Maps.OwnSet
import Derived.Maps.Ext
namespace Go.Proofs.Ytffnjpapggidlaa
open Go.RowKit Go.Maps
set_option linter.unusedVariables false
theorem law_int:Keyed Try.prog 3:=int_keyed Try.underlying3
theorem zero_int (w:World):(zeroValue 3).run Try.prog w=.ok (.int .i64 0) w:=by kernel_rfl
theorem wf_wd {a:Int} (h:Wd a):(Lit.int .i64 a).wf=true:=by
  unfold Wd at h; exact WalkArith.wf_i64 (by omega)
def updM (f:Int→Int) (p v:Int):Int→Int:=fun x=>if x=p then v else f x
theorem nodup_le:∀ (N:Nat) (l:List Int),l.Nodup→(∀ x ∈ l,0≤x∧x<N)→l.length≤N
  | 0,l,_,h=>by
    cases l with
    | nil=>simp
    | cons a l=>have:=h a (by simp); omega
  | N+1,l,hn,h=>by
    have ih:=nodup_le N (l.erase (N:Int)) (hn.erase _) (fun x hx=>by
      obtain ⟨hne,hx⟩:=hn.mem_erase_iff.1 hx
      have:=h x hx
      omega)
    rw [List.length_erase] at ih
    split at ih <;> omega
structure ReadsAs (D:DataW Unit) (f:Int→Int):Prop where
  keys:∀ k,Maps.has D k=true→∃ x:Int,k=.int .i64 x∧0≤x∧x<4096
  at':∀ x:Int,D.atKey (.int .i64 x) (.lit (.int .i64 0))=.lit (.int .i64 (f x))
theorem ReadsAs.size {D:DataW Unit} {f:Int→Int} (h:ReadsAs D f) (hc:Canon D):Maps.size D≤4096:=by
  obtain ⟨es,rfl,hp,hk⟩:=hc
  have hap:=apart_of_rising hp
  have key:∀ p ∈ es,∃ x:Int,p.1=.int .i64 x∧0≤x∧x<4096:=fun p hp'=>h.keys p.1 (List.any_eq_true.2 ⟨p,hp',WideAt.sameKey_self (hk p hp')⟩)
  let n:Lit×DataW Unit→Int:=fun p=>match p.1 with | .int _ x=>x | _=>0
  have hn:∀ p ∈ es,p.1=.int .i64 (n p)∧0≤n p∧n p<4096:=by
    intro p hp'
    obtain ⟨x,e,h0,h1⟩:=key p hp'
    have:n p=x:=by show (match p.1 with | .int _ x=>x | _=>0)=x; rw [e]
    rw [this]; exact ⟨e,h0,h1⟩
  have hnd:(es.map n).Nodup:=by
    rw [List.nodup_iff_pairwise_ne,List.pairwise_map]
    refine hap.imp_of_mem ?_
    intro a b ha hb hne e
    exact hne (by rw [(hn a ha).1,(hn b hb).1,e])
  have:=nodup_le 4096 (es.map n) hnd (by
    intro x hx
    obtain ⟨p,hp',rfl⟩:=List.mem_map.1 hx
    exact (hn p hp').2)
  show es.length≤4096
  simpa using this
theorem ReadsAs.empty:ReadsAs (.map []) (fun _=>0):=⟨(by intro k h; cases h),(by intro x; rfl)⟩
theorem ReadsAs.put {D:DataW Unit} {f:Int→Int} (h:ReadsAs D f) (hD:IsMap D) {y z:Int} (h0:0≤y) (h1:y<4096):ReadsAs (D.put (.int .i64 y) (.lit (.int .i64 z))) (updM f y z):=by
  constructor
  · intro k hk
    by_cases e:k=.int .i64 y
    · exact ⟨y,e,h0,h1⟩
    · rw [has_put_other e] at hk; exact h.keys k hk
  · intro x
    unfold updM
    by_cases e:x=y
    · subst e; rw [if_pos rfl]; exact atKey_put_same hD (show WideAt.IsKeyLit (.int .i64 x) from trivial) _ _
    · rw [if_neg e,atKey_put_other (by intro e2; injection e2 with _ e2; exact e e2)]; exact h.at' x
theorem ReadsAs.del {D:DataW Unit} {f:Int→Int} (h:ReadsAs D f) {y:Int}:ReadsAs (D.del (.int .i64 y)) (updM f y 0):=by
  constructor
  · intro k hk
    by_cases e:k=.int .i64 y
    · subst e; rw [has_del_same] at hk; cases hk
    · rw [has_del_other e] at hk; exact h.keys k hk
  · intro x
    unfold updM
    by_cases e:x=y
    · subst e; rw [if_pos rfl]; exact atKey_del_same _
    · rw [if_neg e,atKey_del_other (by intro e2; injection e2 with _ e2; exact e e2)]; exact h.at' x
def ColAt (w:World) (m:Nat) (f:Int→Int):Prop:=∃ D:DataW Unit,w.ownsMap Try.prog 3 (plainElem Try.prog 3) m 4096 D∧ReadsAs D f
theorem ColAt.of {w:World} {m n:Nat} {f:Int→Int} {D:DataW Unit} (h:w.ownsMap Try.prog 3 (plainElem Try.prog 3) m n D) (hr:ReadsAs D f):ColAt w m f:=by
  have hs:=hr.size (h.canon law_int)
  obtain ⟨es,clock,hb,F,hn,rfl⟩:=h
  exact ⟨_,⟨es,clock,hb,F,by simpa [Maps.size,length_sorted] using hs,rfl⟩,hr⟩
def ColP (m:Nat) (f:Int→Int):Piece where
  at' w F:=ColAt w m f∧F=[m]
  keep:=by
    rintro w w' F G ⟨⟨D,⟨es,clock,hb,r⟩,hr⟩,rfl⟩ k hd
    exact ⟨⟨D,⟨es,clock,(k.block m (Array.getElem?_eq_some_iff.1 hb).1 (hd _ (by simp))).trans hb,r⟩,hr⟩,rfl⟩
  lt:=by rintro w F ⟨⟨D,h,_⟩,rfl⟩ i hi; simp at hi; subst hi; exact h.lt
theorem St.newMap {w0:World} {F0:List Nat} {ps:List Piece} {wr:World} (h:St w0 F0 ps wr):St w0 F0 (ColP wr.heap.size (fun _=>0)::ps) (wr.alloc (.map #[] 0)) :=
  h.push ((Below.refl _ _).alloc (Nat.le_refl _) _) ⟨_,⟨ColAt.of (World.ownsMap_made _ _ _ _) ReadsAs.empty,rfl⟩,by simp⟩
section
variable {w:World} {ops:Array Oper} {rest:List Oper} {o:Oper} {a:Act} {Q:Exit→Act→World→Prop} {w0:World} {F0:List Nat} {ps:List Piece} {mb:Nat} {f:Int→Int}
theorem wpList_colGet (hg:o.guard=none) (m x:Operand) (hop:o.op=Op.lookup 122 m x false) (h:St w0 F0 ps w) (k:Nat) (hk:ps[k]?=some (ColP mb f))
    (hm:a.eval m=.map (some mb)) (y:Int) (hy:Wd y) (hx:a.eval x=.int .i64 y) (hK:wpList Try.prog ops Q rest (a.put o.dst (.int .i64 (f y))) w) :
    wpList Try.prog ops Q (o::rest) a w:=by
  obtain ⟨G,⟨D,hown,hr⟩,rfl⟩:=h.get k hk
  refine wpList_lookup_own_int w hg m x 122 hop 3 3 .i64 law_int Try.underlying122 Try.underlying3 (zero_int w) mb 4096 D hm hown (.int .i64 y) (.int .i64 y) hx (keyOf_int_mk Try.underlying3 (wf_wd hy)) ?_
  intro c hat _
  rw [hr.at'] at hat
  injection hat with hat
  injection hat with _ hat
  subst hat
  exact hK
theorem wpList_colSet (hg:o.guard=none) (m x v:Operand) (hop:o.op=Op.mapUpdate 122 m x v) (h:St w0 F0 (ColP mb f::ps) w)
    (hm:a.eval m=.map (some mb)) (y z:Int) (h0:0≤y) (h1:y<4096) (hz:Wd z) (hx:a.eval x=.int .i64 y) (hv:a.eval v=.int .i64 z)
    (hK:∀ w',St w0 F0 (ColP mb (updM f y z)::ps) w'→wpList Try.prog ops Q rest (a.put o.dst undef) w') :
    wpList Try.prog ops Q (o::rest) a w:=by
  obtain ⟨G,⟨D,hown,hr⟩,rfl⟩:=h.head
  refine wpList_mapUpdate_own w hg m x v 122 hop 3 3 law_int Try.underlying122 _ mb 4096 D hm hown (by unfold maxLen; omega) (.int .i64 y) (.int .i64 z) (.int .i64 y) hx hv (keyOf_int_mk Try.underlying3 (wf_wd (by unfold Wd; omega))) _ [] (plainElem_int Try.underlying3 (wf_wd hz)) ?_
  intro w' hown' hgrow
  refine hK w' (h.step1 ?_)
  rintro F ⟨_,rfl⟩
  exact ⟨[mb],⟨ColAt.of hown' (hr.put hown.isMap h0 h1),rfl⟩,(Keeps.refl _ _).grown hgrow (by simp),by simp⟩
theorem wpList_colDel (hg:o.guard=none) (m x:Operand) (hop:o.op=Op.call { callee:=Callee.builtin Builtin.delete,args:=#[m,x],argTypes:=#[122,3] }) (h:St w0 F0 (ColP mb f::ps) w)
    (hm:a.eval m=.map (some mb)) (y:Int) (hy:Wd y) (hx:a.eval x=.int .i64 y)
    (hK:∀ w',St w0 F0 (ColP mb (updM f y 0)::ps) w'→wpList Try.prog ops Q rest (a.put o.dst (.tuple #[])) w') :
    wpList Try.prog ops Q (o::rest) a w:=by
  obtain ⟨G,⟨D,hown,hr⟩,rfl⟩:=h.head
  refine wpList_delete_own w hg m x 122 3 hop 3 law_int Try.underlying122 _ mb 4096 D hm hown (.int .i64 y) (.int .i64 y) hx (keyOf_int_mk Try.underlying3 (wf_wd hy)) ?_
  intro w' hown' hturn
  refine hK w' (h.step1 ?_)
  rintro F ⟨_,rfl⟩
  exact ⟨[mb],⟨ColAt.of hown' hr.del,rfl⟩,(Keeps.refl _ _).grown hturn.grown (by simp),by simp⟩
end
end Go.Proofs.Ytffnjpapggidlaa
