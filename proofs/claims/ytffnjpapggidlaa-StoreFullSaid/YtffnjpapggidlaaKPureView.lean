/- PureView -/
import Derived.Test.YtffnjpapggidlaaKPureArena
import Derived.Test.YtffnjpapggidlaaKPure10
namespace Go.Proofs.Ytffnjpapggidlaa
open Go.RowKit
set_option linter.unusedVariables false
def vI (a:Int):Int:=wrap64 (2 * a)
def vP (a:Int):Int:=if a<0 then 0 else wrap64 (wrap64 (2 * a)+1)
theorem vI_wd (a:Int):Wd (vI a):=by unfold vI Wd wrap64; omega
theorem vP_wd (a:Int):Wd (vP a):=by
  unfold vP; split
  · unfold Wd; omega
  · unfold Wd; generalize wrap64 (2 * a)+1=x; unfold wrap64; omega
def Is (s:ASt) (p kind:Int) (n:Nat):Prop:=aKind s.c p=kind∧aLen s.c p=n
instance (s:ASt) (p kind:Int) (n:Nat):Decidable (Is s p kind n):=by unfold Is; exact inferInstance
theorem Is.len {s:ASt} {p kind:Int} {n:Nat} (h:Is s p kind n):(aWords s p).length=n:=by rw [aWords_len,h.2]; simp
def hPutTo (p:Int) (old l:List Int):Nat→HSt→HSt
  | 0,h=>h
  | k+1,h=>if l.getD k 0=old.getD k 0 then hPutTo p old l k h else hStore p k (l.getD k 0) (hPutTo p old l k h)
def hPut (p kind:Int) (n:Nat) (l:List Int) (h:HSt):HSt:=if Is h.a p kind n then hPutTo p (aWords h.a p) l n h else h
theorem store_a (p i w:Int) (h:HSt):(hStore p i w h).a=aStoreS p i w h.a:=by
  unfold hStore; split
  · rw [shadeW_a]
  · rename_i he; rw [store_no he]
theorem head_hStore {h:HSt} (k:HOk h) (p i w q:Int):aHead (hStore p i w h).a.c q=aHead h.a.c q:=by rw [store_a,head_store k.a]
theorem HOk.putTo {h:HSt} (k:HOk h) (p:Int) (old:List Int) {l:List Int} (hl:∀ x ∈ l,Wd x) (n:Nat):HOk (hPutTo p old l n h)∧∀ q,aHead (hPutTo p old l n h).a.c q=aHead h.a.c q:=by
  induction n with
  | zero=>exact ⟨k,fun _=>rfl⟩
  | succ n ih =>
    unfold hPutTo
    split
    · exact ih
    · have hw:Wd (l.getD n 0):=by
        rcases Nat.lt_or_ge n l.length with h1 | h1
        · rw [List.getD_eq_getElem?_getD,List.getElem?_eq_getElem h1]; exact hl _ (List.getElem_mem h1)
        · rw [List.getD_eq_getElem?_getD,List.getElem?_eq_none h1]; unfold Wd; simp
      exact ⟨ih.1.store p n hw,fun q=>by rw [head_hStore ih.1,ih.2]⟩
theorem HOk.put {h:HSt} (k:HOk h) (p kind:Int) (n:Nat) {l:List Int} (hl:∀ x ∈ l,Wd x):HOk (hPut p kind n l h)∧∀ q,aHead (hPut p kind n l h).a.c q=aHead h.a.c q:=by
  unfold hPut; split
  · exact k.putTo p _ hl n
  · exact ⟨k,fun _=>rfl⟩
theorem err_of_head {s s':ASt} {p:Int} (h:aHead s'.c p=aHead s.c p) (i:Int):aErr p i s'=aErr p i s:=by unfold aErr; rw [h]
theorem kind_of_head {s s':ASt} {p:Int} (h:aHead s'.c p=aHead s.c p):aKind s'.c p=aKind s.c p:=by unfold aKind; rw [h]
theorem len_of_head {s s':ASt} {p:Int} (h:aHead s'.c p=aHead s.c p):aLen s'.c p=aLen s.c p:=by unfold aLen; rw [h]
theorem obj_of_head {s s':ASt} {p:Int} (h:aHead s'.c p=aHead s.c p):isObj s' p=isObj s p:=by unfold isObj; rw [h]
theorem Is.err {s:ASt} {p kind:Int} {n:Nat} (h:Is s p kind n) {i:Nat} (hi:i<n):aErr p i s=0:=by
  have h2:=h.2
  unfold aLen at h2
  unfold aErr
  cases e:aHead s.c p with
  | none=>rw [e] at h2; simp at h2; omega
  | some x=>rw [e] at h2; simp only at h2 ⊢; rw [if_pos (by omega)]
structure Ch where
  cap:Int
  closed:Int
  count:Int
  start:Int
  buf:Int
  th:Int
  tt:Int
  sh:Int
  st:Int
deriving DecidableEq
structure Su where
  gor:Int
  chan:Int
  value:Int
  next:Int
  to:Int
  reg:Int
  more:Int
deriving DecidableEq
structure Gr where
  id:Int
  status:Int
  pc:Int
  a:Int
  b:Int
  c:Int
  d:Int
  e:Int
  f:Int
  sudogs:Int
deriving DecidableEq
def chW (c:Ch):List Int:=[vI c.cap,vI c.closed,vI c.count,vI c.start,vP c.buf,vP c.th,vP c.tt,vP c.sh,vP c.st]
def suW (s:Su):List Int:=[vP s.gor,vP s.chan,s.value,vP s.next,vI s.to,vI s.reg,vP s.more]
def goW (g:Gr):List Int:=[vI g.id,vI g.status,vI g.pc,g.a,g.b,g.c,g.d,g.e,g.f,vP g.sudogs]
def at0 (l:List Int) (i:Nat):Int:=l.getD i 0
def chOf (l:List Int):Ch:=⟨vNum (at0 l 0),vNum (at0 l 1),vNum (at0 l 2),vNum (at0 l 3),vAt (at0 l 4),vAt (at0 l 5),vAt (at0 l 6),vAt (at0 l 7),vAt (at0 l 8)⟩
def suOf (l:List Int):Su:=⟨vAt (at0 l 0),vAt (at0 l 1),at0 l 2,vAt (at0 l 3),vNum (at0 l 4),vNum (at0 l 5),vAt (at0 l 6)⟩
def goOf (l:List Int):Gr:=⟨vNum (at0 l 0),vNum (at0 l 1),vNum (at0 l 2),at0 l 3,at0 l 4,at0 l 5,at0 l 6,at0 l 7,at0 l 8,vAt (at0 l 9)⟩
def ch0:Ch:=⟨0,0,0,0,0,0,0,0,0⟩
def su0:Su:=⟨0,0,0,0,0,0,0⟩
def go0:Gr:=⟨0,0,0,0,0,0,0,0,0,0⟩
theorem chW_wd (c:Ch):∀ x ∈ chW c,Wd x:=by
  intro x hx
  simp only [chW,List.mem_cons,List.not_mem_nil,or_false] at hx
  rcases hx with rfl | rfl | rfl | rfl | rfl | rfl | rfl | rfl | rfl <;> first | exact vI_wd _ | exact vP_wd _
theorem suW_wd (s:Su) (h:Wd s.value):∀ x ∈ suW s,Wd x:=by
  intro x hx
  simp only [suW,List.mem_cons,List.not_mem_nil,or_false] at hx
  rcases hx with rfl | rfl | rfl | rfl | rfl | rfl | rfl <;> first | exact h | exact vI_wd _ | exact vP_wd _
def GoWd (g:Gr):Prop:=Wd g.a∧Wd g.b∧Wd g.c∧Wd g.d∧Wd g.e∧Wd g.f
theorem goW_wd (g:Gr) (h:GoWd g):∀ x ∈ goW g,Wd x:=by
  obtain ⟨h1,h2,h3,h4,h5,h6⟩:=h
  intro x hx
  simp only [goW,List.mem_cons,List.not_mem_nil,or_false] at hx
  rcases hx with rfl | rfl | rfl | rfl | rfl | rfl | rfl | rfl | rfl | rfl <;> first | assumption | exact vI_wd _ | exact vP_wd _
theorem nine {L:List Int} (h:L.length=9):∃ a b c d e f g i j,L=[a,b,c,d,e,f,g,i,j]:=by
  match L,h with
  | [a,b,c,d,e,f,g,i,j],_=>exact ⟨a,b,c,d,e,f,g,i,j,rfl⟩
theorem seven {L:List Int} (h:L.length=7):∃ a b c d e f g,L=[a,b,c,d,e,f,g]:=by
  match L,h with
  | [a,b,c,d,e,f,g],_=>exact ⟨a,b,c,d,e,f,g,rfl⟩
theorem ten {L:List Int} (h:L.length=10):∃ a b c d e f g i j k,L=[a,b,c,d,e,f,g,i,j,k]:=by
  match L,h with
  | [a,b,c,d,e,f,g,i,j,k],_=>exact ⟨a,b,c,d,e,f,g,i,j,k,rfl⟩
end Go.Proofs.Ytffnjpapggidlaa
