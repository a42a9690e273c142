/- Prim PureView -/
import Derived.Test.YtaojmbkmicjecaaGreatKEv2
import Derived.Test.YtaojmbkmicjecaaGreatKSepHeap
import Derived.Test.YtaojmbkmicjecaaGreatKSepLit
import Derived.Test.YtaojmbkmicjecaaGreatKPureArena
namespace Go.Proofs.YtaojmbkmicjecaaGreat
open Go.RowKit
set_option linter.unusedVariables false
def aAllocP (kind n:Int) (s:ASt):Int:=if aBad kind n then 0 else match aAlloc kind n s with | some (p,_)=>p | none=>0
def aAllocE (kind n:Int) (s:ASt):Int:=if aBad kind n then 1 else match aAlloc kind n s with | some _=>0 | none=>9
theorem aAllocV_eq (kind n:Int) (s:ASt):aAllocV kind n s=.tuple #[.int .i64 (aAllocP kind n s),.int .i64 (aAllocE kind n s)]:=by
  unfold aAllocV aAllocP aAllocE
  split
  · rfl
  · split
    · rename_i h; simp only [h]
    · rename_i h; simp only [h]
def wdB (x:Int):Bool:=decide (-9223372036854775808≤x) && decide (x≤9223372036854775807)
theorem wdB_spec {x:Int} (h:wdB x=true):Wd x:=by
  unfold wdB at h; simp at h; unfold Wd; omega
def pNew (n:Int):Option HSt:=if 2≤n∧n≤128 then some (hNew n.toNat) else none
def pAlloc (kind n:Int) (s:HSt):Option (Int×Int×HSt):=some (aAllocP kind n s.a,aAllocE kind n s.a,hAlloc kind n s)
def pStore (p i x:Int) (s:HSt):Option (Int×HSt):=if wdB x then some (aErr p i s.a,hStore p i x s) else none
def pShade (p:Int) (s:HSt):Option HSt:=if wdB p then some (hShade p s) else none
def pLoad (p i:Int) (s:HSt):Option (Int×Int):=some (aWord p i s.a,aErr p i s.a)
section
variable {w0 w:World} {F0:List Nat} {ps:List Piece} {b ab:Nat} {s s':HSt}
theorem p_New {n:Int} (hs:St w0 F0 ps w) (hx:pNew n=some s) :
    Calls Tryz.prog 58 #[.int .i64 n] w fun e w'=>∃ b ab,e=.returned (.tuple #[.pointer (some ⟨b,0,none⟩),.int .i64 0])∧St w0 F0 (HeapP b ab s::ps) w':=by
  unfold pNew at hx
  split at hx
  · rename_i h
    injection hx with hx
    subst hx
    obtain ⟨m,rfl⟩:∃ m:Nat,n=m:=⟨n.toNat,by omega⟩
    exact h_New (by omega) (by omega) hs
  · cases hx
theorem p_Arena (hs:St w0 F0 (HeapP b ab s::ps) w) :
    Calls Tryz.prog 60 #[.pointer (some ⟨b,0,none⟩)] w fun e w'=>e=.returned (.pointer (some ⟨ab,0,none⟩))∧St w0 F0 (HeapP b ab s::ps) w' :=
  (h_Arena hs).mono fun e w' ⟨he,hw⟩=>⟨he,hw ▸ hs⟩
theorem p_Alloc {kind n x e0:Int} (hs:St w0 F0 (HeapP b ab s::ps) w) (hx:pAlloc kind n s=some (x,e0,s')) :
    Calls Tryz.prog 89 #[.pointer (some ⟨b,0,none⟩),.int .i64 kind,.int .i64 n] w fun e w'=>e=.returned (.tuple #[.int .i64 x,.int .i64 e0])∧St w0 F0 (HeapP b ab s'::ps) w':=by
  unfold pAlloc at hx
  simp only [Option.some.injEq,Prod.mk.injEq] at hx
  obtain ⟨rfl,rfl,rfl⟩:=hx
  rw [← aAllocV_eq]
  exact h_Alloc hs kind n
theorem p_Shade {p:Int} (hs:St w0 F0 (HeapP b ab s::ps) w) (hx:pShade p s=some s') :
    Calls Tryz.prog 88 #[.pointer (some ⟨b,0,none⟩),.int .i64 p] w fun e w'=>e=.returned (.tuple #[])∧St w0 F0 (HeapP b ab s'::ps) w':=by
  unfold pShade at hx
  split at hx
  · rename_i hw
    injection hx with hx
    subst hx
    exact h_Shade hs p (wdB_spec hw)
  · cases hx
end
def pAt (a:Int):Option Int:=if wdB a then some (vAt a) else none
def pNum (a:Int):Option Int:=if wdB a then some (vNum a) else none
section
variable {w0 w:World} {F0:List Nat} {ps:List Piece}
theorem p_vNum {a r:Int} (hs:St w0 F0 ps w) (hx:pNum a=some r):Calls Tryz.prog 68 #[.int .i64 a] w fun e w'=>e=.returned (.int .i64 r)∧St w0 F0 ps w':=by
  unfold pNum at hx
  split at hx
  · rename_i h; injection hx with hx; subst hx
    exact (value_Num a (wdB_spec h) w).mono fun e w' ⟨he,hw⟩=>⟨he,hw ▸ hs⟩
  · cases hx
theorem p_vAt {a r:Int} (hs:St w0 F0 ps w) (hx:pAt a=some r):Calls Tryz.prog 69 #[.int .i64 a] w fun e w'=>e=.returned (.int .i64 r)∧St w0 F0 ps w':=by
  unfold pAt at hx
  split at hx
  · rename_i h; injection hx with hx; subst hx
    exact (value_At a (wdB_spec h) w).mono fun e w' ⟨he,hw⟩=>⟨he,hw ▸ hs⟩
  · cases hx
theorem p_rInt {a:Int} (hs:St w0 F0 ps w):Calls Tryz.prog 112 #[.int .i64 a] w fun e w'=>e=.returned (.int .i64 (wrap64 (a * 2)))∧St w0 F0 ps w' :=
  (ref_Int a w).mono fun e w' ⟨he,hw⟩=>⟨he,hw ▸ hs⟩
theorem p_rPtr {a:Int} (hs:St w0 F0 ps w):Calls Tryz.prog 151 #[.int .i64 a] w fun e w'=>e=.returned (.int .i64 (wrap64 (wrap64 (a * 2)+1)))∧St w0 F0 ps w' :=
  (ref_Ptr a w).mono fun e w' ⟨he,hw⟩=>⟨he,hw ▸ hs⟩
theorem p_rNum {a r:Int} (hs:St w0 F0 ps w) (hx:pNum a=some r):Calls Tryz.prog 154 #[.int .i64 a] w fun e w'=>e=.returned (.int .i64 r)∧St w0 F0 ps w':=by
  unfold pNum at hx
  split at hx
  · rename_i h; injection hx with hx; subst hx
    exact (ref_Num a (wdB_spec h) w).mono fun e w' ⟨he,hw⟩=>⟨he,hw ▸ hs⟩
  · cases hx
theorem p_rAt {a r:Int} (hs:St w0 F0 ps w) (hx:pAt a=some r):Calls Tryz.prog 138 #[.int .i64 a] w fun e w'=>e=.returned (.int .i64 r)∧St w0 F0 ps w':=by
  unfold pAt at hx
  split at hx
  · rename_i h; injection hx with hx; subst hx
    exact (ref_At a (wdB_spec h) w).mono fun e w' ⟨he,hw⟩=>⟨he,hw ▸ hs⟩
  · cases hx
end
section
variable {w0 w:World} {F0:List Nat} {ps:List Piece} {b ab:Nat} {s s':HSt}
end
end Go.Proofs.YtaojmbkmicjecaaGreat
namespace Go.Proofs.YtaojmbkmicjecaaGreat
open Go.RowKit
set_option linter.unusedVariables false
def vI (a:Int):Int:=wrap64 (2 * a)
def vP (a:Int):Int:=if a<0 then 0 else wrap64 (wrap64 (2 * a)+1)
theorem vI_wd (a:Int):Wd (vI a):=by unfold vI Wd wrap64; omega
theorem vP_wd (a:Int):Wd (vP a):=by
  unfold vP; split
  · unfold Wd; omega
  · unfold Wd; generalize wrap64 (2 * a)+1=x; unfold wrap64; omega
def Is (s:ASt) (p kind:Int) (n:Nat):Prop:=aKind s.c p=kind∧aLen s.c p=n
instance (s:ASt) (p kind:Int) (n:Nat):Decidable (Is s p kind n):=by unfold Is; exact inferInstance
theorem Is.len {s:ASt} {p kind:Int} {n:Nat} (h:Is s p kind n):(aWords s p).length=n:=by rw [aWords_len,h.2]; simp
def hPutTo (p:Int) (old l:List Int):Nat→HSt→HSt
  | 0,h=>h
  | k+1,h=>if l.getD k 0=old.getD k 0 then hPutTo p old l k h else hStore p k (l.getD k 0) (hPutTo p old l k h)
def hPut (p kind:Int) (n:Nat) (l:List Int) (h:HSt):HSt:=if Is h.a p kind n then hPutTo p (aWords h.a p) l n h else h
theorem store_a (p i w:Int) (h:HSt):(hStore p i w h).a=aStoreS p i w h.a:=by
  unfold hStore; split
  · rw [shadeW_a]
  · rename_i he; rw [store_no he]
theorem head_hStore {h:HSt} (k:HOk h) (p i w q:Int):aHead (hStore p i w h).a.c q=aHead h.a.c q:=by rw [store_a,head_store k.a]
theorem HOk.putTo {h:HSt} (k:HOk h) (p:Int) (old:List Int) {l:List Int} (hl:∀ x ∈ l,Wd x) (n:Nat):HOk (hPutTo p old l n h)∧∀ q,aHead (hPutTo p old l n h).a.c q=aHead h.a.c q:=by
  induction n with
  | zero=>exact ⟨k,fun _=>rfl⟩
  | succ n ih =>
    unfold hPutTo
    split
    · exact ih
    · have hw:Wd (l.getD n 0):=by
        rcases Nat.lt_or_ge n l.length with h1 | h1
        · rw [List.getD_eq_getElem?_getD,List.getElem?_eq_getElem h1]; exact hl _ (List.getElem_mem h1)
        · rw [List.getD_eq_getElem?_getD,List.getElem?_eq_none h1]; unfold Wd; simp
      exact ⟨ih.1.store p n hw,fun q=>by rw [head_hStore ih.1,ih.2]⟩
theorem HOk.put {h:HSt} (k:HOk h) (p kind:Int) (n:Nat) {l:List Int} (hl:∀ x ∈ l,Wd x):HOk (hPut p kind n l h)∧∀ q,aHead (hPut p kind n l h).a.c q=aHead h.a.c q:=by
  unfold hPut; split
  · exact k.putTo p _ hl n
  · exact ⟨k,fun _=>rfl⟩
theorem err_of_head {s s':ASt} {p:Int} (h:aHead s'.c p=aHead s.c p) (i:Int):aErr p i s'=aErr p i s:=by unfold aErr; rw [h]
theorem Is.err {s:ASt} {p kind:Int} {n:Nat} (h:Is s p kind n) {i:Nat} (hi:i<n):aErr p i s=0:=by
  have h2:=h.2
  unfold aLen at h2
  unfold aErr
  cases e:aHead s.c p with
  | none=>rw [e] at h2; simp at h2; omega
  | some x=>rw [e] at h2; simp only at h2 ⊢; rw [if_pos (by omega)]
structure Ch where
  cap:Int
  closed:Int
  count:Int
  start:Int
  buf:Int
  th:Int
  tt:Int
  sh:Int
  st:Int
deriving DecidableEq
structure Su where
  gor:Int
  chan:Int
  value:Int
  next:Int
  to:Int
  reg:Int
  more:Int
deriving DecidableEq
structure Gr where
  id:Int
  status:Int
  pc:Int
  a:Int
  b:Int
  c:Int
  d:Int
  e:Int
  f:Int
  sudogs:Int
deriving DecidableEq
def chW (c:Ch):List Int:=[vI c.cap,vI c.closed,vI c.count,vI c.start,vP c.buf,vP c.th,vP c.tt,vP c.sh,vP c.st]
def suW (s:Su):List Int:=[vP s.gor,vP s.chan,s.value,vP s.next,vI s.to,vI s.reg,vP s.more]
def goW (g:Gr):List Int:=[vI g.id,vI g.status,vI g.pc,g.a,g.b,g.c,g.d,g.e,g.f,vP g.sudogs]
def at0 (l:List Int) (i:Nat):Int:=l.getD i 0
def chOf (l:List Int):Ch:=⟨vNum (at0 l 0),vNum (at0 l 1),vNum (at0 l 2),vNum (at0 l 3),vAt (at0 l 4),vAt (at0 l 5),vAt (at0 l 6),vAt (at0 l 7),vAt (at0 l 8)⟩
def suOf (l:List Int):Su:=⟨vAt (at0 l 0),vAt (at0 l 1),at0 l 2,vAt (at0 l 3),vNum (at0 l 4),vNum (at0 l 5),vAt (at0 l 6)⟩
def ch0:Ch:=⟨0,0,0,0,0,0,0,0,0⟩
def su0:Su:=⟨0,0,0,0,0,0,0⟩
theorem chW_wd (c:Ch):∀ x ∈ chW c,Wd x:=by
  intro x hx
  simp only [chW,List.mem_cons,List.not_mem_nil,or_false] at hx
  rcases hx with rfl | rfl | rfl | rfl | rfl | rfl | rfl | rfl | rfl <;> first | exact vI_wd _ | exact vP_wd _
theorem suW_wd (s:Su) (h:Wd s.value):∀ x ∈ suW s,Wd x:=by
  intro x hx
  simp only [suW,List.mem_cons,List.not_mem_nil,or_false] at hx
  rcases hx with rfl | rfl | rfl | rfl | rfl | rfl | rfl <;> first | exact h | exact vI_wd _ | exact vP_wd _
def GoWd (g:Gr):Prop:=Wd g.a∧Wd g.b∧Wd g.c∧Wd g.d∧Wd g.e∧Wd g.f
theorem goW_wd (g:Gr) (h:GoWd g):∀ x ∈ goW g,Wd x:=by
  obtain ⟨h1,h2,h3,h4,h5,h6⟩:=h
  intro x hx
  simp only [goW,List.mem_cons,List.not_mem_nil,or_false] at hx
  rcases hx with rfl | rfl | rfl | rfl | rfl | rfl | rfl | rfl | rfl | rfl <;> first | assumption | exact vI_wd _ | exact vP_wd _
theorem nine {L:List Int} (h:L.length=9):∃ a b c d e f g i j,L=[a,b,c,d,e,f,g,i,j]:=by
  match L,h with
  | [a,b,c,d,e,f,g,i,j],_=>exact ⟨a,b,c,d,e,f,g,i,j,rfl⟩
theorem seven {L:List Int} (h:L.length=7):∃ a b c d e f g,L=[a,b,c,d,e,f,g]:=by
  match L,h with
  | [a,b,c,d,e,f,g],_=>exact ⟨a,b,c,d,e,f,g,rfl⟩
end Go.Proofs.YtaojmbkmicjecaaGreat
