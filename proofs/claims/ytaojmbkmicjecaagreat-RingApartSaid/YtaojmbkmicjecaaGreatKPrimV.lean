/- PrimV Idle Lit LitQ -/
import Derived.Test.YtaojmbkmicjecaaGreatKPrim
import Derived.Test.YtaojmbkmicjecaaGreatKEv2
import Derived.Test.YtaojmbkmicjecaaGreatKView
import Derived.Test.YtaojmbkmicjecaaGreatKView2N
import Derived.Test.YtaojmbkmicjecaaGreatKView3
import Derived.Test.YtaojmbkmicjecaaGreatKRHeap
namespace Go.Proofs.YtaojmbkmicjecaaGreat
open Go.RowKit
set_option linter.unusedVariables false
def pChan (p:Int) (s:HSt):Option (Ch×Int):=some (if Is s.a p 1 9 then chOf (aWords s.a p) else ch0,if Is s.a p 1 9 then 0 else 10)
def pPutChan (p:Int) (c:Ch) (s:HSt):Option (Int×HSt):=some (putE s.a p 1 9,hPut p 1 9 (chW c) s)
def pPutGor (p:Int) (c:Gr) (s:HSt):Option (Int×HSt):=if wdB c.a && wdB c.b && wdB c.c && wdB c.d && wdB c.e && wdB c.f then some (putE s.a p 4 10,hPut p 4 10 (goW c) s) else none
section
variable {w0 w:World} {F0:List Nat} {ps:List Piece} {b ab:Nat} {s s':HSt}
theorem p_Chan {p e0:Int} {c:Ch} (hs:St w0 F0 (HeapP b ab s::ps) w) (hx:pChan p s=some (c,e0)) :
    Calls Tryz.prog 19 #[.pointer (some ⟨b,0,none⟩),.int .i64 p] w fun e w'=>e=.returned (.tuple #[chV c,.int .i64 e0])∧St w0 F0 (HeapP b ab s::ps) w':=by
  unfold pChan at hx
  simp only [Option.some.injEq,Prod.mk.injEq] at hx
  obtain ⟨rfl,rfl⟩:=hx
  by_cases h:Is s.a p 1 9
  · rw [if_pos h,if_pos h]; exact v_Chan hs h
  · rw [if_neg h,if_neg h]; exact v_Chan_no hs h
theorem p_PutChan {p e0:Int} {c:Ch} (hs:St w0 F0 (HeapP b ab s::ps) w) (hx:pPutChan p c s=some (e0,s')) :
    Calls Tryz.prog 23 #[.pointer (some ⟨b,0,none⟩),.int .i64 p,chV c] w fun e w'=>e=.returned (.int .i64 e0)∧St w0 F0 (HeapP b ab s'::ps) w':=by
  unfold pPutChan at hx
  simp only [Option.some.injEq,Prod.mk.injEq] at hx
  obtain ⟨rfl,rfl⟩:=hx
  exact v_PutChan hs p c
theorem p_PutGor {p e0:Int} {c:Gr} (hs:St w0 F0 (HeapP b ab s::ps) w) (hx:pPutGor p c s=some (e0,s')) :
    Calls Tryz.prog 63 #[.pointer (some ⟨b,0,none⟩),.int .i64 p,goV c] w fun e w'=>e=.returned (.int .i64 e0)∧St w0 F0 (HeapP b ab s'::ps) w':=by
  unfold pPutGor at hx
  split at hx
  · rename_i h
    simp only [Bool.and_eq_true] at h
    simp only [Option.some.injEq,Prod.mk.injEq] at hx
    obtain ⟨rfl,rfl⟩:=hx
    exact v_PutGor hs p c ⟨wdB_spec h.1.1.1.1.1,wdB_spec h.1.1.1.1.2,wdB_spec h.1.1.1.2,wdB_spec h.1.1.2,wdB_spec h.1.2,wdB_spec h.2⟩
  · cases hx
end
def prNew (n:Int):Option HSt:=if 2≤n∧n≤128 then some (hNew n.toNat) else none
section
variable {w0 w:World} {F0:List Nat} {ps:List Piece} {b ab sb g cb:Nat} {s s':HSt}
theorem q_New {n:Int} (hs:St w0 F0 ps w) (hx:prNew n=some s) :
    Calls Tryz.prog 59 #[.int .i64 n] w fun e w'=>∃ b ab sb g cb,e=.returned (.tuple #[.pointer (some ⟨b,0,none⟩),.int .i64 0])∧St w0 F0 (RHeapP b ab sb g cb s::ps) w':=by
  unfold prNew at hx
  split at hx
  · rename_i h
    injection hx with hx
    subst hx
    obtain ⟨m,rfl⟩:∃ m:Nat,n=m:=⟨n.toNat,by omega⟩
    exact rh_New (by omega) (by omega) hs
  · cases hx
theorem q_Alloc {kind n x e0:Int} (hs:St w0 F0 (RHeapP b ab sb g cb s::ps) w) (hx:pAlloc kind n s=some (x,e0,s')) :
    Calls Tryz.prog 90 #[.pointer (some ⟨b,0,none⟩),.int .i64 kind,.int .i64 n] w fun e w'=>e=.returned (.tuple #[.int .i64 x,.int .i64 e0])∧St w0 F0 (RHeapP b ab sb g cb s'::ps) w':=by
  unfold pAlloc at hx
  simp only [Option.some.injEq,Prod.mk.injEq] at hx
  obtain ⟨rfl,rfl,rfl⟩:=hx
  rw [← aAllocV_eq]
  exact rh_Alloc hs kind n
theorem q_Store {p i x e0:Int} (hs:St w0 F0 (RHeapP b ab sb g cb s::ps) w) (hx:pStore p i x s=some (e0,s')) :
    Calls Tryz.prog 99 #[.pointer (some ⟨b,0,none⟩),.int .i64 p,.int .i64 i,.int .i64 x] w fun e w'=>e=.returned (.int .i64 e0)∧St w0 F0 (RHeapP b ab sb g cb s'::ps) w':=by
  unfold pStore at hx
  split at hx
  · rename_i hw
    simp only [Option.some.injEq,Prod.mk.injEq] at hx
    obtain ⟨rfl,rfl⟩:=hx
    exact rh_Store hs p i x (wdB_spec hw)
  · cases hx
theorem q_Kind {p:Int} (hs:St w0 F0 (RHeapP b ab sb g cb s::ps) w) :
    Calls Tryz.prog 134 #[.pointer (some ⟨ab,0,none⟩),.int .i64 p] w fun e w'=>e=.returned (.int .i64 (aKind s.a.c p))∧St w0 F0 (RHeapP b ab sb g cb s::ps) w':=rha_Kind hs p
theorem q_Len {p:Int} (hs:St w0 F0 (RHeapP b ab sb g cb s::ps) w) :
    Calls Tryz.prog 108 #[.pointer (some ⟨ab,0,none⟩),.int .i64 p] w fun e w'=>e=.returned (.int .i64 (aLen s.a.c p))∧St w0 F0 (RHeapP b ab sb g cb s::ps) w':=rha_Len hs p
theorem q_Load {p i x e0:Int} (hs:St w0 F0 (RHeapP b ab sb g cb s::ps) w) (hx:pLoad p i s=some (x,e0)) :
    Calls Tryz.prog 98 #[.pointer (some ⟨ab,0,none⟩),.int .i64 p,.int .i64 i] w fun e w'=>e=.returned (.tuple #[.int .i64 x,.int .i64 e0])∧St w0 F0 (RHeapP b ab sb g cb s::ps) w':=by
  unfold pLoad at hx
  simp only [Option.some.injEq,Prod.mk.injEq] at hx
  obtain ⟨rfl,rfl⟩:=hx
  exact rha_Load hs p i
end
structure Rm where
  buf:Int
  cap:Int
  count:Int
  start:Int
def optE {α R:Type} (x:Option α) (A:Option R) (B:α→Option R):Option R:=match x with | none=>A | some y=>B y
theorem optN {α R:Type} {A:Option R} {B:α→Option R} {r:Option R} (h:optE none A B=r):A=r:=h
theorem optS {α R:Type} {A:Option R} {B:α→Option R} {y:α} {r:Option R} (h:optE (some y) A B=r):B y=r:=h
theorem q_Need {w0 w:World} {F0:List Nat} {ps:List Piece} {k n:Int} (hs:St w0 F0 ps w):Calls Tryz.prog 153 #[.int .i64 k,.int .i64 n] w fun e w'=>e=.returned (.tuple #[.int .i64 (rNeed k n),.bool (rKnown k n)])∧St w0 F0 ps w' :=
  (refr_need k n w).mono fun e w' ⟨he,hw⟩=>⟨he,hs.below hw⟩
structure En where
  head:Int
  tail:Int
def oRmV (T:TypeId):Option Rm→Value
  | none=>.nilIface
  | some q=>.iface T (.agg #[.int .i64 q.buf,.int .i64 q.cap,.int .i64 q.count,.int .i64 q.start])
end Go.Proofs.YtaojmbkmicjecaaGreat
namespace Go.Proofs.YtaojmbkmicjecaaGreat
open Go.RowKit
theorem bind1_some {α R:Type} (x:α) (f:α→Option R):bind1 (some x) f=f x:=rfl
theorem bind2_some {α β R:Type} (x:α) (y:β) (f:α→β→Option R):bind2 (some (x,y)) f=f x y:=rfl
theorem bind3_some {α β γ R:Type} (x:α) (y:β) (z:γ) (f:α→β→γ→Option R):bind3 (some (x,y,z)) f=f x y z:=rfl
theorem bind4_some {α β γ δ R:Type} (x:α) (y:β) (z:γ) (u:δ) (f:α→β→γ→δ→Option R):bind4 (some (x,y,z,u)) f=f x y z u:=rfl
def pStoreI (p i x:Int) (s:HSt):Option (Int×HSt):=some (aErr p i s.a,if aErr p i s.a=0 then { s with a:=aStoreS p i x s.a } else s)
theorem shadeW_idle {x:Int} {s:HSt} (hp:s.ph=0):hShadeW x s=s:=by
  unfold hShadeW hShade
  split
  · rw [if_neg]
    unfold hWhite
    simp [hp]
  · rfl
theorem pStore_idle {p i x:Int} {s:HSt} (hp:s.ph=0) (hx:wdB x=true):pStore p i x s=pStoreI p i x s:=by
  unfold pStore pStoreI hStore
  rw [if_pos hx]
  split
  · rw [shadeW_idle (by exact hp)]
  · rfl
def wrI (p:Int) (l:List Int):Nat→ASt→ASt
  | 0,a=>a
  | k+1,a=>aStoreS p k (l.getD k 0) (wrI p l k a)
def cellsB (p:Int) (n:Nat) (a:ASt):Bool:=(List.range n).all fun k=>match a.c[p.toNat+1+k]? with | some (.word _)=>true | _=>false
theorem wrI_get (p:Int) (l:List Int) (a:ASt) (j:Nat):∀ k,k≤j→(wrI p l k a).c[p.toNat+1+j]?=a.c[p.toNat+1+j]?
  | 0,_=>rfl
  | k+1,h=>by
    have ih:=wrI_get p l a j k (by omega)
    show (aStoreS p k (l.getD k 0) (wrI p l k a)).c[_]?=_
    unfold aStoreS
    split
    · simp only
      rw [List.getElem?_set_ne (by simp; omega)]
      exact ih
    · exact ih
theorem hPut_idle {p kind:Int} {n:Nat} {l:List Int} {h:HSt} (hp:h.ph=0) (hc:cellsB p n h.a=true):hPut p kind n l h=if Is h.a p kind n then { h with a:=wrI p l n h.a } else h:=by
  unfold hPut
  split
  · rename_i hi
    have key:∀ k,k≤n→hPutTo p (aWords h.a p) l k h={ h with a:=wrI p l k h.a }:=by
      intro k
      induction k with
      | zero=>intro _; rfl
      | succ k ih =>
        intro hk
        have ih:=ih (by omega)
        show (if l.getD k 0=(aWords h.a p).getD k 0 then hPutTo p (aWords h.a p) l k h else hStore p k (l.getD k 0) (hPutTo p (aWords h.a p) l k h))={ h with a:=aStoreS p k (l.getD k 0) (wrI p l k h.a) }
        rw [ih]
        split
        · rename_i e
          have hg:=wrI_get p l h.a k k (Nat.le_refl _)
          have hw:=List.all_eq_true.1 hc k (by simp; omega)
          have ho:(aWords h.a p).getD k 0=wordOf h.a.c[p.toNat+1+k]?:=by
            unfold aWords
            rw [hi.2]
            simp [List.getD_eq_getElem?_getD,List.getElem?_map,List.getElem?_range (show k<n by omega)]
          have e2:aStoreS p k (l.getD k 0) (wrI p l k h.a)=wrI p l k h.a:=by
            unfold aStoreS
            split
            · revert hw
              split
              · rename_i v hv
                intro _
                rw [hv] at ho hg
                have e3:l.getD k 0=v:=e.trans ho
                rw [e3]
                have:((k:Int)).toNat=k:=by simp
                rw [this]
                obtain ⟨hlt,hge⟩:=List.getElem?_eq_some_iff.1 hg
                rw [← hge,List.set_getElem_self]
              · intro hw; cases hw
            · rfl
          rw [e2]
        · unfold hStore
          split
          · rw [shadeW_idle (by exact hp)]
          · rename_i he
            have:aStoreS p k (l.getD k 0) (wrI p l k h.a)=wrI p l k h.a:=by unfold aStoreS; rw [if_neg he]
            rw [this]
    exact key n (Nat.le_refl _)
  · rfl
def wdG (c:Gr):Bool:=wdB c.a && wdB c.b && wdB c.c && wdB c.d && wdB c.e && wdB c.f
def pPutGorI (p:Int) (c:Gr) (s:HSt):Option (Int×HSt):=some (putE s.a p 4 10,if Is s.a p 4 10 then { s with a:=wrI p (goW c) 10 s.a } else s)
end Go.Proofs.YtaojmbkmicjecaaGreat
namespace Go.Proofs.YtaojmbkmicjecaaGreat
open Go.RowKit
def colL:List Int→Int→Int
  | []=>fun _=>0
  | p::t=>upd (colL t) p 0
def wV (w:Int):Int:=IntKind.i64.wrap (w+IntKind.i64.wrap (2 * 0))
end Go.Proofs.YtaojmbkmicjecaaGreat
namespace Go.Proofs.YtaojmbkmicjecaaGreat
open Go.RowKit
def row (k:Int) (m u:Nat):SRow:=(k,List.replicate u true ++ List.replicate (m - u) false)
def mkP:List (Nat×Nat×Int×List Int)→Nat→List ACell
  | [],pos=>List.replicate (1920 - pos) .none
  | (p,l,k,ws)::t,pos=>List.replicate (p - pos) .none ++ (.head k l::(ws.map .word ++ mkP t (p+1+l)))
def up (w:Nat→Int) (m:Nat):Nat→Int:=fun i=>if i=m then wV (w i) else w i
end Go.Proofs.YtaojmbkmicjecaaGreat
