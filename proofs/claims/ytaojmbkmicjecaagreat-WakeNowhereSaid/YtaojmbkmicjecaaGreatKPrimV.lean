/- PrimV Idle Lit LitQ LitN -/
import Derived.Test.YtaojmbkmicjecaaGreatKPrim
import Derived.Test.YtaojmbkmicjecaaGreatKEv2
import Derived.Test.YtaojmbkmicjecaaGreatKView
import Derived.Test.YtaojmbkmicjecaaGreatKView2N
import Derived.Test.YtaojmbkmicjecaaGreatKView3
import Derived.Test.YtaojmbkmicjecaaGreatKRHeap
namespace Go.Proofs.YtaojmbkmicjecaaGreat
open Go.RowKit
set_option linter.unusedVariables false
def pChan (p:Int) (s:HSt):Option (Ch×Int):=some (if Is s.a p 1 9 then chOf (aWords s.a p) else ch0,if Is s.a p 1 9 then 0 else 10)
def pSudog (p:Int) (s:HSt):Option (Su×Int):=some (if Is s.a p 3 7 then suOf (aWords s.a p) else su0,if Is s.a p 3 7 then 0 else 10)
def pPutChan (p:Int) (c:Ch) (s:HSt):Option (Int×HSt):=some (putE s.a p 1 9,hPut p 1 9 (chW c) s)
def pPutSudog (p:Int) (c:Su) (s:HSt):Option (Int×HSt):=if wdB c.value then some (putE s.a p 3 7,hPut p 3 7 (suW c) s) else none
def pPutGor (p:Int) (c:Gr) (s:HSt):Option (Int×HSt):=if wdB c.a && wdB c.b && wdB c.c && wdB c.d && wdB c.e && wdB c.f then some (putE s.a p 4 10,hPut p 4 10 (goW c) s) else none
section
variable {w0 w:World} {F0:List Nat} {ps:List Piece} {b ab:Nat} {s s':HSt}
theorem p_Chan {p e0:Int} {c:Ch} (hs:St w0 F0 (HeapP b ab s::ps) w) (hx:pChan p s=some (c,e0)) :
    Calls Tryz.prog 19 #[.pointer (some ⟨b,0,none⟩),.int .i64 p] w fun e w'=>e=.returned (.tuple #[chV c,.int .i64 e0])∧St w0 F0 (HeapP b ab s::ps) w':=by
  unfold pChan at hx
  simp only [Option.some.injEq,Prod.mk.injEq] at hx
  obtain ⟨rfl,rfl⟩:=hx
  by_cases h:Is s.a p 1 9
  · rw [if_pos h,if_pos h]; exact v_Chan hs h
  · rw [if_neg h,if_neg h]; exact v_Chan_no hs h
theorem p_Sudog {p e0:Int} {c:Su} (hs:St w0 F0 (HeapP b ab s::ps) w) (hx:pSudog p s=some (c,e0)) :
    Calls Tryz.prog 30 #[.pointer (some ⟨b,0,none⟩),.int .i64 p] w fun e w'=>e=.returned (.tuple #[suV c,.int .i64 e0])∧St w0 F0 (HeapP b ab s::ps) w':=by
  unfold pSudog at hx
  simp only [Option.some.injEq,Prod.mk.injEq] at hx
  obtain ⟨rfl,rfl⟩:=hx
  by_cases h:Is s.a p 3 7
  · rw [if_pos h,if_pos h]; exact v_Sudog hs h
  · rw [if_neg h,if_neg h]; exact v_Sudog_no hs h
theorem p_PutChan {p e0:Int} {c:Ch} (hs:St w0 F0 (HeapP b ab s::ps) w) (hx:pPutChan p c s=some (e0,s')) :
    Calls Tryz.prog 23 #[.pointer (some ⟨b,0,none⟩),.int .i64 p,chV c] w fun e w'=>e=.returned (.int .i64 e0)∧St w0 F0 (HeapP b ab s'::ps) w':=by
  unfold pPutChan at hx
  simp only [Option.some.injEq,Prod.mk.injEq] at hx
  obtain ⟨rfl,rfl⟩:=hx
  exact v_PutChan hs p c
theorem p_PutSudog {p e0:Int} {c:Su} (hs:St w0 F0 (HeapP b ab s::ps) w) (hx:pPutSudog p c s=some (e0,s')) :
    Calls Tryz.prog 41 #[.pointer (some ⟨b,0,none⟩),.int .i64 p,suV c] w fun e w'=>e=.returned (.int .i64 e0)∧St w0 F0 (HeapP b ab s'::ps) w':=by
  unfold pPutSudog at hx
  split at hx
  · rename_i h
    simp only [Option.some.injEq,Prod.mk.injEq] at hx
    obtain ⟨rfl,rfl⟩:=hx
    exact v_PutSudog hs p c (wdB_spec h)
  · cases hx
theorem p_PutGor {p e0:Int} {c:Gr} (hs:St w0 F0 (HeapP b ab s::ps) w) (hx:pPutGor p c s=some (e0,s')) :
    Calls Tryz.prog 63 #[.pointer (some ⟨b,0,none⟩),.int .i64 p,goV c] w fun e w'=>e=.returned (.int .i64 e0)∧St w0 F0 (HeapP b ab s'::ps) w':=by
  unfold pPutGor at hx
  split at hx
  · rename_i h
    simp only [Bool.and_eq_true] at h
    simp only [Option.some.injEq,Prod.mk.injEq] at hx
    obtain ⟨rfl,rfl⟩:=hx
    exact v_PutGor hs p c ⟨wdB_spec h.1.1.1.1.1,wdB_spec h.1.1.1.1.2,wdB_spec h.1.1.1.2,wdB_spec h.1.1.2,wdB_spec h.1.2,wdB_spec h.2⟩
  · cases hx
end
def prNew (n:Int):Option HSt:=if 2≤n∧n≤128 then some (hNew n.toNat) else none
section
variable {w0 w:World} {F0:List Nat} {ps:List Piece} {b ab sb g cb:Nat} {s s':HSt}
theorem q_New {n:Int} (hs:St w0 F0 ps w) (hx:prNew n=some s) :
    Calls Tryz.prog 59 #[.int .i64 n] w fun e w'=>∃ b ab sb g cb,e=.returned (.tuple #[.pointer (some ⟨b,0,none⟩),.int .i64 0])∧St w0 F0 (RHeapP b ab sb g cb s::ps) w':=by
  unfold prNew at hx
  split at hx
  · rename_i h
    injection hx with hx
    subst hx
    obtain ⟨m,rfl⟩:∃ m:Nat,n=m:=⟨n.toNat,by omega⟩
    exact rh_New (by omega) (by omega) hs
  · cases hx
theorem q_Alloc {kind n x e0:Int} (hs:St w0 F0 (RHeapP b ab sb g cb s::ps) w) (hx:pAlloc kind n s=some (x,e0,s')) :
    Calls Tryz.prog 90 #[.pointer (some ⟨b,0,none⟩),.int .i64 kind,.int .i64 n] w fun e w'=>e=.returned (.tuple #[.int .i64 x,.int .i64 e0])∧St w0 F0 (RHeapP b ab sb g cb s'::ps) w':=by
  unfold pAlloc at hx
  simp only [Option.some.injEq,Prod.mk.injEq] at hx
  obtain ⟨rfl,rfl,rfl⟩:=hx
  rw [← aAllocV_eq]
  exact rh_Alloc hs kind n
theorem q_Store {p i x e0:Int} (hs:St w0 F0 (RHeapP b ab sb g cb s::ps) w) (hx:pStore p i x s=some (e0,s')) :
    Calls Tryz.prog 99 #[.pointer (some ⟨b,0,none⟩),.int .i64 p,.int .i64 i,.int .i64 x] w fun e w'=>e=.returned (.int .i64 e0)∧St w0 F0 (RHeapP b ab sb g cb s'::ps) w':=by
  unfold pStore at hx
  split at hx
  · rename_i hw
    simp only [Option.some.injEq,Prod.mk.injEq] at hx
    obtain ⟨rfl,rfl⟩:=hx
    exact rh_Store hs p i x (wdB_spec hw)
  · cases hx
theorem q_Kind {p:Int} (hs:St w0 F0 (RHeapP b ab sb g cb s::ps) w) :
    Calls Tryz.prog 134 #[.pointer (some ⟨ab,0,none⟩),.int .i64 p] w fun e w'=>e=.returned (.int .i64 (aKind s.a.c p))∧St w0 F0 (RHeapP b ab sb g cb s::ps) w':=rha_Kind hs p
theorem q_Len {p:Int} (hs:St w0 F0 (RHeapP b ab sb g cb s::ps) w) :
    Calls Tryz.prog 108 #[.pointer (some ⟨ab,0,none⟩),.int .i64 p] w fun e w'=>e=.returned (.int .i64 (aLen s.a.c p))∧St w0 F0 (RHeapP b ab sb g cb s::ps) w':=rha_Len hs p
theorem q_Load {p i x e0:Int} (hs:St w0 F0 (RHeapP b ab sb g cb s::ps) w) (hx:pLoad p i s=some (x,e0)) :
    Calls Tryz.prog 98 #[.pointer (some ⟨ab,0,none⟩),.int .i64 p,.int .i64 i] w fun e w'=>e=.returned (.tuple #[.int .i64 x,.int .i64 e0])∧St w0 F0 (RHeapP b ab sb g cb s::ps) w':=by
  unfold pLoad at hx
  simp only [Option.some.injEq,Prod.mk.injEq] at hx
  obtain ⟨rfl,rfl⟩:=hx
  exact rha_Load hs p i
end
def pSeen4 (p:Int) (s:HSt):Option (List Int×Int):=some (if Is s.a p 4 10 then aWords s.a p else [],if Is s.a p 4 10 then 0 else 10)
theorem p_seen4 {w0 w:World} {F0:List Nat} {ps:List Piece} {b ab:Nat} {s:HSt} {p e0:Int} {L:List Int} (hs:St w0 F0 (HeapP b ab s::ps) w) (hx:pSeen4 p s=some (L,e0)) :
    Calls Tryz.prog 67 #[.pointer (some ⟨b,0,none⟩),.int .i64 p,.int .i64 4] w fun e w'=>∃ v,e=.returned (.tuple #[v,.int .i64 e0])∧St w0 F0 (HeapP b ab s::RowP v L::ps) w':=by
  unfold pSeen4 at hx
  simp only [Option.some.injEq,Prod.mk.injEq] at hx
  obtain ⟨rfl,rfl⟩:=hx
  by_cases h:Is s.a p 4 10
  · rw [if_pos h,if_pos h]
    exact (v_seen need_go (by omega) hs h).mono fun e w' ⟨v,he,k⟩=>⟨v,he,k.pick1⟩
  · rw [if_neg h,if_neg h]
    exact (v_seen_no need_go hs h).mono fun e w' ⟨he,k⟩=>⟨_,he,k.nil.pick1⟩
structure Rm where
  buf:Int
  cap:Int
  count:Int
  start:Int
def optE {α R:Type} (x:Option α) (A:Option R) (B:α→Option R):Option R:=match x with | none=>A | some y=>B y
theorem optN {α R:Type} {A:Option R} {B:α→Option R} {r:Option R} (h:optE none A B=r):A=r:=h
theorem optS {α R:Type} {A:Option R} {B:α→Option R} {y:α} {r:Option R} (h:optE (some y) A B=r):B y=r:=h
def sumE {α β R:Type} (x:α ⊕ β) (A:α→Option R) (B:β→Option R):Option R:=match x with | .inl y=>A y | .inr y=>B y
theorem sumL {α β R:Type} {A:α→Option R} {B:β→Option R} {y:α} {r:Option R} (h:sumE (.inl y) A B=r):A y=r:=h
theorem sumR {α β R:Type} {A:α→Option R} {B:β→Option R} {y:β} {r:Option R} (h:sumE (.inr y) A B=r):B y=r:=h
theorem q_Need {w0 w:World} {F0:List Nat} {ps:List Piece} {k n:Int} (hs:St w0 F0 ps w):Calls Tryz.prog 153 #[.int .i64 k,.int .i64 n] w fun e w'=>e=.returned (.tuple #[.int .i64 (rNeed k n),.bool (rKnown k n)])∧St w0 F0 ps w' :=
  (refr_need k n w).mono fun e w' ⟨he,hw⟩=>⟨he,hs.below hw⟩
structure En where
  head:Int
  tail:Int
def oSuV (T:TypeId):Option Su→Value
  | none=>.nilIface
  | some q=>.iface T (.agg #[.int .i64 q.gor,.int .i64 q.chan,.int .i64 q.value,.int .i64 q.next,.int .i64 q.to,.int .i64 q.reg,.int .i64 q.more])
def oSGV (T U:TypeId):Option (Su ⊕ Gr)→Value
  | none=>.nilIface
  | some (.inl q)=>.iface T (.agg #[.int .i64 q.gor,.int .i64 q.chan,.int .i64 q.value,.int .i64 q.next,.int .i64 q.to,.int .i64 q.reg,.int .i64 q.more])
  | some (.inr q)=>.iface U (.agg #[.int .i64 q.id,.int .i64 q.status,.int .i64 q.pc,.int .i64 q.a,.int .i64 q.b,.int .i64 q.c,.int .i64 q.d,.int .i64 q.e,.int .i64 q.f,.int .i64 q.sudogs])
end Go.Proofs.YtaojmbkmicjecaaGreat
namespace Go.Proofs.YtaojmbkmicjecaaGreat
open Go.RowKit
theorem bind1_some {α R:Type} (x:α) (f:α→Option R):bind1 (some x) f=f x:=rfl
theorem bind3_some {α β γ R:Type} (x:α) (y:β) (z:γ) (f:α→β→γ→Option R):bind3 (some (x,y,z)) f=f x y z:=rfl
theorem bind4_some {α β γ δ R:Type} (x:α) (y:β) (z:γ) (u:δ) (f:α→β→γ→δ→Option R):bind4 (some (x,y,z,u)) f=f x y z u:=rfl
end Go.Proofs.YtaojmbkmicjecaaGreat
namespace Go.Proofs.YtaojmbkmicjecaaGreat
open Go.RowKit
def colL:List Int→Int→Int
  | []=>fun _=>0
  | p::t=>upd (colL t) p 0
def wV (w:Int):Int:=IntKind.i64.wrap (w+IntKind.i64.wrap (2 * 0))
end Go.Proofs.YtaojmbkmicjecaaGreat
namespace Go.Proofs.YtaojmbkmicjecaaGreat
open Go.RowKit
def pt (a:Nat):Int:=2 * (a:Int)+1
def row (k:Int) (m u:Nat):SRow:=(k,List.replicate u true ++ List.replicate (m - u) false)
def pairs:Nat→List SRow
  | 0=>[]
  | 1=>[row 2 2 1]
  | n+2=>row 2 2 2::pairs n
def fours:Nat→List SRow
  | 0=>[]
  | 1=>[row 1 4 1]
  | 2=>[row 1 4 2]
  | 3=>[row 1 4 3]
  | n+4=>row 1 4 4::fours n
def mkP:List (Nat×Nat×Int×List Int)→Nat→List ACell
  | [],pos=>List.replicate (1920 - pos) .none
  | (p,l,k,ws)::t,pos=>List.replicate (p - pos) .none ++ (.head k l::(ws.map .word ++ mkP t (p+1+l)))
def up (w:Nat→Int) (m:Nat):Nat→Int:=fun i=>if i=m then wV (w i) else w i
end Go.Proofs.YtaojmbkmicjecaaGreat
namespace Go.Proofs.YtaojmbkmicjecaaGreat
open Go.RowKit
set_option linter.unusedVariables false
def gN (j:Nat):Nat:=48+16 * j
def sN (m q:Nat):Nat:=32 * ((m+4) / 2)+8 * q
def atN (m v kk:Nat) (b:List Bool) (x:Nat) (d:Bool):List Nat:=(List.range v).flatMap fun j=>if j=kk then [] else
  (if j % 3=x∧b.getD j false=d then [2 * j] else []) ++ (if (j+1) % 3=x∧(!b.getD j false)=d then [2 * j+1] else [])
def nextN:List Nat→Nat→Option Nat
  | a::c::t,q=>if a=q then some c else nextN (c::t) q
  | _,_=>none
def ptN (m:Nat):Option Nat→Int
  | some q=>pt (sN m q)
  | none=>0
def suN (m v kk:Nat) (b:List Bool) (q:Nat):Nat×Nat×Int×List Int :=
  let j:=q / 2; let i:=q % 2; let d:=if i=0 then b.getD j false else !b.getD j false; let x:=(j+i) % 3
  (sN m q,7,3,[pt (gN j),pt (16 * x),2 * ((j:Int)+i),ptN m (nextN (atN m v kk b x d) q),2 * (10 * (j:Int)+i),if d then -2 else 2 * (i:Int),if i=0 then pt (sN m (q+1)) else 0])
def NW (m v kk:Nat) (b:List Bool):HSt:=⟨⟨pairs (m+3) ++ fours (2 * v) ++ List.replicate (60 - (pairs (m+3) ++ fours (2 * v)).length) noRow,
  mkP ((List.range 3).map (fun x=>(16 * x,9,1,[0,0,0,0,0,ptN m (atN m v kk b x false).head?,ptN m (atN m v kk b x false).getLast?,ptN m (atN m v kk b x true).head?,ptN m (atN m v kk b x true).getLast?])) ++
    (List.range m).map (fun j=>(gN j,10,4,if j=kk then [2 * (j:Int),0,20 * (j:Int),if b.getD j false then 0 else 6,0,0,0,0,0,0] else if j<v then [2 * (j:Int),2,0,0,0,0,0,0,0,pt (sN m (2 * j))] else [2 * (j:Int),0,0,0,0,0,0,0,0,0])) ++
    (List.range (2 * v)).map (suN m v kk b)) 0⟩,colL ([0,16,32] ++ (List.range m).map (fun j=>(gN j:Int)) ++ (List.range (2 * v)).map fun q=>(sN m q:Int)).reverse,[],false,0,0,0⟩
def gsN (m:Nat):List Int:=(List.range m).map fun j=>(gN j:Int)
end Go.Proofs.YtaojmbkmicjecaaGreat
