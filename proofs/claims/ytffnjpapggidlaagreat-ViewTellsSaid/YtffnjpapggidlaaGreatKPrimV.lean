/- PrimV -/
import Derived.Test.YtffnjpapggidlaaGreatKPrim
import Derived.Test.YtffnjpapggidlaaGreatKEv2
import Derived.Test.YtffnjpapggidlaaGreatKView
import Derived.Test.YtffnjpapggidlaaGreatKRowB
import Derived.Test.YtffnjpapggidlaaGreatKView3
import Derived.Test.YtffnjpapggidlaaGreatKRHeap
namespace Go.Proofs.YtffnjpapggidlaaGreat
open Go.RowKit
set_option linter.unusedVariables false
def pChan (p:Int) (s:HSt):Option (Ch×Int):=some (if Is s.a p 1 9 then chOf (aWords s.a p) else ch0,if Is s.a p 1 9 then 0 else 10)
def pSudog (p:Int) (s:HSt):Option (Su×Int):=some (if Is s.a p 3 7 then suOf (aWords s.a p) else su0,if Is s.a p 3 7 then 0 else 10)
def pPutChan (p:Int) (c:Ch) (s:HSt):Option (Int×HSt):=some (putE s.a p 1 9,hPut p 1 9 (chW c) s)
def pPutSudog (p:Int) (c:Su) (s:HSt):Option (Int×HSt):=if wdB c.value then some (putE s.a p 3 7,hPut p 3 7 (suW c) s) else none
def pPutGor (p:Int) (c:Gr) (s:HSt):Option (Int×HSt):=if wdB c.a && wdB c.b && wdB c.c && wdB c.d && wdB c.e && wdB c.f then some (putE s.a p 4 10,hPut p 4 10 (goW c) s) else none
section
variable {w0 w:World} {F0:List Nat} {ps:List Piece} {b ab:Nat} {s s':HSt}
theorem p_Chan {p e0:Int} {c:Ch} (hs:St w0 F0 (HeapP b ab s::ps) w) (hx:pChan p s=some (c,e0)) :
    Calls Tryz.prog 25 #[.pointer (some ⟨b,0,none⟩),.int .i64 p] w fun e w'=>e=.returned (.tuple #[chV c,.int .i64 e0])∧St w0 F0 (HeapP b ab s::ps) w':=by
  unfold pChan at hx
  simp only [Option.some.injEq,Prod.mk.injEq] at hx
  obtain ⟨rfl,rfl⟩:=hx
  by_cases h:Is s.a p 1 9
  · rw [if_pos h,if_pos h]; exact v_Chan hs h
  · rw [if_neg h,if_neg h]; exact v_Chan_no hs h
theorem p_Sudog {p e0:Int} {c:Su} (hs:St w0 F0 (HeapP b ab s::ps) w) (hx:pSudog p s=some (c,e0)) :
    Calls Tryz.prog 27 #[.pointer (some ⟨b,0,none⟩),.int .i64 p] w fun e w'=>e=.returned (.tuple #[suV c,.int .i64 e0])∧St w0 F0 (HeapP b ab s::ps) w':=by
  unfold pSudog at hx
  simp only [Option.some.injEq,Prod.mk.injEq] at hx
  obtain ⟨rfl,rfl⟩:=hx
  by_cases h:Is s.a p 3 7
  · rw [if_pos h,if_pos h]; exact v_Sudog hs h
  · rw [if_neg h,if_neg h]; exact v_Sudog_no hs h
theorem p_PutChan {p e0:Int} {c:Ch} (hs:St w0 F0 (HeapP b ab s::ps) w) (hx:pPutChan p c s=some (e0,s')) :
    Calls Tryz.prog 16 #[.pointer (some ⟨b,0,none⟩),.int .i64 p,chV c] w fun e w'=>e=.returned (.int .i64 e0)∧St w0 F0 (HeapP b ab s'::ps) w':=by
  unfold pPutChan at hx
  simp only [Option.some.injEq,Prod.mk.injEq] at hx
  obtain ⟨rfl,rfl⟩:=hx
  exact v_PutChan hs p c
theorem p_PutSudog {p e0:Int} {c:Su} (hs:St w0 F0 (HeapP b ab s::ps) w) (hx:pPutSudog p c s=some (e0,s')) :
    Calls Tryz.prog 18 #[.pointer (some ⟨b,0,none⟩),.int .i64 p,suV c] w fun e w'=>e=.returned (.int .i64 e0)∧St w0 F0 (HeapP b ab s'::ps) w':=by
  unfold pPutSudog at hx
  split at hx
  · rename_i h
    simp only [Option.some.injEq,Prod.mk.injEq] at hx
    obtain ⟨rfl,rfl⟩:=hx
    exact v_PutSudog hs p c (wdB_spec h)
  · cases hx
theorem p_PutGor {p e0:Int} {c:Gr} (hs:St w0 F0 (HeapP b ab s::ps) w) (hx:pPutGor p c s=some (e0,s')) :
    Calls Tryz.prog 20 #[.pointer (some ⟨b,0,none⟩),.int .i64 p,goV c] w fun e w'=>e=.returned (.int .i64 e0)∧St w0 F0 (HeapP b ab s'::ps) w':=by
  unfold pPutGor at hx
  split at hx
  · rename_i h
    simp only [Bool.and_eq_true] at h
    simp only [Option.some.injEq,Prod.mk.injEq] at hx
    obtain ⟨rfl,rfl⟩:=hx
    exact v_PutGor hs p c ⟨wdB_spec h.1.1.1.1.1,wdB_spec h.1.1.1.1.2,wdB_spec h.1.1.1.2,wdB_spec h.1.1.2,wdB_spec h.1.2,wdB_spec h.2⟩
  · cases hx
theorem p_ChanN {p:Int} (hs:St w0 F0 ps w):Calls Tryz.prog 25 #[.pointer none,.int .i64 p] w fun e w'=>e=.returned (.tuple #[chV ch0,.int .i64 2])∧St w0 F0 ps w' :=
  (v_Chan_nil p w).mono fun e w' ⟨he,hw⟩=>⟨he,hs.below hw⟩
theorem p_SudogN {p:Int} (hs:St w0 F0 ps w):Calls Tryz.prog 27 #[.pointer none,.int .i64 p] w fun e w'=>e=.returned (.tuple #[suV su0,.int .i64 2])∧St w0 F0 ps w' :=
  (v_Sudog_nil p w).mono fun e w' ⟨he,hw⟩=>⟨he,hs.below hw⟩
theorem p_GorN {p:Int} (hs:St w0 F0 ps w):Calls Tryz.prog 29 #[.pointer none,.int .i64 p] w fun e w'=>e=.returned (.tuple #[goV go0,.int .i64 2])∧St w0 F0 ps w' :=
  (v_Gor_nil p w).mono fun e w' ⟨he,hw⟩=>⟨he,hs.below hw⟩
theorem p_PutChanN {p:Int} {c:Ch} (hs:St w0 F0 ps w):Calls Tryz.prog 16 #[.pointer none,.int .i64 p,chV c] w fun e w'=>e=.returned (.int .i64 2)∧St w0 F0 ps w' :=
  (v_PutChan_nil p c w).mono fun e w' ⟨he,hw⟩=>⟨he,hs.below hw⟩
theorem p_PutSudogN {p:Int} {c:Su} (hs:St w0 F0 ps w):Calls Tryz.prog 18 #[.pointer none,.int .i64 p,suV c] w fun e w'=>e=.returned (.int .i64 2)∧St w0 F0 ps w' :=
  (v_PutSudog_nil p c w).mono fun e w' ⟨he,hw⟩=>⟨he,hs.below hw⟩
theorem p_PutGorN {p:Int} {c:Gr} (hs:St w0 F0 ps w):Calls Tryz.prog 20 #[.pointer none,.int .i64 p,goV c] w fun e w'=>e=.returned (.int .i64 2)∧St w0 F0 ps w' :=
  (v_PutGor_nil p c w).mono fun e w' ⟨he,hw⟩=>⟨he,hs.below hw⟩
end
def prNew (n:Int):Option HSt:=if 2≤n∧n≤128 then some (hNew n.toNat) else none
section
variable {w0 w:World} {F0:List Nat} {ps:List Piece} {b ab sb g cb:Nat} {s s':HSt}
theorem q_New {n:Int} (hs:St w0 F0 ps w) (hx:prNew n=some s) :
    Calls Tryz.prog 32 #[.int .i64 n] w fun e w'=>∃ b ab sb g cb,e=.returned (.tuple #[.pointer (some ⟨b,0,none⟩),.int .i64 0])∧St w0 F0 (RHeapP b ab sb g cb s::ps) w':=by
  unfold prNew at hx
  split at hx
  · rename_i h
    injection hx with hx
    subst hx
    obtain ⟨m,rfl⟩:∃ m:Nat,n=m:=⟨n.toNat,by omega⟩
    exact rh_New (by omega) (by omega) hs
  · cases hx
theorem q_Alloc {kind n x e0:Int} (hs:St w0 F0 (RHeapP b ab sb g cb s::ps) w) (hx:pAlloc kind n s=some (x,e0,s')) :
    Calls Tryz.prog 102 #[.pointer (some ⟨b,0,none⟩),.int .i64 kind,.int .i64 n] w fun e w'=>e=.returned (.tuple #[.int .i64 x,.int .i64 e0])∧St w0 F0 (RHeapP b ab sb g cb s'::ps) w':=by
  unfold pAlloc at hx
  simp only [Option.some.injEq,Prod.mk.injEq] at hx
  obtain ⟨rfl,rfl,rfl⟩:=hx
  rw [← aAllocV_eq]
  exact rh_Alloc hs kind n
theorem q_Store {p i x e0:Int} (hs:St w0 F0 (RHeapP b ab sb g cb s::ps) w) (hx:pStore p i x s=some (e0,s')) :
    Calls Tryz.prog 23 #[.pointer (some ⟨b,0,none⟩),.int .i64 p,.int .i64 i,.int .i64 x] w fun e w'=>e=.returned (.int .i64 e0)∧St w0 F0 (RHeapP b ab sb g cb s'::ps) w':=by
  unfold pStore at hx
  split at hx
  · rename_i hw
    simp only [Option.some.injEq,Prod.mk.injEq] at hx
    obtain ⟨rfl,rfl⟩:=hx
    exact rh_Store hs p i x (wdB_spec hw)
  · cases hx
theorem q_Shade {p:Int} (hs:St w0 F0 (RHeapP b ab sb g cb s::ps) w) :
    Calls Tryz.prog 115 #[.pointer (some ⟨b,0,none⟩),.int .i64 p] w fun e w'=>e=.returned (.tuple #[])∧St w0 F0 (RHeapP b ab sb g cb (hShade p s)::ps) w':=rh_Shade hs p
theorem q_is {p:Int} (hs:St w0 F0 (RHeapP b ab sb g cb s::ps) w) :
    Calls Tryz.prog 132 #[.pointer (some ⟨ab,0,none⟩),.int .i64 p] w fun e w'=>e=.returned (.bool (isObj s.a p))∧St w0 F0 (RHeapP b ab sb g cb s::ps) w':=rha_is hs p
theorem q_Kind {p:Int} (hs:St w0 F0 (RHeapP b ab sb g cb s::ps) w) :
    Calls Tryz.prog 104 #[.pointer (some ⟨ab,0,none⟩),.int .i64 p] w fun e w'=>e=.returned (.int .i64 (aKind s.a.c p))∧St w0 F0 (RHeapP b ab sb g cb s::ps) w':=rha_Kind hs p
theorem q_Len {p:Int} (hs:St w0 F0 (RHeapP b ab sb g cb s::ps) w) :
    Calls Tryz.prog 116 #[.pointer (some ⟨ab,0,none⟩),.int .i64 p] w fun e w'=>e=.returned (.int .i64 (aLen s.a.c p))∧St w0 F0 (RHeapP b ab sb g cb s::ps) w':=rha_Len hs p
theorem q_Load {p i x e0:Int} (hs:St w0 F0 (RHeapP b ab sb g cb s::ps) w) (hx:pLoad p i s=some (x,e0)) :
    Calls Tryz.prog 117 #[.pointer (some ⟨ab,0,none⟩),.int .i64 p,.int .i64 i] w fun e w'=>e=.returned (.tuple #[.int .i64 x,.int .i64 e0])∧St w0 F0 (RHeapP b ab sb g cb s::ps) w':=by
  unfold pLoad at hx
  simp only [Option.some.injEq,Prod.mk.injEq] at hx
  obtain ⟨rfl,rfl⟩:=hx
  exact rha_Load hs p i
theorem q_Objects (hs:St w0 F0 (RHeapP b ab sb g cb s::ps) w) :
    Calls Tryz.prog 103 #[.pointer (some ⟨ab,0,none⟩)] w fun e w'=>∃ v,e=.returned v∧St w0 F0 (RHeapP b ab sb g cb s::RowP v (hObjsF s.a)::ps) w' :=
  (rha_Objects hs).mono fun e w' ⟨v,he,h⟩=>⟨v,he,hObjsF_eq s.a ▸ h.pick1⟩
theorem q_Free {p e0:Int} (hs:St w0 F0 (RHeapP b ab sb g cb s::ps) w) (hx:pFree p s=some (e0,s')) :
    Calls Tryz.prog 199 #[.pointer (some ⟨ab,0,none⟩),.int .i64 p] w fun e w'=>e=.returned (.int .i64 e0)∧St w0 F0 (RHeapP b ab sb g cb s'::ps) w':=by
  unfold pFree at hx
  split at hx
  · cases hx
  · rename_i hg
    simp only [Option.some.injEq,Prod.mk.injEq] at hx
    obtain ⟨rfl,rfl⟩:=hx
    exact rha_Free hs p hg
theorem St.rhcol {k:Nat} (hs:St w0 F0 ps w) (hk:ps[k]?=some (RHeapP b ab sb g cb s)) {i:Int} (hi:inR i s.a.c.length=true):w.cell? ⟨cb,i.toNat,none⟩=some (.int .i64 (s.col i)):=by
  obtain ⟨h0,h1⟩:=inR_spec hi
  have:=(hs.rhsee hk).2.2.2.2 i.toNat (by omega)
  rw [this]
  congr 3
  omega
end
def pSeen4 (p:Int) (s:HSt):Option (List Int×Int):=some (if Is s.a p 4 10 then aWords s.a p else [],if Is s.a p 4 10 then 0 else 10)
theorem p_seen4 {w0 w:World} {F0:List Nat} {ps:List Piece} {b ab:Nat} {s:HSt} {p e0:Int} {L:List Int} (hs:St w0 F0 (HeapP b ab s::ps) w) (hx:pSeen4 p s=some (L,e0)) :
    Calls Tryz.prog 118 #[.pointer (some ⟨b,0,none⟩),.int .i64 p,.int .i64 4] w fun e w'=>∃ v,e=.returned (.tuple #[v,.int .i64 e0])∧St w0 F0 (HeapP b ab s::RowP v L::ps) w':=by
  unfold pSeen4 at hx
  simp only [Option.some.injEq,Prod.mk.injEq] at hx
  obtain ⟨rfl,rfl⟩:=hx
  by_cases h:Is s.a p 4 10
  · rw [if_pos h,if_pos h]
    exact (v_seen need_go (by omega) hs h).mono fun e w' ⟨v,he,k⟩=>⟨v,he,k.pick1⟩
  · rw [if_neg h,if_neg h]
    exact (v_seen_no need_go hs h).mono fun e w' ⟨he,k⟩=>⟨_,he,k.nil.pick1⟩
structure Rm where
  buf:Int
  cap:Int
  count:Int
  start:Int
def optE {α R:Type} (x:Option α) (A:Option R) (B:α→Option R):Option R:=match x with | none=>A | some y=>B y
theorem optN {α R:Type} {A:Option R} {B:α→Option R} {r:Option R} (h:optE none A B=r):A=r:=h
theorem optS {α R:Type} {A:Option R} {B:α→Option R} {y:α} {r:Option R} (h:optE (some y) A B=r):B y=r:=h
def sumE {α β R:Type} (x:α ⊕ β) (A:α→Option R) (B:β→Option R):Option R:=match x with | .inl y=>A y | .inr y=>B y
theorem sumL {α β R:Type} {A:α→Option R} {B:β→Option R} {y:α} {r:Option R} (h:sumE (.inl y) A B=r):A y=r:=h
theorem sumR {α β R:Type} {A:α→Option R} {B:β→Option R} {y:β} {r:Option R} (h:sumE (.inr y) A B=r):B y=r:=h
theorem q_Need {w0 w:World} {F0:List Nat} {ps:List Piece} {k n:Int} (hs:St w0 F0 ps w):Calls Tryz.prog 148 #[.int .i64 k,.int .i64 n] w fun e w'=>e=.returned (.tuple #[.int .i64 (rNeed k n),.bool (rKnown k n)])∧St w0 F0 ps w' :=
  (refr_need k n w).mono fun e w' ⟨he,hw⟩=>⟨he,hs.below hw⟩
theorem p_Need {w0 w:World} {F0:List Nat} {ps:List Piece} {k n:Int} (hs:St w0 F0 ps w):Calls Tryz.prog 200 #[.int .i64 k,.int .i64 n] w fun e w'=>e=.returned (.tuple #[.int .i64 (rNeed k n),.bool (rKnown k n)])∧St w0 F0 ps w' :=
  (rec_need k n w).mono fun e w' ⟨he,hw⟩=>⟨he,hs.below hw⟩
structure En where
  head:Int
  tail:Int
def oRmV (T:TypeId):Option Rm→Value
  | none=>.nilIface
  | some q=>.iface T (.agg #[.int .i64 q.buf,.int .i64 q.cap,.int .i64 q.count,.int .i64 q.start])
def oSuV (T:TypeId):Option Su→Value
  | none=>.nilIface
  | some q=>.iface T (.agg #[.int .i64 q.gor,.int .i64 q.chan,.int .i64 q.value,.int .i64 q.next,.int .i64 q.to,.int .i64 q.reg,.int .i64 q.more])
def oSGV (T U:TypeId):Option (Su ⊕ Gr)→Value
  | none=>.nilIface
  | some (.inl q)=>.iface T (.agg #[.int .i64 q.gor,.int .i64 q.chan,.int .i64 q.value,.int .i64 q.next,.int .i64 q.to,.int .i64 q.reg,.int .i64 q.more])
  | some (.inr q)=>.iface U (.agg #[.int .i64 q.id,.int .i64 q.status,.int .i64 q.pc,.int .i64 q.a,.int .i64 q.b,.int .i64 q.c,.int .i64 q.d,.int .i64 q.e,.int .i64 q.f,.int .i64 q.sudogs])
def oMoV (T U:TypeId):Option (Unit ⊕ Int)→Value
  | none=>.nilIface
  | some (.inl _)=>.iface T (.agg #[])
  | some (.inr q)=>.iface U (.int .i64 q)
def oChV (T U V:TypeId):Option (Int ⊕ (Int ⊕ Unit))→Value
  | none=>.nilIface
  | some (.inl q)=>.iface T (.agg #[.int .i64 q])
  | some (.inr (.inl q))=>.iface U (.agg #[.int .i64 q])
  | some (.inr (.inr _))=>.iface V (.agg #[])
def RHeapXP (b ab sb g cb:Nat):Piece:=ExP fun s:HSt=>RHeapP b ab sb g cb s
theorem St.toRX {w0 w:World} {F0:List Nat} {ps:List Piece} {b ab sb g cb:Nat} {s:HSt} (hs:St w0 F0 (RHeapP b ab sb g cb s::ps) w):St w0 F0 (RHeapXP b ab sb g cb::ps) w:=St.ex.2 ⟨s,hs⟩
theorem St.rhA {w0 w:World} {F0:List Nat} {ps:List Piece} {b ab sb g cb k:Nat} (hs:St w0 F0 ps w) (hk:ps[k]?=some (RHeapXP b ab sb g cb)):w.cell? ⟨b,0,none⟩=some (.pointer (some ⟨ab,0,none⟩)):=by
  obtain ⟨G,s,ok,gl,hsep⟩:=hs.get k hk
  obtain ⟨_,h0⟩:=hsep.get 0 rfl
  exact (h0.1.cell 0).trans rfl
end Go.Proofs.YtffnjpapggidlaaGreat
