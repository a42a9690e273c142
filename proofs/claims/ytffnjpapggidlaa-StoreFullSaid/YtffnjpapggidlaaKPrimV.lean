/- PrimV -/
import Derived.Test.YtffnjpapggidlaaKPrim
import Derived.Test.YtffnjpapggidlaaKEv2
import Derived.Test.YtffnjpapggidlaaKView
import Derived.Test.YtffnjpapggidlaaKStepAt
import Derived.Test.YtffnjpapggidlaaKRHeap
namespace Go.Proofs.Ytffnjpapggidlaa
open Go.RowKit
set_option linter.unusedVariables false
def pChan (p:Int) (s:HSt):Option (Ch×Int):=some (if Is s.a p 1 9 then chOf (aWords s.a p) else ch0,if Is s.a p 1 9 then 0 else 10)
def pSudog (p:Int) (s:HSt):Option (Su×Int):=some (if Is s.a p 3 7 then suOf (aWords s.a p) else su0,if Is s.a p 3 7 then 0 else 10)
def pPutChan (p:Int) (c:Ch) (s:HSt):Option (Int×HSt):=some (putE s.a p 1 9,hPut p 1 9 (chW c) s)
def pPutSudog (p:Int) (c:Su) (s:HSt):Option (Int×HSt):=if wdB c.value then some (putE s.a p 3 7,hPut p 3 7 (suW c) s) else none
def pPutGor (p:Int) (c:Gr) (s:HSt):Option (Int×HSt):=if wdB c.a && wdB c.b && wdB c.c && wdB c.d && wdB c.e && wdB c.f then some (putE s.a p 4 10,hPut p 4 10 (goW c) s) else none
section
variable {w0 w:World} {F0:List Nat} {ps:List Piece} {b ab:Nat} {s s':HSt}
end
def prNew (n:Int):Option HSt:=if 2≤n∧n≤128 then some (hNew n.toNat) else none
section
variable {w0 w:World} {F0:List Nat} {ps:List Piece} {b ab sb g cb:Nat} {s s':HSt}
end
def pSeen4 (p:Int) (s:HSt):Option (List Int×Int):=some (if Is s.a p 4 10 then aWords s.a p else [],if Is s.a p 4 10 then 0 else 10)
structure Rm where
  buf:Int
  cap:Int
  count:Int
  start:Int
def optE {α R:Type} (x:Option α) (A:Option R) (B:α→Option R):Option R:=match x with | none=>A | some y=>B y
theorem optN {α R:Type} {A:Option R} {B:α→Option R} {r:Option R} (h:optE none A B=r):A=r:=h
theorem optS {α R:Type} {A:Option R} {B:α→Option R} {y:α} {r:Option R} (h:optE (some y) A B=r):B y=r:=h
def sumE {α β R:Type} (x:α ⊕ β) (A:α→Option R) (B:β→Option R):Option R:=match x with | .inl y=>A y | .inr y=>B y
theorem sumL {α β R:Type} {A:α→Option R} {B:β→Option R} {y:α} {r:Option R} (h:sumE (.inl y) A B=r):A y=r:=h
theorem sumR {α β R:Type} {A:α→Option R} {B:β→Option R} {y:β} {r:Option R} (h:sumE (.inr y) A B=r):B y=r:=h
theorem q_Need {w0 w:World} {F0:List Nat} {ps:List Piece} {k n:Int} (hs:St w0 F0 ps w):Calls Try.prog 40 #[.int .i64 k,.int .i64 n] w fun e w'=>e=.returned (.tuple #[.int .i64 (rNeed k n),.bool (rKnown k n)])∧St w0 F0 ps w' :=
  (refr_need k n w).mono fun e w' ⟨he,hw⟩=>⟨he,hs.below hw⟩
theorem p_Need {w0 w:World} {F0:List Nat} {ps:List Piece} {k n:Int} (hs:St w0 F0 ps w):Calls Try.prog 89 #[.int .i64 k,.int .i64 n] w fun e w'=>e=.returned (.tuple #[.int .i64 (rNeed k n),.bool (rKnown k n)])∧St w0 F0 ps w' :=
  (rec_need k n w).mono fun e w' ⟨he,hw⟩=>⟨he,hs.below hw⟩
structure En where
  head:Int
  tail:Int
def oRmV (T:TypeId):Option Rm→Value
  | none=>.nilIface
  | some q=>.iface T (.agg #[.int .i64 q.buf,.int .i64 q.cap,.int .i64 q.count,.int .i64 q.start])
def oSuV (T:TypeId):Option Su→Value
  | none=>.nilIface
  | some q=>.iface T (.agg #[.int .i64 q.gor,.int .i64 q.chan,.int .i64 q.value,.int .i64 q.next,.int .i64 q.to,.int .i64 q.reg,.int .i64 q.more])
def oSGV (T U:TypeId):Option (Su ⊕ Gr)→Value
  | none=>.nilIface
  | some (.inl q)=>.iface T (.agg #[.int .i64 q.gor,.int .i64 q.chan,.int .i64 q.value,.int .i64 q.next,.int .i64 q.to,.int .i64 q.reg,.int .i64 q.more])
  | some (.inr q)=>.iface U (.agg #[.int .i64 q.id,.int .i64 q.status,.int .i64 q.pc,.int .i64 q.a,.int .i64 q.b,.int .i64 q.c,.int .i64 q.d,.int .i64 q.e,.int .i64 q.f,.int .i64 q.sudogs])
def oMoV (T U:TypeId):Option (Unit ⊕ Int)→Value
  | none=>.nilIface
  | some (.inl _)=>.iface T (.agg #[])
  | some (.inr q)=>.iface U (.int .i64 q)
def oChV (T U V:TypeId):Option (Int ⊕ (Int ⊕ Unit))→Value
  | none=>.nilIface
  | some (.inl q)=>.iface T (.agg #[.int .i64 q])
  | some (.inr (.inl q))=>.iface U (.agg #[.int .i64 q])
  | some (.inr (.inr _))=>.iface V (.agg #[])
end Go.Proofs.Ytffnjpapggidlaa
