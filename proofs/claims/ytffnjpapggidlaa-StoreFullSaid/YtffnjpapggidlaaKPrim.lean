/- Prim Base -/
import Derived.Test.YtffnjpapggidlaaKEv2
import Derived.Test.YtffnjpapggidlaaKSepHeap
import Derived.Test.YtffnjpapggidlaaKFast
namespace Go.Proofs.Ytffnjpapggidlaa
open Go.RowKit
set_option linter.unusedVariables false
def aAllocP (kind n:Int) (s:ASt):Int:=if aBad kind n then 0 else match aAlloc kind n s with | some (p,_)=>p | none=>0
def aAllocE (kind n:Int) (s:ASt):Int:=if aBad kind n then 1 else match aAlloc kind n s with | some _=>0 | none=>9
theorem aAllocV_eq (kind n:Int) (s:ASt):aAllocV kind n s=.tuple #[.int .i64 (aAllocP kind n s),.int .i64 (aAllocE kind n s)]:=by
  unfold aAllocV aAllocP aAllocE
  split
  · rfl
  · split
    · rename_i h; simp only [h]
    · rename_i h; simp only [h]
def wdB (x:Int):Bool:=decide (-9223372036854775808≤x) && decide (x≤9223372036854775807)
theorem wdB_spec {x:Int} (h:wdB x=true):Wd x:=by
  unfold wdB at h; simp at h; unfold Wd; omega
def pNew (n:Int):Option HSt:=if 2≤n∧n≤128 then some (hNew n.toNat) else none
def pAlloc (kind n:Int) (s:HSt):Option (Int×Int×HSt):=some (aAllocP kind n s.a,aAllocE kind n s.a,hAlloc kind n s)
def pStore (p i x:Int) (s:HSt):Option (Int×HSt):=if wdB x then some (aErr p i s.a,hStore p i x s) else none
def pShade (p:Int) (s:HSt):Option HSt:=if wdB p then some (hShade p s) else none
def pBegin (s:HSt) (L:List Int):Option (Int×HSt):=if L.all wdB then some (hBeginE s,hBegin L s) else none
def pStep (s:HSt):Option (List Gn×HSt):=some (hStepF s)
def pColour (p:Int) (s:HSt):Option Int:=if wdB p then some (hColour s p) else none
def pLoad (p i:Int) (s:HSt):Option (Int×Int):=some (aWord p i s.a,aErr p i s.a)
def pFree (p:Int) (s:HSt):Option (Int×HSt):=if p ∈ s.g then none else some (aFreeE p s.a,{ s with a:=aFreeS p s.a })
section
variable {w0 w:World} {F0:List Nat} {ps:List Piece} {b ab:Nat} {s s':HSt}
theorem p_New {n:Int} (hs:St w0 F0 ps w) (hx:pNew n=some s) :
    Calls Try.prog 68 #[.int .i64 n] w fun e w'=>∃ b ab,e=.returned (.tuple #[.pointer (some ⟨b,0,none⟩),.int .i64 0])∧St w0 F0 (HeapP b ab s::ps) w':=by
  unfold pNew at hx
  split at hx
  · rename_i h
    injection hx with hx
    subst hx
    obtain ⟨m,rfl⟩:∃ m:Nat,n=m:=⟨n.toNat,by omega⟩
    exact h_New (by omega) (by omega) hs
  · cases hx
theorem p_Arena (hs:St w0 F0 (HeapP b ab s::ps) w) :
    Calls Try.prog 45 #[.pointer (some ⟨b,0,none⟩)] w fun e w'=>e=.returned (.pointer (some ⟨ab,0,none⟩))∧St w0 F0 (HeapP b ab s::ps) w' :=
  (h_Arena hs).mono fun e w' ⟨he,hw⟩=>⟨he,hw ▸ hs⟩
theorem p_Phase (hs:St w0 F0 (HeapP b ab s::ps) w) :
    Calls Try.prog 44 #[.pointer (some ⟨b,0,none⟩)] w fun e w'=>e=.returned (.int .i64 s.ph)∧St w0 F0 (HeapP b ab s::ps) w' :=
  (h_Phase hs).mono fun e w' ⟨he,hw⟩=>⟨he,hw ▸ hs⟩
theorem p_Words (hs:St w0 F0 (HeapP b ab s::ps) w) :
    Calls Try.prog 29 #[.pointer (some ⟨ab,0,none⟩)] w fun e w'=>e=.returned (.int .i64 s.a.c.length)∧St w0 F0 (HeapP b ab s::ps) w' :=
  (ha_Words hs).mono fun e w' ⟨he,hw⟩=>⟨he,hw ▸ hs⟩
theorem p_Alloc {kind n x e0:Int} (hs:St w0 F0 (HeapP b ab s::ps) w) (hx:pAlloc kind n s=some (x,e0,s')) :
    Calls Try.prog 90 #[.pointer (some ⟨b,0,none⟩),.int .i64 kind,.int .i64 n] w fun e w'=>e=.returned (.tuple #[.int .i64 x,.int .i64 e0])∧St w0 F0 (HeapP b ab s'::ps) w':=by
  unfold pAlloc at hx
  simp only [Option.some.injEq,Prod.mk.injEq] at hx
  obtain ⟨rfl,rfl,rfl⟩:=hx
  rw [← aAllocV_eq]
  exact h_Alloc hs kind n
theorem p_Load {p i x e0:Int} (hs:St w0 F0 (HeapP b ab s::ps) w) (hx:pLoad p i s=some (x,e0)) :
    Calls Try.prog 50 #[.pointer (some ⟨b,0,none⟩),.int .i64 p,.int .i64 i] w fun e w'=>e=.returned (.tuple #[.int .i64 x,.int .i64 e0])∧St w0 F0 (HeapP b ab s::ps) w':=by
  unfold pLoad at hx
  simp only [Option.some.injEq,Prod.mk.injEq] at hx
  obtain ⟨rfl,rfl⟩:=hx
  exact h_Load hs p i
theorem p_ALoad {p i x e0:Int} (hs:St w0 F0 (HeapP b ab s::ps) w) (hx:pLoad p i s=some (x,e0)) :
    Calls Try.prog 34 #[.pointer (some ⟨ab,0,none⟩),.int .i64 p,.int .i64 i] w fun e w'=>e=.returned (.tuple #[.int .i64 x,.int .i64 e0])∧St w0 F0 (HeapP b ab s::ps) w':=by
  unfold pLoad at hx
  simp only [Option.some.injEq,Prod.mk.injEq] at hx
  obtain ⟨rfl,rfl⟩:=hx
  exact ha_Load hs p i
theorem p_Store {p i x e0:Int} (hs:St w0 F0 (HeapP b ab s::ps) w) (hx:pStore p i x s=some (e0,s')) :
    Calls Try.prog 48 #[.pointer (some ⟨b,0,none⟩),.int .i64 p,.int .i64 i,.int .i64 x] w fun e w'=>e=.returned (.int .i64 e0)∧St w0 F0 (HeapP b ab s'::ps) w':=by
  unfold pStore at hx
  split at hx
  · rename_i hw
    simp only [Option.some.injEq,Prod.mk.injEq] at hx
    obtain ⟨rfl,rfl⟩:=hx
    exact h_Store hs p i x (wdB_spec hw)
  · cases hx
theorem p_Shade {p:Int} (hs:St w0 F0 (HeapP b ab s::ps) w) (hx:pShade p s=some s') :
    Calls Try.prog 79 #[.pointer (some ⟨b,0,none⟩),.int .i64 p] w fun e w'=>e=.returned (.tuple #[])∧St w0 F0 (HeapP b ab s'::ps) w':=by
  unfold pShade at hx
  split at hx
  · rename_i hw
    injection hx with hx
    subst hx
    exact h_Shade hs p (wdB_spec hw)
  · cases hx
theorem p_Begin {v:Value} {L:List Int} {e0:Int} (hs:St w0 F0 (HeapP b ab s::RowP v L::ps) w) (hx:pBegin s L=some (e0,s')) :
    Calls Try.prog 73 #[.pointer (some ⟨b,0,none⟩),v] w fun e w'=>e=.returned (.int .i64 e0)∧St w0 F0 (HeapP b ab s'::RowP v L::ps) w':=by
  unfold pBegin at hx
  split at hx
  · rename_i hw
    simp only [Option.some.injEq,Prod.mk.injEq] at hx
    obtain ⟨rfl,rfl⟩:=hx
    exact h_Begin hs fun x hx=>wdB_spec (List.all_eq_true.1 hw x hx)
  · cases hx
theorem p_Step {L:List Gn} (hs:St w0 F0 (HeapP b ab s::ps) w) (hx:pStep s=some (L,s')) :
    Calls Try.prog 77 #[.pointer (some ⟨b,0,none⟩)] w fun e w'=>∃ v,e=.returned v∧St w0 F0 (HeapP b ab s'::GonesP v L::ps) w':=by
  unfold pStep at hx
  injection hx with hx
  refine (h_Step hs).mono fun e w' ⟨v,he,h⟩=>⟨v,he,?_⟩
  rw [hStepF_eq,hx] at h
  exact h.pick1
theorem p_Colour {p c:Int} (hs:St w0 F0 (HeapP b ab s::ps) w) (hx:pColour p s=some c) :
    Calls Try.prog 96 #[.pointer (some ⟨b,0,none⟩),.int .i64 p] w fun e w'=>e=.returned (.int .i64 c)∧St w0 F0 (HeapP b ab s::ps) w':=by
  unfold pColour at hx
  split at hx
  · rename_i hw
    injection hx with hx
    subst hx
    exact h_Colour hs p (wdB_spec hw)
  · cases hx
theorem p_Kind {p:Int} (hs:St w0 F0 (HeapP b ab s::ps) w) :
    Calls Try.prog 30 #[.pointer (some ⟨ab,0,none⟩),.int .i64 p] w fun e w'=>e=.returned (.int .i64 (aKind s.a.c p))∧St w0 F0 (HeapP b ab s::ps) w':=ha_Kind hs p
theorem p_Len {p:Int} (hs:St w0 F0 (HeapP b ab s::ps) w) :
    Calls Try.prog 32 #[.pointer (some ⟨ab,0,none⟩),.int .i64 p] w fun e w'=>e=.returned (.int .i64 (aLen s.a.c p))∧St w0 F0 (HeapP b ab s::ps) w':=ha_Len hs p
theorem p_Used (hs:St w0 F0 (HeapP b ab s::ps) w) :
    Calls Try.prog 27 #[.pointer (some ⟨ab,0,none⟩)] w fun e w'=>e=.returned (.int .i64 (sWords s.a.l))∧St w0 F0 (HeapP b ab s::ps) w':=ha_Used hs
theorem p_Objects (hs:St w0 F0 (HeapP b ab s::ps) w) :
    Calls Try.prog 26 #[.pointer (some ⟨ab,0,none⟩)] w fun e w'=>∃ v,e=.returned v∧St w0 F0 (HeapP b ab s::RowP v (hObjsF s.a)::ps) w' :=
  (ha_Objects hs).mono fun e w' ⟨v,he,h⟩=>⟨v,he,hObjsF_eq s.a ▸ h.pick1⟩
theorem p_Free {p e0:Int} (hs:St w0 F0 (HeapP b ab s::ps) w) (hx:pFree p s=some (e0,s')) :
    Calls Try.prog 19 #[.pointer (some ⟨ab,0,none⟩),.int .i64 p] w fun e w'=>e=.returned (.int .i64 e0)∧St w0 F0 (HeapP b ab s'::ps) w':=by
  unfold pFree at hx
  split at hx
  · cases hx
  · rename_i hg
    simp only [Option.some.injEq,Prod.mk.injEq] at hx
    obtain ⟨rfl,rfl⟩:=hx
    exact ha_Free hs p hg
end
def pAt (a:Int):Option Int:=if wdB a then some (vAt a) else none
def pNum (a:Int):Option Int:=if wdB a then some (vNum a) else none
section
variable {w0 w:World} {F0:List Nat} {ps:List Piece}
theorem p_vIsPtr {a:Int} (hs:St w0 F0 ps w):Calls Try.prog 78 #[.int .i64 a] w fun e w'=>e=.returned (.bool (vIsPtr a))∧St w0 F0 ps w' :=
  (value_IsPtr a w).mono fun e w' ⟨he,hw⟩=>⟨he,hw ▸ hs⟩
theorem p_vAt {a r:Int} (hs:St w0 F0 ps w) (hx:pAt a=some r):Calls Try.prog 80 #[.int .i64 a] w fun e w'=>e=.returned (.int .i64 r)∧St w0 F0 ps w':=by
  unfold pAt at hx
  split at hx
  · rename_i h; injection hx with hx; subst hx
    exact (value_At a (wdB_spec h) w).mono fun e w' ⟨he,hw⟩=>⟨he,hw ▸ hs⟩
  · cases hx
theorem p_rInt {a:Int} (hs:St w0 F0 ps w):Calls Try.prog 49 #[.int .i64 a] w fun e w'=>e=.returned (.int .i64 (wrap64 (a * 2)))∧St w0 F0 ps w' :=
  (ref_Int a w).mono fun e w' ⟨he,hw⟩=>⟨he,hw ▸ hs⟩
end
section
variable {w0 w:World} {F0:List Nat} {ps:List Piece} {b ab:Nat} {s s':HSt}
theorem p_BeginS {g n c k:Nat} {L:List Int} {e0:Int} (hk:k≤L.length) (hs:St w0 F0 (HeapP b ab s::RowP (.slice (some ⟨g,0,none⟩) n c) L::ps) w) (hx:pBegin s (L.take k)=some (e0,s')) :
    Calls Try.prog 73 #[.pointer (some ⟨b,0,none⟩),.slice (some ⟨g,0,none⟩) k c] w fun e w'=>e=.returned (.int .i64 e0)∧St w0 F0 (HeapP b ab s'::RowP (.slice (some ⟨g,0,none⟩) n c) L::ps) w':=by
  unfold pBegin at hx
  split at hx
  · rename_i hw
    simp only [Option.some.injEq,Prod.mk.injEq] at hx
    obtain ⟨rfl,rfl⟩:=hx
    exact h_BeginR (sees_take k hk) hs fun x hx=>wdB_spec (List.all_eq_true.1 hw x hx)
  · cases hx
end
end Go.Proofs.Ytffnjpapggidlaa
namespace Go.Proofs.Ytffnjpapggidlaa
open Go.RowKit
set_option linter.unusedVariables false
theorem wr_t (x:Int) (h:0≤x) (h2:x<1000000):IntKind.i64.wrap x=x:=by rw [IntKind.wrap_i64]; omega
theorem wd_yes {x:Int} (h:Wd x):wdB x=true:=by unfold wdB; unfold Wd at h; simp; omega
theorem atI_n {L:List Int} {j:Nat} (h:j<L.length):atI L (j:Int)=L[j]:=by unfold atI; rw [List.getD_eq_getElem?_getD,Int.toNat_natCast,List.getElem?_eq_getElem h]; rfl
theorem inR_n {j n:Nat} (h:j<n):inR (j:Int) n=true:=by simp [inR]; omega
theorem lt_yes {j n:Nat} (h:j<n):decide ((j:Int)<(n:Int))=true:=by rw [decide_eq_true_eq]; omega
theorem lt_no {j n:Nat} (h:¬ j<n):¬ (decide ((j:Int)<(n:Int))=true):=by rw [decide_eq_true_eq]; omega
theorem bind1_y {α R:Type} (x:α) (f:α→Option R):bind1 (some x) f=f x:=rfl
theorem bind2_y {α β R:Type} (x:α) (y:β) (f:α→β→Option R):bind2 (some (x,y)) f=f x y:=rfl
theorem bind3_y {α β γ R:Type} (x:α) (y:β) (z:γ) (f:α→β→γ→Option R):bind3 (some (x,y,z)) f=f x y z:=rfl
theorem w64_wd (x:Int):Wd (wrap64 x):=by unfold wrap64 Wd; omega
theorem w64_yes (x:Int):wdB (wrap64 x)=true:=wd_yes (w64_wd x)
end Go.Proofs.Ytffnjpapggidlaa
