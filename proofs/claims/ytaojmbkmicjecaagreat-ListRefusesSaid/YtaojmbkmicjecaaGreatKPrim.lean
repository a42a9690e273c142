/- Prim -/
import Derived.Test.YtaojmbkmicjecaaGreatKEv2
import Derived.Test.YtaojmbkmicjecaaGreatKSepHeap
import Derived.Test.YtaojmbkmicjecaaGreatKFast
namespace Go.Proofs.YtaojmbkmicjecaaGreat
open Go.RowKit
set_option linter.unusedVariables false
def aAllocP (kind n:Int) (s:ASt):Int:=if aBad kind n then 0 else match aAlloc kind n s with | some (p,_)=>p | none=>0
def aAllocE (kind n:Int) (s:ASt):Int:=if aBad kind n then 1 else match aAlloc kind n s with | some _=>0 | none=>9
theorem aAllocV_eq (kind n:Int) (s:ASt):aAllocV kind n s=.tuple #[.int .i64 (aAllocP kind n s),.int .i64 (aAllocE kind n s)]:=by
  unfold aAllocV aAllocP aAllocE
  split
  · rfl
  · split
    · rename_i h; simp only [h]
    · rename_i h; simp only [h]
def wdB (x:Int):Bool:=decide (-9223372036854775808≤x) && decide (x≤9223372036854775807)
theorem wdB_spec {x:Int} (h:wdB x=true):Wd x:=by
  unfold wdB at h; simp at h; unfold Wd; omega
def pNew (n:Int):Option HSt:=if 2≤n∧n≤128 then some (hNew n.toNat) else none
def pAlloc (kind n:Int) (s:HSt):Option (Int×Int×HSt):=some (aAllocP kind n s.a,aAllocE kind n s.a,hAlloc kind n s)
def pStore (p i x:Int) (s:HSt):Option (Int×HSt):=if wdB x then some (aErr p i s.a,hStore p i x s) else none
def pLoad (p i:Int) (s:HSt):Option (Int×Int):=some (aWord p i s.a,aErr p i s.a)
section
variable {w0 w:World} {F0:List Nat} {ps:List Piece} {b ab:Nat} {s s':HSt}
theorem p_New {n:Int} (hs:St w0 F0 ps w) (hx:pNew n=some s) :
    Calls Tryz.prog 58 #[.int .i64 n] w fun e w'=>∃ b ab,e=.returned (.tuple #[.pointer (some ⟨b,0,none⟩),.int .i64 0])∧St w0 F0 (HeapP b ab s::ps) w':=by
  unfold pNew at hx
  split at hx
  · rename_i h
    injection hx with hx
    subst hx
    obtain ⟨m,rfl⟩:∃ m:Nat,n=m:=⟨n.toNat,by omega⟩
    exact h_New (by omega) (by omega) hs
  · cases hx
theorem p_Arena (hs:St w0 F0 (HeapP b ab s::ps) w) :
    Calls Tryz.prog 60 #[.pointer (some ⟨b,0,none⟩)] w fun e w'=>e=.returned (.pointer (some ⟨ab,0,none⟩))∧St w0 F0 (HeapP b ab s::ps) w' :=
  (h_Arena hs).mono fun e w' ⟨he,hw⟩=>⟨he,hw ▸ hs⟩
theorem p_Alloc {kind n x e0:Int} (hs:St w0 F0 (HeapP b ab s::ps) w) (hx:pAlloc kind n s=some (x,e0,s')) :
    Calls Tryz.prog 89 #[.pointer (some ⟨b,0,none⟩),.int .i64 kind,.int .i64 n] w fun e w'=>e=.returned (.tuple #[.int .i64 x,.int .i64 e0])∧St w0 F0 (HeapP b ab s'::ps) w':=by
  unfold pAlloc at hx
  simp only [Option.some.injEq,Prod.mk.injEq] at hx
  obtain ⟨rfl,rfl,rfl⟩:=hx
  rw [← aAllocV_eq]
  exact h_Alloc hs kind n
end
section
variable {w0 w:World} {F0:List Nat} {ps:List Piece}
theorem p_rInt {a:Int} (hs:St w0 F0 ps w):Calls Tryz.prog 112 #[.int .i64 a] w fun e w'=>e=.returned (.int .i64 (wrap64 (a * 2)))∧St w0 F0 ps w' :=
  (ref_Int a w).mono fun e w' ⟨he,hw⟩=>⟨he,hw ▸ hs⟩
theorem p_rPtr {a:Int} (hs:St w0 F0 ps w):Calls Tryz.prog 151 #[.int .i64 a] w fun e w'=>e=.returned (.int .i64 (wrap64 (wrap64 (a * 2)+1)))∧St w0 F0 ps w' :=
  (ref_Ptr a w).mono fun e w' ⟨he,hw⟩=>⟨he,hw ▸ hs⟩
end
section
variable {w0 w:World} {F0:List Nat} {ps:List Piece} {b ab:Nat} {s s':HSt}
end
end Go.Proofs.YtaojmbkmicjecaaGreat
