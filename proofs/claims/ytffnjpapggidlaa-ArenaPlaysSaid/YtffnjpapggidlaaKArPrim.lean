/- ArPrim -/
import Derived.Test.YtffnjpapggidlaaKPrim
import Derived.Test.YtffnjpapggidlaaKEv2
import Derived.Test.YtffnjpapggidlaaKRefArena3
namespace Go.Proofs.Ytffnjpapggidlaa
open Go.RowKit
set_option linter.unusedVariables false
def rNew (n:Int):Option ASt:=if 2≤n∧n≤128 then some (aNew n.toNat) else none
def rAlloc (kind n:Int) (s:ASt):Option (Int×Int×ASt):=some (aAllocP kind n s,aAllocE kind n s,aAllocS kind n s)
def rFree (p:Int) (s:ASt):Option (Int×ASt):=some (aFreeE p s,aFreeS p s)
def rStore (p i x:Int) (s:ASt):Option (Int×ASt):=some (aErr p i s,aStoreS p i x s)
def rLoad (p i:Int) (s:ASt):Option (Int×Int):=some (aWord p i s,aErr p i s)
section
variable {w0 w:World} {F0:List Nat} {ps:List Piece} {b sb g:Nat} {s s':ASt}
theorem r_New {n:Int} (hs:St w0 F0 ps w) (hx:rNew n=some s) :
    Calls Try.prog 15 #[.int .i64 n] w fun e w'=>∃ b,e=.returned (.tuple #[.pointer (some ⟨b,0,none⟩),.int .i64 0])∧St w0 F0 (ArenaP b s::ps) w':=by
  unfold rNew at hx
  split at hx
  · injection hx with hx
    subst hx
    obtain ⟨m,rfl⟩:∃ m:Nat,n=m:=⟨n.toNat,by omega⟩
    exact a_New hs m (by omega) (by omega)
  · cases hx
theorem rr_New {n:Int} (hs:St w0 F0 ps w) (hx:rNew n=some s) :
    Calls Try.prog 16 #[.int .i64 n] w fun e w'=>∃ b sb g,e=.returned (.tuple #[.pointer (some ⟨b,0,none⟩),.int .i64 0])∧St w0 F0 (RArenaP b sb g s::ps) w':=by
  unfold rNew at hx
  split at hx
  · injection hx with hx
    subst hx
    obtain ⟨m,rfl⟩:∃ m:Nat,n=m:=⟨n.toNat,by omega⟩
    exact ra_New (by omega) (by omega) hs
  · cases hx
theorem r_Alloc {kind n x e0:Int} (hs:St w0 F0 (ArenaP b s::ps) w) (hx:rAlloc kind n s=some (x,e0,s')) :
    Calls Try.prog 23 #[.pointer (some ⟨b,0,none⟩),.int .i64 kind,.int .i64 n] w fun e w'=>e=.returned (.tuple #[.int .i64 x,.int .i64 e0])∧St w0 F0 (ArenaP b s'::ps) w':=by
  unfold rAlloc at hx
  simp only [Option.some.injEq,Prod.mk.injEq] at hx
  obtain ⟨rfl,rfl,rfl⟩:=hx
  rw [← aAllocV_eq]
  exact a_Alloc hs kind n
theorem rr_Alloc {kind n x e0:Int} (hs:St w0 F0 (RArenaP b sb g s::ps) w) (hx:rAlloc kind n s=some (x,e0,s')) :
    Calls Try.prog 24 #[.pointer (some ⟨b,0,none⟩),.int .i64 kind,.int .i64 n] w fun e w'=>e=.returned (.tuple #[.int .i64 x,.int .i64 e0])∧St w0 F0 (RArenaP b sb g s'::ps) w':=by
  unfold rAlloc at hx
  simp only [Option.some.injEq,Prod.mk.injEq] at hx
  obtain ⟨rfl,rfl,rfl⟩:=hx
  rw [← aAllocV_eq]
  exact ra_Alloc hs kind n
theorem r_Free {p e0:Int} (hs:St w0 F0 (ArenaP b s::ps) w) (hx:rFree p s=some (e0,s')) :
    Calls Try.prog 19 #[.pointer (some ⟨b,0,none⟩),.int .i64 p] w fun e w'=>e=.returned (.int .i64 e0)∧St w0 F0 (ArenaP b s'::ps) w':=by
  unfold rFree at hx
  simp only [Option.some.injEq,Prod.mk.injEq] at hx
  obtain ⟨rfl,rfl⟩:=hx
  exact a_Free hs p
theorem rr_Free {p e0:Int} (hs:St w0 F0 (RArenaP b sb g s::ps) w) (hx:rFree p s=some (e0,s')) :
    Calls Try.prog 20 #[.pointer (some ⟨b,0,none⟩),.int .i64 p] w fun e w'=>e=.returned (.int .i64 e0)∧St w0 F0 (RArenaP b sb g s'::ps) w':=by
  unfold rFree at hx
  simp only [Option.some.injEq,Prod.mk.injEq] at hx
  obtain ⟨rfl,rfl⟩:=hx
  exact ra_Free hs p
theorem r_Store {p i x e0:Int} (hs:St w0 F0 (ArenaP b s::ps) w) (hx:rStore p i x s=some (e0,s')) :
    Calls Try.prog 21 #[.pointer (some ⟨b,0,none⟩),.int .i64 p,.int .i64 i,.int .i64 x] w fun e w'=>e=.returned (.int .i64 e0)∧St w0 F0 (ArenaP b s'::ps) w':=by
  unfold rStore at hx
  simp only [Option.some.injEq,Prod.mk.injEq] at hx
  obtain ⟨rfl,rfl⟩:=hx
  exact a_Store hs p i x
theorem rr_Store {p i x e0:Int} (hs:St w0 F0 (RArenaP b sb g s::ps) w) (hx:rStore p i x s=some (e0,s')) :
    Calls Try.prog 22 #[.pointer (some ⟨b,0,none⟩),.int .i64 p,.int .i64 i,.int .i64 x] w fun e w'=>e=.returned (.int .i64 e0)∧St w0 F0 (RArenaP b sb g s'::ps) w':=by
  unfold rStore at hx
  simp only [Option.some.injEq,Prod.mk.injEq] at hx
  obtain ⟨rfl,rfl⟩:=hx
  exact ra_Store hs p i x
theorem r_Load {p i x e0:Int} (hs:St w0 F0 (ArenaP b s::ps) w) (hx:rLoad p i s=some (x,e0)) :
    Calls Try.prog 34 #[.pointer (some ⟨b,0,none⟩),.int .i64 p,.int .i64 i] w fun e w'=>e=.returned (.tuple #[.int .i64 x,.int .i64 e0])∧St w0 F0 (ArenaP b s::ps) w':=by
  unfold rLoad at hx
  simp only [Option.some.injEq,Prod.mk.injEq] at hx
  obtain ⟨rfl,rfl⟩:=hx
  exact a_Load hs p i
theorem rr_Load {p i x e0:Int} (hs:St w0 F0 (RArenaP b sb g s::ps) w) (hx:rLoad p i s=some (x,e0)) :
    Calls Try.prog 35 #[.pointer (some ⟨b,0,none⟩),.int .i64 p,.int .i64 i] w fun e w'=>e=.returned (.tuple #[.int .i64 x,.int .i64 e0])∧St w0 F0 (RArenaP b sb g s::ps) w':=by
  unfold rLoad at hx
  simp only [Option.some.injEq,Prod.mk.injEq] at hx
  obtain ⟨rfl,rfl⟩:=hx
  exact ra_Load hs p i
theorem r_Kind {p:Int} (hs:St w0 F0 (ArenaP b s::ps) w) :
    Calls Try.prog 30 #[.pointer (some ⟨b,0,none⟩),.int .i64 p] w fun e w'=>e=.returned (.int .i64 (aKind s.c p))∧St w0 F0 (ArenaP b s::ps) w':=a_Kind hs p
theorem rr_Kind {p:Int} (hs:St w0 F0 (RArenaP b sb g s::ps) w) :
    Calls Try.prog 31 #[.pointer (some ⟨b,0,none⟩),.int .i64 p] w fun e w'=>e=.returned (.int .i64 (aKind s.c p))∧St w0 F0 (RArenaP b sb g s::ps) w':=ra_Kind hs p
theorem r_Len {p:Int} (hs:St w0 F0 (ArenaP b s::ps) w) :
    Calls Try.prog 32 #[.pointer (some ⟨b,0,none⟩),.int .i64 p] w fun e w'=>e=.returned (.int .i64 (aLen s.c p))∧St w0 F0 (ArenaP b s::ps) w':=a_Len hs p
theorem rr_Len {p:Int} (hs:St w0 F0 (RArenaP b sb g s::ps) w) :
    Calls Try.prog 33 #[.pointer (some ⟨b,0,none⟩),.int .i64 p] w fun e w'=>e=.returned (.int .i64 (aLen s.c p))∧St w0 F0 (RArenaP b sb g s::ps) w':=ra_Len hs p
theorem r_Used (hs:St w0 F0 (ArenaP b s::ps) w) :
    Calls Try.prog 27 #[.pointer (some ⟨b,0,none⟩)] w fun e w'=>e=.returned (.int .i64 (sWords s.l))∧St w0 F0 (ArenaP b s::ps) w':=a_Used hs
theorem r_Words (hs:St w0 F0 (ArenaP b s::ps) w) :
    Calls Try.prog 29 #[.pointer (some ⟨b,0,none⟩)] w fun e w'=>e=.returned (.int .i64 (s.c.length:Int))∧St w0 F0 (ArenaP b s::ps) w' :=
  (a_Words hs).mono fun e w' ⟨he,hw⟩=>⟨he,hw ▸ hs⟩
theorem r_Objects (hs:St w0 F0 (ArenaP b s::ps) w) :
    Calls Try.prog 26 #[.pointer (some ⟨b,0,none⟩)] w fun e w'=>∃ v,e=.returned v∧St w0 F0 (ArenaP b s::RowP v (hObjsF s)::ps) w' :=
  (a_Objects hs).mono fun e w' ⟨v,he,h⟩=>⟨v,he,hObjsF_eq s ▸ h.pick1⟩
theorem rr_Objects (hs:St w0 F0 (RArenaP b sb g s::ps) w) :
    Calls Try.prog 18 #[.pointer (some ⟨b,0,none⟩)] w fun e w'=>∃ v,e=.returned v∧St w0 F0 (RArenaP b sb g s::RowP v (hObjsF s)::ps) w' :=
  (ra_Objects hs).mono fun e w' ⟨v,he,h⟩=>⟨v,he,hObjsF_eq s ▸ h.pick1⟩
theorem rr_SWords (hs:St w0 F0 (RArenaP b sb g s::ps) w) :
    Calls Try.prog 28 #[.pointer (some ⟨sb,0,none⟩)] w fun e w'=>e=.returned (.int .i64 (sWords s.l))∧St w0 F0 (RArenaP b sb g s::ps) w':=by
  obtain ⟨W,hW,hok,_,_,h1⟩:=hs.openR
  exact (rs_Words h1.pick1).mono fun e w' ⟨he,k⟩=>⟨he,St.closeR k.pick1 hW hok⟩
theorem St.rarsee {k:Nat} (hs:St w0 F0 ps w) (hk:ps[k]?=some (RArenaP b sb g s)):w.cell? ⟨b,0,none⟩=some (.pointer (some ⟨sb,0,none⟩))∧w.cell? ⟨b,1,none⟩=some (.slice (some ⟨g,0,none⟩) s.c.length s.c.length):=by
  obtain ⟨G,W,_,h2⟩:=hs.get k hk
  obtain ⟨_,h3⟩:=h2.get 0 rfl
  exact ⟨(h3.1.cell 0).trans rfl,(h3.1.cell 1).trans rfl⟩
end
end Go.Proofs.Ytffnjpapggidlaa
