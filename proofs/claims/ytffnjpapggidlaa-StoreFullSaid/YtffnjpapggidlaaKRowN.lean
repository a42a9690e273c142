/- RowN -/
import Derived.Test.YtffnjpapggidlaaKRowG
import Derived.Test.YtffnjpapggidlaaKPrimV
namespace Go.Proofs.Ytffnjpapggidlaa
open Go.RowKit
set_option linter.unusedVariables false
structure Nd where
  kind:Int
  n:Int
structure Cf where
  spans:Int
  start:Int
  assist:Int
def kNd:RowK Nd where
  T:=74
  m:=2
  bt:=16
  z:=.agg #[.int .i64 0,.int .i64 0]
  cl x:=[.int .i64 x.kind,.int .i64 x.n]
  d:=⟨0,0⟩
  len _:=rfl
  one x u hu:=by simp at hu; rcases hu with rfl | rfl <;> rfl
  flat _:=rfl
  info:=by kernel_rfl
  zc:=rfl
  pos:=by decide
  sm:=by decide
def oKfV (T U:TypeId):Option (Int ⊕ Unit)→Value
  | none=>.nilIface
  | some (.inl q)=>.iface T (.agg #[.int .i64 q])
  | some (.inr _)=>.iface U (.agg #[])
section
variable {w0 w:World} {F0:List Nat} {ps:List Piece}
theorem p_cOf {a:Int} (hs:St w0 F0 ps w):Calls Try.prog 63 #[.int .i64 a] w fun e w'=>e=.returned (.tuple #[.int .i64 (cOf a),.bool (cFits a)])∧St w0 F0 ps w' :=
  (class_Of a w).mono fun e w' ⟨he,hw⟩=>⟨he,hs.below hw⟩
def pNewE (n:Int):Option Unit:=if n<2 ∨ 128<n then some () else none
theorem p_NewE {n:Int} {u:Unit} (hs:St w0 F0 ps w) (hx:pNewE n=some u) :
    Calls Try.prog 68 #[.int .i64 n] w fun e w'=>e=.returned (.tuple #[.pointer none,.int .i64 1])∧St w0 F0 ps w':=by
  unfold pNewE at hx
  split at hx
  · rename_i h
    exact (h_New_no n h w).mono fun e w' ⟨he,hw⟩=>⟨he,hw ▸ hs⟩
  · cases hx
theorem p_cWords {a:Int} (hs:St w0 F0 ps w):Calls Try.prog 57 #[.int .i64 a] w fun e w'=>e=.returned (.int .i64 (cWords a))∧St w0 F0 ps w' :=
  (class_Words a w).mono fun e w' ⟨he,hw⟩=>⟨he,hs.below hw⟩
end
end Go.Proofs.Ytffnjpapggidlaa
