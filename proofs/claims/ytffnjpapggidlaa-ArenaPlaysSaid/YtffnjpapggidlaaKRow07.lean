/- Row07 -/
import Derived.Test.YtffnjpapggidlaaKAppM
namespace Go.Proofs.Ytffnjpapggidlaa
open Go.RowKit
structure Op07 where
  kind:Int
  of:Int
  n:Int
  at':Int
  i:Int
  w:Int
def kOp07:RowK Op07 where
  T:=48
  m:=6
  bt:=48
  z:=.agg #[.int .i64 0,.int .i64 0,.int .i64 0,.int .i64 0,.int .i64 0,.int .i64 0]
  cl x:=[.int .i64 x.kind,.int .i64 x.of,.int .i64 x.n,.int .i64 x.at',.int .i64 x.i,.int .i64 x.w]
  d:=⟨0,0,0,0,0,0⟩
  len _:=rfl
  one x u hu:=by simp at hu; rcases hu with rfl | rfl | rfl | rfl | rfl | rfl <;> rfl
  flat _:=rfl
  info:=by kernel_rfl
  zc:=rfl
  pos:=by decide
  sm:=by decide
end Go.Proofs.Ytffnjpapggidlaa
