/- Plain Value -/
import Derived.WalkKit
import Derived.Test.YtffnjpapggidlaaRows
import Derived.WalkSpells
import Derived.WalkLawsBesides
namespace Go.Proofs.Ytffnjpapggidlaa
open Go.RowKit
theorem and_one_i64 (a:Int):bits BinOp.and IntKind.i64 a 1=a % 2:=by
  have h:(BitVec.ofInt 64 a &&& BitVec.ofInt 64 1).toNat=(a % 2).toNat:=by
    rw [BitVec.toNat_and]
    have h1:(BitVec.ofInt 64 1).toNat=1:=by decide
    rw [h1,Nat.and_one_is_mod,BitVec.toNat_ofInt]
    omega
  show IntKind.i64.wrap ((BitVec.ofInt 64 a &&& BitVec.ofInt 64 1).toNat:Int)=a % 2
  rw [h,IntWalk.i64_in _ (by omega)]
  omega
theorem odd_of (a:Int) (h:a % 2=1):(bits BinOp.and IntKind.i64 a 1 != 0)=true:=by rw [and_one_i64,h]; decide
theorem odd_of' (a:Int) (h:a % 2=1):(bits BinOp.and IntKind.i64 a 1 == 1)=true:=by rw [and_one_i64,h]; decide
theorem even_of (a:Int) (h:a % 2=0):(bits BinOp.and IntKind.i64 a 1 != 0)=false:=by rw [and_one_i64,h]; decide
theorem even_of' (a:Int) (h:a % 2=0):(bits BinOp.and IntKind.i64 a 1 == 1)=false:=by rw [and_one_i64,h]; decide
theorem par (a:Int):a % 2=0 ∨ a % 2=1:=by omega
def Wd (a:Int):Prop:=-9223372036854775808≤a∧a≤9223372036854775807
theorem wd_of_wf {a:Int} (h:(Lit.int .i64 a).wf=true):Wd a:=by
  simp only [Lit.wf,IntKind.min,IntKind.max,IntKind.signed,IntKind.bits,Bool.and_eq_true,decide_eq_true_eq,if_true] at h
  unfold Wd; omega
theorem half_odd (a:Int) (h:a % 2=1) (hw:Wd a):wrap64 ((wrap64 (a - 1)).tdiv 2)=(a - 1) / 2:=by
  unfold Wd at hw
  have e:wrap64 (a - 1)=a - 1:=IntWalk.wrap64_in _ (by omega)
  rw [e]
  have e2:(a - 1).tdiv 2=(a - 1) / 2:=Int.tdiv_eq_ediv_of_dvd (by omega)
  rw [e2]
  exact IntWalk.wrap64_in _ (by omega)
theorem half_even (a:Int) (h:a % 2=0) (hw:Wd a):wrap64 (a.tdiv 2)=a / 2:=by
  unfold Wd at hw
  have e2:a.tdiv 2=a / 2:=Int.tdiv_eq_ediv_of_dvd (by omega)
  rw [e2]
  exact IntWalk.wrap64_in _ (by omega)
theorem ret_i {x y:Int} (h:x=y):Ending.returned (.int .i64 x)=.returned (.int .i64 y):=by rw [h]
theorem ret_b {x y:Bool} (h:x=y):Ending.returned (.bool x)=.returned (.bool y):=by rw [h]
theorem ret_ib {x y:Int} {a b:Bool} (h:x=y) (k:a=b):Ending.returned (.tuple #[.int .i64 x,.bool a])=.returned (.tuple #[.int .i64 y,.bool b]):=by rw [h,k]
theorem ret_ii {x y:Int} {a b:Int} (h:x=y) (k:a=b):Ending.returned (.tuple #[.int .i64 x,.int .i64 a])=.returned (.tuple #[.int .i64 y,.int .i64 b]):=by rw [h,k]
theorem ret_iib {x y a b:Int} {c d:Bool} (h:x=y) (k:a=b) (l:c=d):Ending.returned (.tuple #[.int .i64 x,.int .i64 a,.bool c])=.returned (.tuple #[.int .i64 y,.int .i64 b,.bool d]):=by rw [h,k,l]
theorem below_next {B:Nat} {a b c:World} (h:Below B a b) (k:Below b.heap.size b c) (hB:B≤a.heap.size):Below B a c:=h.trans (k.mono (Nat.le_trans hB h.size))
theorem umod (a m:Int) (h0:0<m) (h1:m≤9223372036854775807):∃ k:Int,0≤k∧k<m∧wrap64 ((IntKind.u64.wrap a).tmod m)=k:=by
  have e:0≤IntKind.u64.wrap a:=by simp [IntKind.wrap,IntKind.bits,IntKind.signed]; omega
  rw [Int.tmod_eq_emod_of_nonneg e]
  have:=Int.emod_nonneg (IntKind.u64.wrap a) (by omega:m≠0)
  have:=Int.emod_lt_of_pos (IntKind.u64.wrap a) h0
  exact ⟨_,by assumption,by omega,IntWalk.wrap64_in _ (by omega)⟩
def vIsPtr (a:Int):Bool:=decide (a % 2=1)
def vNum (a:Int):Int:=if a % 2=1 then 0 else a / 2
def vAt (a:Int):Int:=if a % 2=1 then (a - 1) / 2 else -1
end Go.Proofs.Ytffnjpapggidlaa
namespace Go.Proofs.Ytffnjpapggidlaa
open Go.RowKit
@[go_sem] theorem as_pp (v:Value) (w:World):(Instr.typeAssert (.iface 146 v) 20 146 true).run Try.prog w=.ok (.tuple #[v,.bool true]) w:=by kernel_rfl
@[go_sem] theorem as_pn (v:Value) (w:World):(Instr.typeAssert (.iface 166 v) 20 146 true).run Try.prog w=.ok (.tuple #[.int .i64 0,.bool false]) w:=by kernel_rfl
@[go_sem] theorem as_nn (v:Value) (w:World):(Instr.typeAssert (.iface 166 v) 20 166 true).run Try.prog w=.ok (.tuple #[v,.bool true]) w:=by kernel_rfl
@[go_sem] theorem as_np (v:Value) (w:World):(Instr.typeAssert (.iface 146 v) 20 166 true).run Try.prog w=.ok (.tuple #[.int .i64 0,.bool false]) w:=by kernel_rfl
theorem value_IsPtr (a:Int) (w:World) :
    Calls Try.prog 78 #[.int .i64 a] w fun e w'=>e=.returned (.bool (vIsPtr a))∧w=w':=by
  rcases par a with h | h
  · have h1:=even_of a h
    have h2:vIsPtr a=false:=by simp [vIsPtr,h]
    rw [h2]; clear h h2
    go_enter Try.func78,Try.ntmps78
    go_wp2
    go_ret
    exact ⟨rfl,rfl⟩
  · have h1:=odd_of a h
    have h2:vIsPtr a=true:=by simp [vIsPtr,h]
    rw [h2]; clear h h2
    go_enter Try.func78,Try.ntmps78
    go_wp2
    go_ret
    exact ⟨rfl,rfl⟩
theorem value_At (a:Int) (hw:Wd a) (w:World) :
    Calls Try.prog 80 #[.int .i64 a] w fun e w'=>e=.returned (.int .i64 (vAt a))∧w=w':=by
  rcases par a with h | h
  · have h1:=even_of a h
    have h2:vAt a=-1:=by simp [vAt,h]
    rw [h2]; clear h h2 hw
    go_enter Try.func80,Try.ntmps80
    go_wp2
    go_ret
    exact ⟨rfl,rfl⟩
  · have h1:=odd_of a h
    have h2:vAt a=wrap64 ((wrap64 (a - 1)).tdiv 2):=by rw [half_odd a h hw]; simp [vAt,h]
    rw [h2]; clear h h2 hw
    go_enter Try.func80,Try.ntmps80
    go_wp2
    go_ret
    exact ⟨rfl,rfl⟩
theorem ref_Int (a:Int) (w:World) :
    Calls Try.prog 49 #[.int .i64 a] w fun e w'=>e=.returned (.int .i64 (wrap64 (a * 2)))∧w=w':=by
  go_enter Try.func49,Try.ntmps49
  go_wp2
  go_ret
  exact ⟨rfl,rfl⟩
end Go.Proofs.Ytffnjpapggidlaa
