/- Plain Pure5 Pure6 Value StepAt Arg ArgOps -/
import Derived.Test.YtaojmbkmicjecaaGreatKMem
import Derived.WalkKit
import Derived.Test.YtaojmbkmicjecaaGreatRows
import Derived.WalkSpells
import Derived.WalkLawsBesides
import Derived.Deep.RegionLaw
import Derived.ProofKit
import Derived.OpenShut
import Derived.Deep.Slices
import Derived.Deep.Fields
import Derived.ChangeSame
namespace Go.Proofs.YtaojmbkmicjecaaGreat
open Go.RowKit
theorem and_one_i64 (a:Int):bits BinOp.and IntKind.i64 a 1=a % 2:=by
  have h:(BitVec.ofInt 64 a &&& BitVec.ofInt 64 1).toNat=(a % 2).toNat:=by
    rw [BitVec.toNat_and]
    have h1:(BitVec.ofInt 64 1).toNat=1:=by decide
    rw [h1,Nat.and_one_is_mod,BitVec.toNat_ofInt]
    omega
  show IntKind.i64.wrap ((BitVec.ofInt 64 a &&& BitVec.ofInt 64 1).toNat:Int)=a % 2
  rw [h,IntWalk.i64_in _ (by omega)]
  omega
theorem odd_of (a:Int) (h:a % 2=1):(bits BinOp.and IntKind.i64 a 1 != 0)=true:=by rw [and_one_i64,h]; decide
theorem odd_of' (a:Int) (h:a % 2=1):(bits BinOp.and IntKind.i64 a 1 == 1)=true:=by rw [and_one_i64,h]; decide
theorem even_of (a:Int) (h:a % 2=0):(bits BinOp.and IntKind.i64 a 1 != 0)=false:=by rw [and_one_i64,h]; decide
theorem even_of' (a:Int) (h:a % 2=0):(bits BinOp.and IntKind.i64 a 1 == 1)=false:=by rw [and_one_i64,h]; decide
theorem par (a:Int):a % 2=0 ∨ a % 2=1:=by omega
def Wd (a:Int):Prop:=-9223372036854775808≤a∧a≤9223372036854775807
theorem half_odd (a:Int) (h:a % 2=1) (hw:Wd a):wrap64 ((wrap64 (a - 1)).tdiv 2)=(a - 1) / 2:=by
  unfold Wd at hw
  have e:wrap64 (a - 1)=a - 1:=IntWalk.wrap64_in _ (by omega)
  rw [e]
  have e2:(a - 1).tdiv 2=(a - 1) / 2:=Int.tdiv_eq_ediv_of_dvd (by omega)
  rw [e2]
  exact IntWalk.wrap64_in _ (by omega)
theorem half_even (a:Int) (h:a % 2=0) (hw:Wd a):wrap64 (a.tdiv 2)=a / 2:=by
  unfold Wd at hw
  have e2:a.tdiv 2=a / 2:=Int.tdiv_eq_ediv_of_dvd (by omega)
  rw [e2]
  exact IntWalk.wrap64_in _ (by omega)
theorem ret_i {x y:Int} (h:x=y):Ending.returned (.int .i64 x)=.returned (.int .i64 y):=by rw [h]
theorem ret_ib {x y:Int} {a b:Bool} (h:x=y) (k:a=b):Ending.returned (.tuple #[.int .i64 x,.bool a])=.returned (.tuple #[.int .i64 y,.bool b]):=by rw [h,k]
theorem below_next {B:Nat} {a b c:World} (h:Below B a b) (k:Below b.heap.size b c) (hB:B≤a.heap.size):Below B a c:=h.trans (k.mono (Nat.le_trans hB h.size))
def vIsPtr (a:Int):Bool:=decide (a % 2=1)
def vNum (a:Int):Int:=if a % 2=1 then 0 else a / 2
def vAt (a:Int):Int:=if a % 2=1 then (a - 1) / 2 else -1
end Go.Proofs.YtaojmbkmicjecaaGreat
namespace Go.Proofs.YtaojmbkmicjecaaGreat
def cWords (a:Int):Int:=if a=0 then 4 else if a=1 then 8 else if a=2 then 16 else if a=3 then 32 else 0
def cSlots (a:Int):Int:=if a=0 then 8 else if a=1 then 4 else if a=2 then 2 else if a=3 then 1 else 0
def cOf (n:Int):Int:=if n<4 then 0 else if n<8 then 1 else if n<16 then 2 else if n<32 then 3 else 0
def cFits (n:Int):Bool:=decide (0≤n∧n<32)
def cText:ByteArray:=⟨#[4,8,16,32]⟩
theorem cWords_none {a:Int} (h:¬ (0≤a∧a<4)):cWords a=0:=by unfold cWords; split; omega; split; omega; split; omega; split; omega; rfl
theorem cSlots_none {a:Int} (h:¬ (0≤a∧a<4)):cSlots a=0:=by unfold cSlots; split; omega; split; omega; split; omega; split; omega; rfl
theorem class_cases (a:Int):a=0 ∨ a=1 ∨ a=2 ∨ a=3 ∨ ¬ (0≤a∧a<4):=by omega
end Go.Proofs.YtaojmbkmicjecaaGreat
namespace Go.Proofs.YtaojmbkmicjecaaGreat
abbrev SRow:=Int×List Bool
def noRow:SRow:=(-1,[])
def marks (m:List Bool):ByteArray:=⟨(m.map fun b=>if b then (120:UInt8) else 45).toArray⟩
theorem marks_size (m:List Bool):(marks m).size=m.length:=by show ((m.map _).toArray).size=_; simp
theorem marks_get (m:List Bool) (i:Nat) (h:i<m.length):(marks m)[i]'(by rw [marks_size]; exact h)=if m[i] then (120:UInt8) else 45:=by
  have e:((m.map fun b=>if b then (120:UInt8) else 45).toArray)[i]'(by simpa using h)=(if m[i] then (120:UInt8) else 45):=by simp
  exact e
theorem marks_ascii (m:List Bool) (i:Nat) (h:i<(marks m).size):((marks m)[i]'h).toNat<128:=by
  rw [marks_size] at h
  rw [marks_get m i h]; split <;> decide
theorem marks_set (m:List Bool) (k:Nat) (b:Bool) (h:k<m.length):(marks m).extract 0 k ++ ⟨#[if b then (120:UInt8) else 45]⟩ ++ (marks m).extract (k+1) (marks m).size=marks (m.set k b):=by
  apply ByteArray.ext
  rw [ByteArray.data_append,ByteArray.data_append,ByteArray.data_extract,ByteArray.data_extract]
  show (((m.map fun b=>if b then (120:UInt8) else 45).toArray).extract 0 k ++ #[if b then (120:UInt8) else 45]) ++ ((m.map fun b=>if b then (120:UInt8) else 45).toArray).extract (k+1) (marks m).size=((m.set k b).map fun b=>if b then (120:UInt8) else 45).toArray
  rw [marks_size]
  apply Array.toList_inj.1
  simp [List.set_eq_take_append_cons_drop,h]
  rw [List.take_of_length_le]; simp
def firstFree (m:List Bool):Option Nat:=m.findIdx? (fun b=>!b)
def used (m:List Bool):Nat:=m.count true
def RowOk (r:SRow):Prop:=(r.1=-1∧r.2=[]) ∨ (0≤r.1∧r.1<4∧(r.2.length:Int)=cSlots r.1∧true ∈ r.2)
def rowFree (k:Int) (r:SRow):Bool:=decide (r.1=k) && (firstFree r.2).isSome
def isNone (r:SRow):Bool:=decide (r.1=-1)
def sAlloc (k:Int) (l:List SRow):Option (Nat×Nat×List SRow) :=
  if cSlots k=0 then none else
  match l.findIdx? (rowFree k) with
  | some i=>let r:=(l[i]?).getD noRow; let s:=(firstFree r.2).getD 0; some (i,s,l.set i (r.1,r.2.set s true))
  | none=>match l.findIdx? isNone with
    | some i=>some (i,0,l.set i (k,true::List.replicate ((cSlots k).toNat - 1) false))
    | none=>none
def sUsed (l:List SRow) (span slot:Int):Bool :=
  decide (0≤span∧0≤slot) && (match l[span.toNat]? with | some r=>r.2[slot.toNat]? == some true | none=>false)
def freeRow (r:SRow) (s:Nat):SRow:=if used (r.2.set s false)=0 then noRow else (r.1,r.2.set s false)
def sFree (l:List SRow) (span slot:Int):List SRow :=
  if sUsed l span slot then l.set span.toNat (freeRow ((l[span.toNat]?).getD noRow) slot.toNat) else l
def sClass (l:List SRow) (span:Int):Int:=if 0≤span then (match l[span.toNat]? with | some r=>r.1 | none=>-1) else -1
def sNew (n:Nat):List SRow:=List.replicate n noRow
end Go.Proofs.YtaojmbkmicjecaaGreat
namespace Go.Proofs.YtaojmbkmicjecaaGreat
open Go.RowKit
@[go_sem] theorem as_pp (v:Value) (w:World):(Instr.typeAssert (.iface 164 v) 20 164 true).run Tryz.prog w=.ok (.tuple #[v,.bool true]) w:=by kernel_rfl
@[go_sem] theorem as_pn (v:Value) (w:World):(Instr.typeAssert (.iface 161 v) 20 164 true).run Tryz.prog w=.ok (.tuple #[.int .i64 0,.bool false]) w:=by kernel_rfl
@[go_sem] theorem as_nn (v:Value) (w:World):(Instr.typeAssert (.iface 161 v) 20 161 true).run Tryz.prog w=.ok (.tuple #[v,.bool true]) w:=by kernel_rfl
@[go_sem] theorem as_np (v:Value) (w:World):(Instr.typeAssert (.iface 164 v) 20 161 true).run Tryz.prog w=.ok (.tuple #[.int .i64 0,.bool false]) w:=by kernel_rfl
theorem value_Int (a:Int) (w:World) :
    Calls Tryz.prog 73 #[.int .i64 a] w fun e w'=>e=.returned (.int .i64 (wrap64 (2 * a)))∧w=w':=by
  go_enter Tryz.func73,Tryz.ntmps73
  go_wp2
  go_ret
  exact ⟨rfl,rfl⟩
theorem value_Ptr (a:Int) (w:World) :
    Calls Tryz.prog 119 #[.int .i64 a] w fun e w'=>e=.returned (.int .i64 (wrap64 (wrap64 (2 * a)+1)))∧w=w':=by
  go_enter Tryz.func119,Tryz.ntmps119
  go_wp2
  go_ret
  exact ⟨rfl,rfl⟩
theorem value_IsPtr (a:Int) (w:World) :
    Calls Tryz.prog 116 #[.int .i64 a] w fun e w'=>e=.returned (.bool (vIsPtr a))∧w=w':=by
  rcases par a with h | h
  · have h1:=even_of a h
    have h2:vIsPtr a=false:=by simp [vIsPtr,h]
    rw [h2]; clear h h2
    go_enter Tryz.func116,Tryz.ntmps116
    go_wp2
    go_ret
    exact ⟨rfl,rfl⟩
  · have h1:=odd_of a h
    have h2:vIsPtr a=true:=by simp [vIsPtr,h]
    rw [h2]; clear h h2
    go_enter Tryz.func116,Tryz.ntmps116
    go_wp2
    go_ret
    exact ⟨rfl,rfl⟩
theorem value_Num (a:Int) (hw:Wd a) (w:World) :
    Calls Tryz.prog 68 #[.int .i64 a] w fun e w'=>e=.returned (.int .i64 (vNum a))∧w=w':=by
  rcases par a with h | h
  · have h1:=even_of a h
    have h2:vNum a=wrap64 (a.tdiv 2):=by rw [half_even a h hw]; simp [vNum,h]
    rw [h2]; clear h h2 hw
    go_enter Tryz.func68,Tryz.ntmps68
    go_wp2
    go_ret
    exact ⟨rfl,rfl⟩
  · have h1:=odd_of a h
    have h2:vNum a=0:=by simp [vNum,h]
    rw [h2]; clear h h2 hw
    go_enter Tryz.func68,Tryz.ntmps68
    go_wp2
    go_ret
    exact ⟨rfl,rfl⟩
theorem value_At (a:Int) (hw:Wd a) (w:World) :
    Calls Tryz.prog 69 #[.int .i64 a] w fun e w'=>e=.returned (.int .i64 (vAt a))∧w=w':=by
  rcases par a with h | h
  · have h1:=even_of a h
    have h2:vAt a=-1:=by simp [vAt,h]
    rw [h2]; clear h h2 hw
    go_enter Tryz.func69,Tryz.ntmps69
    go_wp2
    go_ret
    exact ⟨rfl,rfl⟩
  · have h1:=odd_of a h
    have h2:vAt a=wrap64 ((wrap64 (a - 1)).tdiv 2):=by rw [half_odd a h hw]; simp [vAt,h]
    rw [h2]; clear h h2 hw
    go_enter Tryz.func69,Tryz.ntmps69
    go_wp2
    go_ret
    exact ⟨rfl,rfl⟩
theorem ref_Int (a:Int) (w:World) :
    Calls Tryz.prog 112 #[.int .i64 a] w fun e w'=>e=.returned (.int .i64 (wrap64 (a * 2)))∧w=w':=by
  go_enter Tryz.func112,Tryz.ntmps112
  go_wp2
  go_ret
  exact ⟨rfl,rfl⟩
theorem ref_Ptr (a:Int) (w:World) :
    Calls Tryz.prog 151 #[.int .i64 a] w fun e w'=>e=.returned (.int .i64 (wrap64 (wrap64 (a * 2)+1)))∧w=w':=by
  go_enter Tryz.func151,Tryz.ntmps151
  go_wp2
  go_ret
  exact ⟨rfl,rfl⟩
theorem ref_IsPtr (a:Int) (w:World) :
    Calls Tryz.prog 137 #[.int .i64 a] w fun e w'=>e=.returned (.bool (vIsPtr a))∧w=w':=by
  rcases par a with h | h
  · have h1:=even_of' a h
    have h2:vIsPtr a=false:=by simp [vIsPtr,h]
    rw [h2]; clear h h2
    go_enter Tryz.func137,Tryz.ntmps137
    go_wp2
    go_ret
    exact ⟨rfl,rfl⟩
  · have h1:=odd_of' a h
    have h2:vIsPtr a=true:=by simp [vIsPtr,h]
    rw [h2]; clear h h2
    go_enter Tryz.func137,Tryz.ntmps137
    go_wp2
    go_ret
    exact ⟨rfl,rfl⟩
theorem ref_Num (a:Int) (hw:Wd a) (w:World) :
    Calls Tryz.prog 154 #[.int .i64 a] w fun e w'=>e=.returned (.int .i64 (vNum a))∧w=w':=by
  rcases par a with h | h
  · have h1:=even_of' a h
    have h2:vNum a=wrap64 (a.tdiv 2):=by rw [half_even a h hw]; simp [vNum,h]
    rw [h2]; clear h h2 hw
    go_enter Tryz.func154,Tryz.ntmps154
    go_wp2
    go_ret
    exact ⟨rfl,rfl⟩
  · have h1:=odd_of' a h
    have h2:vNum a=0:=by simp [vNum,h]
    rw [h2]; clear h h2 hw
    go_enter Tryz.func154,Tryz.ntmps154
    go_wp2
    go_ret
    exact ⟨rfl,rfl⟩
theorem ref_At (a:Int) (hw:Wd a) (w:World) :
    Calls Tryz.prog 138 #[.int .i64 a] w fun e w'=>e=.returned (.int .i64 (vAt a))∧w=w':=by
  rcases par a with h | h
  · have h1:=even_of' a h
    have h2:vAt a=-1:=by simp [vAt,h]
    rw [h2]; clear h h2 hw
    go_enter Tryz.func138,Tryz.ntmps138
    go_wp2
    go_ret
    exact ⟨rfl,rfl⟩
  · have h1:=odd_of' a h
    have h2:vAt a=wrap64 ((wrap64 (a - 1)).tdiv 2):=by rw [half_odd a h hw]; simp [vAt,h]
    rw [h2]; clear h h2 hw
    go_enter Tryz.func138,Tryz.ntmps138
    go_wp2
    go_ret
    exact ⟨rfl,rfl⟩
end Go.Proofs.YtaojmbkmicjecaaGreat
namespace Go.Proofs.YtaojmbkmicjecaaGreat
open Go.RowKit
theorem step_append_at {P:Program} {ops:Array Oper} {o:Oper} {a:Act} {w:World} {K:Act→World→Prop} {Q:Exit→Act→World→Prop} {E:Prop} (hgd:o.guard=none) (s x:Operand) (t:TypeId)
    (ho:o.op=.call { callee:=.builtin .append,args:=#[s,x],argTypes:=#[t,t] })
    (base:Nat) (e:TypeId) (i:TypeInfo) (z:Value) (size bytes:Nat) (ht:P.underlying t=some (.slice e)) (hi:P.info? e=some i) (hz:i.zero=some z)
    (hsize:i.size=size) (hby:i.bytes=bytes) (hzs:z.cells.size=size) (hsz:0<size)
    (v:Value) (n:Nat) (xs:List Value) (hs:a.eval s=v) (hown:w.ownsRow base e size v n xs)
    (ad:Addr) (m c:Nat) (news:List Value) (hx:a.eval x=.slice (some ad) m c) (hl:news.length=m * size) (hnews:∀ j u,news[j]?=some u→w.cell? (ad.add j)=some u) (h1:∀ u ∈ news,u.oneCell'=true)
    (h63:n+m≤maxLen) (hbytes:(n+m) * bytes≤140737488355328) (hbase:base≤w.heap.size)
    (h:∀ v' w',w'.ownsRow base e size v' (n+m) (xs ++ news)→w.grownBy w' v.ownBlock→(v'=.slice none 0 0 ↔ v=.slice none 0 0∧m=0)→(v'.ownBlock=v.ownBlock ∨ v'.ownBlock=some w.heap.size)→K (a.put o.dst v') w') :
    if Region.wanted o (yielded ops a.tmps)=true then Oper.wp P o a w K Q else E:=by
  have hw:Region.wanted o (yielded ops a.tmps)=true:=by simp [Region.wanted,hgd]
  rw [if_pos hw]
  obtain ⟨v',w',hr,h2,h3,h4,h5⟩:=run_append_own_at (P:=P) w base t o.type e i z size bytes ht hi hz hsize hby hzs hsz v n xs hown ad m c news hl hnews h1 h63 hbytes hbase
  unfold Oper.wp execOp
  simp only [ho,resolve,invoke,builtin,Sem.run_bind,Sem.run_pure,Result.andThen_ok,List.map_toArray,List.map_cons,List.map_nil,hs,hx,hr]
  exact h v' w' h2 h3 h4 h5
end Go.Proofs.YtaojmbkmicjecaaGreat
namespace Go.Proofs.YtaojmbkmicjecaaGreat
open Go.RowKit Go.ChangeShapes Go.WideShapes Go.ChangeAt
def ArgInts (w:World) (v:Value) (xs:List Int):Prop :=
  (∀ x ∈ xs,Wd x)∧xs.length≤maxLen∧∃ (p:Option Addr) (cap:Nat),v=.slice p xs.length cap ∧
    (xs.length=0 ∨ ∃ b o,p=some ⟨b,o,none⟩∧b<w.heap.size∧∀ i (h:i<xs.length),w.cell? ⟨b,o+i,none⟩=some (.int .i64 (xs[i]'h)))
theorem cell_lt {w:World} {a:Addr} {v:Value} (h:w.cell? a=some v):a.block<w.heap.size:=by
  unfold World.cell? at h
  split at h
  · rename_i hb; exact (Array.getElem?_eq_some_iff.1 hb).1
  · cases h
theorem ArgInts.below {w w':World} {v:Value} {xs:List Int} (h:ArgInts w v xs) (hb:Below w.heap.size w w'):ArgInts w' v xs:=by
  obtain ⟨h1,h2,p,cap,rfl,h3⟩:=h
  refine ⟨h1,h2,p,cap,rfl,h3.imp id ?_⟩
  rintro ⟨b,o,rfl,hlt,hc⟩
  exact ⟨b,o,rfl,Nat.lt_of_lt_of_le hlt hb.size,fun i hi=>(hb.cell (p:=⟨b,o+i,none⟩) hlt).trans (hc i hi)⟩
end Go.Proofs.YtaojmbkmicjecaaGreat
namespace Go.Proofs.YtaojmbkmicjecaaGreat
open Go.RowKit Go.ChangeShapes Go.WideShapes Go.Deep
def ArgOps (w:World) (v:Value) (k len:Nat) (f:Nat→Nat→Int):Prop :=
  len≤maxLen∧∃ (p:Option Addr) (cap:Nat),v=.slice p len cap ∧
    (len=0 ∨ ∃ b o,p=some ⟨b,o,none⟩∧b<w.heap.size∧∀ i j,i<len→j<k→w.cell? ⟨b,o+(i * k+j),none⟩=some (.int .i64 (f i j))∧Wd (f i j))
theorem ArgOps.below {w w':World} {v:Value} {k len:Nat} {f:Nat→Nat→Int} (h:ArgOps w v k len f) (hb:Below w.heap.size w w'):ArgOps w' v k len f:=by
  obtain ⟨h2,p,cap,rfl,h3⟩:=h
  refine ⟨h2,p,cap,rfl,h3.imp id ?_⟩
  rintro ⟨b,o,rfl,hlt,hc⟩
  exact ⟨b,o,rfl,Nat.lt_of_lt_of_le hlt hb.size,fun i j hi hj=>⟨(hb.cell (p:=⟨b,o+(i * k+j),none⟩) hlt).trans (hc i j hi hj).1,(hc i j hi hj).2⟩⟩
end Go.Proofs.YtaojmbkmicjecaaGreat
