/- Pure5 Pure6 -/
import Derived.WalkKit
namespace Go.Proofs.Ytffnjpapggidlaa
def cWords (a:Int):Int:=if a=0 then 4 else if a=1 then 8 else if a=2 then 16 else if a=3 then 32 else 0
def cSlots (a:Int):Int:=if a=0 then 8 else if a=1 then 4 else if a=2 then 2 else if a=3 then 1 else 0
def cOf (n:Int):Int:=if n<4 then 0 else if n<8 then 1 else if n<16 then 2 else if n<32 then 3 else 0
def cFits (n:Int):Bool:=decide (0≤n∧n<32)
def cText:ByteArray:=⟨#[4,8,16,32]⟩
theorem cWords_none {a:Int} (h:¬ (0≤a∧a<4)):cWords a=0:=by unfold cWords; split; omega; split; omega; split; omega; split; omega; rfl
theorem cSlots_none {a:Int} (h:¬ (0≤a∧a<4)):cSlots a=0:=by unfold cSlots; split; omega; split; omega; split; omega; split; omega; rfl
theorem class_cases (a:Int):a=0 ∨ a=1 ∨ a=2 ∨ a=3 ∨ ¬ (0≤a∧a<4):=by omega
end Go.Proofs.Ytffnjpapggidlaa
namespace Go.Proofs.Ytffnjpapggidlaa
abbrev SRow:=Int×List Bool
def noRow:SRow:=(-1,[])
def marks (m:List Bool):ByteArray:=⟨(m.map fun b=>if b then (120:UInt8) else 45).toArray⟩
theorem marks_size (m:List Bool):(marks m).size=m.length:=by show ((m.map _).toArray).size=_; simp
theorem marks_get (m:List Bool) (i:Nat) (h:i<m.length):(marks m)[i]'(by rw [marks_size]; exact h)=if m[i] then (120:UInt8) else 45:=by
  have e:((m.map fun b=>if b then (120:UInt8) else 45).toArray)[i]'(by simpa using h)=(if m[i] then (120:UInt8) else 45):=by simp
  exact e
theorem marks_ascii (m:List Bool) (i:Nat) (h:i<(marks m).size):((marks m)[i]'h).toNat<128:=by
  rw [marks_size] at h
  rw [marks_get m i h]; split <;> decide
theorem marks_set (m:List Bool) (k:Nat) (b:Bool) (h:k<m.length):(marks m).extract 0 k ++ ⟨#[if b then (120:UInt8) else 45]⟩ ++ (marks m).extract (k+1) (marks m).size=marks (m.set k b):=by
  apply ByteArray.ext
  rw [ByteArray.data_append,ByteArray.data_append,ByteArray.data_extract,ByteArray.data_extract]
  show (((m.map fun b=>if b then (120:UInt8) else 45).toArray).extract 0 k ++ #[if b then (120:UInt8) else 45]) ++ ((m.map fun b=>if b then (120:UInt8) else 45).toArray).extract (k+1) (marks m).size=((m.set k b).map fun b=>if b then (120:UInt8) else 45).toArray
  rw [marks_size]
  apply Array.toList_inj.1
  simp [List.set_eq_take_append_cons_drop,h]
  rw [List.take_of_length_le]; simp
def firstFree (m:List Bool):Option Nat:=m.findIdx? (fun b=>!b)
def used (m:List Bool):Nat:=m.count true
def RowOk (r:SRow):Prop:=(r.1=-1∧r.2=[]) ∨ (0≤r.1∧r.1<4∧(r.2.length:Int)=cSlots r.1∧true ∈ r.2)
def rowFree (k:Int) (r:SRow):Bool:=decide (r.1=k) && (firstFree r.2).isSome
def isNone (r:SRow):Bool:=decide (r.1=-1)
def sAlloc (k:Int) (l:List SRow):Option (Nat×Nat×List SRow) :=
  if cSlots k=0 then none else
  match l.findIdx? (rowFree k) with
  | some i=>let r:=(l[i]?).getD noRow; let s:=(firstFree r.2).getD 0; some (i,s,l.set i (r.1,r.2.set s true))
  | none=>match l.findIdx? isNone with
    | some i=>some (i,0,l.set i (k,true::List.replicate ((cSlots k).toNat - 1) false))
    | none=>none
def sUsed (l:List SRow) (span slot:Int):Bool :=
  decide (0≤span∧0≤slot) && (match l[span.toNat]? with | some r=>r.2[slot.toNat]? == some true | none=>false)
def freeRow (r:SRow) (s:Nat):SRow:=if used (r.2.set s false)=0 then noRow else (r.1,r.2.set s false)
def sFree (l:List SRow) (span slot:Int):List SRow :=
  if sUsed l span slot then l.set span.toNat (freeRow ((l[span.toNat]?).getD noRow) slot.toNat) else l
def sClass (l:List SRow) (span:Int):Int:=if 0≤span then (match l[span.toNat]? with | some r=>r.1 | none=>-1) else -1
def sWords (l:List SRow):Int:=(l.map fun r=>(used r.2:Int) * cWords r.1).sum
def sNew (n:Nat):List SRow:=List.replicate n noRow
end Go.Proofs.Ytffnjpapggidlaa
