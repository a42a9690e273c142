/- Pure10 -/
import Derived.WalkKit
namespace Go.Proofs.Ytffnjpapggidlaa
def tChan:ByteArray:=⟨#[99,97,112,32,99,108,111,115,101,100,32,99,111,117,110,116,32,115,116,97,114,116,32,98,117,102,32,116,97,107,101,104,101,97,100,32,116,97,107,101,116,97,105,108,32,115,101,110,100,104,101,97,100,32,115,101,110,100,116,97,105,108]⟩
def tSudog:ByteArray:=⟨#[103,111,114,32,99,104,97,110,32,118,97,108,117,101,32,110,101,120,116,32,116,111,32,114,101,103,32,109,111,114,101]⟩
def tGor:ByteArray:=⟨#[105,100,32,115,116,97,116,117,115,32,112,99,32,97,32,98,32,99,32,100,32,101,32,102,32,115,117,100,111,103,115]⟩
def tBox:ByteArray:=⟨#[118,97,108,117,101,32,102,105,110,97,108]⟩
def tTimer:ByteArray:=⟨#[119,104,101,110,32,99,104,97,110]⟩
def tNone:ByteArray:=⟨#[]⟩
def rText (kind:Int):ByteArray:=if kind=1 then tChan else if kind=3 then tSudog else if kind=4 then tGor else if kind=5 then tBox else if kind=6 then tTimer else tNone
def spStep (p:List (List UInt8)×List UInt8) (c:UInt8):List (List UInt8)×List UInt8:=if c=32 then (p.1 ++ [p.2],[]) else (p.1,p.2 ++ [c])
def spl (l:List UInt8):List (List UInt8)×List UInt8:=l.foldl spStep ([],[])
theorem spl_snoc (l:List UInt8) (c:UInt8):spl (l ++ [c])=spStep (spl l) c:=by simp [spl]
theorem spl_len0 (l:List UInt8):∀ p,(l.foldl spStep p).1.length≤p.1.length+l.length:=by
  induction l with
  | nil=>intro p; simp
  | cons c l ih =>
    intro p
    have:=ih (spStep p c)
    simp only [List.foldl_cons,List.length_cons]
    have h:(spStep p c).1.length≤p.1.length+1:=by unfold spStep; split <;> simp
    omega
theorem spl_len (l:List UInt8):(spl l).1.length≤l.length:=by have:=spl_len0 l ([],[]); simpa [spl] using this
theorem spl_len1 (l:List UInt8):∀ p,(l.foldl spStep p).2.length≤p.2.length+l.length:=by
  induction l with
  | nil=>intro p; simp
  | cons c l ih =>
    intro p
    have:=ih (spStep p c)
    simp only [List.foldl_cons,List.length_cons]
    have h:(spStep p c).2.length≤p.2.length+1:=by unfold spStep; split <;> simp
    omega
theorem spl_len2 (l:List UInt8):(spl l).2.length≤l.length:=by have:=spl_len1 l ([],[]); simpa [spl] using this
theorem take_snoc (s:ByteArray) (k:Nat) (h:k<s.size):s.data.toList.take (k+1)=s.data.toList.take k ++ [s[k]]:=by
  rw [List.take_succ_eq_append_getElem (by simpa using h)]; rfl
def parts (l:List UInt8):List (List UInt8):=if (spl l).2=[] then [] else (spl l).1 ++ [(spl l).2]
def bs (l:List UInt8):ByteArray:=⟨l.toArray⟩
def rNames (kind:Int):List ByteArray:=(parts (rText kind).data.toList).map bs
def rNeed (kind n:Int):Int:=if kind=2 then (if n<0 ∨ 3<n then 0 else n) else if kind=1 then 9 else if kind=3 then 7 else if kind=4 then 10 else if kind=5 then 2 else if kind=6 then 2 else 0
def rKnown (kind n:Int):Bool:=if kind=2 then decide (0≤n∧n≤3) else decide (1≤kind∧kind≤6)
theorem rText_none {k:Int} (h:¬ (k=1 ∨ (3≤k∧k≤6))):rText k=tNone:=by unfold rText; repeat (rw [if_neg (by omega)])
theorem take_allB (s:ByteArray):s.data.toList.take s.size=s.data.toList:=List.take_of_length_le (by show s.data.toList.length≤s.data.size; simp)
theorem bs_nil:(bs []).toList.isEmpty=true:=by rw [ByteArray.toList_eq]; rfl
theorem bs_cons {l:List UInt8} (h:¬ l=[]):(bs l).toList.isEmpty=false:=by rw [ByteArray.toList_eq]; simpa [bs] using h
end Go.Proofs.Ytffnjpapggidlaa
