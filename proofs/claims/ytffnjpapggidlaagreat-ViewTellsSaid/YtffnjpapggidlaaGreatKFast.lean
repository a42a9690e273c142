/- Fast Pure10 -/
import Derived.Test.YtffnjpapggidlaaGreatKPureArena
import Derived.WalkKit
namespace Go.Proofs.YtffnjpapggidlaaGreat
set_option linter.unusedVariables false
set_option linter.unusedSimpArgs false
def objsF:Nat→List ACell→List Int
  | _,[]=>[]
  | k,.head _ _::cs=>Int.ofNat k::objsF (k+1) cs
  | k,_::cs=>objsF (k+1) cs
theorem objsF_eq (c:List ACell):(aObjects c).map (fun p=>((p:Nat):Int))=objsF 0 c:=by
  have key:∀ (cs pre:List ACell),(((List.range' pre.length cs.length).filter fun p:Nat=>(aHead (pre ++ cs) p).isSome).map fun p:Nat=>(p:Int))=objsF pre.length cs:=by
    intro cs
    induction cs with
    | nil=>intro pre; rfl
    | cons x cs ih =>
      intro pre
      have h2:=ih (pre ++ [x])
      simp only [List.length_append,List.length_cons,List.length_nil,List.append_assoc,List.cons_append,List.nil_append] at h2
      have hx:(aHead (pre ++ x::cs) (pre.length:Nat)).isSome=(match x with | .head _ _=>true | _=>false):=by
        unfold aHead
        rw [if_pos (by omega)]
        simp only [Int.toNat_natCast]
        rw [List.getElem?_append_right (Nat.le_refl _)]
        simp only [Nat.sub_self,List.getElem?_cons_zero]
        cases x <;> rfl
      simp only [List.length_cons,List.range'_succ,List.filter_cons,hx]
      cases x with
      | none=>simp only [Bool.false_eq_true,if_false,objsF]; exact h2
      | head k n=>simp only [if_true,List.map_cons,objsF]; rw [h2]; rfl
      | word w=>simp only [Bool.false_eq_true,if_false,objsF]; exact h2
  have:=key c []
  simp only [List.length_nil,List.nil_append] at this
  unfold aObjects
  rw [List.range_eq_range']
  exact this
def hObjsF (s:ASt):List Int:=objsF 0 s.c
theorem hObjsF_eq (s:ASt):hObjs s=hObjsF s:=objsF_eq s.c
def hNextF (h:HSt):Option Int×HSt :=
  match h.g.getLast? with
  | some x=>(some x,{ h with g:=h.g.dropLast })
  | none=>if h.ov then (match (hObjsF h.a).find? fun p=>decide (h.col p=1) with
    | some p=>(some p,h)
    | none=>(none,{ h with ov:=false })) else (none,h)
def hLostF (h:HSt):Option Int:=(hObjsF h.a).find? (isLost h)
def hMarkF (h:HSt):List Gn×HSt :=
  match hNextF h with
  | (some p,h1)=>([],hScan p h1)
  | (none,h1)=>match hLostF h1 with
    | some p=>([gnOf h1 true p],hShade p { h1 with a:=aStoreS p 1 0 h1.a })
    | none=>([],{ h1 with ph:=2,sp:=0 })
def hGoneF (h:HSt):List Int:=(hObjsF h.a).filter fun p=>decide (p / 32=h.sp) && decide (h.col p=0)
def hSweepF (h:HSt):List Gn×HSt :=
  match hGoneF h with
  | []=>([],if h.sp+1 ≥ h.a.l.length then { h with sp:=h.sp+1,ph:=0,cy:=Go.RowKit.wrap64 (h.cy+1) } else { h with sp:=h.sp+1 })
  | g=>let h1:={ h with a:=g.foldl (fun s p=>aFreeS p s) h.a,sp:=h.sp+1 }
    (g.map (gnOf h false),if h.sp+1 ≥ h.a.l.length then { h1 with ph:=0,cy:=Go.RowKit.wrap64 (h.cy+1) } else h1)
def hStepF (h:HSt):List Gn×HSt:=if h.ph=1 then hMarkF h else if h.ph=2 then hSweepF h else ([],h)
theorem hStepF_eq:hStep=hStepF:=by
  funext h
  have h1:∀ h,hNext h=hNextF h:=fun h=>by unfold hNext hNextF; rw [hObjsF_eq]; rfl
  have h2:∀ h,hLost h=hLostF h:=fun h=>by unfold hLost hLostF; rw [hObjsF_eq]
  have h3:hMark h=hMarkF h:=by unfold hMark hMarkF; rw [h1]; simp only [h2]; rfl
  have h4:hSweep h=hSweepF h:=by
    have e:hGone h=hGoneF h:=by unfold hGone hGoneF; rw [hObjsF_eq]
    unfold hSweep hSweepF
    rw [e]
    cases hGoneF h with
    | nil=>simp only [List.foldl_nil,List.map_nil]
    | cons x xs=>rfl
  unfold hStep hStepF
  rw [h3,h4]
end Go.Proofs.YtffnjpapggidlaaGreat
namespace Go.Proofs.YtffnjpapggidlaaGreat
def tChan:ByteArray:=⟨#[99,97,112,32,99,108,111,115,101,100,32,99,111,117,110,116,32,115,116,97,114,116,32,98,117,102,32,116,97,107,101,104,101,97,100,32,116,97,107,101,116,97,105,108,32,115,101,110,100,104,101,97,100,32,115,101,110,100,116,97,105,108]⟩
def tSudog:ByteArray:=⟨#[103,111,114,32,99,104,97,110,32,118,97,108,117,101,32,110,101,120,116,32,116,111,32,114,101,103,32,109,111,114,101]⟩
def tGor:ByteArray:=⟨#[105,100,32,115,116,97,116,117,115,32,112,99,32,97,32,98,32,99,32,100,32,101,32,102,32,115,117,100,111,103,115]⟩
def tBox:ByteArray:=⟨#[118,97,108,117,101,32,102,105,110,97,108]⟩
def tTimer:ByteArray:=⟨#[119,104,101,110,32,99,104,97,110]⟩
def tNone:ByteArray:=⟨#[]⟩
def rText (kind:Int):ByteArray:=if kind=1 then tChan else if kind=3 then tSudog else if kind=4 then tGor else if kind=5 then tBox else if kind=6 then tTimer else tNone
def spStep (p:List (List UInt8)×List UInt8) (c:UInt8):List (List UInt8)×List UInt8:=if c=32 then (p.1 ++ [p.2],[]) else (p.1,p.2 ++ [c])
def spl (l:List UInt8):List (List UInt8)×List UInt8:=l.foldl spStep ([],[])
theorem spl_snoc (l:List UInt8) (c:UInt8):spl (l ++ [c])=spStep (spl l) c:=by simp [spl]
theorem spl_len0 (l:List UInt8):∀ p,(l.foldl spStep p).1.length≤p.1.length+l.length:=by
  induction l with
  | nil=>intro p; simp
  | cons c l ih =>
    intro p
    have:=ih (spStep p c)
    simp only [List.foldl_cons,List.length_cons]
    have h:(spStep p c).1.length≤p.1.length+1:=by unfold spStep; split <;> simp
    omega
theorem spl_len (l:List UInt8):(spl l).1.length≤l.length:=by have:=spl_len0 l ([],[]); simpa [spl] using this
theorem spl_len1 (l:List UInt8):∀ p,(l.foldl spStep p).2.length≤p.2.length+l.length:=by
  induction l with
  | nil=>intro p; simp
  | cons c l ih =>
    intro p
    have:=ih (spStep p c)
    simp only [List.foldl_cons,List.length_cons]
    have h:(spStep p c).2.length≤p.2.length+1:=by unfold spStep; split <;> simp
    omega
theorem spl_len2 (l:List UInt8):(spl l).2.length≤l.length:=by have:=spl_len1 l ([],[]); simpa [spl] using this
theorem take_snoc (s:ByteArray) (k:Nat) (h:k<s.size):s.data.toList.take (k+1)=s.data.toList.take k ++ [s[k]]:=by
  rw [List.take_succ_eq_append_getElem (by simpa using h)]; rfl
def parts (l:List UInt8):List (List UInt8):=if (spl l).2=[] then [] else (spl l).1 ++ [(spl l).2]
def bs (l:List UInt8):ByteArray:=⟨l.toArray⟩
def rNames (kind:Int):List ByteArray:=(parts (rText kind).data.toList).map bs
def rNeed (kind n:Int):Int:=if kind=2 then (if n<0 ∨ 3<n then 0 else n) else if kind=1 then 9 else if kind=3 then 7 else if kind=4 then 10 else if kind=5 then 2 else if kind=6 then 2 else 0
def rKnown (kind n:Int):Bool:=if kind=2 then decide (0≤n∧n≤3) else decide (1≤kind∧kind≤6)
theorem rText_none {k:Int} (h:¬ (k=1 ∨ (3≤k∧k≤6))):rText k=tNone:=by unfold rText; repeat (rw [if_neg (by omega)])
theorem take_allB (s:ByteArray):s.data.toList.take s.size=s.data.toList:=List.take_of_length_le (by show s.data.toList.length≤s.data.size; simp)
theorem bs_nil:(bs []).toList.isEmpty=true:=by rw [ByteArray.toList_eq]; rfl
theorem bs_cons {l:List UInt8} (h:¬ l=[]):(bs l).toList.isEmpty=false:=by rw [ByteArray.toList_eq]; simpa [bs] using h
end Go.Proofs.YtffnjpapggidlaaGreat
