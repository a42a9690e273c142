/- Fast -/
import Derived.Test.YtffnjpapggidlaaKPureArena
namespace Go.Proofs.Ytffnjpapggidlaa
set_option linter.unusedVariables false
set_option linter.unusedSimpArgs false
def objsF:Nat→List ACell→List Int
  | _,[]=>[]
  | k,.head _ _::cs=>Int.ofNat k::objsF (k+1) cs
  | k,_::cs=>objsF (k+1) cs
theorem objsF_eq (c:List ACell):(aObjects c).map (fun p=>((p:Nat):Int))=objsF 0 c:=by
  have key:∀ (cs pre:List ACell),(((List.range' pre.length cs.length).filter fun p:Nat=>(aHead (pre ++ cs) p).isSome).map fun p:Nat=>(p:Int))=objsF pre.length cs:=by
    intro cs
    induction cs with
    | nil=>intro pre; rfl
    | cons x cs ih =>
      intro pre
      have h2:=ih (pre ++ [x])
      simp only [List.length_append,List.length_cons,List.length_nil,List.append_assoc,List.cons_append,List.nil_append] at h2
      have hx:(aHead (pre ++ x::cs) (pre.length:Nat)).isSome=(match x with | .head _ _=>true | _=>false):=by
        unfold aHead
        rw [if_pos (by omega)]
        simp only [Int.toNat_natCast]
        rw [List.getElem?_append_right (Nat.le_refl _)]
        simp only [Nat.sub_self,List.getElem?_cons_zero]
        cases x <;> rfl
      simp only [List.length_cons,List.range'_succ,List.filter_cons,hx]
      cases x with
      | none=>simp only [Bool.false_eq_true,if_false,objsF]; exact h2
      | head k n=>simp only [if_true,List.map_cons,objsF]; rw [h2]; rfl
      | word w=>simp only [Bool.false_eq_true,if_false,objsF]; exact h2
  have:=key c []
  simp only [List.length_nil,List.nil_append] at this
  unfold aObjects
  rw [List.range_eq_range']
  exact this
def hObjsF (s:ASt):List Int:=objsF 0 s.c
theorem hObjsF_eq (s:ASt):hObjs s=hObjsF s:=objsF_eq s.c
def hNextF (h:HSt):Option Int×HSt :=
  match h.g.getLast? with
  | some x=>(some x,{ h with g:=h.g.dropLast })
  | none=>if h.ov then (match (hObjsF h.a).find? fun p=>decide (h.col p=1) with
    | some p=>(some p,h)
    | none=>(none,{ h with ov:=false })) else (none,h)
def hLostF (h:HSt):Option Int:=(hObjsF h.a).find? (isLost h)
def hMarkF (h:HSt):List Gn×HSt :=
  match hNextF h with
  | (some p,h1)=>([],hScan p h1)
  | (none,h1)=>match hLostF h1 with
    | some p=>([gnOf h1 true p],hShade p { h1 with a:=aStoreS p 1 0 h1.a })
    | none=>([],{ h1 with ph:=2,sp:=0 })
def hGoneF (h:HSt):List Int:=(hObjsF h.a).filter fun p=>decide (p / 32=h.sp) && decide (h.col p=0)
def hSweepF (h:HSt):List Gn×HSt :=
  match hGoneF h with
  | []=>([],if h.sp+1 ≥ h.a.l.length then { h with sp:=h.sp+1,ph:=0,cy:=Go.RowKit.wrap64 (h.cy+1) } else { h with sp:=h.sp+1 })
  | g=>let h1:={ h with a:=g.foldl (fun s p=>aFreeS p s) h.a,sp:=h.sp+1 }
    (g.map (gnOf h false),if h.sp+1 ≥ h.a.l.length then { h1 with ph:=0,cy:=Go.RowKit.wrap64 (h.cy+1) } else h1)
def hStepF (h:HSt):List Gn×HSt:=if h.ph=1 then hMarkF h else if h.ph=2 then hSweepF h else ([],h)
theorem hStepF_eq:hStep=hStepF:=by
  funext h
  have h1:∀ h,hNext h=hNextF h:=fun h=>by unfold hNext hNextF; rw [hObjsF_eq]; rfl
  have h2:∀ h,hLost h=hLostF h:=fun h=>by unfold hLost hLostF; rw [hObjsF_eq]
  have h3:hMark h=hMarkF h:=by unfold hMark hMarkF; rw [h1]; simp only [h2]; rfl
  have h4:hSweep h=hSweepF h:=by
    have e:hGone h=hGoneF h:=by unfold hGone hGoneF; rw [hObjsF_eq]
    unfold hSweep hSweepF
    rw [e]
    cases hGoneF h with
    | nil=>simp only [List.foldl_nil,List.map_nil]
    | cons x xs=>rfl
  unfold hStep hStepF
  rw [h3,h4]
end Go.Proofs.Ytffnjpapggidlaa
