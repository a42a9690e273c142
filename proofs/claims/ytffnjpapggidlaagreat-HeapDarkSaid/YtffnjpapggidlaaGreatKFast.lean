/- Fast View2N -/
import Derived.Test.YtffnjpapggidlaaGreatKPureArena
import Derived.Test.YtffnjpapggidlaaGreatKView
import Derived.Laws.ResultCell
import Derived.Deep.RegionHeld3
namespace Go.Proofs.YtffnjpapggidlaaGreat
set_option linter.unusedVariables false
set_option linter.unusedSimpArgs false
def objsF:Nat→List ACell→List Int
  | _,[]=>[]
  | k,.head _ _::cs=>Int.ofNat k::objsF (k+1) cs
  | k,_::cs=>objsF (k+1) cs
theorem objsF_eq (c:List ACell):(aObjects c).map (fun p=>((p:Nat):Int))=objsF 0 c:=by
  have key:∀ (cs pre:List ACell),(((List.range' pre.length cs.length).filter fun p:Nat=>(aHead (pre ++ cs) p).isSome).map fun p:Nat=>(p:Int))=objsF pre.length cs:=by
    intro cs
    induction cs with
    | nil=>intro pre; rfl
    | cons x cs ih =>
      intro pre
      have h2:=ih (pre ++ [x])
      simp only [List.length_append,List.length_cons,List.length_nil,List.append_assoc,List.cons_append,List.nil_append] at h2
      have hx:(aHead (pre ++ x::cs) (pre.length:Nat)).isSome=(match x with | .head _ _=>true | _=>false):=by
        unfold aHead
        rw [if_pos (by omega)]
        simp only [Int.toNat_natCast]
        rw [List.getElem?_append_right (Nat.le_refl _)]
        simp only [Nat.sub_self,List.getElem?_cons_zero]
        cases x <;> rfl
      simp only [List.length_cons,List.range'_succ,List.filter_cons,hx]
      cases x with
      | none=>simp only [Bool.false_eq_true,if_false,objsF]; exact h2
      | head k n=>simp only [if_true,List.map_cons,objsF]; rw [h2]; rfl
      | word w=>simp only [Bool.false_eq_true,if_false,objsF]; exact h2
  have:=key c []
  simp only [List.length_nil,List.nil_append] at this
  unfold aObjects
  rw [List.range_eq_range']
  exact this
def hObjsF (s:ASt):List Int:=objsF 0 s.c
theorem hObjsF_eq (s:ASt):hObjs s=hObjsF s:=objsF_eq s.c
def hNextF (h:HSt):Option Int×HSt :=
  match h.g.getLast? with
  | some x=>(some x,{ h with g:=h.g.dropLast })
  | none=>if h.ov then (match (hObjsF h.a).find? fun p=>decide (h.col p=1) with
    | some p=>(some p,h)
    | none=>(none,{ h with ov:=false })) else (none,h)
def hLostF (h:HSt):Option Int:=(hObjsF h.a).find? (isLost h)
def hMarkF (h:HSt):List Gn×HSt :=
  match hNextF h with
  | (some p,h1)=>([],hScan p h1)
  | (none,h1)=>match hLostF h1 with
    | some p=>([gnOf h1 true p],hShade p { h1 with a:=aStoreS p 1 0 h1.a })
    | none=>([],{ h1 with ph:=2,sp:=0 })
def hGoneF (h:HSt):List Int:=(hObjsF h.a).filter fun p=>decide (p / 32=h.sp) && decide (h.col p=0)
def hSweepF (h:HSt):List Gn×HSt :=
  match hGoneF h with
  | []=>([],if h.sp+1 ≥ h.a.l.length then { h with sp:=h.sp+1,ph:=0,cy:=Go.RowKit.wrap64 (h.cy+1) } else { h with sp:=h.sp+1 })
  | g=>let h1:={ h with a:=g.foldl (fun s p=>aFreeS p s) h.a,sp:=h.sp+1 }
    (g.map (gnOf h false),if h.sp+1 ≥ h.a.l.length then { h1 with ph:=0,cy:=Go.RowKit.wrap64 (h.cy+1) } else h1)
def hStepF (h:HSt):List Gn×HSt:=if h.ph=1 then hMarkF h else if h.ph=2 then hSweepF h else ([],h)
theorem hStepF_eq:hStep=hStepF:=by
  funext h
  have h1:∀ h,hNext h=hNextF h:=fun h=>by unfold hNext hNextF; rw [hObjsF_eq]; rfl
  have h2:∀ h,hLost h=hLostF h:=fun h=>by unfold hLost hLostF; rw [hObjsF_eq]
  have h3:hMark h=hMarkF h:=by unfold hMark hMarkF; rw [h1]; simp only [h2]; rfl
  have h4:hSweep h=hSweepF h:=by
    have e:hGone h=hGoneF h:=by unfold hGone hGoneF; rw [hObjsF_eq]
    unfold hSweep hSweepF
    rw [e]
    cases hGoneF h with
    | nil=>simp only [List.foldl_nil,List.map_nil]
    | cons x xs=>rfl
  unfold hStep hStepF
  rw [h3,h4]
end Go.Proofs.YtffnjpapggidlaaGreat
namespace Go.Proofs.YtffnjpapggidlaaGreat
open Go.RowKit
set_option linter.unusedVariables false
set_option linter.unusedSimpArgs false
section
variable {w0 w:World} {F0:List Nat} {ps:List Piece} {b ab:Nat} {h:HSt}
set_option maxRecDepth 100000 in
set_option maxHeartbeats 4000000 in
theorem v_Chan_nil (p:Int) (w:World) :
    Calls Tryz.prog 25 #[.pointer none,.int .i64 p] w fun e w'=>e=.returned (.tuple #[chV ch0,.int .i64 2])∧Below w.heap.size w w':=by
  obtain ⟨tb,htb⟩:∃ tb,w.heap.size=tb:=⟨_,rfl⟩
  have h2:=(St.empty w).new #[.int .i64 0,.int .i64 0,.int .i64 0,.int .i64 0,.int .i64 0,.int .i64 0,.int .i64 0,.int .i64 0,.int .i64 0] 23
  rw [htb] at h2
  go_enter Tryz.func25,Tryz.ntmps25
  go_wp2_with fail
  refine (v_seen_nil _ _ _).mono ?_
  rintro e w1 ⟨rfl,hw1⟩
  rw [hw1] at h2
  clear hw1 htb
  have e0:=h2.cell 0 rfl 0 rfl
  have f0:=h2.free 0 rfl 0
  have e1:=h2.cell 0 rfl 1 rfl
  have f1:=h2.free 0 rfl 1
  have e2:=h2.cell 0 rfl 2 rfl
  have f2:=h2.free 0 rfl 2
  have e3:=h2.cell 0 rfl 3 rfl
  have f3:=h2.free 0 rfl 3
  have e4:=h2.cell 0 rfl 4 rfl
  have f4:=h2.free 0 rfl 4
  have e5:=h2.cell 0 rfl 5 rfl
  have f5:=h2.free 0 rfl 5
  have e6:=h2.cell 0 rfl 6 rfl
  have f6:=h2.free 0 rfl 6
  have e7:=h2.cell 0 rfl 7 rfl
  have f7:=h2.free 0 rfl 7
  have e8:=h2.cell 0 rfl 8 rfl
  have f8:=h2.free 0 rfl 8
  have hf:=(((((((((h2.set 0 (.int .i64 0)).set 1 (.int .i64 0)).set 2 (.int .i64 0)).set 3 (.int .i64 0)).set 4 (.int .i64 0)).set 5 (.int .i64 0)).set 6 (.int .i64 0)).set 7 (.int .i64 0)).set 8 (.int .i64 0)).drop.old
  go_wp2
  (try simp only [Exit.inBlock,Exit.then])
  refine bodyPost_ret (v:=.tuple #[chV ch0,.int .i64 2]) (by rw [results_cell_tmp rfl]; go_simp; rfl) rfl ?_
  exact ⟨rfl,hf⟩
set_option maxRecDepth 100000 in
set_option maxHeartbeats 4000000 in
theorem v_Sudog_nil (p:Int) (w:World) :
    Calls Tryz.prog 27 #[.pointer none,.int .i64 p] w fun e w'=>e=.returned (.tuple #[suV su0,.int .i64 2])∧Below w.heap.size w w':=by
  obtain ⟨tb,htb⟩:∃ tb,w.heap.size=tb:=⟨_,rfl⟩
  have h2:=(St.empty w).new #[.int .i64 0,.int .i64 0,.int .i64 0,.int .i64 0,.int .i64 0,.int .i64 0,.int .i64 0] 25
  rw [htb] at h2
  go_enter Tryz.func27,Tryz.ntmps27
  go_wp2_with fail
  refine (v_seen_nil _ _ _).mono ?_
  rintro e w1 ⟨rfl,hw1⟩
  rw [hw1] at h2
  clear hw1 htb
  have e0:=h2.cell 0 rfl 0 rfl
  have f0:=h2.free 0 rfl 0
  have e1:=h2.cell 0 rfl 1 rfl
  have f1:=h2.free 0 rfl 1
  have e2:=h2.cell 0 rfl 2 rfl
  have f2:=h2.free 0 rfl 2
  have e3:=h2.cell 0 rfl 3 rfl
  have f3:=h2.free 0 rfl 3
  have e4:=h2.cell 0 rfl 4 rfl
  have f4:=h2.free 0 rfl 4
  have e5:=h2.cell 0 rfl 5 rfl
  have f5:=h2.free 0 rfl 5
  have e6:=h2.cell 0 rfl 6 rfl
  have f6:=h2.free 0 rfl 6
  have hf:=(((((((h2.set 0 (.int .i64 0)).set 1 (.int .i64 0)).set 2 (.int .i64 0)).set 3 (.int .i64 0)).set 4 (.int .i64 0)).set 5 (.int .i64 0)).set 6 (.int .i64 0)).drop.old
  go_wp2
  (try simp only [Exit.inBlock,Exit.then])
  refine bodyPost_ret (v:=.tuple #[suV su0,.int .i64 2]) (by rw [results_cell_tmp rfl]; go_simp; rfl) rfl ?_
  exact ⟨rfl,hf⟩
end
end Go.Proofs.YtffnjpapggidlaaGreat
