/- RefSpan2 -/
import Derived.Test.YtffnjpapggidlaaKRefSpan
import Derived.Test.YtffnjpapggidlaaKStepAt
namespace Go.Proofs.Ytffnjpapggidlaa
open Go.RowKit
theorem RSlots.set {w:World} {g cap:Nat} {l:List SRow} (h:RSlots w g cap l) (i:Nat) (hi:i<l.length) (k:Nat) (hk:k<8) (v:Bool) (r':SRow) (hp:∀ j,j<8→pad r' j=if j=k then v else pad (l[i]'hi) j) :
    RSlots (w.setCell ⟨g,i * 8+k,none⟩ (.bool v)) g cap (l.set i r'):=by
  obtain ⟨cur,hb,hs,hl,hc⟩:=h
  refine ⟨_,hb.set _ _,by simpa using hs,by simpa using hl,fun j hj x hx=>?_⟩
  simp at hj
  rw [Array.getElem?_setIfInBounds]
  by_cases e:j=i
  · subst e
    by_cases ek:x=k
    · subst ek
      rw [if_pos rfl,if_pos (by omega)]
      simp only [List.getElem_set_self]
      rw [hp x hx,if_pos rfl]
    · rw [if_neg (by omega)]
      simp only [List.getElem_set_self]
      rw [hp x hx,if_neg ek]
      exact hc j hi x hx
  · rw [if_neg (by omega)]
    simp only [List.getElem_set_ne (show i≠j by omega)]
    exact hc j hj x hx
theorem RSlots.same {w:World} {g cap:Nat} {l:List SRow} (h:RSlots w g cap l) (i:Nat) (hi:i<l.length) (r':SRow) (hp:∀ j,j<8→pad r' j=pad (l[i]'hi) j):RSlots w g cap (l.set i r'):=by
  obtain ⟨cur,hb,hs,hl,hc⟩:=h
  refine ⟨cur,hb,hs,by simpa using hl,fun j hj x hx=>?_⟩
  simp at hj
  by_cases e:j=i
  · subst e
    simp only [List.getElem_set_self]
    rw [hp x hx]; exact hc j hi x hx
  · simp only [List.getElem_set_ne (show i≠j by omega)]
    exact hc j hj x hx
theorem RCls.set {w:World} {g cap:Nat} {l:List SRow} (h:RCls w g cap l) (i:Nat) (hi:i<l.length) (r':SRow):RCls (w.setCell ⟨g,i,none⟩ (.int .i64 r'.1)) g cap (l.set i r'):=by
  obtain ⟨cur,hb,hs,hl,hc⟩:=h
  refine ⟨_,hb.set _ _,by simpa using hs,by simpa using hl,fun j hj=>?_⟩
  simp at hj
  rw [Array.getElem?_setIfInBounds]
  by_cases e:j=i
  · subst e
    rw [if_pos rfl,if_pos (by omega)]; simp
  · rw [if_neg (by omega)]
    simp only [List.getElem_set_ne (show i≠j by omega)]
    exact hc j hj
theorem RCls.same {w:World} {g cap:Nat} {l:List SRow} (h:RCls w g cap l) (i:Nat) (hi:i<l.length) (r':SRow) (hp:r'.1=(l[i]'hi).1):RCls w g cap (l.set i r'):=by
  obtain ⟨cur,hb,hs,hl,hc⟩:=h
  refine ⟨cur,hb,hs,by simpa using hl,fun j hj=>?_⟩
  simp at hj
  by_cases e:j=i
  · subst e
    simp only [List.getElem_set_self]
    rw [hp]; exact hc j hi
  · simp only [List.getElem_set_ne (show i≠j by omega)]
    exact hc j hj
theorem pad_set (r:SRow) (k:Nat) (hk:k<r.2.length) (v:Bool) (j:Nat):pad (r.1,r.2.set k v) j=if j=k then v else pad r j:=by
  unfold pad
  simp only
  rw [List.getElem?_set]
  by_cases e:j=k
  · subst e; rw [if_pos rfl,if_pos hk,if_pos rfl]; cases v <;> rfl
  · rw [if_neg (fun x=>e x.symm),if_neg e]
theorem pad_none (j:Nat):pad noRow j=false:=rfl
theorem pad_zero {r:SRow} (h:used r.2=0) (j:Nat):pad r j=false:=used_zero h j
theorem pad_some {r:SRow} (hok:r.2.length≤8) (h:used r.2≠0):∃ j,j<8∧pad r j=true:=by
  unfold used at h
  obtain ⟨j,hj,e⟩:=List.mem_iff_getElem.1 (List.count_pos_iff.1 (Nat.pos_of_ne_zero h))
  exact ⟨j,by omega,by unfold pad; rw [List.getElem?_eq_getElem hj,e]; rfl⟩
def RSpanDoes (r:Ending) (b:Nat) (l':List SRow) (F:List Nat) (w:World) (e:Ending) (w':World):Prop:=e=r∧RSpanAt w' b l' F∧Keeps F w w'
set_option maxRecDepth 100000 in
set_option maxHeartbeats 2000000 in
theorem rspan_Free (b:Nat) (l:List SRow) (F:List Nat) (a s:Int) (w:World) (hS:RSpanAt w b l F) :
    Calls Try.prog 61 #[.pointer (some ⟨b,0,none⟩),.int .i64 a,.int .i64 s] w (RSpanDoes (.returned (.bool (sUsed l a s))) b (sFree l a s) F w):=by
  have HS:=Lib.hid hS
  cases hu:sUsed l a s with
  | false =>
    have hf:sFree l a s=l:=by unfold sFree; rw [hu]; rfl
    rw [hf]
    have HU:=Lib.hid hu
    clear hu hf hS
    go_enter Try.func61,Try.ntmps61
    go_wp2_with (go_at_call 87; refine (rspan_Used _ _ _ _ _ _ HS.out).mono ?_; rintro e w1 ⟨rfl,rfl⟩; rw [HU.out])
    go_ret
    exact ⟨rfl,HS.out,Keeps.refl _ _⟩
  | true =>
    obtain ⟨i,k,hi,hk,rfl,rfl,hv,hf⟩:=sUsed_some hu
    rw [hf]
    have HU:=Lib.hid hu
    obtain ⟨g1,c1,g2,c2,hb,hr,hs,m1,m2,hF,hn,hok,d1,d2,d3⟩:=hS
    have hro:=hok _ (List.getElem_mem hi)
    have hk8:k<8:=Nat.lt_of_lt_of_le hk hro.len
    have hpd:=pad_set (l[i]'hi) k hk false
    have hs2:=hs.set i hi k hk8 false _ (fun j _=>hpd j)
    have p0:=(hs2.cell i (by simpa using hi) 0 (by omega)).1
    have p1:=(hs2.cell i (by simpa using hi) 1 (by omega)).1
    have p2:=(hs2.cell i (by simpa using hi) 2 (by omega)).1
    have p3:=(hs2.cell i (by simpa using hi) 3 (by omega)).1
    have p4:=(hs2.cell i (by simpa using hi) 4 (by omega)).1
    have p5:=(hs2.cell i (by simpa using hi) 5 (by omega)).1
    have p6:=(hs2.cell i (by simpa using hi) 6 (by omega)).1
    have p7:=(hs2.cell i (by simpa using hi) 7 (by omega)).1
    simp only [List.getElem_set_self] at p0 p1 p2 p3 p4 p5 p6 p7
    rw [Nat.add_zero] at p0
    obtain ⟨x0,z0⟩:=hs.cell i hi k hk8
    have e1:=hb.cell 1
    simp at e1
    have hb2:=hb.far (p:=⟨g2,i * 8+k,none⟩) d2 (.bool false)
    have hr2:=(hr.keep ((Keeps.refl [g2] w).set (p:=⟨g2,i * 8+k,none⟩) (by simp) (.bool false)) (by simpa using d3)).same i hi ((l[i]'hi).1,(l[i]'hi).2.set k false) rfl
    have f0:=hb2.cell 0
    have f1:=hb2.cell 1
    simp at f0 f1
    obtain ⟨y0,y1⟩:=hr2.cell i (by simpa using hi)
    rw [List.getElem_set_self] at y0
    have i0:(0:Int)≤i:=by omega
    have i1:(i:Int)<l.length:=by omega
    have k0:(0:Int)≤k:=by omega
    have k1:(k:Int)<8:=by omega
    obtain ⟨W,hW⟩:∃ W,w.setCell ⟨g2,i * 8+k,none⟩ (.bool false)=W:=⟨_,rfl⟩
    have kW:Keeps F w W:=by rw [← hW]; exact (Keeps.refl F w).set (by rw [hF]; simp) _
    rw [hW] at p0 p1 p2 p3 p4 p5 p6 p7 hs2 hb2 hr2 f0 f1 y0 y1
    have HS2:=Lib.hid hs2
    have HB2:=Lib.hid hb2
    have HR2:=Lib.hid hr2
    have HKW:=Lib.hid kW
    have HF:=Lib.hid hF
    have HD:=Lib.hid (And.intro d1 (And.intro d2 d3))
    have HOK:=Lib.hid hok
    have HM:=Lib.hid (And.intro m1 m2)
    clear hu hf hb hr hs hok hs2 hb2 hr2 kW hF d1 d2 d3 hpd m1 m2 hv
    by_cases hz:used ((l[i]'hi).2.set k false)=0
    · have hfe:freeRow (l[i]'hi) k=noRow:=by unfold freeRow; rw [if_pos hz]
      have hpz:∀ j,pad ((l[i]'hi).1,(l[i]'hi).2.set k false) j=false:=fun j=>pad_zero (r:=((l[i]'hi).1,(l[i]'hi).2.set k false)) hz j
      rw [hpz] at p0 p1 p2 p3 p4 p5 p6 p7
      have FE:=Lib.hid hfe
      have HPZ:=Lib.hid hpz
      clear hz hfe hpz
      go_enter Try.func61,Try.ntmps61
      go_wp2_with (go_at_call 87; refine (rspan_Used _ _ _ _ _ _ HS.out).mono ?_; rintro e w1 ⟨rfl,rfl⟩; rw [HU.out])
      have ha8:=arr8 false false false false false false false false W
      simp only [Bool.or_self,Bool.not_false] at ha8
      go_wp2
      rw [ha8]
      simp only [Result.andThen]
      rw [Oper.upon_value]
      go_wp2
      go_ret
      refine ⟨rfl,?_,HKW.out.set (by rw [HF.out]; simp) _⟩
      rw [FE.out]
      obtain ⟨d1,d2,d3⟩:=HD.out
      have hr3:=HR2.out.set i (by simpa using hi) noRow
      have hs3:=(HS2.out.keep ((Keeps.refl [g1] W).set (p:=⟨g1,i,none⟩) (by simp) (.int .i64 (-1))) (by simpa using fun e=>d3 e.symm)).same i (by simpa using hi) noRow (by intro j _; rw [List.getElem_set_self,HPZ.out]; rfl)
      rw [List.set_set] at hr3 hs3
      exact ⟨g1,c1,g2,c2,by simpa using HB2.out.far (p:=⟨g1,i,none⟩) d1 (.int .i64 (-1)),hr3,hs3,HM.out.1,HM.out.2,HF.out,by simpa using hn,set_ok HOK.out i (.inl ⟨rfl,rfl⟩),d1,d2,d3⟩
    · have hfe:freeRow (l[i]'hi) k=((l[i]'hi).1,(l[i]'hi).2.set k false):=by unfold freeRow; rw [if_neg hz]
      obtain ⟨j,hj,hpj⟩:=pad_some (r:=((l[i]'hi).1,(l[i]'hi).2.set k false)) (by simpa using hro.len) hz
      have FE:=Lib.hid hfe
      have FR:=Lib.hid (freeRow_ok hro k hk)
      have hall:(pad ((l[i]'hi).1,(l[i]'hi).2.set k false) 0 || pad ((l[i]'hi).1,(l[i]'hi).2.set k false) 1 || pad ((l[i]'hi).1,(l[i]'hi).2.set k false) 2 || pad ((l[i]'hi).1,(l[i]'hi).2.set k false) 3 || pad ((l[i]'hi).1,(l[i]'hi).2.set k false) 4 || pad ((l[i]'hi).1,(l[i]'hi).2.set k false) 5 || pad ((l[i]'hi).1,(l[i]'hi).2.set k false) 6 || pad ((l[i]'hi).1,(l[i]'hi).2.set k false) 7)=true:=by
        rcases (show j=0 ∨ j=1 ∨ j=2 ∨ j=3 ∨ j=4 ∨ j=5 ∨ j=6 ∨ j=7 by omega) with rfl | rfl | rfl | rfl | rfl | rfl | rfl | rfl <;> rw [hpj] <;> simp
      clear hz hfe hpj hj
      generalize pad ((l[i]'hi).1,(l[i]'hi).2.set k false) 0=q0 at *
      generalize pad ((l[i]'hi).1,(l[i]'hi).2.set k false) 1=q1 at *
      generalize pad ((l[i]'hi).1,(l[i]'hi).2.set k false) 2=q2 at *
      generalize pad ((l[i]'hi).1,(l[i]'hi).2.set k false) 3=q3 at *
      generalize pad ((l[i]'hi).1,(l[i]'hi).2.set k false) 4=q4 at *
      generalize pad ((l[i]'hi).1,(l[i]'hi).2.set k false) 5=q5 at *
      generalize pad ((l[i]'hi).1,(l[i]'hi).2.set k false) 6=q6 at *
      generalize pad ((l[i]'hi).1,(l[i]'hi).2.set k false) 7=q7 at *
      have HALL:=Lib.hid hall
      clear hall
      go_enter Try.func61,Try.ntmps61
      go_wp2_with (go_at_call 87; refine (rspan_Used _ _ _ _ _ _ HS.out).mono ?_; rintro e w1 ⟨rfl,rfl⟩; rw [HU.out])
      have ha8:=arr8 q0 q1 q2 q3 q4 q5 q6 q7 W
      rw [HALL.out] at ha8
      simp only [Bool.not_true] at ha8
      go_wp2
      rw [ha8]
      simp only [Result.andThen]
      rw [Oper.upon_value]
      go_wp2
      go_ret
      refine ⟨rfl,?_,HKW.out⟩
      rw [FE.out]
      exact ⟨g1,c1,g2,c2,by simpa using HB2.out,HR2.out,HS2.out,HM.out.1,HM.out.2,HF.out,by simpa using hn,set_ok HOK.out i (by have:=FR.out; rw [FE.out] at this; exact this),HD.out⟩
end Go.Proofs.Ytffnjpapggidlaa
