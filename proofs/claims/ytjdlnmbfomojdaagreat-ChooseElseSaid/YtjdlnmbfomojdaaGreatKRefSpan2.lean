/- RefSpan2 -/
import Derived.Test.YtjdlnmbfomojdaaGreatKRefSpan
import Derived.Test.YtjdlnmbfomojdaaGreatKQuietAdd
namespace Go.Proofs.YtjdlnmbfomojdaaGreat
open Go.RowKit
theorem RSlots.set {w:World} {g cap:Nat} {l:List SRow} (h:RSlots w g cap l) (i:Nat) (hi:i<l.length) (k:Nat) (hk:k<8) (v:Bool) (r':SRow) (hp:∀ j,j<8→pad r' j=if j=k then v else pad (l[i]'hi) j) :
    RSlots (w.setCell ⟨g,i * 8+k,none⟩ (.bool v)) g cap (l.set i r'):=by
  obtain ⟨cur,hb,hs,hl,hc⟩:=h
  refine ⟨_,hb.set _ _,by simpa using hs,by simpa using hl,fun j hj x hx=>?_⟩
  simp at hj
  rw [Array.getElem?_setIfInBounds]
  by_cases e:j=i
  · subst e
    by_cases ek:x=k
    · subst ek
      rw [if_pos rfl,if_pos (by omega)]
      simp only [List.getElem_set_self]
      rw [hp x hx,if_pos rfl]
    · rw [if_neg (by omega)]
      simp only [List.getElem_set_self]
      rw [hp x hx,if_neg ek]
      exact hc j hi x hx
  · rw [if_neg (by omega)]
    simp only [List.getElem_set_ne (show i≠j by omega)]
    exact hc j hj x hx
theorem RSlots.same {w:World} {g cap:Nat} {l:List SRow} (h:RSlots w g cap l) (i:Nat) (hi:i<l.length) (r':SRow) (hp:∀ j,j<8→pad r' j=pad (l[i]'hi) j):RSlots w g cap (l.set i r'):=by
  obtain ⟨cur,hb,hs,hl,hc⟩:=h
  refine ⟨cur,hb,hs,by simpa using hl,fun j hj x hx=>?_⟩
  simp at hj
  by_cases e:j=i
  · subst e
    simp only [List.getElem_set_self]
    rw [hp x hx]; exact hc j hi x hx
  · simp only [List.getElem_set_ne (show i≠j by omega)]
    exact hc j hj x hx
theorem RCls.set {w:World} {g cap:Nat} {l:List SRow} (h:RCls w g cap l) (i:Nat) (hi:i<l.length) (r':SRow):RCls (w.setCell ⟨g,i,none⟩ (.int .i64 r'.1)) g cap (l.set i r'):=by
  obtain ⟨cur,hb,hs,hl,hc⟩:=h
  refine ⟨_,hb.set _ _,by simpa using hs,by simpa using hl,fun j hj=>?_⟩
  simp at hj
  rw [Array.getElem?_setIfInBounds]
  by_cases e:j=i
  · subst e
    rw [if_pos rfl,if_pos (by omega)]; simp
  · rw [if_neg (by omega)]
    simp only [List.getElem_set_ne (show i≠j by omega)]
    exact hc j hj
theorem RCls.same {w:World} {g cap:Nat} {l:List SRow} (h:RCls w g cap l) (i:Nat) (hi:i<l.length) (r':SRow) (hp:r'.1=(l[i]'hi).1):RCls w g cap (l.set i r'):=by
  obtain ⟨cur,hb,hs,hl,hc⟩:=h
  refine ⟨cur,hb,hs,by simpa using hl,fun j hj=>?_⟩
  simp at hj
  by_cases e:j=i
  · subst e
    simp only [List.getElem_set_self]
    rw [hp]; exact hc j hi
  · simp only [List.getElem_set_ne (show i≠j by omega)]
    exact hc j hj
theorem pad_set (r:SRow) (k:Nat) (hk:k<r.2.length) (v:Bool) (j:Nat):pad (r.1,r.2.set k v) j=if j=k then v else pad r j:=by
  unfold pad
  simp only
  rw [List.getElem?_set]
  by_cases e:j=k
  · subst e; rw [if_pos rfl,if_pos hk,if_pos rfl]; cases v <;> rfl
  · rw [if_neg (fun x=>e x.symm),if_neg e]
theorem pad_none (j:Nat):pad noRow j=false:=rfl
theorem pad_zero {r:SRow} (h:used r.2=0) (j:Nat):pad r j=false:=used_zero h j
theorem pad_some {r:SRow} (hok:r.2.length≤8) (h:used r.2≠0):∃ j,j<8∧pad r j=true:=by
  unfold used at h
  obtain ⟨j,hj,e⟩:=List.mem_iff_getElem.1 (List.count_pos_iff.1 (Nat.pos_of_ne_zero h))
  exact ⟨j,by omega,by unfold pad; rw [List.getElem?_eq_getElem hj,e]; rfl⟩
def RSpanDoes (r:Ending) (b:Nat) (l':List SRow) (F:List Nat) (w:World) (e:Ending) (w':World):Prop:=e=r∧RSpanAt w' b l' F∧Keeps F w w'
end Go.Proofs.YtjdlnmbfomojdaaGreat
