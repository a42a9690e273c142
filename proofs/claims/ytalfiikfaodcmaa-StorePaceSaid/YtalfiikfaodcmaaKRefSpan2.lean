/- RefSpan2 -/
import Derived.Test.YtalfiikfaodcmaaKView2N
namespace Go.Proofs.Ytalfiikfaodcmaa
open Go.RowKit
theorem RCls.set {w:World} {g cap:Nat} {l:List SRow} (h:RCls w g cap l) (i:Nat) (hi:i<l.length) (r':SRow):RCls (w.setCell ⟨g,i,none⟩ (.int .i64 r'.1)) g cap (l.set i r'):=by
  obtain ⟨cur,hb,hs,hl,hc⟩:=h
  refine ⟨_,hb.set _ _,by simpa using hs,by simpa using hl,fun j hj=>?_⟩
  simp at hj
  rw [Array.getElem?_setIfInBounds]
  by_cases e:j=i
  · subst e
    rw [if_pos rfl,if_pos (by omega)]; simp
  · rw [if_neg (by omega)]
    simp only [List.getElem_set_ne (show i≠j by omega)]
    exact hc j hj
theorem RCls.same {w:World} {g cap:Nat} {l:List SRow} (h:RCls w g cap l) (i:Nat) (hi:i<l.length) (r':SRow) (hp:r'.1=(l[i]'hi).1):RCls w g cap (l.set i r'):=by
  obtain ⟨cur,hb,hs,hl,hc⟩:=h
  refine ⟨cur,hb,hs,by simpa using hl,fun j hj=>?_⟩
  simp at hj
  by_cases e:j=i
  · subst e
    simp only [List.getElem_set_self]
    rw [hp]; exact hc j hi
  · simp only [List.getElem_set_ne (show i≠j by omega)]
    exact hc j hj
theorem pad_set (r:SRow) (k:Nat) (hk:k<r.2.length) (v:Bool) (j:Nat):pad (r.1,r.2.set k v) j=if j=k then v else pad r j:=by
  unfold pad
  simp only
  rw [List.getElem?_set]
  by_cases e:j=k
  · subst e; rw [if_pos rfl,if_pos hk,if_pos rfl]; cases v <;> rfl
  · rw [if_neg (fun x=>e x.symm),if_neg e]
theorem pad_none (j:Nat):pad noRow j=false:=rfl
theorem pad_zero {r:SRow} (h:used r.2=0) (j:Nat):pad r j=false:=used_zero h j
theorem pad_some {r:SRow} (hok:r.2.length≤8) (h:used r.2≠0):∃ j,j<8∧pad r j=true:=by
  unfold used at h
  obtain ⟨j,hj,e⟩:=List.mem_iff_getElem.1 (List.count_pos_iff.1 (Nat.pos_of_ne_zero h))
  exact ⟨j,by omega,by unfold pad; rw [List.getElem?_eq_getElem hj,e]; rfl⟩
end Go.Proofs.Ytalfiikfaodcmaa
