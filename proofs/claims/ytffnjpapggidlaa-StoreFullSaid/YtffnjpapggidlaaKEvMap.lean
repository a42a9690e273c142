/- EvMap -/
import Derived.Test.YtffnjpapggidlaaKEv2
import Derived.Test.YtffnjpapggidlaaKSepMap
import Derived.Test.YtffnjpapggidlaaKStepAt
namespace Go.Proofs.Ytffnjpapggidlaa
open Go.RowKit
set_option linter.unusedVariables false
def wdR (x:Int):Bool:=decide (-9223372036854775808≤x) && decide (x≤9223372036854775807)
def keyR (x:Int):Bool:=decide (0≤x) && decide (x<4096)
theorem wdR_spec {x:Int} (h:wdR x=true):Wd x:=by simp [wdR] at h; unfold Wd; omega
theorem keyR_spec {x:Int} (h:keyR x=true):0≤x∧x<4096:=by simpa [keyR] using h
section
variable {ops:Array Oper} {rest:List Oper} {o:Oper} {n:Nat} {a:Act} {l l':Asc} {Q:Exit→Act→World→Prop} {w0:World} {F0:List Nat} {ps:List Piece} {w:World} {mb:Nat} {f:Int→Int}
theorem ev_colGet (d k:Nat) (m x:Operand) (y:Int) (hF:Fr n a l) (hS:St w0 F0 ps w) (hk:ps[k]?=some (ColP mb f)) (hg:o.guard=none) (hd:o.dst=some d) (hn:Nat.blt d n=true) (hop:o.op=Op.lookup 122 m x false)
    (hm1:hasO l m=true) (hx1:hasO l x=true) (hm:lk l m=.map (some mb)) (hx:lk l x=.int .i64 y) (hy:wdR y=true)
    (hK:∀ a',Fr n a' ((d,.int .i64 (f y))::del d l)→wpList Try.prog ops Q rest a' w):wpList Try.prog ops Q (o::rest) a w:=by
  refine wpList_colGet hg m x hop hS k hk ((hF.eval hm1).trans hm) y (wdR_spec hy) ((hF.eval hx1).trans hx) ?_
  rw [hd]
  exact hK _ (hF.put (Nat.le_of_ble_eq_true hn) _)
theorem ev_colSet (m x v:Operand) (y z:Int) (hF:Fr n a l) (hS:St w0 F0 (ColP mb f::ps) w) (hg:o.guard=none) (hop:o.op=Op.mapUpdate 122 m x v)
    (hm1:hasO l m=true) (hx1:hasO l x=true) (hv1:hasO l v=true) (hm:lk l m=.map (some mb)) (hx:lk l x=.int .i64 y) (hv:lk l v=.int .i64 z) (hy:keyR y=true) (hz:wdR z=true) (hp:putO n o undef l=some l')
    (hK:∀ w' a',St w0 F0 (ColP mb (updM f y z)::ps) w'→Fr n a' l'→wpList Try.prog ops Q rest a' w'):wpList Try.prog ops Q (o::rest) a w :=
  wpList_colSet hg m x v hop hS ((hF.eval hm1).trans hm) y z (keyR_spec hy).1 (keyR_spec hy).2 (wdR_spec hz) ((hF.eval hx1).trans hx) ((hF.eval hv1).trans hv) fun w' hS'=>hK w' _ hS' (putO_fr hF hp)
theorem op_push {S:World→Prop} {listed:Array Bool} {fuel:Nat} (T:TypeId) (hT:Try.prog.underlying T=some (.slice 3)) (i:Nat) (ls:Array Bool) {v:Value} {L L2:List Int} {y:Int} {g0 c0:Nat} (d:Nat) (s x:Operand)
    (hF:Fr n a l) (hi:ops[i]?=some o) (hd:o.dst=some d) (hn:Nat.blt d n=true) (hgd:o.guard=none) (ho:o.op=.call { callee:=.builtin .append,args:=#[s,x],argTypes:=#[T,T] })
    (hs1:hasO l s=true) (hx1:hasO l x=true) (hs:lk l s=v) (hx:lk l x=.slice (some ⟨g0,0,none⟩) 1 c0)
    (h:St w0 F0 (RowP v L::RowP (.slice (some ⟨g0,0,none⟩) 1 c0) [y]::ps) w) (hm:pushM L y=some L2) (hl:listed.setIfInBounds i true=ls)
    (hK:∀ g c w' a',St w0 F0 (RowP (.slice (some ⟨g,0,none⟩) L2.length c) L2::RowP (.slice (some ⟨g0,0,none⟩) 1 c0) [y]::ps) w'→Fr n a' ((d,.slice (some ⟨g,0,none⟩) L2.length c)::del d l)→S w'∧wpAnyH Try.prog .any ops Q S fuel ls a' w') :
    wpOp Try.prog ops Q i (fun a' w'=>S w'∧wpAnyH Try.prog .any ops Q S fuel (listed.setIfInBounds i true) a' w') a w:=by
  subst hl
  unfold pushM at hm
  split at hm
  · rename_i hlen
    injection hm with hm
    subst hm
    obtain ⟨i0,hi0,hz0,hz1,hz2⟩:=info_parts info_iV
    have key:=step_append_at (P:=Try.prog) (ops:=ops) (o:=o) (a:=a) (w:=w) (K:=fun a' w'=>S w'∧wpAnyH Try.prog .any ops Q S fuel (listed.setIfInBounds i true) a' w') (Q:=Q) (E:=False) hgd s x T ho 0 3 i0 (.int .i64 0) 1 8 hT hi0 hz0 hz1 hz2 rfl (by decide) v L.length (iV L) ((hF.eval hs1).trans hs) (h.row 0 rfl) ⟨g0,0,none⟩ 1 c0 [.int .i64 y] ((hF.eval hx1).trans hx) rfl ?_ ?_ (by unfold maxLen; omega) (by omega) (Nat.zero_le _) ?_
    · unfold wpOp
      rw [hi]
      simp only
      have hw:Region.wanted o (yielded ops a.tmps)=true:=by simp [Region.wanted,hgd]
      rw [if_pos hw] at key ⊢
      left
      exact key
    · intro j u hj
      cases j with
      | zero=>simp at hj; subst hj; exact h.atI 1 rfl (i:=0) rfl
      | succ j=>simp at hj
    · intro u hu; simp at hu; subst hu; rfl
    · intro v' w' ho' hg' hn' hat'
      have h':=h.grow' ho' hg' hat'
      obtain ⟨_,p,c,rfl,hp⟩:=h'.shape 0 rfl
      obtain ⟨g,rfl⟩:=hp.resolve_left (by simp)
      rw [hd]
      exact hK g c w' _ h' (hF.put (Nat.le_of_ble_eq_true hn) _)
  · cases hm
end
end Go.Proofs.Ytffnjpapggidlaa
