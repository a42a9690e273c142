/- EvMap RWords -/
import Derived.Test.YtffnjpapggidlaaGreatKEv2
import Derived.Test.YtffnjpapggidlaaGreatKSepMap
import Derived.Test.YtffnjpapggidlaaGreatKStepAt
import Derived.Test.YtffnjpapggidlaaGreatKRHeap
import Derived.Test.YtffnjpapggidlaaGreatKSepHeap
namespace Go.Proofs.YtffnjpapggidlaaGreat
open Go.RowKit
set_option linter.unusedVariables false
def wdR (x:Int):Bool:=decide (-9223372036854775808≤x) && decide (x≤9223372036854775807)
def keyR (x:Int):Bool:=decide (0≤x) && decide (x<4096)
theorem wdR_spec {x:Int} (h:wdR x=true):Wd x:=by simp [wdR] at h; unfold Wd; omega
theorem keyR_spec {x:Int} (h:keyR x=true):0≤x∧x<4096:=by simpa [keyR] using h
section
variable {ops:Array Oper} {rest:List Oper} {o:Oper} {n:Nat} {a:Act} {l l':Asc} {Q:Exit→Act→World→Prop} {w0:World} {F0:List Nat} {ps:List Piece} {w:World} {mb:Nat} {f:Int→Int}
theorem ev_colGet (d k:Nat) (m x:Operand) (y:Int) (hF:Fr n a l) (hS:St w0 F0 ps w) (hk:ps[k]?=some (ColP mb f)) (hg:o.guard=none) (hd:o.dst=some d) (hn:Nat.blt d n=true) (hop:o.op=Op.lookup 167 m x false)
    (hm1:hasO l m=true) (hx1:hasO l x=true) (hm:lk l m=.map (some mb)) (hx:lk l x=.int .i64 y) (hy:wdR y=true)
    (hK:∀ a',Fr n a' ((d,.int .i64 (f y))::del d l)→wpList Tryz.prog ops Q rest a' w):wpList Tryz.prog ops Q (o::rest) a w:=by
  refine wpList_colGet hg m x hop hS k hk ((hF.eval hm1).trans hm) y (wdR_spec hy) ((hF.eval hx1).trans hx) ?_
  rw [hd]
  exact hK _ (hF.put (Nat.le_of_ble_eq_true hn) _)
theorem ev_colSet (m x v:Operand) (y z:Int) (hF:Fr n a l) (hS:St w0 F0 (ColP mb f::ps) w) (hg:o.guard=none) (hop:o.op=Op.mapUpdate 167 m x v)
    (hm1:hasO l m=true) (hx1:hasO l x=true) (hv1:hasO l v=true) (hm:lk l m=.map (some mb)) (hx:lk l x=.int .i64 y) (hv:lk l v=.int .i64 z) (hy:keyR y=true) (hz:wdR z=true) (hp:putO n o undef l=some l')
    (hK:∀ w' a',St w0 F0 (ColP mb (updM f y z)::ps) w'→Fr n a' l'→wpList Tryz.prog ops Q rest a' w'):wpList Tryz.prog ops Q (o::rest) a w :=
  wpList_colSet hg m x v hop hS ((hF.eval hm1).trans hm) y z (keyR_spec hy).1 (keyR_spec hy).2 (wdR_spec hz) ((hF.eval hx1).trans hx) ((hF.eval hv1).trans hv) fun w' hS'=>hK w' _ hS' (putO_fr hF hp)
theorem op_push {S:World→Prop} {listed:Array Bool} {fuel:Nat} (T:TypeId) (hT:Tryz.prog.underlying T=some (.slice 3)) (i:Nat) (ls:Array Bool) {v:Value} {L L2:List Int} {y:Int} {g0 c0:Nat} (d:Nat) (s x:Operand)
    (hF:Fr n a l) (hi:ops[i]?=some o) (hd:o.dst=some d) (hn:Nat.blt d n=true) (hgd:o.guard=none) (ho:o.op=.call { callee:=.builtin .append,args:=#[s,x],argTypes:=#[T,T] })
    (hs1:hasO l s=true) (hx1:hasO l x=true) (hs:lk l s=v) (hx:lk l x=.slice (some ⟨g0,0,none⟩) 1 c0)
    (h:St w0 F0 (RowP v L::RowP (.slice (some ⟨g0,0,none⟩) 1 c0) [y]::ps) w) (hm:pushM L y=some L2) (hl:listed.setIfInBounds i true=ls)
    (hK:∀ g c w' a',St w0 F0 (RowP (.slice (some ⟨g,0,none⟩) L2.length c) L2::RowP (.slice (some ⟨g0,0,none⟩) 1 c0) [y]::ps) w'→Fr n a' ((d,.slice (some ⟨g,0,none⟩) L2.length c)::del d l)→S w'∧wpAnyH Tryz.prog .any ops Q S fuel ls a' w') :
    wpOp Tryz.prog ops Q i (fun a' w'=>S w'∧wpAnyH Tryz.prog .any ops Q S fuel (listed.setIfInBounds i true) a' w') a w:=by
  subst hl
  unfold pushM at hm
  split at hm
  · rename_i hlen
    injection hm with hm
    subst hm
    obtain ⟨i0,hi0,hz0,hz1,hz2⟩:=info_parts info_iV
    have key:=step_append_at (P:=Tryz.prog) (ops:=ops) (o:=o) (a:=a) (w:=w) (K:=fun a' w'=>S w'∧wpAnyH Tryz.prog .any ops Q S fuel (listed.setIfInBounds i true) a' w') (Q:=Q) (E:=False) hgd s x T ho 0 3 i0 (.int .i64 0) 1 8 hT hi0 hz0 hz1 hz2 rfl (by decide) v L.length (iV L) ((hF.eval hs1).trans hs) (h.row 0 rfl) ⟨g0,0,none⟩ 1 c0 [.int .i64 y] ((hF.eval hx1).trans hx) rfl ?_ ?_ (by unfold maxLen; omega) (by omega) (Nat.zero_le _) ?_
    · unfold wpOp
      rw [hi]
      simp only
      have hw:Region.wanted o (yielded ops a.tmps)=true:=by simp [Region.wanted,hgd]
      rw [if_pos hw] at key ⊢
      left
      exact key
    · intro j u hj
      cases j with
      | zero=>simp at hj; subst hj; exact h.atI 1 rfl (i:=0) rfl
      | succ j=>simp at hj
    · intro u hu; simp at hu; subst hu; rfl
    · intro v' w' ho' hg' hn' hat'
      have h':=h.grow' ho' hg' hat'
      obtain ⟨_,p,c,rfl,hp⟩:=h'.shape 0 rfl
      obtain ⟨g,rfl⟩:=hp.resolve_left (by simp)
      rw [hd]
      exact hK g c w' _ h' (hF.put (Nat.le_of_ble_eq_true hn) _)
  · cases hm
end
end Go.Proofs.YtffnjpapggidlaaGreat
namespace Go.Proofs.YtffnjpapggidlaaGreat
open Go.RowKit
set_option linter.unusedVariables false
section
variable {w0 w:World} {F0:List Nat} {ps:List Piece} {b ab sb g cb:Nat} {h:HSt}
theorem words_spot {s:ASt} {p:Int} {j:Nat} (hj:j<(aWords s p).length):∃ (q:Nat) (k n:Int),p=q∧s.c[q]?=some (.head k n)∧j<n.toNat:=by
  rw [aWords_len] at hj
  unfold aLen at hj
  cases e:aHead s.c p with
  | none=>rw [e] at hj; simp at hj
  | some kn =>
    rw [e] at hj
    obtain ⟨k,n⟩:=kn
    obtain ⟨q,rfl,hq⟩:=aHead_some e
    exact ⟨q,k,n,rfl,hq,hj⟩
theorem St.rwarr (hs:St w0 F0 (RHeapP b ab sb g cb h::ps) w):w.cell? ⟨ab,1,none⟩=some (.slice (some ⟨g,0,none⟩) h.a.c.length h.a.c.length):=by
  obtain ⟨ok,gl,h2⟩:=hs.openRH
  obtain ⟨W,hW,hok,hcl,h128,h5⟩:=h2.pick1.openR
  exact h5.cell 0 rfl 1 rfl
theorem St.rwarrK {k:Nat} (hs:St w0 F0 ps w) (hk:ps[k]?=some (RHeapP b ab sb g cb h)):w.cell? ⟨ab,1,none⟩=some (.slice (some ⟨g,0,none⟩) h.a.c.length h.a.c.length):=by
  obtain ⟨G,ok,gl,hsep⟩:=hs.get k hk
  obtain ⟨_,h1⟩:=hsep.get 1 rfl
  obtain ⟨W,_,h2⟩:=h1
  obtain ⟨_,h3⟩:=h2.get 0 rfl
  exact (h3.1.cell 1).trans rfl
theorem St.rword (hs:St w0 F0 (RHeapP b ab sb g cb h::ps) w) {p:Int} {j:Nat} (hj:j<(aWords h.a p).length):∃ z:Nat,p+1+j=(z:Int)∧0≤p∧z<h.a.c.length∧w.cell? ⟨g,z,none⟩=some (.int .i64 (aWords h.a p)[j]):=by
  obtain ⟨ok,gl,h2⟩:=hs.openRH
  obtain ⟨W,hW,hok,hcl,h128,h5⟩:=h2.pick1.openR
  obtain ⟨q,k,n,rfl,hq,hn⟩:=words_spot hj
  obtain ⟨x,y1,y2⟩:=(hW.2 q k n hq).2 j hn
  have hlt:=(List.getElem?_eq_some_iff.1 y1).1
  refine ⟨q+1+j,by omega,by omega,hlt,?_⟩
  rw [h5.cell 2 rfl (q+1+j) (iA_at W _ y2)]
  have:(aWords h.a (q:Int))[j]=x:=by
    obtain ⟨e1,e2⟩:=word_at hj
    rw [← e2]
    unfold aWord
    rw [e1,if_pos rfl,Int.toNat_natCast,Int.toNat_natCast,y1]
    rfl
  rw [this]
set_option maxRecDepth 100000 in
set_option maxHeartbeats 2000000 in
theorem rh_words (hs:St w0 F0 (RHeapP b ab sb g cb h::ps) w) (p:Int) :
    Calls Tryz.prog 133 #[.pointer (some ⟨b,0,none⟩),.int .i64 p] w fun e w'=>∃ v,e=.returned v∧St w0 F0 (RowP v (aWords h.a p)::RHeapP b ab sb g cb h::ps) w':=by
  have ok:=hs.rheapOk
  obtain ⟨l0,l1⟩:=alen_bd ok.a p
  have c4:h.a.c.length≤4096:=by have:=ok.a.len; have:=ok.len; omega
  obtain ⟨n,hn⟩:=Int.eq_ofNat_of_zero_le l0
  have hwl:(aWords h.a p).length=n:=by rw [aWords_len,hn]; simp
  have HN:=Lib.hid hn
  have HL:=Lib.hid hwl
  have n32:n<32:=by omega
  clear hn hwl l0 l1 ok
  go_enter Tryz.func133,Tryz.ntmps133
  go_wp2
  go_loopw [5,6] (fun v iv wr=>∃ j:Nat,j≤n∧iv=.int .i64 j∧St w0 F0 (RowP v ((aWords h.a p).take j)::RHeapP b ab sb g cb h::ps) wr) (fun _ iv _=>n - (intOf iv).toNat)
  case atStart=>exact ⟨0,by omega,rfl,hs.nil⟩
  case round =>
    obtain ⟨j,hj,rfl,h1⟩:=hrel
    clear hs
    have hR:=h1.pick1
    have c0:=(hR.rhsee (k:=0) rfl).1
    by_cases hlt:j<n
    · have hT:(aWords h.a p).take (j+1)=(aWords h.a p).take j ++ [(aWords h.a p)[j]'(by rw [HL.out]; exact hlt)]:=List.take_succ_eq_append_getElem _
      have HT:=Lib.hid hT
      clear hT
      go_wp2_with fail
      refine (rha_Len hR _).mono ?_
      rintro e w3 ⟨rfl,h3⟩
      rw [HN.out]
      have d0:=(h3.rhsee (k:=0) rfl).1
      have d1:=h3.rwarr
      obtain ⟨z,hz,hp,hzl,d2⟩:=h3.rword (p:=p) (j:=j) (by rw [HL.out]; exact hlt)
      have HZ:=Lib.hid hz
      generalize (aWords h.a p)[j]'(by rw [HL.out]; exact hlt)=x at *
      have h4:=h3.pick1
      have hlt2:((aWords h.a p).take j).length=j:=by rw [List.length_take,HL.out]; omega
      have HLT:=Lib.hid hlt2
      have z0:(0:Int)≤p+1+j:=by omega
      have z1:p+1+(j:Int)<h.a.c.length:=by omega
      have z2:p+1+(j:Int)≤4096:=by omega
      clear hR h1 c0 h3 hlt2
      go_wp2_with (at_builtin; refine wpList_growN j HLT.out (by omega) rfl _ _ rfl h4 rfl rfl rfl ?_)
      · intro gv cv w4 h8
        rw [← HT.out] at h8
        clear h4 d0 d1 d2
        go_wp2
        go_roundw
        case rel=>exact ⟨j+1,by omega,by go_num,h8⟩
        case measure=>simp [intOf]; omega
    · have hjn:j=n:=by omega
      subst hjn
      rw [List.take_of_length_le (by rw [HL.out]; omega)] at h1
      go_wp2_with fail
      refine (rha_Len hR _).mono ?_
      rintro e w3 ⟨rfl,h3⟩
      rw [HN.out]
      have h4:=h3.pick1
      rw [List.take_of_length_le (by rw [HL.out]; omega)] at h4
      clear hR h1 c0 h3
      go_wp2
      go_ret
      exact ⟨_,rfl,h4⟩
theorem q_words {p:Int} (hs:St w0 F0 (RHeapP b ab sb g cb h::ps) w) :
    Calls Tryz.prog 133 #[.pointer (some ⟨b,0,none⟩),.int .i64 p] w fun e w'=>∃ v,e=.returned v∧St w0 F0 (RHeapP b ab sb g cb h::RowP v (aWords h.a p)::ps) w' :=
  (rh_words hs p).mono fun e w' ⟨v,he,k⟩=>⟨v,he,k.pick1⟩
end
end Go.Proofs.YtffnjpapggidlaaGreat
