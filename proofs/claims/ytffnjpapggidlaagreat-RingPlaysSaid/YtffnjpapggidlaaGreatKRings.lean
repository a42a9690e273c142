/- Rings -/
import Derived.Test.YtffnjpapggidlaaGreatKG12
import Derived.Test.YtffnjpapggidlaaGreatKGView
import Derived.Test.YtffnjpapggidlaaGreatKGRef12
import Derived.Test.YtffnjpapggidlaaGreatKSepArena
import Derived.Test.YtffnjpapggidlaaGreatKPrim
namespace Go.Proofs.YtffnjpapggidlaaGreat
open Go.RowKit
set_option linter.unusedVariables false
set_option linter.unusedSimpArgs false
structure WI (s:HSt):Prop where
  ok:HOk s
  st:∀ p,Is s.a p 1 9→0≤vNum (at0 (aWords s.a p) 3)
  nx:∀ p,Is s.a p 3 7→-1≤vAt (at0 (aWords s.a p) 3)
theorem num_lt {x:Int} (h:Wd x):vNum x<4611686018427387904:=by unfold Wd at h; unfold vNum; split <;> omega
theorem num_vI {x:Int} (h:0≤x) (h2:x<4611686018427387904):vNum (vI x)=x:=by unfold vNum vI wrap64; split <;> omega
theorem is_apart {s:ASt} {p k1 k2:Int} {n1 n2:Nat} (h1:Is s p k1 n1) (h2:Is s p k2 n2) (hk:k1≠k2):False:=hk (h1.1.symm.trans h2.1)
theorem WI.store {s:HSt} (W:WI s) {b:Int} (i:Int) {v:Int} (hv:Wd v) (h1:aKind s.a.c b≠1) (h3:aKind s.a.c b≠3):WI (hStore b i v s):=by
  refine ⟨W.ok.store b i hv,?_,?_⟩
  · intro p hp
    have hp':Is s.a p 1 9:=(is_head (head_hStore W.ok b i v p)).1 hp
    rw [hStore_far W.ok b i v (by rintro rfl; exact h1 hp'.1)]
    exact W.st p hp'
  · intro p hp
    have hp':Is s.a p 3 7:=(is_head (head_hStore W.ok b i v p)).1 hp
    rw [hStore_far W.ok b i v (by rintro rfl; exact h3 hp'.1)]
    exact W.nx p hp'
theorem WI.putChan {s:HSt} (W:WI s) (p:Int) {c:Ch} (h0:0≤c.start) (h1:c.start<4611686018427387904):WI (hPut p 1 9 (chW c) s):=by
  obtain ⟨ok,hd⟩:=W.ok.put p 1 9 (chW_wd c)
  refine ⟨ok,?_,?_⟩
  · intro q hq
    have hq':Is s.a q 1 9:=(is_head (hd q)).1 hq
    by_cases e:q=p
    · subst e
      rw [hPut_self W.ok hq' rfl (chW_wd c)]
      show 0≤vNum (vI c.start)
      rw [num_vI h0 h1]; exact h0
    · rw [hPut_far W.ok p 1 9 (chW_wd c) e]; exact W.st q hq'
  · intro q hq
    have hq':Is s.a q 3 7:=(is_head (hd q)).1 hq
    by_cases e:q=p
    · subst e
      unfold hPut
      rw [if_neg (fun h=>is_apart h hq' (by decide))]
      exact W.nx q hq'
    · rw [hPut_far W.ok p 1 9 (chW_wd c) e]; exact W.nx q hq'
theorem WI.putGor {s:HSt} (W:WI s) (p:Int) {c:Gr} (hc:GoWd c):WI (hPut p 4 10 (goW c) s):=by
  obtain ⟨ok,hd⟩:=W.ok.put p 4 10 (goW_wd c hc)
  refine ⟨ok,?_,?_⟩
  · intro q hq
    have hq':Is s.a q 1 9:=(is_head (hd q)).1 hq
    by_cases e:q=p
    · subst e
      unfold hPut
      rw [if_neg (fun h=>is_apart h hq' (by decide))]
      exact W.st q hq'
    · rw [hPut_far W.ok p 4 10 (goW_wd c hc) e]; exact W.st q hq'
  · intro q hq
    have hq':Is s.a q 3 7:=(is_head (hd q)).1 hq
    by_cases e:q=p
    · subst e
      unfold hPut
      rw [if_neg (fun h=>is_apart h hq' (by decide))]
      exact W.nx q hq'
    · rw [hPut_far W.ok p 4 10 (goW_wd c hc) e]; exact W.nx q hq'
theorem WI.alloc {s:HSt} (W:WI s) (kind n:Int):WI (hAlloc kind n s):=by
  have ok:=W.ok.alloc kind n
  unfold hAlloc at ok ⊢
  cases hb:aBad kind n with
  | true=>exact W
  | false =>
    rw [hb] at ok
    simp only [Bool.false_eq_true,if_false] at ok ⊢
    cases ha:aAlloc kind n s.a with
    | none=>exact W
    | some x =>
      obtain ⟨p,s'⟩:=x
      rw [ha] at ok
      have m:=alloc_more W.ok.a hb ha
      have key:∀ (q k:Int) (j:Nat),0<j→Is s' q k j→(Is s.a q k j∧aWords s' q=aWords s.a q) ∨ aWords s' q=List.replicate n.toNat 0:=by
        intro q k j hj hq
        have hob:isObj s' q=true:=by
          have h2:=hq.2
          unfold aLen at h2
          unfold isObj
          cases e:aHead s'.c q with
          | none=>rw [e] at h2; simp only at h2; omega
          | some x=>rfl
        rcases (m.obj q).1 hob with ho | rfl
        · obtain ⟨e1,e2,_⟩:=m.words ho
          left
          refine ⟨⟨by rw [← e2]; exact hq.1,?_⟩,e1⟩
          have:(aWords s' q).length=(aWords s.a q).length:=by rw [e1]
          rw [aWords_len,aWords_len,hq.2] at this
          have:=alen_bd W.ok.a q
          omega
        · right; exact m.wordsNew
      refine ⟨ok,?_,?_⟩
      · intro q hq
        rcases key q 1 9 (by omega) hq with ⟨h,e⟩ | e
        · simp only; rw [e]; exact W.st q h
        · simp only; rw [e]
          have:at0 (List.replicate n.toNat 0) 3=0:=by unfold at0; rw [List.getD_eq_getElem?_getD,List.getElem?_replicate]; split <;> rfl
          rw [this]; decide
      · intro q hq
        rcases key q 3 7 (by omega) hq with ⟨h,e⟩ | e
        · simp only; rw [e]; exact W.nx q h
        · simp only; rw [e]
          have:at0 (List.replicate n.toNat 0) 3=0:=by unfold at0; rw [List.getD_eq_getElem?_getD,List.getElem?_replicate]; split <;> rfl
          rw [this]; decide
theorem WI.of_a {s s':HSt} (W:WI s) (ok:HOk s') (e:s'.a=s.a):WI s':=⟨ok,fun p hp=>by rw [e] at hp ⊢; exact W.st p hp,fun p hp=>by rw [e] at hp ⊢; exact W.nx p hp⟩
theorem begin_a (l:List Int) (s:HSt):(hBegin l s).a=s.a:=by unfold hBegin; split; exact shades_a _ _; rfl
theorem WI.begin {s:HSt} (W:WI s) (l:List Int):WI (hBegin l s):=W.of_a (W.ok.begin l) (begin_a l s)
theorem WI.shade {s:HSt} (W:WI s) (p:Int):WI (hShade p s):=W.of_a (W.ok.shade p) (shade_a p s)
theorem WI.mark {s:HSt} (W:WI s):WI (hMark s).2:=by
  have ok:=W.ok.mark
  unfold hMark at ok ⊢
  obtain ⟨okn,ea,ep,ho,hgn⟩:=W.ok.next
  cases e:hNext s with
  | mk o s1 =>
    rw [e] at ok okn ea
    have W1:WI s1:=W.of_a okn ea
    cases o with
    | some p =>
      refine W1.of_a ok ?_
      simp only
      unfold hScan; split
      · unfold hBlack; simp only; rw [shadesW_a]
      · rfl
    | none =>
      simp only at ok ⊢
      cases hl:hLost s1 with
      | some p =>
        rw [hl] at ok
        obtain ⟨l1,l2,_⟩:=lost_obj hl
        have hd:=head_store okn.a p 1 0
        refine ⟨ok,?_,?_⟩
        · intro q hq
          simp only at hq ⊢
          rw [shade_a] at hq ⊢
          have hq':Is s1.a q 1 9:=(is_head (hd q)).1 hq
          rw [words_store_far okn.a p 1 0 (by rintro rfl; rw [hq'.1] at l2; cases l2)]
          exact W1.st q hq'
        · intro q hq
          simp only at hq ⊢
          rw [shade_a] at hq ⊢
          have hq':Is s1.a q 3 7:=(is_head (hd q)).1 hq
          rw [words_store_far okn.a p 1 0 (by rintro rfl; rw [hq'.1] at l2; cases l2)]
          exact W1.nx q hq'
      | none =>
        rw [hl] at ok
        exact W1.of_a ok rfl
theorem WI.new (n:Nat) (h2:2≤n) (h128:n≤128):WI (hNew n):=by
  have no:∀ p,aHead (hNew n).a.c p=none:=by
    intro p
    unfold aHead hNew aNew
    simp only [List.getElem?_replicate]
    split
    · split
      · rename_i h; split at h <;> simp at h
      · rfl
    · rfl
  refine ⟨HOk.new n h2 h128,fun p hp=>?_,fun p hp=>?_⟩
  · have:=hp.1; unfold aKind at this; rw [no] at this; cases this
  · have:=hp.1; unfold aKind at this; rw [no] at this; cases this
def roomB (s:HSt) (c:Ch):Bool:=decide (aKind s.a.c c.buf=2) && decide (aLen s.a.c c.buf=c.cap) && decide (1≤c.cap)
theorem roomB_is {s:HSt} {c:Ch} (h:roomB s c=true):aKind s.a.c c.buf=2∧aLen s.a.c c.buf=c.cap∧1≤c.cap:=by
  unfold roomB at h
  simp only [Bool.and_eq_true,decide_eq_true_eq] at h
  exact ⟨h.1.1,h.1.2,h.2⟩
theorem roomB_no {s:HSt} {c:Ch} (h:¬ (aKind s.a.c c.buf=2∧aLen s.a.c c.buf=c.cap∧1≤c.cap)):roomB s c=false:=by
  cases e:roomB s c with
  | false=>rfl
  | true=>exact absurd (roomB_is e) h
def max0 (x:Int):Int:=if 0 > x then 0 else x
theorem max0_r (x:Int):(if x > 0 then x else 0)=max0 x:=by unfold max0; split <;> split <;> omega
theorem max0_ge (x:Int):0≤max0 x:=by unfold max0; split <;> omega
theorem max0_of {x:Int} (h:0≤x):max0 x=x:=by unfold max0; rw [if_neg (by omega)]
theorem ring_of_m (k:Nat) (s:HSt) (c:Ch):ring_of.m k s c=some (if roomB s c then some (⟨c.buf,c.cap,max0 c.count,max0 c.start⟩:Rm) else none,s):=by
  unfold ring_of.m ring_of.j1
  by_cases h1:aKind s.a.c c.buf=2
  · rw [if_neg (by simpa using h1)]
    by_cases h2:aLen s.a.c c.buf=c.cap
    · rw [if_neg (by simpa using h2)]
      by_cases h3:c.cap<1
      · rw [roomB_no (by omega),if_pos (by simpa using h3),if_neg Bool.false_ne_true]
      · have:roomB s c=true:=by unfold roomB; simp [h1,h2]; omega
        rw [this,if_neg (by simpa using h3),if_pos rfl]
        rfl
    · rw [if_pos (by simpa using h2),if_pos rfl,roomB_no (fun h=>h2 h.2.1),if_neg Bool.false_ne_true]
  · rw [if_pos (by simpa using h1),if_pos rfl,roomB_no (fun h=>h1 h.1),if_neg Bool.false_ne_true]
theorem buffer_m (k:Nat) (s:HSt) (c:Ch):ref11_buffer.m k s c=some (roomB s c,s):=by
  unfold ref11_buffer.m ref11_buffer.j1
  by_cases h3:c.cap > 0
  · rw [if_pos (by simpa using h3)]
    by_cases h1:aKind s.a.c c.buf=2
    · rw [if_pos (by simpa using h1)]
      by_cases h2:aLen s.a.c c.buf=c.cap
      · have:roomB s c=true:=by unfold roomB; simp [h1,h2]; omega
        rw [this]; simp [h2]
      · rw [roomB_no (fun h=>h2 h.2.1)]; simp [h2]
    · rw [if_neg (by simpa using h1),roomB_no (fun h=>h1 h.1)]
  · rw [if_neg (by simpa using h3),roomB_no (by omega)]
theorem room_cap {s:HSt} (ok:HOk s) {c:Ch} (h:roomB s c=true):1≤c.cap∧c.cap<32:=by
  obtain ⟨_,h2,h3⟩:=roomB_is h
  have:=alen_bd ok.a c.buf
  omega
theorem wr_p (x:Int) (h:0≤x) (h2:x<9223372036854775808):IntKind.i64.wrap x=x:=by rw [IntKind.wrap_i64]; omega
theorem ring_at {st n cap:Int} (h0:0≤st) (h1:st<4611686018427387904) (hn:0≤n) (hn2:n<64) (hc:1≤cap) (hc2:cap<32):Int.tmod (IntKind.i64.wrap (st+n)) cap=Int.tmod (IntKind.i64.wrap (Int.tmod st cap+n)) cap:=by
  have hm:Int.tmod st cap=st % cap:=Int.tmod_eq_emod_of_nonneg h0
  have hb:=Int.emod_lt_of_pos st (show 0<cap by omega)
  have hb0:=Int.emod_nonneg st (show cap≠0 by omega)
  rw [hm,wr_p _ (by omega) (by omega),wr_p _ (by omega) (by omega),Int.tmod_eq_emod_of_nonneg (by omega),Int.tmod_eq_emod_of_nonneg (by omega)]
  exact (Int.emod_add_emod st cap n).symm
theorem chan_start {s:HSt} (W:WI s) {p:Int} (h:Is s.a p 1 9):0≤(chOf (aWords s.a p)).start∧(chOf (aWords s.a p)).start<4611686018427387904:=by
  refine ⟨W.st p h,num_lt ?_⟩
  obtain ⟨a,b,c,d,e,f,g,i,j,he⟩:=nine h.len
  have:=aWords_wd W.ok.wd p
  rw [he] at this ⊢
  exact this d (by simp)
theorem Put_m {s:HSt} (W:WI s) (p:Int) {v:Int} (hv:Wd v) {k:Nat} (hk:40≤k):∃ e s',ring_Put.m k s p v=some (e,s')∧ref11_PutRing.m k s p v=some (e,s')∧WI s'∧s'.ph=s.ph:=by
  unfold ring_Put.m ref11_PutRing.m
  rw [pChan_e,bind2_y,rChan_m W.ok p hk,bind3_y]
  unfold isE
  by_cases hI:Is s.a p 1 9
  · rw [if_pos hI,if_pos hI,if_neg (by simp),if_neg (by simp)]
    obtain ⟨st0,st1⟩:=chan_start W hI
    generalize chOf (aWords s.a p)=c at *
    rw [ring_of_m,bind2_y,buffer_m,bind2_y]
    unfold ref11_PutRing.j1
    simp only [max0_r]
    rw [show roomB s (⟨c.cap,c.closed,max0 c.count,max0 c.start,c.buf,c.th,c.tt,c.sh,c.st⟩:Ch)=roomB s c from rfl,show roomB s (⟨c.cap,c.closed,c.count,c.start,c.buf,c.th,c.tt,c.sh,c.st⟩:Ch)=roomB s c from rfl]
    cases hR:roomB s c with
    | false =>
      refine ⟨9,s,rfl,?_,W,rfl⟩
      split <;> rfl
    | true =>
      obtain ⟨c1,c2⟩:=room_cap W.ok hR
      obtain ⟨k2,_,_⟩:=roomB_is hR
      simp only [if_true,optE]
      have n0:=max0_ge c.count
      by_cases hf:max0 c.count ≥ c.cap
      · refine ⟨9,s,by rw [if_pos (by rw [decide_eq_true_eq]; exact hf)],by rw [if_pos (by rw [decide_eq_true_eq]; exact hf)],W,rfl⟩
      · have hd:=decide_eq_false hf
        have hz:(c.cap == 0)=false:=by simp; omega
        simp only [hd,hz,Bool.not_true,Bool.false_eq_true,if_false]
        rw [max0_of st0,← ring_at st0 st1 n0 (by omega) c1 c2]
        unfold pStore
        rw [if_pos (wd_yes hv),bind2_y,bind2_y]
        have W1:=W.store (Int.tmod (IntKind.i64.wrap (c.start+max0 c.count)) c.cap) hv (by rw [k2]; decide) (by rw [k2]; decide)
        rw [rPutChan_m W1.ok _ _ hk]
        unfold pPutChan
        rw [bind2_y]
        refine ⟨_,_,rfl,rfl,W1.putChan p st0 st1,?_⟩
        rw [hPut_ph,hStore_ph]
  · rw [if_neg hI,if_neg hI,if_pos (by simp),if_pos (by simp)]
    exact ⟨10,s,rfl,rfl,W,rfl⟩
theorem Take_m {s:HSt} (W:WI s) (p:Int) {k:Nat} (hk:40≤k):∃ v e s',ring_Take.m k s p=some (v,e,s')∧ref11_TakeRing.m k s p=some (v,e,s')∧WI s'∧s'.ph=s.ph∧Wd v:=by
  unfold ring_Take.m ref11_TakeRing.m
  rw [pChan_e,bind2_y,rChan_m W.ok p hk,bind3_y]
  unfold isE
  by_cases hI:Is s.a p 1 9
  · rw [if_pos hI,if_pos hI,if_neg (by simp),if_neg (by simp)]
    obtain ⟨st0,st1⟩:=chan_start W hI
    generalize chOf (aWords s.a p)=c at *
    rw [ring_of_m,bind2_y,buffer_m,bind2_y]
    unfold ref11_TakeRing.j1
    simp only [max0_r]
    rw [show roomB s (⟨c.cap,c.closed,c.count,max0 c.start,c.buf,c.th,c.tt,c.sh,c.st⟩:Ch)=roomB s c from rfl,show roomB s (⟨c.cap,c.closed,c.count,c.start,c.buf,c.th,c.tt,c.sh,c.st⟩:Ch)=roomB s c from rfl]
    have w0:Wd 0:=by unfold Wd; omega
    cases hR:roomB s c with
    | false =>
      refine ⟨0,8,s,rfl,?_,W,rfl,w0⟩
      split <;> rfl
    | true =>
      obtain ⟨c1,c2⟩:=room_cap W.ok hR
      obtain ⟨k2,_,_⟩:=roomB_is hR
      simp only [if_true,optE]
      by_cases hf:c.count≤0
      · have:max0 c.count=0:=by unfold max0; split <;> omega
        refine ⟨0,8,s,by rw [if_pos (by simpa using this)],by rw [if_pos (by rw [decide_eq_true_eq]; exact hf)],W,rfl,w0⟩
      · have hc:max0 c.count=c.count:=max0_of (by omega)
        have hd:=decide_eq_false hf
        have hz:(c.cap == 0)=false:=by simp; omega
        have hq:(c.count == 0)=false:=by simp; omega
        rw [hc]
        simp only [hd,hz,hq,Bool.not_true,Bool.false_eq_true,if_false]
        rw [max0_of st0,bind1_y,bind1_y]
        have hm:Int.tmod c.start c.cap=c.start % c.cap:=Int.tmod_eq_emod_of_nonneg st0
        have hb:=Int.emod_lt_of_pos c.start (show 0<c.cap by omega)
        have hb0:=Int.emod_nonneg c.start (show c.cap≠0 by omega)
        rw [hm]
        unfold pLoad pStore
        rw [bind2_y,if_pos (wd_yes w0),bind2_y,bind2_y,bind2_y]
        have W1:=W.store (c.start % c.cap) w0 (by rw [k2]; decide) (by rw [k2]; decide)
        rw [rPutChan_m W1.ok _ _ hk]
        unfold pPutChan
        rw [bind2_y]
        have e1:IntKind.i64.wrap (c.start % c.cap+1)=c.start % c.cap+1:=wr_p _ (by omega) (by omega)
        rw [e1]
        have hm2:Int.tmod (c.start % c.cap+1) c.cap=(c.start % c.cap+1) % c.cap:=Int.tmod_eq_emod_of_nonneg (by omega)
        rw [hm2]
        have hb2:=Int.emod_lt_of_pos (c.start % c.cap+1) (show 0<c.cap by omega)
        have hb3:=Int.emod_nonneg (c.start % c.cap+1) (show c.cap≠0 by omega)
        refine ⟨_,_,_,rfl,rfl,W1.putChan p (c:=⟨c.cap,c.closed,_,(c.start % c.cap+1) % c.cap,c.buf,c.th,c.tt,c.sh,c.st⟩) hb3 (by simp only; omega),?_,?_⟩
        · rw [hPut_ph,hStore_ph]
        · unfold aWord
          split
          · exact wordOf_wd W.ok.wd _
          · exact w0
  · rw [if_neg hI,if_neg hI,if_pos (by simp),if_pos (by simp)]
    exact ⟨0,10,s,rfl,rfl,W,rfl,by unfold Wd; omega⟩
theorem all_lock {s:HSt} {c:Ch} (st0:0≤c.start) (st1:c.start<4611686018427387904) (c1:1≤c.cap) (c2:c.cap<32) (h0:0<c.count):∀ (m j:Nat) (L:List Int),j≤32→L.length=j→33 - j<m→∃ R,R.length≤33∧ring_All.l1 s (⟨c.buf,c.cap,max0 c.count,max0 c.start⟩:Rm) m L (j:Int)=some (R,s)∧ref11_AllRing.l4 c s m L (j:Int)=some (R,s):=by
  intro m
  induction m with
  | zero=>intro j _ _ _ h; omega
  | succ m ih =>
    intro j L hj hL hm
    show ∃ R,_∧ring_All.l1b s (⟨c.buf,c.cap,max0 c.count,max0 c.start⟩:Rm) (ring_All.l1 s (⟨c.buf,c.cap,max0 c.count,max0 c.start⟩:Rm) m) L (j:Int)=_∧ref11_AllRing.l4b c s (ref11_AllRing.l4 c s m) L (j:Int)=_
    unfold ring_All.l1b ref11_AllRing.l4b ref11_AllRing.j5
    simp only [max0_r,max0_of (show 0≤c.count by omega),max0_of st0]
    have hmin:((j:Int)<(if c.cap<c.count then c.cap else c.count)) ↔ ((j:Int)<c.count∧(j:Int)<c.cap):=by split <;> omega
    by_cases hlt:(j:Int)<c.count∧(j:Int)<c.cap
    · have hz:(c.cap == 0)=false:=by simp; omega
      simp only [decide_eq_true (hmin.2 hlt),decide_eq_true hlt.1,decide_eq_true hlt.2,hz,if_true,Bool.false_eq_true,if_false]
      rw [← ring_at st0 st1 (show (0:Int)≤(j:Int) by omega) (by omega) c1 c2]
      unfold pLoad pushM
      have h6:L.length<1000000:=by omega
      simp only [bind2_y,h6,if_true,bind1_y]
      rw [wr_t ((j:Int)+1) (by omega) (by omega)]
      have:=ih (j+1) (L ++ [aWord c.buf ((IntKind.i64.wrap (c.start+(j:Int))).tmod c.cap) s.a]) (by omega) (by simp [hL]) (by omega)
      rw [max0_of (show 0≤c.count by omega),max0_of st0] at this
      exact this
    · rw [if_neg (by rw [decide_eq_true_eq]; exact fun h=>hlt (hmin.1 h))]
      refine ⟨L,by omega,rfl,?_⟩
      by_cases h1:(j:Int)<c.count
      · rw [if_pos (by rw [decide_eq_true_eq]; exact h1),if_neg (by rw [decide_eq_true_eq]; exact fun h=>hlt ⟨h1,h⟩)]
      · rw [if_neg (by rw [decide_eq_true_eq]; exact h1),if_neg Bool.false_ne_true]
theorem All_m {s:HSt} (W:WI s) (p:Int) {k:Nat} (hk:40≤k):∃ R,R.length≤33∧ring_All.m k s p=some (R,s)∧ref11_AllRing.m k s p=some (R,s):=by
  unfold ring_All.m ref11_AllRing.m
  rw [pChan_e,bind2_y,rChan_m W.ok p hk,bind3_y]
  unfold isE ref11_AllRing.j1
  by_cases hI:Is s.a p 1 9
  · rw [if_pos hI,if_pos hI,if_neg (by simp),if_neg (by simp)]
    obtain ⟨st0,st1⟩:=chan_start W hI
    generalize chOf (aWords s.a p)=c at *
    rw [ring_of_m,bind2_y,buffer_m,bind2_y]
    rw [show roomB s (⟨c.cap,c.closed,c.count,c.start,c.buf,c.th,c.tt,c.sh,c.st⟩:Ch)=roomB s c from rfl]
    cases hR:roomB s c with
    | false =>
      refine ⟨[],by simp,rfl,?_⟩
      split <;> rfl
    | true =>
      obtain ⟨c1,c2⟩:=room_cap W.ok hR
      simp only [if_true,optE]
      by_cases hf:c.count≤0
      · rw [if_pos (by rw [decide_eq_true_eq]; exact hf)]
        have:max0 c.count=0:=by unfold max0; split <;> omega
        refine ⟨[],by simp,?_,rfl⟩
        obtain ⟨k',rfl⟩:∃ k',k=k'+1:=⟨k - 1,by omega⟩
        show ring_All.l1b s _ _ [] 0=_
        unfold ring_All.l1b
        simp only [this]
        rw [if_neg (by rw [decide_eq_true_eq]; split <;> omega)]
      · rw [if_neg (by rw [decide_eq_true_eq]; exact hf),if_neg (by simp)]
        exact all_lock st0 st1 c1 c2 (by omega) k 0 [] (by omega) rfl (by omega)
  · rw [if_neg hI,if_neg hI,if_pos (by simp),if_pos (by simp),if_pos rfl]
    exact ⟨[],by simp,rfl,rfl⟩
end Go.Proofs.YtffnjpapggidlaaGreat
