/- StoreM -/
import Derived.Test.YtffnjpapggidlaaKGStore
import Derived.Test.YtffnjpapggidlaaKFlat
import Derived.Test.YtffnjpapggidlaaKPrim
namespace Go.Proofs.Ytffnjpapggidlaa
open Go.RowKit
set_option linter.unusedVariables false
structure FMany (Q:Int→List Int→Prop) (s s':HSt):Prop where
  fl:Fl Q s'
  nw:∀ x,Nw s' x ↔ Nw s x
  old:∀ x,isObj s'.a x=true→isObj s.a x=true∧aWords s'.a x=aWords s.a x∧aKind s'.a.c x=aKind s.a.c x
  len:s'.a.l.length=s.a.l.length
theorem FMany.refl {Q:Int→List Int→Prop} {s:HSt} (f:Fl Q s):FMany Q s s:=⟨f,fun _=>Iff.rfl,fun _ h=>⟨h,rfl,rfl⟩,rfl⟩
theorem FStep.trans {Q:Int→List Int→Prop} {s s1 s2:HSt} {L:List Gn} (a:FStep Q s s1 L) (b:FMany Q s1 s2):FMany Q s s2 :=
  ⟨b.fl,fun x=>(b.nw x).trans (a.nw x),fun x h=>by
    obtain ⟨h1,e1,e2⟩:=b.old x h
    obtain ⟨h2,e3,e4⟩:=a.old x h1
    exact ⟨h2,e1.trans e3,e2.trans e4⟩,b.len.trans a.len⟩
theorem appX_s {L M:List Gn} (h:L.length+M.length<1000000):appX L M=some (L ++ M):=by unfold appX; rw [if_pos (by omega)]
section
variable {Q:Int→List Int→Prop} (hQ:Bar Q)
include hQ
theorem spin_l1:∀ (m:Nat) (L:List Gn) (s:HSt),Fl Q s→left s<m→L.length+256 * left s≤900000→(∀ g ∈ L,g.kept=false)→∃ L' s',store_spin.l1 m L s=some (L',s')∧FMany Q s s'∧s'.ph=0∧L'.length≤L.length+256 * left s∧∀ g ∈ L',g.kept=false:=by
  intro m
  induction m with
  | zero=>intro _ _ _ h; omega
  | succ m ih =>
    intro L s f hm hl hk
    show ∃ L' s',store_spin.l1b (store_spin.l1 m) L s=_∧_
    unfold store_spin.l1b
    by_cases h0:s.ph=0
    · rw [if_neg (by simp [h0])]
      exact ⟨L,s,rfl,.refl f,h0,by omega,hk⟩
    · rw [if_pos (by simpa using h0)]
      obtain ⟨M,s1,e,st,lt⟩:=f.step hQ h0
      unfold pStep
      rw [← hStepF_eq,e,bind2_y]
      have:=st.lt
      rw [appX_s (by omega),bind1_y]
      obtain ⟨L',s',e',a,b,c,d⟩:=ih (L ++ M) s1 st.fl (by omega) (by rw [List.length_append]; omega) (fun g hg=>by
        rcases List.mem_append.1 hg with h | h
        · exact hk g h
        · exact st.kept g h)
      exact ⟨L',s',e',st.trans a,b,by rw [List.length_append] at c; omega,d⟩
theorem assist_l3 {z w:Int} {R:List Int}:∀ (m x:Nat) (s:HSt) (L:List Gn),Fl Q s→left s<m→x+left s≤600→L.length+256 * left s≤900000→∃ L' s',store_Alloc.l3 z R w m s L (x:Int)=some (R,L',0,s')∧FMany Q s s':=by
  intro m
  induction m with
  | zero=>intro _ _ _ _ h; omega
  | succ m ih =>
    intro x s L f hm hx hl
    show ∃ L' s',store_Alloc.l3b z R w (store_Alloc.l3 z R w m) s L (x:Int)=_∧_
    unfold store_Alloc.l3b
    split
    · by_cases h0:s.ph=0
      · rw [if_pos (by simp [h0])]
        exact ⟨L,s,rfl,.refl f⟩
      · rw [if_neg (by simpa using h0)]
        obtain ⟨M,s1,e,st,lt⟩:=f.step hQ h0
        unfold pStep
        rw [← hStepF_eq,e,bind2_y]
        have:=st.lt
        rw [appX_s (by omega),bind1_y,wr_t _ (by omega) (by omega)]
        obtain ⟨L',s',e',a⟩:=ih (x+1) s1 (L ++ M) st.fl (by omega) (by omega) (by rw [List.length_append]; omega)
        exact ⟨L',s',e',st.trans a⟩
    · exact ⟨L,s,rfl,.refl f⟩
theorem assist_l4 {z w:Int} {R:List Int}:∀ (m x:Nat) (s:HSt) (L:List Gn),Fl Q s→left s<m→x+left s≤600→L.length+256 * left s≤900000→∃ L' s',store_Alloc.l4 z R w m s L (x:Int)=some (R,L',0,s')∧FMany Q s s':=by
  intro m
  induction m with
  | zero=>intro _ _ _ _ h; omega
  | succ m ih =>
    intro x s L f hm hx hl
    show ∃ L' s',store_Alloc.l4b z R w (store_Alloc.l4 z R w m) s L (x:Int)=_∧_
    unfold store_Alloc.l4b
    split
    · by_cases h0:s.ph=0
      · rw [if_pos (by simp [h0])]
        exact ⟨L,s,rfl,.refl f⟩
      · rw [if_neg (by simpa using h0)]
        obtain ⟨M,s1,e,st,lt⟩:=f.step hQ h0
        unfold pStep
        rw [← hStepF_eq,e,bind2_y]
        have:=st.lt
        rw [appX_s (by omega),bind1_y,wr_t _ (by omega) (by omega)]
        obtain ⟨L',s',e',a⟩:=ih (x+1) s1 (L ++ M) st.fl (by omega) (by omega) (by rw [List.length_append]; omega)
        exact ⟨L',s',e',st.trans a⟩
    · exact ⟨L,s,rfl,.refl f⟩
structure FForce (Q:Int→List Int→Prop) (R:List Int) (s s':HSt):Prop where
  fl:Fl Q s'
  ph:s'.ph=0
  obj:∀ x,isObj s'.a x=true ↔ x ∈ R
  old:∀ x,isObj s'.a x=true→isObj s.a x=true∧aWords s'.a x=aWords s.a x∧aKind s'.a.c x=aKind s.a.c x
  len:s'.a.l.length=s.a.l.length
theorem force_l1 {R:List Int} {x y z:Int} {k:Nat} (hk:600≤k) (hw:∀ r ∈ R,Wd r) {s:HSt} (f:Fl Q s) (h0:s.ph=0) (hR:∀ r ∈ R,Nw s r) {L:List Gn} (hL:L.length≤140000) (hkp:∀ g ∈ L,g.kept=false):∀ (m i:Nat),i≤L.length→L.length - i<m→∃ L' s',store_force.l1 x y z k L s m R (i:Int)=some (L',s')∧FForce Q R s s'∧L'.length≤300000:=by
  intro m
  induction m with
  | zero=>intro _ _ h; omega
  | succ m ih =>
    intro i hi hm
    show ∃ L' s',store_force.l1b x y z k L s (store_force.l1 x y z k L s m) R (i:Int)=_∧_
    unfold store_force.l1b
    by_cases hlt:i<L.length
    · have hg:(atG L (i:Int)).kept=false:=by
        have:atG L (i:Int)=L[i]:=by unfold atG; rw [List.getD_eq_getElem?_getD,Int.toNat_natCast,List.getElem?_eq_getElem hlt]; rfl
        rw [this]; exact hkp _ (List.getElem_mem hlt)
      rw [if_pos (lt_yes hlt),if_pos (inR_n hlt)]
      unfold store_of.m
      rw [hg,if_neg Bool.false_ne_true,bind1_y]
      show ∃ L' s',store_force.l1 x y z k L s m R (IntKind.i64.wrap ((i:Int)+1))=_∧_
      rw [wr_t _ (by omega) (by omega)]
      exact ih (i+1) (by omega) (by omega)
    · rw [if_neg (lt_no hlt)]
      unfold pBegin
      rw [if_pos (by rw [List.all_eq_true]; exact fun r hr=>wd_yes (hw r hr)),bind2_y]
      obtain ⟨fb,pb,ab,nb⟩:=f.begin hQ h0 R
      have hlf:=fb.left
      obtain ⟨L',s',e,a,b,c,_⟩:=spin_l1 hQ k [] (hBegin R s) fb (by omega) (by simp; omega) (by simp)
      unfold store_spin.m
      simp only [List.length_nil,Nat.zero_add] at c
      rw [e,bind2_y,appX_s (by omega),bind1_y]
      refine ⟨L ++ L',s',rfl,⟨a.fl,b,?_,?_,by rw [a.len,ab]⟩,by rw [List.length_append]; omega⟩
      · intro q
        have h1:isObj s'.a q=true ↔ Nw s' q:=⟨fun h=>⟨h,fun hp=>absurd b hp⟩,fun h=>h.1⟩
        rw [h1,a.nw,nb]
        exact ⟨fun h=>h.2,fun h=>⟨(hR q h).1,h⟩⟩
      · intro q hq
        have:=a.old q hq
        rw [ab] at this
        exact this
theorem force_m {R:List Int} {x y z:Int} {k:Nat} (hk:140010≤k) (hw:∀ r ∈ R,Wd r) (hl:R.length≤1000) {s:HSt} (f:Fl Q s) (hR:∀ r ∈ R,Nw s r):∃ L' s',store_force.m k s x y z R=some (L',s')∧FForce Q R s s'∧L'.length≤300000:=by
  have hlf:=f.left
  unfold store_force.m store_spin.m
  obtain ⟨L,s1,e,a,b,c,d⟩:=spin_l1 hQ k [] s f (by omega) (by simp; omega) (by simp)
  simp only [List.length_nil,Nat.zero_add] at c
  rw [e,bind2_y]
  unfold appM
  rw [if_pos (by simp; omega),bind1_y,List.nil_append]
  obtain ⟨L',s',e',g,h⟩:=force_l1 hQ (x:=x) (y:=y) (z:=z) (k:=k) (by omega) hw a.fl b (fun r hr=>(a.nw r).2 (hR r hr)) (L:=L) (by omega) d k 0 (by omega) (by omega)
  refine ⟨L',s',e',⟨g.fl,g.ph,g.obj,fun q hq=>?_,g.len.trans a.len⟩,h⟩
  obtain ⟨h1,e1,e2⟩:=g.old q hq
  obtain ⟨h2,e3,e4⟩:=a.old q h1
  exact ⟨h2,e1.trans e3,e2.trans e4⟩
omit hQ in
theorem take1_m {x y z:Int} {k:Nat} (hk:3≤k) {s:HSt} (f:Fl Q s) {kd w:Int} {n:Int} (hb:aBad kd w=false) (hq:Q kd (List.replicate w.toNat 0)) :
    (aAlloc kd w s.a=none∧store_take.m k s x y z [⟨kd,n⟩] [w]=some ([],false,s)) ∨ ∃ p s',store_take.m k s x y z [⟨kd,n⟩] [w]=some ([p],true,s')∧FAlloc Q kd w s s' p:=by
  obtain ⟨j,rfl⟩:∃ j,k=j+3:=⟨k - 3,by omega⟩
  unfold store_take.m
  rcases f.alloc hb hq with ⟨h1,e⟩ | ⟨p,s',e,h⟩
  · refine .inl ⟨h1,?_⟩
    show store_take.l3b [⟨kd,n⟩] [w] (j+3) (store_take.l3 [⟨kd,n⟩] [w] (j+3) (j+2)) [] s 0=_
    unfold store_take.l3b
    rw [if_pos (by rfl),if_pos (by rfl),if_pos (by rfl)]
    show bind3 (pAlloc kd w s) _=_
    rw [e,bind3_y,if_pos (by decide)]
    rfl
  · refine .inr ⟨p,s',?_,h⟩
    show store_take.l3b [⟨kd,n⟩] [w] (j+3) (store_take.l3 [⟨kd,n⟩] [w] (j+3) (j+2)) [] s 0=_
    unfold store_take.l3b
    rw [if_pos (by rfl),if_pos (by rfl),if_pos (by rfl)]
    show bind3 (pAlloc kd w s) _=_
    rw [e,bind3_y,if_neg (by decide)]
    rfl
omit hQ in
theorem sizes1_m {k:Nat} (hk:3≤k) {kd n:Int} (h:rKnown kd n=true):store_sizes.m k [⟨kd,n⟩]=some ([rNeed kd n],true):=by
  obtain ⟨j,rfl⟩:∃ j,k=j+3:=⟨k - 3,by omega⟩
  unfold store_sizes.m
  show store_sizes.l1b [⟨kd,n⟩] (store_sizes.l1 [⟨kd,n⟩] (j+2)) [] 0=_
  unfold store_sizes.l1b
  rw [if_pos (by rfl),if_pos (by rfl)]
  show (if (!(rKnown kd n))=true then _ else _)=_
  rw [h,if_neg (by decide)]
  rfl
omit hQ in
theorem words1_m {k:Nat} (hk:3≤k) (w:Int):∃ x,store_words.m k [w]=some x:=by
  obtain ⟨j,rfl⟩:∃ j,k=j+3:=⟨k - 3,by omega⟩
  exact ⟨_,rfl⟩
structure SGood (Q:Int→List Int→Prop) (R:List Int) (kd w:Int) (s s':HSt) (p:Int):Prop where
  fl:Fl Q s'
  fresh:p ∉ R
  nw:Nw s' p
  rt:∀ r ∈ R,Nw s' r
  old:∀ r ∈ R,aWords s'.a r=aWords s.a r∧aKind s'.a.c r=aKind s.a.c r
  len:s'.a.l.length=s.a.l.length
  kind:aKind s'.a.c p=kd
  words:aWords s'.a p=List.replicate w.toNat 0
  wd:0≤p∧p<256
structure SFull (Q:Int→List Int→Prop) (R:List Int) (kd w:Int) (s s':HSt):Prop where
  fl:Fl Q s'
  ph:s'.ph=0
  obj:∀ x,isObj s'.a x=true ↔ x ∈ R
  none:aAlloc kd w s'.a=none
  len:s'.a.l.length=s.a.l.length
omit hQ in
theorem FAlloc.good {R:List Int} {kd w:Int} {s s1 s2:HSt} {p:Int} (a:FAlloc Q kd w s s1 p) (b:FMany Q s1 s2) (hR:∀ r ∈ R,Nw s r):SGood Q R kd w s s2 p:=by
  have hp:Nw s2 p:=(b.nw p).2 ((a.nw p).2 (.inr rfl))
  have hr:∀ r ∈ R,Nw s2 r:=fun r h=>(b.nw r).2 ((a.nw r).2 (.inl (hR r h)))
  refine ⟨b.fl,fun h=>?_,hp,hr,fun r h=>?_,b.len.trans a.len,?_,?_,a.wd⟩
  · have:=(hR p h).1
    rw [a.fresh] at this; cases this
  · have h1:=b.old r (hr r h).1
    have h2:=a.old r (hR r h).1
    exact ⟨h1.2.1.trans h2.1,h1.2.2.trans h2.2⟩
  · exact (b.old p hp.1).2.2.trans a.kind
  · exact (b.old p hp.1).2.1.trans a.words
theorem j2_m {R:List Int} {x y z:Int} {k:Nat} (hk:140010≤k) (hw:∀ r ∈ R,Wd r) (hl:R.length≤1000) {s:HSt} (f:Fl Q s) (hR:∀ r ∈ R,Nw s r) {kd n w:Int} (hb:aBad kd w=false) (hq:Q kd (List.replicate w.toNat 0)) :
    (∃ p told s',store_Alloc.j2 x y z [⟨kd,n⟩] R k [w] s=some ([p],told,0,s')∧SGood Q R kd w s s' p) ∨ ∃ told s',store_Alloc.j2 x y z [⟨kd,n⟩] R k [w] s=some ([],told,9,s')∧SFull Q R kd w s s':=by
  unfold store_Alloc.j2
  obtain ⟨wx,ew⟩:=words1_m (k:=k) (by omega) w
  rcases take1_m (x:=x) (y:=y) (z:=z) (k:=k) (n:=n) (by omega) f hb hq with ⟨h1,e⟩ | ⟨p,s1,e,h⟩
  · rw [e,bind3_y,if_pos (by rfl)]
    obtain ⟨L,s1,e1,g,hL⟩:=force_m hQ (x:=x) (y:=y) (z:=z) hk hw hl f hR
    rw [e1,bind2_y]
    have hR1:∀ r ∈ R,Nw s1 r:=fun r hr=>⟨(g.obj r).2 hr,fun hp=>absurd g.ph hp⟩
    rcases take1_m (x:=x) (y:=y) (z:=z) (k:=k) (n:=n) (by omega) g.fl hb hq with ⟨h2,e2⟩ | ⟨p,s2,e2,h⟩
    · rw [e2,bind3_y,if_pos (by rfl)]
      exact .inr ⟨L,s1,rfl,⟨g.fl,g.ph,g.obj,h2,g.len⟩⟩
    · rw [e2,bind3_y,if_neg (by decide),ew,bind1_y]
      have hlf:=h.fl.left
      obtain ⟨L',s3,e3,b⟩:=assist_l3 hQ (z:=z) (w:=wx) (R:=[p]) k 0 s2 L h.fl (by omega) (by omega) (by omega)
      refine .inl ⟨p,L',s3,e3,?_⟩
      have c:=h.good b hR1
      exact ⟨c.fl,c.fresh,c.nw,c.rt,fun r hr=>by
        have h1:=c.old r hr
        have h2:=g.old r (hR1 r hr).1
        exact ⟨h1.1.trans h2.2.1,h1.2.trans h2.2.2⟩,c.len.trans g.len,c.kind,c.words,c.wd⟩
  · rw [e,bind3_y,if_neg (by decide),ew,bind1_y]
    have hlf:=h.fl.left
    obtain ⟨L',s3,e3,b⟩:=assist_l4 hQ (z:=z) (w:=wx) (R:=[p]) k 0 s1 [] h.fl (by omega) (by omega) (by simp; omega)
    exact .inl ⟨p,L',s3,e3,h.good b hR⟩
theorem alloc1_m {R:List Int} {x y z:Int} {k:Nat} (hk:140010≤k) (hw:∀ r ∈ R,Wd r) (hl:R.length≤1000) {s:HSt} (f:Fl Q s) (hR:∀ r ∈ R,Nw s r) {kd n:Int} (hkn:rKnown kd n=true) (hb:aBad kd (rNeed kd n)=false) (hq:Q kd (List.replicate (rNeed kd n).toNat 0)) :
    (∃ p told s',store_Alloc.m k s x y z [⟨kd,n⟩] R=some ([p],told,0,s')∧SGood Q R kd (rNeed kd n) s s' p) ∨ ∃ told s',store_Alloc.m k s x y z [⟨kd,n⟩] R=some ([],told,9,s')∧SFull Q R kd (rNeed kd n) s s':=by
  unfold store_Alloc.m
  rw [sizes1_m (by omega) hkn,bind2_y,if_neg (by decide)]
  by_cases h0:s.ph=0
  · rw [if_pos (by simp [h0])]
    generalize decide ((IntKind.i64.wrap (100 * (sWords s.a.l))) ≥ (IntKind.i64.wrap (y * (s.a.c.length:Int))))=b
    unfold store_Alloc.j1
    cases b with
    | false =>
      rw [if_neg Bool.false_ne_true]
      exact j2_m hQ hk hw hl f hR hb hq
    | true =>
      rw [if_pos rfl]
      unfold pBegin
      rw [if_pos (by rw [List.all_eq_true]; exact fun r hr=>wd_yes (hw r hr)),bind2_y]
      obtain ⟨fb,pb,ab,nb⟩:=f.begin hQ h0 R
      rcases j2_m hQ (x:=x) (y:=y) (z:=z) (n:=n) hk hw hl fb (fun r hr=>(nb r).2 ⟨(hR r hr).1,hr⟩) hb hq with ⟨p,told,s',e,c⟩ | ⟨told,s',e,c⟩
      · exact .inl ⟨p,told,s',e,⟨c.fl,c.fresh,c.nw,c.rt,by have:=c.old; rw [ab] at this; exact this,by have:=c.len; rw [ab] at this; exact this,c.kind,c.words,c.wd⟩⟩
      · exact .inr ⟨told,s',e,⟨c.fl,c.ph,c.obj,c.none,by have:=c.len; rw [ab] at this; exact this⟩⟩
  · rw [if_neg (by simpa using h0)]
    unfold store_Alloc.j1
    rw [if_neg Bool.false_ne_true]
    exact j2_m hQ hk hw hl f hR hb hq
end
end Go.Proofs.Ytffnjpapggidlaa
