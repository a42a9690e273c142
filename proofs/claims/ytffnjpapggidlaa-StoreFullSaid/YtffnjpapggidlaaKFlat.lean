/- Flat -/
import Derived.Test.YtffnjpapggidlaaKCyc
import Derived.Test.YtffnjpapggidlaaKPrim
namespace Go.Proofs.Ytffnjpapggidlaa
open Go.RowKit
set_option linter.unusedVariables false
def RowsOf (Q:Int→List Int→Prop) (a:ASt):Prop:=∀ r ∈ a.l,r.1=-1 ∨ ∃ k ws,Q k ws∧cOf (ws.length:Int)=r.1
section
variable {Q:Int→List Int→Prop}
theorem RowsOf.free {a:ASt} (h:RowsOf Q a) (p:Int):RowsOf Q (aFreeS p a):=by
  unfold aFreeS
  split
  · intro r hr
    simp only at hr
    unfold sFree at hr
    split at hr
    · rcases List.mem_or_eq_of_mem_set hr with h1 | h1
      · exact h r h1
      · subst h1
        unfold freeRow
        split
        · exact .inl rfl
        · simp only
          generalize ((p.toNat / 32:Nat):Int).toNat=j
          cases e:a.l[j]? with
          | none=>exact .inl rfl
          | some r'=>exact h r' (List.mem_of_getElem? e)
    · exact h r hr
  · exact h
theorem RowsOf.store {a:ASt} (h:RowsOf Q a) (p i w:Int):RowsOf Q (aStoreS p i w a):=by
  unfold aStoreS
  split
  · exact h
  · exact h
theorem RowsOf.frees {a:ASt} (h:RowsOf Q a) (l:List Int):RowsOf Q (l.foldl (fun s p=>aFreeS p s) a):=by
  induction l generalizing a with
  | nil=>exact h
  | cons p l ih=>exact ih (h.free p)
theorem RowsOf.alloc {a a':ASt} {kind n:Int} (h:RowsOf Q a) (hn:0≤n) (hq:Q kind (List.replicate n.toNat 0)) {i t:Nat} {l':List SRow} (hs:sAlloc (cOf n) a.l=some (i,t,l')) (e:a'.l=l'):RowsOf Q a':=by
  have hc:∃ k ws,Q k ws∧cOf (ws.length:Int)=cOf n:=⟨kind,_,hq,by rw [List.length_replicate]; congr 1; omega⟩
  unfold RowsOf
  rw [e]
  unfold sAlloc at hs
  split at hs
  · cases hs
  · split at hs
    · rename_i j hj
      simp only [Option.some.injEq,Prod.mk.injEq] at hs
      obtain ⟨_,_,rfl⟩:=hs
      intro r hr
      rcases List.mem_or_eq_of_mem_set hr with h1 | h1
      · exact h r h1
      · subst h1
        simp only
        cases e2:a.l[j]? with
        | none=>exact .inl rfl
        | some r'=>exact h r' (List.mem_of_getElem? e2)
    · split at hs
      · simp only [Option.some.injEq,Prod.mk.injEq] at hs
        obtain ⟨_,_,rfl⟩:=hs
        intro r hr
        rcases List.mem_or_eq_of_mem_set hr with h1 | h1
        · exact h r h1
        · subst h1
          exact .inr hc
      · cases hs
theorem next_a (s:HSt):(hNext s).2.a=s.a:=by
  unfold hNext
  split
  · rfl
  · split
    · split <;> rfl
    · rfl
theorem scan_a (p:Int) (s:HSt):(hScan p s).a=s.a:=by
  unfold hScan hBlack
  split
  · exact shadesW_a _ _
  · rfl
theorem RowsOf.step {s:HSt} (h:RowsOf Q s.a):RowsOf Q (hStep s).2.a:=by
  unfold hStep
  split
  · have hn:=next_a s
    unfold hMark
    cases e:hNext s with
    | mk o h1 =>
      rw [e] at hn
      simp only at hn
      cases o with
      | some p=>simp only; rw [scan_a,hn]; exact h
      | none =>
        simp only
        cases e2:hLost h1 with
        | some p=>simp only; rw [shade_a]; simp only; rw [hn]; exact h.store _ _ _
        | none=>simp only; rw [hn]; exact h
  · split
    · unfold hSweep
      simp only
      split
      · exact h.frees _
      · exact h.frees _
    · exact h
end
structure Fl (Q:Int→List Int→Prop) (s:HSt):Prop where
  bi:BI s
  ln:s.a.l.length≤8
  q:∀ x,isObj s.a x=true→Q (aKind s.a.c x) (aWords s.a x)
  sw:s.ph=2→∀ x,isObj s.a x=true→s.col x=0→s.sp≤x / 32
  cl:RowsOf Q s.a
def Bar (Q:Int→List Int→Prop):Prop:=∀ k ws,Q k ws→(∀ w ∈ ws,vIsPtr w=false)∧(k=5→ws.getD 1 0=0)
def Nw (s:HSt) (x:Int):Prop:=isObj s.a x=true∧(s.ph≠0→s.col x≠0)
def nwl (s:HSt):List Int:=(hObjs s.a).filter fun x=>decide (s.col x≠0)
theorem mem_nwl {s:HSt} {x:Int}:x ∈ nwl s ↔ isObj s.a x=true∧s.col x≠0:=by
  unfold nwl
  simp only [List.mem_filter,mem_hObjs,decide_eq_true_eq]
theorem rch_flat {Q:Int→List Int→Prop} (hQ:Bar Q) {a:ASt} (hq:∀ x,isObj a x=true→Q (aKind a.c x) (aWords a x)) {keep:List Int} {x:Int}:Rch a keep x ↔ isObj a x=true∧x ∈ keep:=by
  constructor
  · intro h
    refine ⟨h.obj,?_⟩
    induction h with
    | root p h1 _=>exact h1
    | step p q hp hs _ ih =>
      exfalso
      unfold succs at hs
      obtain ⟨w,hw,_⟩:=List.mem_map.1 hs
      obtain ⟨h1,h2⟩:=List.mem_filter.1 hw
      rw [(hQ _ _ (hq p hp.obj)).1 w h1] at h2
      cases h2
  · rintro ⟨h1,h2⟩
    exact .root x h2 h1
section
variable {Q:Int→List Int→Prop} {s:HSt}
theorem Fl.objs (f:Fl Q s):(hObjs s.a).length≤256:=by
  have:=hObjs_len (s:=s.a); have:=f.bi.ok.a.len; have:=f.ln; omega
theorem Fl.left (f:Fl Q s):left s≤521:=by
  unfold Go.Proofs.Ytffnjpapggidlaa.left
  have:=mu_le s; have:=f.objs; have:=f.ln
  split
  · omega
  · split <;> omega
theorem Fl.mi (f:Fl Q s) (h1:s.ph=1):MI (nwl s) s :=
  ⟨f.bi,h1,fun x hx _=>(mem_nwl.1 hx).2,fun x ho hc=>.root x (mem_nwl.2 ⟨ho,hc⟩) ho⟩
theorem Fl.si (hQ:Bar Q) (f:Fl Q s) (h2:s.ph=2):SI (nwl s) s.a [] s:=by
  refine ⟨f.bi.ok,h2,?_,?_,?_,fun _ _=>⟨rfl,rfl⟩,rfl,rfl⟩
  · intro x hx
    rw [rch_flat hQ f.q,mem_nwl]
    exact ⟨fun h=>⟨hx,hx,h⟩,fun h=>h.2.2⟩
  · intro x
    constructor
    · intro hx
      by_cases hc:s.col x=0
      · exact ⟨hx,.inr (f.sw h2 x hx hc)⟩
      · exact ⟨hx,.inl hc⟩
    · exact fun h=>h.1
  · intro x
    constructor
    · intro h; cases h
    · rintro ⟨a,b,c⟩
      have:=f.sw h2 x a b
      omega
structure FStep (Q:Int→List Int→Prop) (s s':HSt) (L:List Gn):Prop where
  fl:Fl Q s'
  nw:∀ x,Nw s' x ↔ Nw s x
  old:∀ x,isObj s'.a x=true→isObj s.a x=true∧aWords s'.a x=aWords s.a x∧aKind s'.a.c x=aKind s.a.c x
  len:s'.a.l.length=s.a.l.length
  lt:L.length≤256
  kept:∀ g ∈ L,g.kept=false
theorem Fl.step (hQ:Bar Q) (f:Fl Q s) (h:s.ph≠0):∃ L s',hStep s=(L,s')∧FStep Q s s' L∧Go.Proofs.Ytffnjpapggidlaa.left s'<Go.Proofs.Ytffnjpapggidlaa.left s:=by
  have sic:∀ {gone:List Int} {h2:HSt},SI (nwl s) s.a gone h2→RowsOf Q h2.a→Fl Q h2∧(∀ x,Nw h2 x ↔ Nw s x)∧∀ x,isObj h2.a x=true→isObj s.a x=true∧aWords h2.a x=aWords s.a x∧aKind h2.a.c x=aKind s.a.c x:=by
    intro gone h2 k kc
    have hc:∀ x,isObj s.a x=true→(h2.col x≠0 ↔ s.col x≠0):=by
      intro x hx
      rw [k.col x hx,rch_flat hQ f.q,mem_nwl]
      exact ⟨fun h=>h.2.2,fun h=>⟨hx,hx,h⟩⟩
    refine ⟨⟨BE.of k.ok (by rw [k.ph]; decide),by rw [k.len.1]; exact f.ln,?_,?_,kc⟩,?_,?_⟩
    · intro x hx
      rw [(k.wds x hx).1,(k.wds x hx).2]
      exact f.q x ((k.obj x).1 hx).1
    · intro _ x hx h0
      rcases ((k.obj x).1 hx).2 with h | h
      · exact absurd h0 h
      · exact h
    · intro x
      constructor
      · rintro ⟨a,b⟩
        have ho:=((k.obj x).1 a).1
        exact ⟨ho,fun _=>(hc x ho).1 (b (by rw [k.ph]; decide))⟩
      · rintro ⟨a,b⟩
        have:=(hc x a).2 (b h)
        exact ⟨(k.obj x).2 ⟨a,.inl this⟩,fun _=>this⟩
    · intro x hx
      exact ⟨((k.obj x).1 hx).1,k.wds x hx⟩
  have rs:=f.cl.step
  rcases f.bi.ok.phs with h0 | h1 | h2
  · exact absurd h0 h
  · rcases (f.mi h1).step with ⟨h2,e,k,ea,_,lt⟩ | ⟨p,h2,e,hl,_⟩ | ⟨h2,e,k,_,lt⟩
    · refine ⟨[],h2,e,⟨⟨k.bi,by rw [ea]; exact f.ln,by rw [ea]; exact f.q,(fun hp=>by rw [k.ph] at hp; cases hp),by rw [ea]; exact f.cl⟩,?_,?_,by rw [ea],by simp,by simp⟩,lt⟩
      · intro x
        constructor
        · rintro ⟨a,b⟩
          have:=k.sup x a (b (by rw [k.ph]; decide))
          rw [ea] at this a
          rw [rch_flat hQ f.q,mem_nwl] at this
          exact ⟨a,fun _=>this.2.2⟩
        · rintro ⟨a,b⟩
          have:=k.rt x (mem_nwl.2 ⟨a,b h⟩) (by rw [ea]; exact a)
          exact ⟨by rw [ea]; exact a,fun _=>this⟩
      · intro x hx
        rw [ea] at hx ⊢
        exact ⟨hx,rfl,rfl⟩
    · exfalso
      unfold hLost at hl
      have hp:=List.find?_some hl
      have hm:=List.mem_of_find?_eq_some hl
      rw [mem_hObjs] at hm
      unfold isLost at hp
      simp only [Bool.and_eq_true,decide_eq_true_eq] at hp
      exact hp.2 ((hQ _ _ (f.q p hm)).2 hp.1.1.1)
    · rw [e] at rs
      obtain ⟨a,b,c⟩:=sic k rs
      exact ⟨[],h2,e,⟨a,b,c,k.len.1,by simp,by simp⟩,lt⟩
  · obtain ⟨h3,e,lt,k⟩:=(f.si hQ h2).step
    have hl:((hGone s).map (gnOf s false)).length≤256:=by
      rw [List.length_map]
      exact Nat.le_trans (List.length_filter_le _ _) f.objs
    have hk:∀ g ∈ (hGone s).map (gnOf s false),g.kept=false:=by
      intro g hg
      obtain ⟨p,_,rfl⟩:=List.mem_map.1 hg
      rfl
    rw [e] at rs
    rcases k with ⟨k,_⟩ | ⟨k,_⟩
    · obtain ⟨a,b,c⟩:=sic k rs
      exact ⟨_,h3,e,⟨a,b,c,k.len.1,hl,hk⟩,lt⟩
    · have ho:∀ x,isObj h3.a x=true ↔ isObj s.a x=true∧s.col x≠0:=by
        intro x
        rw [k.obj,rch_flat hQ f.q,mem_nwl]
        exact ⟨fun h=>h.2,fun h=>⟨h.1,h⟩⟩
      refine ⟨_,h3,e,⟨⟨BE.of k.ok (by rw [k.ph]; decide),by rw [k.len.1]; exact f.ln,?_,(fun hp=>by rw [k.ph] at hp; cases hp),rs⟩,?_,fun x hx=>⟨((ho x).1 hx).1,k.wds x hx⟩,k.len.1,hl,hk⟩,lt⟩
      · intro x hx
        rw [(k.wds x hx).1,(k.wds x hx).2]
        exact f.q x ((ho x).1 hx).1
      · intro x
        constructor
        · rintro ⟨a,_⟩
          exact ⟨((ho x).1 a).1,fun _=>((ho x).1 a).2⟩
        · rintro ⟨a,b⟩
          exact ⟨(ho x).2 ⟨a,b h⟩,fun hp=>absurd k.ph hp⟩
theorem Fl.begin (hQ:Bar Q) (f:Fl Q s) (h0:s.ph=0) (roots:List Int):Fl Q (hBegin roots s)∧(hBegin roots s).ph=1∧(hBegin roots s).a=s.a∧∀ x,Nw (hBegin roots s) x ↔ isObj s.a x=true∧x ∈ roots:=by
  obtain ⟨k,ea,_⟩:=MI.begin f.bi.ok h0 roots
  refine ⟨⟨k.bi,by rw [ea]; exact f.ln,by rw [ea]; exact f.q,(fun hp=>by rw [k.ph] at hp; cases hp),by rw [ea]; exact f.cl⟩,k.ph,ea,?_⟩
  intro x
  constructor
  · rintro ⟨a,b⟩
    have:=k.sup x a (b (by rw [k.ph]; decide))
    rw [ea,rch_flat hQ f.q] at this
    exact this
  · rintro ⟨a,b⟩
    have:=k.rt x b (by rw [ea]; exact a)
    exact ⟨by rw [ea]; exact a,fun _=>this⟩
structure FAlloc (Q:Int→List Int→Prop) (kind n:Int) (s s':HSt) (p:Int):Prop where
  fl:Fl Q s'
  ph:s'.ph=s.ph
  fresh:isObj s.a p=false
  obj:∀ x,isObj s'.a x=true ↔ isObj s.a x=true ∨ x=p
  nw:∀ x,Nw s' x ↔ Nw s x ∨ x=p
  old:∀ x,isObj s.a x=true→aWords s'.a x=aWords s.a x∧aKind s'.a.c x=aKind s.a.c x
  len:s'.a.l.length=s.a.l.length
  kind:aKind s'.a.c p=kind
  words:aWords s'.a p=List.replicate n.toNat 0
  wd:0≤p∧p<256
theorem Fl.alloc (f:Fl Q s) {kind n:Int} (hb:aBad kind n=false) (hq:Q kind (List.replicate n.toNat 0)) :
    (aAlloc kind n s.a=none∧pAlloc kind n s=some (0,9,s)) ∨ ∃ p s',pAlloc kind n s=some (p,0,s')∧FAlloc Q kind n s s' p:=by
  unfold pAlloc aAllocP aAllocE
  have hbi:=f.bi.alloc kind n
  unfold hAlloc at hbi ⊢
  rw [hb] at hbi ⊢
  simp only [Bool.false_eq_true,if_false] at hbi ⊢
  cases ha:aAlloc kind n s.a with
  | none=>exact .inl ⟨rfl,rfl⟩
  | some x =>
    obtain ⟨p,a'⟩:=x
    rw [ha] at hbi
    simp only at hbi ⊢
    have m:=alloc_more f.bi.ok.a hb ha
    obtain ⟨_,_,el,_⟩:=alloc_ok f.bi.ok.a hb ha
    have old:∀ x,isObj s.a x=true→upd s.col p (if s.ph=0 then 0 else 2) x=s.col x:=fun x hx=>upd_far _ _ (m.words hx).2.2
    have hfr:isObj s.a (p:Int)=false:=by
      cases h:isObj s.a (p:Int) with
      | false=>rfl
      | true=>exact absurd rfl (m.words h).2.2
    have hh:aHead a'.c (p:Int)=some (kind,n):=by have:=m.head p; rw [if_pos rfl] at this; exact this
    have hkd:aKind a'.c (p:Int)=kind:=by unfold aKind; rw [hh]
    have hlt:=m.lt; have hl:=f.bi.ok.a.len; have hln:=f.ln
    obtain ⟨i1,t1,l1,hs1,hs2⟩:=m.row
    refine .inr ⟨p,_,rfl,⟨⟨hbi,by simp only; rw [el]; exact f.ln,?_,?_,f.cl.alloc m.n0 hq hs1 hs2⟩,rfl,hfr,m.obj,?_,fun x hx=>⟨(m.words hx).1,(m.words hx).2.1⟩,el,hkd,m.wordsNew,by omega,by omega⟩⟩
    · intro x hx
      simp only at hx ⊢
      rcases (m.obj x).1 hx with hx | rfl
      · rw [(m.words hx).1,(m.words hx).2.1]; exact f.q x hx
      · rw [hkd,m.wordsNew]; exact hq
    · intro h2 x hx hc
      simp only at h2 hx hc ⊢
      rcases (m.obj x).1 hx with hx | rfl
      · rw [old x hx] at hc; exact f.sw h2 x hx hc
      · rw [upd_self,if_neg (by omega)] at hc; cases hc
    · intro x
      constructor
      · rintro ⟨a,b⟩
        simp only at a b
        rcases (m.obj x).1 a with hx | rfl
        · exact .inl ⟨hx,fun h=>by have:=b h; rw [old x hx] at this; exact this⟩
        · exact .inr rfl
      · rintro (⟨a,b⟩ | rfl)
        · exact ⟨(m.obj x).2 (.inl a),fun h=>by simp only; rw [old x a]; exact b h⟩
        · refine ⟨(m.obj _).2 (.inr rfl),fun h=>?_⟩
          simp only at h ⊢
          rw [upd_self,if_neg h]; decide
end
end Go.Proofs.Ytffnjpapggidlaa
