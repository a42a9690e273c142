/- Cyc -/
import Derived.Test.YtffnjpapggidlaaKPureArena
import Derived.Test.YtffnjpapggidlaaKSepHeap
namespace Go.Proofs.Ytffnjpapggidlaa
set_option linter.unusedVariables false
set_option linter.unusedSimpArgs false
theorem shade_cases (q:Int) (h:HSt):hShade q h=h ∨ (hWhite q h=true∧(hShade q h).col=upd h.col q 1∧((hShade q h).g=h.g ++ [q]∧(hShade q h).ov=h.ov ∨ (hShade q h).g=h.g∧(hShade q h).ov=true)):=by
  unfold hShade
  by_cases hw:hWhite q h=true
  · rw [if_pos hw]
    right
    refine ⟨hw,?_⟩
    unfold hPush
    split
    · exact ⟨rfl,.inl ⟨rfl,rfl⟩⟩
    · exact ⟨rfl,.inr ⟨rfl,rfl⟩⟩
  · left; rw [if_neg hw]
theorem white_is {q:Int} {h:HSt} (hw:hWhite q h=true):h.ph=1∧isObj h.a q=true∧h.col q=0:=by
  unfold hWhite at hw
  simp only [Bool.and_eq_true,decide_eq_true_eq] at hw
  exact ⟨hw.1.1,hw.1.2,hw.2⟩
theorem upd_self (f:Int→Int) (p v:Int):upd f p v p=v:=by unfold upd; rw [if_pos rfl]
theorem upd_far (f:Int→Int) {p x:Int} (v:Int) (h:x≠p):upd f p v x=f x:=by unfold upd; rw [if_neg h]
theorem shade_colc (q:Int) (h:HSt) (x:Int):(hShade q h).col x=h.col x ∨ (h.col x=0∧(hShade q h).col x=1∧x=q∧isObj h.a x=true):=by
  rcases shade_cases q h with e | ⟨hw,e,_⟩
  · left; rw [e]
  · obtain ⟨_,ho,hc⟩:=white_is hw
    by_cases ex:x=q
    · subst ex; right; rw [e,upd_self]; exact ⟨hc,rfl,rfl,ho⟩
    · left; rw [e,upd_far _ _ ex]
theorem shadesW_colc (l:List Int) (h:HSt) (x:Int):(hShadesW l h).col x=h.col x ∨ (h.col x=0∧(hShadesW l h).col x=1∧isObj h.a x=true∧∃ w ∈ l,vIsPtr w=true∧vAt w=x):=by
  unfold hShadesW
  induction l generalizing h with
  | nil=>left; rfl
  | cons w l ih =>
    simp only [List.foldl_cons]
    have hs:(hShadeW w h).col x=h.col x ∨ (h.col x=0∧(hShadeW w h).col x=1∧isObj h.a x=true∧vIsPtr w=true∧vAt w=x):=by
      unfold hShadeW
      split
      · rename_i hv
        rcases shade_colc (vAt w) h x with e | ⟨a,b,c,d⟩
        · exact .inl e
        · exact .inr ⟨a,b,d,hv,c.symm⟩
      · exact .inl rfl
    rcases ih (hShadeW w h) with e | ⟨a,b,c,w',hw',hv⟩
    · rcases hs with e2 | ⟨a,b,c,d,f⟩
      · left; rw [e,e2]
      · right; exact ⟨a,by rw [e,b],c,w,by simp,d,f⟩
    · rw [shadeW_a] at c
      rcases hs with e2 | ⟨a2,b2,_⟩
      · right; exact ⟨by rw [← e2]; exact a,b,c,w',by simp [hw'],hv⟩
      · rw [b2] at a; cases a
theorem shades_colc (l:List Int) (h:HSt) (x:Int):(hShades l h).col x=h.col x ∨ (h.col x=0∧(hShades l h).col x=1∧isObj h.a x=true∧x ∈ l):=by
  unfold hShades
  induction l generalizing h with
  | nil=>left; rfl
  | cons w l ih =>
    simp only [List.foldl_cons]
    rcases ih (hShade w h) with e | ⟨a,b,c,hm⟩
    · rcases shade_colc w h x with e2 | ⟨a,b,c,d⟩
      · left; rw [e,e2]
      · right; exact ⟨a,by rw [e,b],d,by simp [c]⟩
    · rw [shade_a] at c
      rcases shade_colc w h x with e2 | ⟨a2,b2,_⟩
      · right; exact ⟨by rw [← e2]; exact a,b,c,by simp [hm]⟩
      · rw [b2] at a; cases a
theorem shade_mono {q:Int} {h:HSt} {x:Int} (hx:h.col x≠0):(hShade q h).col x≠0:=by
  rcases shade_colc q h x with e | ⟨a,_⟩
  · rw [e]; exact hx
  · exact absurd a hx
theorem shadesW_mono {l:List Int} {h:HSt} {x:Int} (hx:h.col x≠0):(hShadesW l h).col x≠0:=by
  rcases shadesW_colc l h x with e | ⟨a,_⟩
  · rw [e]; exact hx
  · exact absurd a hx
theorem shades_mono {l:List Int} {h:HSt} {x:Int} (hx:h.col x≠0):(hShades l h).col x≠0:=by
  rcases shades_colc l h x with e | ⟨a,_⟩
  · rw [e]; exact hx
  · exact absurd a hx
theorem shade_hit {q:Int} {h:HSt} (h1:h.ph=1) (ho:isObj h.a q=true):(hShade q h).col q≠0:=by
  by_cases hc:h.col q=0
  · rw [shade_col,if_pos (by unfold hWhite; rw [h1,ho,hc]; rfl),upd_self]; decide
  · exact shade_mono hc
theorem shadesW_hit {l:List Int} {h:HSt} (h1:h.ph=1) {w:Int} (hw:w ∈ l) (hv:vIsPtr w=true) (ho:isObj h.a (vAt w)=true):(hShadesW l h).col (vAt w)≠0:=by
  unfold hShadesW
  induction l generalizing h with
  | nil=>cases hw
  | cons y l ih =>
    simp only [List.foldl_cons]
    rcases List.mem_cons.1 hw with rfl | hm
    · refine shadesW_mono (l:=l) ?_
      unfold hShadeW
      rw [if_pos hv]
      exact shade_hit h1 ho
    · exact ih (by rw [shadeW_ph]; exact h1) hm (by rw [shadeW_a]; exact ho)
theorem shades_hit {l:List Int} {h:HSt} (h1:h.ph=1) {p:Int} (hp:p ∈ l) (ho:isObj h.a p=true):(hShades l h).col p≠0:=by
  unfold hShades
  induction l generalizing h with
  | nil=>cases hp
  | cons y l ih =>
    simp only [List.foldl_cons]
    rcases List.mem_cons.1 hp with rfl | hm
    · exact shades_mono (l:=l) (shade_hit h1 ho)
    · exact ih (by rw [shade_ph]; exact h1) hm (by rw [shade_a]; exact ho)
theorem shadesW_cy (l:List Int) (h:HSt):(hShadesW l h).cy=h.cy:=by
  unfold hShadesW
  induction l generalizing h with
  | nil=>rfl
  | cons p l ih=>simp only [List.foldl_cons]; rw [ih]; unfold hShadeW; split; exact shade_cy _ _; rfl
theorem shades_cy (l:List Int) (h:HSt):(hShades l h).cy=h.cy:=by
  unfold hShades
  induction l generalizing h with
  | nil=>rfl
  | cons p l ih=>simp only [List.foldl_cons]; rw [ih]; exact shade_cy _ _
structure BE (E:Int→Prop) (h:HSt):Prop where
  ok:HOk h
  eg:∀ x,E x→h.col x=1
  gg:∀ x ∈ h.g,h.col x=1∧¬ E x
  nd:h.g.Nodup
  ovf:h.ph=1→h.ov=false→∀ x,isObj h.a x=true→h.col x=1→E x ∨ x ∈ h.g
  dark:h.ph=1→∀ x y,isObj h.a x=true→h.col x=2→y ∈ succs h.a x→isObj h.a y=true→h.col y≠0
abbrev BI (h:HSt):Prop:=BE (fun _=>False) h
theorem BE.shade {E:Int→Prop} {h:HSt} (k:BE E h) (q:Int):BE E (hShade q h):=by
  have ok:=k.ok.shade q
  rcases shade_cases q h with e | ⟨hw,ec,eg⟩
  · rw [e]; exact k
  · obtain ⟨hph,ho,hc⟩:=white_is hw
    have nE:¬ E q:=fun hE=>by have:=k.eg q hE; omega
    have nG:q ∉ h.g:=fun hm=>by have:=(k.gg q hm).1; omega
    have hcol:∀ x,x≠q→(hShade q h).col x=h.col x:=fun x hx=>by rw [ec,upd_far _ _ hx]
    have hq:(hShade q h).col q=1:=by rw [ec,upd_self]
    refine ⟨ok,?_,?_,?_,?_,?_⟩
    · intro x hx
      rw [hcol x (fun e=>nE (e ▸ hx))]; exact k.eg x hx
    · intro x hx
      have hx2:x ∈ h.g ∨ x=q:=by
        rcases eg with ⟨e,_⟩ | ⟨e,_⟩
        · rw [e] at hx; simpa using hx
        · rw [e] at hx; exact .inl hx
      rcases hx2 with hx2 | rfl
      · rw [hcol x (fun e=>nG (e ▸ hx2))]; exact k.gg x hx2
      · exact ⟨hq,nE⟩
    · rcases eg with ⟨e,_⟩ | ⟨e,_⟩
      · rw [e,List.nodup_append]
        refine ⟨k.nd,by simp,?_⟩
        intro a ha b hb e2
        simp only [List.mem_singleton] at hb
        subst hb; subst e2
        exact nG ha
      · rw [e]; exact k.nd
    · intro h1 hov x hx hc1
      rw [shade_a] at hx
      rcases eg with ⟨e,e2⟩ | ⟨e,e2⟩
      · rw [e]
        by_cases ex:x=q
        · subst ex; right; simp
        · rw [hcol x ex] at hc1
          rcases k.ovf hph (by rw [← e2]; exact hov) x hx hc1 with h | h
          · exact .inl h
          · exact .inr (by simp [h])
      · rw [e2] at hov; cases hov
    · intro h1 x y hx hc2 hy hoy
      rw [shade_a] at hx hy hoy
      have ex:x≠q:=by rintro rfl; rw [hq] at hc2; cases hc2
      rw [hcol x ex] at hc2
      exact shade_mono (k.dark hph x y hx hc2 hy hoy)
theorem BE.shadeW {E:Int→Prop} {h:HSt} (k:BE E h) (w:Int):BE E (hShadeW w h):=by
  unfold hShadeW; split
  · exact k.shade _
  · exact k
theorem BE.shadesW {E:Int→Prop} {h:HSt} (k:BE E h) (l:List Int):BE E (hShadesW l h):=by
  unfold hShadesW
  induction l generalizing h with
  | nil=>exact k
  | cons p l ih=>exact ih (k.shadeW p)
theorem BE.shades {E:Int→Prop} {h:HSt} (k:BE E h) (l:List Int):BE E (hShades l h):=by
  unfold hShades
  induction l generalizing h with
  | nil=>exact k
  | cons p l ih=>exact ih (k.shade p)
theorem BE.of {h:HSt} (ok:HOk h) (hp:h.ph≠1):BI h:=by
  have hg:=ok.gnil hp
  exact ⟨ok,fun _ h=>h.elim,fun x hx=>(by rw [hg] at hx; cases hx),(by rw [hg]; simp),fun h=>absurd h hp,fun h=>absurd h hp⟩
theorem shade_store (q p i w:Int) {h:HSt} (hok:AOk h.a):hShade q { h with a:=aStoreS p i w h.a }={ hShade q h with a:=aStoreS p i w h.a }:=by
  unfold hShade
  have e:hWhite q { h with a:=aStoreS p i w h.a }=hWhite q h:=by unfold hWhite; simp only; rw [obj_store hok]
  rw [e]
  split
  · unfold hPush; simp only; split <;> rfl
  · rfl
theorem BE.storeA {h:HSt} (k:BI h) (p i:Int) {w:Int} (hw:Wd w) (hc:h.ph=1→vIsPtr w=true→isObj h.a (vAt w)=true→h.col (vAt w)≠0):BI { h with a:=aStoreS p i w h.a }:=by
  refine ⟨k.ok.storeA p i hw,k.eg,k.gg,k.nd,?_,?_⟩
  · intro h1 hov x hx
    simp only at hx
    rw [obj_store k.ok.a] at hx
    exact k.ovf h1 hov x hx
  · intro h1 x y hx hc2 hy hoy
    simp only at hx hy hoy hc2 ⊢
    rw [obj_store k.ok.a] at hx hoy
    rcases succs_store k.ok.a p i w hy with hy | ⟨a,b,c⟩
    · exact k.dark h1 x y hx hc2 hy hoy
    · rw [← b] at hoy ⊢; exact hc h1 a hoy
theorem BE.store {h:HSt} (k:BI h) (p i:Int) {w:Int} (hw:Wd w):BI (hStore p i w h):=by
  unfold hStore
  split
  · unfold hShadeW
    split
    · rename_i hv
      rw [shade_store _ _ _ _ k.ok.a]
      have:=(k.shade (vAt w)).storeA p i hw (fun h1 _ ho=>shade_hit (by rw [shade_ph] at h1; exact h1) (by rw [shade_a] at ho; exact ho))
      rw [shade_a] at this
      exact this
    · rename_i hv
      exact k.storeA p i hw (fun _ h=>absurd h hv)
  · exact k
theorem BE.alloc {h:HSt} (k:BI h) (kind n:Int):BI (hAlloc kind n h):=by
  have ok:=k.ok.alloc kind n
  unfold hAlloc at ok ⊢
  cases hb:aBad kind n with
  | true=>exact k
  | false =>
    rw [hb] at ok
    simp only [Bool.false_eq_true,if_false] at ok ⊢
    cases ha:aAlloc kind n h.a with
    | none=>exact k
    | some x =>
      obtain ⟨p,s'⟩:=x
      rw [ha] at ok
      simp only at ok ⊢
      have m:=alloc_more k.ok.a hb ha
      have old:∀ x,isObj h.a x=true→upd h.col p (if h.ph=0 then 0 else 2) x=h.col x:=fun x hx=>upd_far _ _ (m.words hx).2.2
      refine ⟨ok,fun _ h=>h.elim,?_,k.nd,?_,?_⟩
      · intro x hx
        simp only
        rw [old x (k.ok.gin x hx)]
        exact k.gg x hx
      · intro h1 hov x hx hc
        simp only at h1 hov hx hc ⊢
        rcases (m.obj x).1 hx with hx | rfl
        · rw [old x hx] at hc
          exact k.ovf h1 hov x hx hc
        · rw [upd_self] at hc
          split at hc <;> cases hc
      · intro h1 x y hx hc hy hoy
        simp only at h1 hx hc hy hoy ⊢
        rcases (m.obj x).1 hx with hx | rfl
        · rw [old x hx] at hc
          rw [succs_congr (m.words hx).1] at hy
          rcases (m.obj y).1 hoy with hoy | rfl
          · rw [old y hoy]; exact k.dark h1 x y hx hc hy hoy
          · rw [upd_self,if_neg (by omega)]; decide
        · rw [succs_zero (fun z hz=>by rw [m.wordsNew] at hz; have:=List.eq_of_mem_replicate hz; subst this; rfl)] at hy
          cases hy
theorem BE.freeA {h:HSt} (k:BI h) {p:Int} (hp:p ∉ h.g):BI { h with a:=aFreeS p h.a }:=by
  have hob:∀ x,isObj (aFreeS p h.a) x=true→isObj h.a x=true∧x≠p:=by
    intro x hx
    rw [obj_free k.ok.a] at hx
    simpa using hx
  refine ⟨k.ok.freeA hp,k.eg,k.gg,k.nd,?_,?_⟩
  · intro h1 hov x hx
    exact k.ovf h1 hov x (hob x hx).1
  · intro h1 x y hx hc hy hoy
    simp only at hx hy hoy hc ⊢
    obtain ⟨hx1,hx2⟩:=hob x hx
    rw [succs_congr (words_free k.ok.a hx2 hx1).1] at hy
    exact k.dark h1 x y hx1 hc hy (hob y hoy).1
theorem BE.clear {h:HSt} (k:HOk h) (h0:h.ph=0):BI { h with col:=fun _=>0,g:=[],ov:=false,ph:=1 } :=
  ⟨k.clear h0,fun _ h=>h.elim,fun x hx=>(by cases hx),(by simp),fun _ _ x _ hc=>(by cases hc),fun _ x y _ hc=>(by cases hc)⟩
theorem BE.begin {h:HSt} (k:BI h) (l:List Int):BI (hBegin l h):=by
  unfold hBegin; split
  · rename_i h0; exact (BE.clear k.ok h0).shades l
  · exact k
theorem BE.new (n:Nat) (h2:2≤n) (h128:n≤128):BI (hNew n):=BE.of (HOk.new n h2 h128) (by show (0:Int)≠1; decide)
theorem BE.next_some {h h':HSt} {p:Int} (k:BI h) (e:hNext h=(some p,h')):BE (fun x=>x=p) h'∧isObj h.a p=true∧h'.a=h.a∧h'.ph=h.ph∧h'.col=h.col∧h'.cy=h.cy∧h.col p=1:=by
  obtain ⟨okn,_,_,ho,_⟩:=k.ok.next
  rw [e] at okn ho
  have hop:=ho p rfl
  unfold hNext at e
  cases eg:h.g.getLast? with
  | some x =>
    rw [eg] at e
    simp only [Prod.mk.injEq,Option.some.injEq] at e
    obtain ⟨rfl,rfl⟩:=e
    have hx:x ∈ h.g:=List.mem_of_getLast? eg
    have hg:h.g=h.g.dropLast ++ [x]:=by
      rcases List.eq_nil_or_concat h.g with e | ⟨L,z,e⟩
      · rw [e] at hx; cases hx
      · rw [List.concat_eq_append] at e
        rw [e] at eg ⊢
        simp at eg
        subst eg
        simp
    have hnd:=k.nd
    rw [hg,List.nodup_append] at hnd
    have hc:=(k.gg x hx).1
    refine ⟨⟨okn,fun y hy=>(by rw [hy]; exact hc),?_,hnd.1,?_,k.dark⟩,hop,rfl,rfl,rfl,rfl,hc⟩
    · intro y hy
      refine ⟨(k.gg y (List.dropLast_subset _ hy)).1,fun e=>?_⟩
      exact hnd.2.2 y hy x (by simp) e
    · intro h1 hov y hy hcy
      have:=(k.ovf h1 hov y hy hcy).resolve_left id
      rw [hg] at this
      rcases List.mem_append.1 this with h | h
      · exact .inr h
      · exact .inl (by simpa using h)
  | none =>
    rw [eg] at e
    have hg:h.g=[]:=List.getLast?_eq_none_iff.1 eg
    simp only at e
    cases hov:h.ov with
    | false=>rw [hov] at e; simp at e
    | true =>
      rw [hov] at e
      simp only [if_true] at e
      cases hf:(hObjs h.a).find? (fun p=>decide (h.col p=1)) with
      | none=>rw [hf] at e; simp at e
      | some q =>
        rw [hf] at e
        simp only [Prod.mk.injEq,Option.some.injEq] at e
        obtain ⟨rfl,rfl⟩:=e
        have hc:h.col q=1:=by simpa using List.find?_some hf
        refine ⟨⟨k.ok,fun y hy=>(by rw [hy]; exact hc),fun y hy=>(by rw [hg] at hy; cases hy),k.nd,fun _ ho=>(by rw [hov] at ho; cases ho),k.dark⟩,hop,rfl,rfl,rfl,rfl,hc⟩
theorem BE.next_none {h h':HSt} (k:BI h) (e:hNext h=(none,h')):BI h'∧h'.a=h.a∧h'.ph=h.ph∧h'.col=h.col∧h'.cy=h.cy∧h'.g=[]∧(h.ph=1→∀ x,isObj h.a x=true→h.col x≠1):=by
  obtain ⟨okn,_,_,_,hgn⟩:=k.ok.next
  rw [e] at okn hgn
  unfold hNext at e
  cases eg:h.g.getLast? with
  | some x=>rw [eg] at e; simp at e
  | none =>
    rw [eg] at e
    have hg:h.g=[]:=List.getLast?_eq_none_iff.1 eg
    simp only at e
    cases hov:h.ov with
    | false =>
      rw [hov] at e
      simp only [Bool.false_eq_true,if_false,Prod.mk.injEq,true_and] at e
      subst e
      refine ⟨k,rfl,rfl,rfl,rfl,hg,fun h1 x hx hc=>?_⟩
      have:=(k.ovf h1 hov x hx hc).resolve_left id
      rw [hg] at this; cases this
    | true =>
      rw [hov] at e
      simp only [if_true] at e
      cases hf:(hObjs h.a).find? (fun p=>decide (h.col p=1)) with
      | some q=>rw [hf] at e; simp at e
      | none =>
        rw [hf] at e
        simp only [Prod.mk.injEq,true_and] at e
        subst e
        have hno:∀ x,isObj h.a x=true→h.col x≠1:=by
          intro x hx hc
          have:=List.find?_eq_none.1 hf x (mem_hObjs.2 hx)
          simp [hc] at this
        exact ⟨⟨okn,k.eg,k.gg,k.nd,fun _ _ x hx hc=>absurd hc (hno x hx),k.dark⟩,rfl,rfl,rfl,rfl,hg,fun _=>hno⟩
theorem BE.scan {h:HSt} {p:Int} (k:BE (fun x=>x=p) h) (h1:h.ph=1) (ho:isObj h.a p=true):BI (hScan p h):=by
  have ok:=k.ok.scan p
  have e:hScan p h=hBlack p (hShadesW (aWords h.a p) h):=by unfold hScan; rw [if_pos ho]
  rw [e] at ok ⊢
  have k1:=k.shadesW (aWords h.a p)
  have ea:=shadesW_a (aWords h.a p) h
  have ep:=shadesW_ph (aWords h.a p) h
  have hit:∀ y ∈ succs h.a p,isObj h.a y=true→(hShadesW (aWords h.a p) h).col y≠0:=by
    intro y hy hoy
    obtain ⟨w,hw,hv,rfl⟩:=mem_succs.1 hy
    exact shadesW_hit h1 hw hv hoy
  generalize hShadesW (aWords h.a p) h=h2 at *
  unfold hBlack at ok ⊢
  refine ⟨ok,fun _ h=>h.elim,?_,k1.nd,?_,?_⟩
  · intro x hx
    obtain ⟨a,b⟩:=k1.gg x hx
    exact ⟨by simp only; rw [upd_far _ _ b]; exact a,id⟩
  · intro h1' hov x hx hc
    simp only at hx hc hov ⊢
    by_cases ex:x=p
    · subst ex; rw [upd_self] at hc; cases hc
    · rw [upd_far _ _ ex] at hc
      exact .inr ((k1.ovf (by rw [ep]; exact h1) hov x hx hc).resolve_left ex)
  · intro h1' x y hx hc hy hoy
    simp only at hx hc hy hoy ⊢
    have hny:h2.col y≠0→upd h2.col p 2 y≠0:=by
      intro hy
      by_cases e:y=p
      · subst e; rw [upd_self]; decide
      · rw [upd_far _ _ e]; exact hy
    apply hny
    by_cases ex:x=p
    · subst ex
      rw [ea] at hy hoy
      exact hit y hy hoy
    · rw [upd_far _ _ ex] at hc
      exact k1.dark (by rw [ep]; exact h1) x y hx hc hy hoy
theorem BE.step {h:HSt} (k:BI h):BI (hStep h).2:=by
  have ok:=k.ok.step
  unfold hStep at ok ⊢
  by_cases h1:h.ph=1
  · rw [if_pos h1] at ok ⊢
    unfold hMark at ok ⊢
    cases en:hNext h with
    | mk o hh =>
      rw [en] at ok
      cases o with
      | some p =>
        obtain ⟨a,b,c,d,_⟩:=k.next_some en
        exact a.scan (by rw [d]; exact h1) (by rw [c]; exact b)
      | none =>
        obtain ⟨a,b,c,d,_⟩:=k.next_none en
        simp only at ok ⊢
        cases hl:hLost hh with
        | some p =>
          have:=a.storeA p 1 (w:=0) (by unfold Wd; omega) (fun _ h=>by cases h)
          exact this.shade p
        | none =>
          rw [hl] at ok
          exact BE.of ok (by show (2:Int)≠1; decide)
  · rw [if_neg h1] at ok ⊢
    by_cases h2:h.ph=2
    · rw [if_pos h2] at ok ⊢
      refine BE.of ok ?_
      unfold hSweep
      simp only
      split
      · show (0:Int)≠1; decide
      · show h.ph≠1; exact h1
    · rw [if_neg h2]; exact k
def rank (c:Int):Nat:=if c=0 then 2 else if c=1 then 1 else 0
def mu (h:HSt):Nat:=((hObjs h.a).map fun x=>rank (h.col x)).sum
theorem sum_lt {f g:Int→Nat} {l:List Int} (hle:∀ x ∈ l,g x≤f x) {a:Int} (ha:a ∈ l) (hlt:g a<f a):(l.map g).sum<(l.map f).sum:=by
  induction l with
  | nil=>cases ha
  | cons y l ih =>
    simp only [List.map_cons,List.sum_cons]
    have hy:=hle y (by simp)
    have hl:(l.map g).sum≤(l.map f).sum:=by
      clear ih ha
      induction l with
      | nil=>simp
      | cons z l ih2 =>
        simp only [List.map_cons,List.sum_cons]
        have:=hle z (by simp)
        have:=ih2 (fun x hx=>hle x (by simp at hx ⊢; rcases hx with h | h <;> simp [h]))
        omega
    rcases List.mem_cons.1 ha with rfl | ha
    · omega
    · have:=ih (fun x hx=>hle x (by simp [hx])) ha
      omega
theorem sum_le {f:Int→Nat} {c:Nat} {l:List Int} (h:∀ x ∈ l,f x≤c):(l.map f).sum≤c * l.length:=by
  induction l with
  | nil=>simp
  | cons y l ih =>
    simp only [List.map_cons,List.sum_cons,List.length_cons]
    have:=h y (by simp)
    have:=ih (fun x hx=>h x (by simp [hx]))
    rw [Nat.mul_succ]; omega
theorem mu_le (h:HSt):mu h≤2 * (hObjs h.a).length:=sum_le fun x _=>by unfold rank; split <;> (try split) <;> omega
theorem mu_scan {h:HSt} {p:Int} (h1:h.col p=1) (ho:isObj h.a p=true):mu (hScan p h)<mu h:=by
  have e:hScan p h=hBlack p (hShadesW (aWords h.a p) h):=by unfold hScan; rw [if_pos ho]
  rw [e]
  unfold mu hBlack
  simp only
  rw [shadesW_a]
  refine sum_lt (a:=p) ?_ (mem_hObjs.2 ho) ?_
  · intro x _
    by_cases ex:x=p
    · subst ex; rw [upd_self]; unfold rank; simp
    · rw [upd_far _ _ ex]
      rcases shadesW_colc (aWords h.a p) h x with e | ⟨a,b,_⟩
      · rw [e]; exact Nat.le_refl _
      · rw [a,b]; decide
  · rw [upd_self,h1]; decide
theorem objs_store {s:ASt} (hok:AOk s) (p i w:Int):hObjs (aStoreS p i w s)=hObjs s:=by
  unfold hObjs aObjects
  rw [(store_ok hok p i w).2.1]
  congr 1
  apply List.filter_congr
  intro x _
  rw [head_store hok]
theorem mu_lost {h:HSt} (hok:AOk h.a) {p i w:Int} (h1:h.ph=1) (hc:h.col p=0) (ho:isObj h.a p=true):mu (hShade p { h with a:=aStoreS p i w h.a })<mu h:=by
  unfold mu
  rw [shade_a]
  simp only
  rw [objs_store hok]
  refine sum_lt (a:=p) ?_ (mem_hObjs.2 ho) ?_
  · intro x _
    rcases shade_colc p { h with a:=aStoreS p i w h.a } x with e | ⟨a,b,_⟩
    · rw [e]; exact Nat.le_refl _
    · rw [b]
      simp only at a
      rw [a]; decide
  · rw [shade_col,if_pos (by unfold hWhite; simp only; rw [obj_store hok,h1,ho,hc]; rfl),upd_self,hc]; decide
def left (h:HSt):Nat:=if h.ph=1 then mu h+1+h.a.l.length else if h.ph=2 then h.a.l.length - h.sp.toNat else 0
structure MI (keep:List Int) (h:HSt):Prop where
  bi:BI h
  ph:h.ph=1
  rt:∀ x ∈ keep,isObj h.a x=true→h.col x≠0
  sup:∀ x,isObj h.a x=true→h.col x≠0→Rch h.a keep x
theorem MI.begin {h:HSt} (k:HOk h) (h0:h.ph=0) (roots:List Int):MI roots (hBegin roots h)∧(hBegin roots h).a=h.a∧(hBegin roots h).cy=h.cy:=by
  have kb:=BE.begin (BE.of k (by omega)) roots
  unfold hBegin at kb ⊢
  rw [if_pos h0] at kb ⊢
  refine ⟨⟨kb,by rw [shades_ph],?_,?_⟩,shades_a _ _,shades_cy _ _⟩
  · intro x hx ho
    rw [shades_a] at ho
    exact shades_hit rfl hx ho
  · intro x ho hc
    rw [shades_a] at ho ⊢
    rcases shades_colc roots { h with col:=fun _=>0,g:=[],ov:=false,ph:=1 } x with e | ⟨_,_,a,b⟩
    · rw [e] at hc; exact absurd rfl hc
    · exact .root x b a
structure SI (keep:List Int) (a1:ASt) (gone:List Int) (h:HSt):Prop where
  ok:HOk h
  ph:h.ph=2
  col:∀ x,isObj a1 x=true→(h.col x≠0 ↔ Rch a1 keep x)
  obj:∀ x,isObj h.a x=true ↔ isObj a1 x=true∧(h.col x≠0 ∨ h.sp≤x / 32)
  gone:∀ x,x ∈ gone ↔ isObj a1 x=true∧h.col x=0∧x / 32<h.sp
  wds:∀ x,isObj h.a x=true→aWords h.a x=aWords a1 x∧aKind h.a.c x=aKind a1.c x
  len:h.a.l.length=a1.l.length∧h.a.c.length=a1.c.length
structure FI (keep:List Int) (a1:ASt) (gone:List Int) (h:HSt):Prop where
  ok:HOk h
  ph:h.ph=0
  obj:∀ x,isObj h.a x=true ↔ Rch a1 keep x
  gone:∀ x,x ∈ gone ↔ isObj a1 x=true∧¬ Rch a1 keep x
  wds:∀ x,isObj h.a x=true→aWords h.a x=aWords a1 x∧aKind h.a.c x=aKind a1.c x
  len:h.a.l.length=a1.l.length∧h.a.c.length=a1.c.length
def MStep (keep:List Int) (h:HSt):Prop :=
  (∃ h2,hStep h=([],h2)∧MI keep h2∧h2.a=h.a∧h2.cy=h.cy∧left h2<left h) ∨
  (∃ p h2,hStep h=([gnOf h true p],h2)∧hLost { h with ov:=false }=some p∧MI (keep ++ [p]) h2∧h2.a=aStoreS p 1 0 h.a∧h2.cy=h.cy∧left h2<left h) ∨
  (∃ h2,hStep h=([],h2)∧SI keep h.a [] h2∧h2.cy=h.cy∧left h2<left h)
theorem lost_cong {h h':HSt} (ea:h'.a=h.a) (ec:h'.col=h.col):hLost h'=hLost h:=by
  unfold hLost
  rw [ea]
  congr 1
  funext p
  unfold isLost
  rw [ea,ec]
theorem MI.step {keep:List Int} {h:HSt} (k:MI keep h):MStep keep h:=by
  have h1:=k.ph
  have kb:=k.bi.step
  have es:hStep h=hMark h:=by unfold hStep; rw [if_pos h1]
  unfold MStep
  rw [es] at kb ⊢
  unfold hMark at kb ⊢
  cases en:hNext h with
  | mk o hh =>
    rw [en] at kb
    cases o with
    | some p =>
      left
      obtain ⟨a,b,c,d,f,y,z⟩:=k.bi.next_some en
      simp only at kb ⊢
      have ea:(hScan p hh).a=h.a:=by
        unfold hScan; split
        · unfold hBlack; simp only; rw [shadesW_a,c]
        · exact c
      have ep:(hScan p hh).ph=1:=by
        unfold hScan; split
        · unfold hBlack; simp only; rw [shadesW_ph,d,h1]
        · rw [d,h1]
      have ey:(hScan p hh).cy=h.cy:=by
        unfold hScan; split
        · unfold hBlack; simp only; rw [shadesW_cy,y]
        · exact y
      have eo:hScan p hh=hBlack p (hShadesW (aWords hh.a p) hh):=by unfold hScan; rw [if_pos (by rw [c]; exact b)]
      have hcol:∀ x,(hScan p hh).col x=0 ↔ (hShadesW (aWords hh.a p) hh).col x=0:=by
        intro x
        rw [eo]
        unfold hBlack
        simp only
        by_cases ex:x=p
        · subst ex
          rw [upd_self]
          have:=shadesW_mono (l:=aWords hh.a x) (h:=hh) (x:=x) (by rw [f,z]; decide)
          simp [this]
        · rw [upd_far _ _ ex]
      refine ⟨_,rfl,⟨kb,ep,?_,?_⟩,ea,ey,?_⟩
      · intro x hx ho hc
        rw [hcol] at hc
        rw [ea] at ho
        exact shadesW_mono (by rw [f]; exact k.rt x hx ho) hc
      · intro x ho hc
        rw [ea] at ho ⊢
        have hc2:(hShadesW (aWords hh.a p) hh).col x≠0:=fun e=>hc ((hcol x).2 e)
        rcases shadesW_colc (aWords hh.a p) hh x with e | ⟨_,_,_,w,hw,hv,rfl⟩
        · rw [e,f] at hc2; exact k.sup x ho hc2
        · rw [c] at hw
          exact .step p _ (k.sup p b (by rw [z]; decide)) (mem_succs.2 ⟨w,hw,hv,rfl⟩) ho
      · unfold left
        rw [if_pos ep,if_pos h1,ea]
        have:mu (hScan p hh)<mu hh:=mu_scan (by rw [f]; exact z) (by rw [c]; exact b)
        have e2:mu hh=mu h:=by unfold mu; rw [c,f]
        omega
    | none =>
      obtain ⟨a,b,c,d,y,eg,ng⟩:=k.bi.next_none en
      have ng:=ng h1
      simp only at kb ⊢
      have hl2:hLost { h with ov:=false }=hLost hh:=lost_cong (h:=hh) (by simp only; exact b.symm) (by simp only; exact d.symm)
      cases hl:hLost hh with
      | some p =>
        right; left
        obtain ⟨l1,l2,l3,l4,l5⟩:=lost_obj hl
        rw [hl] at kb
        have l1':isObj h.a p=true:=by rw [← b]; exact l1
        have l3':h.col p=0:=by rw [← d]; exact l3
        simp only at kb ⊢
        have ea:(hShade p { hh with a:=aStoreS p 1 0 hh.a }).a=aStoreS p 1 0 h.a:=by rw [shade_a]; simp only; rw [b]
        have hok:=k.bi.ok.a
        have ho:∀ x,isObj (aStoreS p 1 0 h.a) x=isObj h.a x:=fun x=>obj_store hok p 1 0 x
        have hcol:∀ x,(hShade p { hh with a:=aStoreS p 1 0 hh.a }).col x=h.col x ∨ ((hShade p { hh with a:=aStoreS p 1 0 hh.a }).col x=1∧x=p):=by
          intro x
          rcases shade_colc p { hh with a:=aStoreS p 1 0 hh.a } x with e | ⟨_,e,e2,_⟩
          · left; rw [e]; simp only; rw [d]
          · exact .inr ⟨e,e2⟩
        have hitp:(hShade p { hh with a:=aStoreS p 1 0 hh.a }).col p≠0:=shade_hit (by simp only; rw [c,h1]) (by simp only; rw [b,ho]; exact l1')
        -- what is not white is black,and leads to no white one
        have close:∀ x,Rch h.a keep x→h.col x≠0∧Rch (aStoreS p 1 0 h.a) (keep ++ [p]) x:=by
          intro x hx
          induction hx with
          | root x r1 r2=>exact ⟨k.rt x r1 r2,.root x (by simp [r1]) (by rw [ho]; exact r2)⟩
          | step x q r1 r2 r3 ih =>
            obtain ⟨i1,i2⟩:=ih
            have i3:h.col x=2:=by
              rcases k.bi.ok.cols x with e | e | e
              · exact absurd e i1
              · exact absurd e (ng x r1.obj)
              · exact e
            refine ⟨k.bi.dark h1 x q r1.obj i3 r2 r3,.step x q i2 ?_ (by rw [ho]; exact r3)⟩
            have hne:x≠p:=by rintro rfl; exact i1 l3'
            rw [succs_congr (words_store_far hok p 1 0 hne)]
            exact r2
        have egn:gnOf hh true p=gnOf h true p:=by unfold gnOf; rw [b]
        refine ⟨p,_,by rw [egn],by rw [hl2,hl],⟨kb,by rw [shade_ph]; simp only; rw [c,h1],?_,?_⟩,ea,by rw [shade_cy]; exact y,?_⟩
        · intro x hx hox
          rcases List.mem_append.1 hx with hx | hx
          · rw [ea,ho] at hox
            rcases hcol x with e | ⟨e,_⟩
            · rw [e]; exact k.rt x hx hox
            · rw [e]; decide
          · simp only [List.mem_singleton] at hx
            subst hx; exact hitp
        · intro x hox hc
          rw [ea] at hox ⊢
          rcases hcol x with e | ⟨_,rfl⟩
          · rw [e] at hc
            exact (close x (k.sup x (by rw [← ho]; exact hox) hc)).2
          · exact .root x (by simp) hox
        · unfold left
          rw [shade_ph]
          simp only
          rw [if_pos (by rw [c,h1]),if_pos h1,ea,(store_ok hok p 1 0).2.2]
          have:mu (hShade p { hh with a:=aStoreS p 1 0 hh.a })<mu hh:=mu_lost (by rw [b]; exact hok) (by rw [c,h1]) l3 l1
          have e2:mu hh=mu h:=by unfold mu; rw [b,d]
          omega
      | none =>
        right; right
        rw [hl] at kb
        simp only at kb ⊢
        have hr:∀ x,Rch h.a keep x→h.col x≠0:=by
          intro x hx
          induction hx with
          | root x r1 r2=>exact k.rt x r1 r2
          | step x q r1 r2 r3 ih =>
            have i3:h.col x=2:=by
              rcases k.bi.ok.cols x with e | e | e
              · exact absurd e ih
              · exact absurd e (ng x r1.obj)
              · exact e
            exact k.bi.dark h1 x q r1.obj i3 r2 r3
        have r32:∀ x,isObj h.a x=true→(0:Int)≤x / 32:=fun x hx=>by have:=(isObj_range hx).1; omega
        refine ⟨_,rfl,⟨kb.ok,rfl,?_,?_,?_,?_,?_⟩,y,?_⟩
        · intro x hx
          simp only
          rw [d]
          exact ⟨k.sup x hx,hr x⟩
        · intro x
          simp only
          rw [b]
          exact ⟨fun h=>⟨h,.inr (r32 x h)⟩,fun h=>h.1⟩
        · intro x
          simp only
          constructor
          · intro h; cases h
          · rintro ⟨h,_,h3⟩; have:=r32 x h; omega
        · intro x _
          simp only
          rw [b]; exact ⟨rfl,rfl⟩
        · simp only
          rw [b]; exact ⟨rfl,rfl⟩
        · have e2:left { hh with ph:=2,sp:=0 }=hh.a.l.length:=by unfold left; simp
          rw [e2]
          unfold left
          rw [if_pos h1,b]
          omega
theorem frees_obj {s:ASt} (hok:AOk s) (l:List Int) (q:Int):isObj (l.foldl (fun s p=>aFreeS p s) s) q=true ↔ isObj s q=true∧q ∉ l:=by
  induction l generalizing s with
  | nil=>simp
  | cons p l ih =>
    show isObj (l.foldl (fun s p=>aFreeS p s) (aFreeS p s)) q=true ↔ _
    rw [ih (free_ok hok p).1,obj_free hok]
    simp only [Bool.and_eq_true,Bool.not_eq_true',decide_eq_false_iff_not,List.mem_cons,not_or]
    constructor
    · rintro ⟨⟨a,b⟩,c⟩; exact ⟨a,b,c⟩
    · rintro ⟨a,b,c⟩; exact ⟨⟨a,b⟩,c⟩
theorem gone_iff (h:HSt) (x:Int):x ∈ hGone h ↔ isObj h.a x=true∧x / 32=h.sp∧h.col x=0:=by
  unfold hGone
  simp only [List.mem_filter,mem_hObjs,Bool.and_eq_true,decide_eq_true_eq]
def SStep (keep:List Int) (a1:ASt) (gone:List Int) (h:HSt):Prop :=
  ∃ h2,hStep h=((hGone h).map (gnOf h false),h2)∧left h2<left h∧(SI keep a1 (gone ++ hGone h) h2∧h2.cy=h.cy ∨ FI keep a1 (gone ++ hGone h) h2∧h2.cy=Go.RowKit.wrap64 (h.cy+1))
theorem SI.step {keep:List Int} {a1:ASt} {gone:List Int} {h:HSt} (k:SI keep a1 gone h):SStep keep a1 gone h:=by
  have h2:=k.ph
  have ok:=k.ok.step
  have hsp:=k.ok.spn h2
  have hs0:=k.ok.sp0
  have hlen:=k.ok.a.len
  have es:hStep h=hSweep h:=by unfold hStep; rw [if_neg (by omega),if_pos h2]
  unfold SStep
  rw [es] at ok ⊢
  unfold hSweep at ok ⊢
  obtain ⟨fl,fc,_⟩:=frees_len k.ok.a (hGone h)
  have hobj:=fun x=>frees_obj k.ok.a (hGone h) x
  have hobj2:∀ x,isObj ((hGone h).foldl (fun s p=>aFreeS p s) h.a) x=true ↔ isObj a1 x=true∧(h.col x≠0 ∨ h.sp+1≤x / 32):=by
    intro x
    rw [hobj,gone_iff,k.obj]
    constructor
    · rintro ⟨⟨a,b⟩,c⟩
      refine ⟨a,?_⟩
      by_cases e:h.col x=0
      · right
        rcases b with b | b
        · exact absurd e b
        · by_cases e2:x / 32=h.sp
          · exact absurd ⟨⟨a,.inr b⟩,e2,e⟩ c
          · omega
      · exact .inl e
    · rintro ⟨a,b⟩
      refine ⟨⟨a,b.imp id (fun h=>by omega)⟩,?_⟩
      rintro ⟨_,c,d⟩
      rcases b with b | b
      · exact b d
      · omega
  have hgone2:∀ x,x ∈ gone ++ hGone h ↔ isObj a1 x=true∧h.col x=0∧x / 32<h.sp+1:=by
    intro x
    rw [List.mem_append,k.gone,gone_iff,k.obj]
    constructor
    · rintro (⟨a,b,c⟩ | ⟨⟨a,_⟩,c,d⟩)
      · exact ⟨a,b,by omega⟩
      · exact ⟨a,d,by omega⟩
    · rintro ⟨a,b,c⟩
      by_cases e:x / 32<h.sp
      · exact .inl ⟨a,b,e⟩
      · exact .inr ⟨⟨a,.inr (by omega)⟩,by omega,b⟩
  have hwds:∀ x,isObj ((hGone h).foldl (fun s p=>aFreeS p s) h.a) x=true→aWords ((hGone h).foldl (fun s p=>aFreeS p s) h.a) x=aWords a1 x∧aKind ((hGone h).foldl (fun s p=>aFreeS p s) h.a).c x=aKind a1.c x:=by
    intro x hx
    obtain ⟨a,b⟩:=(hobj x).1 hx
    obtain ⟨c,d,_⟩:=words_frees k.ok.a (hGone h) b a
    obtain ⟨e,f⟩:=k.wds x a
    exact ⟨c.trans e,d.trans f⟩
  by_cases hl:h.sp+1 ≥ h.a.l.length
  · simp only [if_pos hl] at ok ⊢
    refine ⟨_,rfl,?_,.inr ⟨⟨ok,rfl,?_,?_,hwds,fl.trans k.len.1,fc.trans k.len.2⟩,rfl⟩⟩
    · unfold left
      simp only
      rw [if_neg (by decide),if_neg (by decide),if_neg (by omega),if_pos h2]
      omega
    · intro x
      simp only
      rw [hobj2]
      constructor
      · rintro ⟨a,b⟩
        refine (k.col x a).1 (b.resolve_right ?_)
        have:=(isObj_range a).2
        have:=k.len.2
        omega
      · intro hr
        exact ⟨hr.obj,.inl ((k.col x hr.obj).2 hr)⟩
    · intro x
      rw [hgone2]
      constructor
      · rintro ⟨a,b,_⟩
        exact ⟨a,fun hr=>(k.col x a).2 hr b⟩
      · rintro ⟨a,b⟩
        refine ⟨a,Classical.byContradiction fun hc=>b ((k.col x a).1 hc),?_⟩
        have:=(isObj_range a).2
        have:=k.len.2
        omega
  · simp only [if_neg hl] at ok ⊢
    refine ⟨_,rfl,?_,.inl ⟨⟨ok,h2,k.col,hobj2,hgone2,hwds,fl.trans k.len.1,fc.trans k.len.2⟩,rfl⟩⟩
    unfold left
    simp only [h2,fl]
    rw [if_neg (by decide),if_pos trivial,if_neg (by decide),if_pos trivial]
    omega
end Go.Proofs.Ytffnjpapggidlaa
