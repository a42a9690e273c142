/- PureArena PureHeap PureHeap2 Rch Words RoomM -/
import Derived.Test.YtffnjpapggidlaaKSpan5
import Derived.Test.YtffnjpapggidlaaKPlain
namespace Go.Proofs.Ytffnjpapggidlaa
structure AllocMore (kind n:Int) (s:ASt) (p:Nat) (s':ASt):Prop where
  get:∀ q:Nat,s'.c[q]?=if p+1≤q∧q<p+1+n.toNat then some (.word 0) else if q=p then some (.head kind n) else s.c[q]?
  apart:∀ (q j:Nat) (k m:Int),s.c[q]?=some (.head k m)→j<m.toNat+1→q+j<p ∨ p+n.toNat<q+j
  lt:p+1+n.toNat≤s.c.length
  four:p % 4=0
  n0:0≤n
  row:∃ i t l',sAlloc (cOf n) s.l=some (i,t,l')∧s'.l=l'
  ok:AOk s'
  len:s'.c.length=s.c.length
theorem alloc_more {kind n:Int} {s:ASt} (hok:AOk s) (hb:aBad kind n=false) {p:Nat} {s':ASt} (h:aAlloc kind n s=some (p,s')):AllocMore kind n s p s':=by
  obtain ⟨aok,alen,_,alt⟩:=alloc_ok hok hb h
  obtain ⟨k1,k6,hf⟩:=aBad_no hb
  obtain ⟨n0,n32,c0,c3,nW'⟩:=cOf_fits hf
  unfold aAlloc at h
  split at h
  · rename_i i t l' ha
    injection h with h
    injection h with e1 e2
    have e20:=e2
    have fa:=alloc_facts hok.rows ha
    obtain ⟨gW,gs,gc⟩:=ws_geo c0 c3
    have gt:=slot_fit fa.slot gs
    generalize hWd:(cWords (cOf n)).toNat=W at *
    have hni:nW l' i=W:=by unfold nW; rw [fa.cls,hWd]
    have hlt:=fa.lt
    have hL:=hok.len
    -- a used slot is another one
    have hap:∀ (i' u j m:Nat),sUsed s.l i' u=true→j<nW s.l i'→m<W→i' * 32+u * nW s.l i'+j≠i * 32+t * W+m:=by
      intro i' u j m hu hj hm e
      obtain ⟨_,uW,ut,_⟩:=used_geo hok.rows hu
      have hcl:i'=i→nW s.l i'=W:=by
        intro ei
        subst ei
        rcases fa.old with h | h
        · unfold nW; rw [h,hWd]
        · rw [none_used hok.rows h u] at hu; cases hu
      obtain ⟨a,b,c⟩:=slots_apart uW ut hj gW gt hm hcl e
      subst a b
      rw [fa.new] at hu; cases hu
    have hkeep:∀ i' u:Nat,sUsed s.l i' u=true→nW l' i'=nW s.l i':=by
      intro i' u hu
      by_cases e:i'=i
      · subst e
        rcases fa.old with h | h
        · unfold nW; rw [h,fa.cls]
        · rw [none_used hok.rows h u] at hu; cases hu
      · unfold nW; rw [class_far (fa.far i' e)]
    have hget:∀ q:Nat,s'.c[q]?=if i * 32+t * W+1≤q∧q<i * 32+t * W+1+n.toNat then some (.word 0) else if q=i * 32+t * W then some (.head kind n) else s.c[q]?:=by
      intro q
      rw [← e2]
      simp only
      rw [aFill_get,List.length_set]
      by_cases h1:i * 32+t * W+1≤q∧q<i * 32+t * W+1+n.toNat
      · rw [if_pos h1,if_pos ⟨h1.1,h1.2,by omega⟩]
      · rw [if_neg h1,if_neg (by omega),List.getElem?_set]
        by_cases h2:q=i * 32+t * W
        · rw [if_pos h2,if_pos h2.symm,if_pos (by omega)]
        · rw [if_neg h2,if_neg (fun x=>h2 x.symm)]
    refine ⟨?_,?_,alt,?_,n0,⟨i,t,l',ha,by rw [← e20]⟩,aok,alen⟩
    · intro q; rw [hget,e1]
    · intro q j k m hq hj
      obtain ⟨i',u,hp,hu,a,b,c,d,f⟩:=hok.head q k m hq
      have hne:=fun mm hmm=>hap i' u j mm hu (by omega) hmm
      rw [← hp,e1] at hne
      by_cases h1:q+j<p
      · exact .inl h1
      · by_cases h2:p+n.toNat<q+j
        · exact .inr h2
        · exact absurd (show q+j=p+(q+j - p) by omega) (hne (q+j - p) (by omega))
    · rw [← e1]; rcases gW with h | h | h | h <;> rw [h] <;> omega
  · cases h
theorem head_iff {c:List ACell} {p:Nat} {k n:Int}:aHead c p=some (k,n) ↔ c[p]?=some (.head k n):=by
  constructor
  · intro h; obtain ⟨q,e,hq⟩:=aHead_some h
    rw [show p=q by omega]; exact hq
  · exact aHead_nat
theorem head_none {c:List ACell} {p:Nat} (h:∀ k n,c[p]?≠some (.head k n)):aHead c p=none:=by
  cases e:aHead c p with
  | none=>rfl
  | some kn=>obtain ⟨k,n⟩:=kn; exact absurd (head_iff.1 e) (h k n)
theorem head_congr {c c':List ACell} {p:Nat} (h:c'[p]?=c[p]?):aHead c' p=aHead c p:=by
  unfold aHead; simp only [Int.toNat_natCast]; rw [h]
theorem AllocMore.head {kind n:Int} {s:ASt} {p:Nat} {s':ASt} (h:AllocMore kind n s p s') (q:Nat):aHead s'.c q=if q=p then some (kind,n) else aHead s.c q:=by
  by_cases e:q=p
  · subst e
    rw [if_pos rfl]
    exact aHead_nat (by rw [h.get,if_neg (by omega),if_pos rfl])
  · rw [if_neg e]
    by_cases h1:p+1≤q∧q<p+1+n.toNat
    · rw [head_none (fun k m hq=>by rw [h.get,if_pos h1] at hq; cases hq),head_none (fun k m hq=>by have:=h.apart q 0 k m hq (by omega); omega)]
    · exact head_congr (by rw [h.get,if_neg h1,if_neg e])
theorem AllocMore.fresh {kind n:Int} {s:ASt} {p:Nat} {s':ASt} (h:AllocMore kind n s p s'):aHead s.c p=none:=head_none (fun k m hq=>by have:=h.apart p 0 k m hq (by omega); omega)
theorem filter_one {f g:Nat→Bool} {p:Nat} (hne:∀ q,q≠p→g q=f q) (hf:f p=false) (hg:g p=true):∀ N,((List.range N).filter g).length=((List.range N).filter f).length+if p<N then 1 else 0:=by
  intro N
  induction N with
  | zero=>simp
  | succ N ih =>
    rw [List.range_succ,List.filter_append,List.filter_append,List.length_append,List.length_append,ih]
    by_cases e:N=p
    · subst e
      simp [hf,hg]
    · have hx:g N=f N:=hne N e
      simp only [List.filter_cons,hx,List.filter_nil]
      have e2:(if p<N+1 then 1 else 0:Nat)=(if p<N then 1 else 0):=by split <;> split <;> omega
      rw [e2]; omega
theorem AllocMore.count {kind n:Int} {s:ASt} {p:Nat} {s':ASt} (h:AllocMore kind n s p s'):(aObjects s'.c).length=(aObjects s.c).length+1:=by
  unfold aObjects
  rw [h.len]
  have hlt:p<s.c.length:=by have:=h.lt; omega
  rw [filter_one (f:=fun q=>(aHead s.c q).isSome) (p:=p) (fun q hq=>by rw [h.head,if_neg hq]) (by rw [h.fresh]; rfl) (by rw [h.head,if_pos rfl]; rfl),if_pos hlt]
structure FreeMore (s:ASt) (p:Nat) (k n:Int):Prop where
  get:∀ q:Nat,(aFreeS p s).c[q]?=if p≤q∧q<p+(n.toNat+1) then some .none else s.c[q]?
  apart:∀ (q j:Nat) (k' m:Int),s.c[q]?=some (.head k' m)→q≠p→j<m.toNat+1→q+j<p ∨ p+n.toNat<q+j
  lt:p+1+n.toNat≤s.c.length
  n0:0≤n
  ok:AOk (aFreeS p s)
  len:(aFreeS p s).c.length=s.c.length
  rows:(aFreeS p s).l=sFree s.l (p / 32:Nat) (p % 32 / nW s.l (p / 32):Nat)
theorem free_more {s:ASt} (hok:AOk s) {p:Nat} {k n:Int} (h:s.c[p]?=some (.head k n)):FreeMore s p k n:=by
  obtain ⟨aok,alen,_⟩:=free_ok hok (p:Int)
  obtain ⟨g1,g2,g3,g4,g5,g6,g7,g8,g9,g10,g11⟩:=head_geo hok h
  have hs:aFreeS p s=⟨sFree s.l (p / 32:Nat) (p % 32 / nW s.l (p / 32):Nat),aFill s.c p .none (n.toNat+1)⟩:=by
    unfold aFreeS; rw [aHead_nat h]; simp only [Int.toNat_natCast]
  refine ⟨?_,?_,g9,g7,aok,alen,by rw [hs]⟩
  · intro q
    rw [hs]
    simp only
    rw [aFill_get]
    by_cases h1:p≤q∧q<p+(n.toNat+1)
    · rw [if_pos h1,if_pos ⟨h1.1,h1.2,by omega⟩]
    · rw [if_neg h1,if_neg (by omega)]
  · intro q j k' m hq hne hj
    obtain ⟨i',v,hp',hv,a,b,c,d,f⟩:=hok.head q k' m hq
    obtain ⟨_,vW,vt,_⟩:=used_geo hok.rows hv
    obtain ⟨_,uW,ut,_⟩:=used_geo hok.rows g2
    by_cases h1:q+j<p
    · exact .inl h1
    · by_cases h2:p+n.toNat<q+j
      · exact .inr h2
      · exfalso
        obtain ⟨x,y,z⟩:=slots_apart vW vt (show j<nW s.l i' by omega) uW ut (show q+j - p<nW s.l (p / 32) by omega) (fun e=>congrArg (nW s.l) e) (by rw [← g3,← hp']; omega)
        apply hne
        rw [hp',y,x,← g3]
theorem FreeMore.head {s:ASt} {p:Nat} {k n:Int} (h:FreeMore s p k n) (q:Nat):aHead (aFreeS p s).c q=if q=p then none else aHead s.c q:=by
  by_cases e:q=p
  · subst e
    rw [if_pos rfl]
    exact head_none (fun k m hq=>by rw [h.get,if_pos (by omega)] at hq; cases hq)
  · rw [if_neg e]
    by_cases h1:p≤q∧q<p+(n.toNat+1)
    · rw [head_none (fun k m hq=>by rw [h.get,if_pos h1] at hq; cases hq),head_none (fun k m hq=>by have:=h.apart q 0 k m hq e (by omega); omega)]
    · exact head_congr (by rw [h.get,if_neg h1])
theorem FreeMore.count {s:ASt} {p:Nat} {k n:Int} (h:FreeMore s p k n) (hp:s.c[p]?=some (.head k n)):(aObjects s.c).length=(aObjects (aFreeS p s).c).length+1:=by
  unfold aObjects
  rw [h.len]
  have hlt:p<s.c.length:=by have:=h.lt; omega
  rw [filter_one (f:=fun q=>(aHead (aFreeS p s).c q).isSome) (g:=fun q=>(aHead s.c q).isSome) (p:=p) (fun q hq=>by rw [h.head,if_neg hq]) (by rw [h.head,if_pos rfl]; rfl) (by rw [aHead_nat hp]; rfl),if_pos hlt]
theorem off_none {s:ASt} (hok:AOk s) {p:Nat} (h:¬ p % 4=0):aHead s.c p=none:=by
  refine head_none (fun k m hq=>?_)
  obtain ⟨i',v,hp',hv,a,b,c,d,f⟩:=hok.head p k m hq
  obtain ⟨_,vW,vt,_⟩:=used_geo hok.rows hv
  apply h
  rw [hp']
  rcases vW with h | h | h | h <;> rw [h] <;> omega
end Go.Proofs.Ytffnjpapggidlaa
namespace Go.Proofs.Ytffnjpapggidlaa
set_option linter.unusedVariables false
structure HSt where
  a:ASt
  col:Int→Int
  g:List Int
  ov:Bool
  ph:Int
  sp:Int
  cy:Int
def upd (f:Int→Int) (p v:Int):Int→Int:=fun x=>if x=p then v else f x
def aWords (s:ASt) (p:Int):List Int:=(List.range (aLen s.c p).toNat).map fun j=>wordOf s.c[p.toNat+1+j]?
def isObj (s:ASt) (p:Int):Bool:=(aHead s.c p).isSome
def hColour (h:HSt) (p:Int):Int:=if isObj h.a p then h.col p else 0
def hPush (p:Int) (h:HSt):HSt:=if h.g.length<8 then { h with g:=h.g ++ [p] } else { h with ov:=true }
def hWhite (p:Int) (h:HSt):Bool:=decide (h.ph=1) && isObj h.a p && decide (h.col p=0)
def hShade (p:Int) (h:HSt):HSt:=if hWhite p h then hPush p { h with col:=upd h.col p 1 } else h
def hShadeW (w:Int) (h:HSt):HSt:=if vIsPtr w then hShade (vAt w) h else h
def hStore (p i w:Int) (h:HSt):HSt:=if aErr p i h.a=0 then hShadeW w { h with a:=aStoreS p i w h.a } else h
def hAlloc (kind n:Int) (h:HSt):HSt :=
  if aBad kind n then h else match aAlloc kind n h.a with
  | some (p,s')=>{ h with a:=s',col:=upd h.col p (if h.ph=0 then 0 else 2) }
  | none=>h
def hShades (l:List Int) (h:HSt):HSt:=l.foldl (fun h p=>hShade p h) h
def hShadesW (l:List Int) (h:HSt):HSt:=l.foldl (fun h w=>hShadeW w h) h
def hBegin (roots:List Int) (h:HSt):HSt:=if h.ph=0 then hShades roots { h with col:=fun _=>0,g:=[],ov:=false,ph:=1 } else h
def hBeginE (h:HSt):Int:=if h.ph=0 then 0 else 11
def hObjs (s:ASt):List Int:=(aObjects s.c).map fun p=>((p:Nat):Int)
def hNext (h:HSt):Option Int×HSt :=
  match h.g.getLast? with
  | some x=>(some x,{ h with g:=h.g.dropLast })
  | none=>if h.ov then (match (hObjs h.a).find? fun p=>decide (h.col p=1) with
    | some p=>(some p,h)
    | none=>(none,{ h with ov:=false })) else (none,h)
def hBlack (p:Int) (h:HSt):HSt:={ h with col:=upd h.col p 2 }
def hScan (p:Int) (h:HSt):HSt:=if isObj h.a p then hBlack p (hShadesW (aWords h.a p) h) else h
def isLost (h:HSt) (p:Int):Bool:=decide (aKind h.a.c p=5) && decide (h.col p=0) && decide (1<(aWords h.a p).length) && decide ((aWords h.a p).getD 1 0≠0)
def hLost (h:HSt):Option Int:=(hObjs h.a).find? (isLost h)
structure Gn where
  kind:Int
  at':Int
  words:List Int
  kept:Bool
deriving DecidableEq
def gnOf (h:HSt) (kept:Bool) (p:Int):Gn:=⟨aKind h.a.c p,p,aWords h.a p,kept⟩
def hMark (h:HSt):List Gn×HSt :=
  match hNext h with
  | (some p,h1)=>([],hScan p h1)
  | (none,h1)=>match hLost h1 with
    | some p=>([gnOf h1 true p],hShade p { h1 with a:=aStoreS p 1 0 h1.a })
    | none=>([],{ h1 with ph:=2,sp:=0 })
def hGone (h:HSt):List Int:=(hObjs h.a).filter fun p=>decide (p / 32=h.sp) && decide (h.col p=0)
def hSweep (h:HSt):List Gn×HSt :=
  let h1:={ h with a:=(hGone h).foldl (fun s p=>aFreeS p s) h.a,sp:=h.sp+1 }
  ((hGone h).map (gnOf h false),if h.sp+1 ≥ h.a.l.length then { h1 with ph:=0,cy:=Go.RowKit.wrap64 (h.cy+1) } else h1)
def hStep (h:HSt):List Gn×HSt:=if h.ph=1 then hMark h else if h.ph=2 then hSweep h else ([],h)
def hNew (n:Nat):HSt:=⟨aNew n,fun _=>0,[],false,0,0,0⟩
structure HOk (h:HSt):Prop where
  a:AOk h.a
  wd:∀ (p:Nat) w,h.a.c[p]?=some (.word w)→Wd w
  gl:h.g.length≤8
  gin:∀ x ∈ h.g,isObj h.a x=true
  gnil:h.ph≠1→h.g=[]
  cols:∀ x,h.col x=0 ∨ h.col x=1 ∨ h.col x=2
  far:∀ x:Int,¬ (0≤x∧x<(h.a.c.length:Int))→h.col x=0
  phs:h.ph=0 ∨ h.ph=1 ∨ h.ph=2
  sp0:0≤h.sp
  spn:h.ph=2→h.sp<h.a.l.length
  spl:h.sp≤h.a.l.length
  len:2≤h.a.l.length∧h.a.l.length≤128
end Go.Proofs.Ytffnjpapggidlaa
namespace Go.Proofs.Ytffnjpapggidlaa
set_option linter.unusedVariables false
theorem isObj_some {s:ASt} {p:Int} (h:isObj s p=true):∃ (q:Nat) (k n:Int),p=q∧s.c[q]?=some (.head k n):=by
  unfold isObj at h
  obtain ⟨⟨k,n⟩,e⟩:=Option.isSome_iff_exists.1 h
  obtain ⟨q,e1,e2⟩:=aHead_some e
  exact ⟨q,k,n,e1,e2⟩
theorem isObj_range {s:ASt} {p:Int} (h:isObj s p=true):0≤p∧p<s.c.length:=by
  obtain ⟨q,k,n,rfl,e⟩:=isObj_some h
  have:=(List.getElem?_eq_some_iff.1 e).1
  omega
theorem isObj_kind {s:ASt} (hok:AOk s) (p:Int):isObj s p=!decide (aKind s.c p=0):=by
  unfold isObj aKind
  cases e:aHead s.c p with
  | none=>rfl
  | some kn =>
    obtain ⟨k,n⟩:=kn
    obtain ⟨q,rfl,hq⟩:=aHead_some e
    have:=(head_geo hok hq).2.2.2.2.2.2.2.2.2
    have h0:¬ k=0:=by omega
    simp [h0]
theorem aHead_neg {c:List ACell} {p:Int} (h:p<0):aHead c p=none:=by unfold aHead; rw [if_neg (by omega)]
theorem aHead_ext {c c':List ACell} (h:∀ q:Nat,aHead c' q=aHead c q) (p:Int):aHead c' p=aHead c p:=by
  by_cases h0:0≤p
  · obtain ⟨q,rfl⟩:=Int.eq_ofNat_of_zero_le h0; exact h q
  · rw [aHead_neg (by omega),aHead_neg (by omega)]
theorem store_get {s:ASt} {p i w:Int} (h:aErr p i s=0):∃ q j:Nat,p=q∧i=j∧aStoreS p i w s=⟨s.l,s.c.set (q+1+j) (.word w)⟩:=by
  obtain ⟨q,j,k,n,rfl,rfl,hq,hj⟩:=err_zero h
  exact ⟨q,j,rfl,rfl,by unfold aStoreS; rw [if_pos h]; rfl⟩
theorem store_no {s:ASt} {p i w:Int} (h:¬ aErr p i s=0):aStoreS p i w s=s:=by unfold aStoreS; rw [if_neg h]
theorem head_store {s:ASt} (hok:AOk s) (p i w q:Int):aHead (aStoreS p i w s).c q=aHead s.c q:=by
  by_cases h:aErr p i s=0
  · obtain ⟨p',j,k,n,rfl,rfl,hp,hj⟩:=err_zero h
    obtain ⟨x,hx⟩:=err_word hok hp hj
    have e:aStoreS p' j w s=⟨s.l,s.c.set (p'+1+j) (.word w)⟩:=by unfold aStoreS; rw [if_pos h]; rfl
    rw [e]
    refine aHead_ext (fun q=>?_) q
    simp only
    by_cases e2:q=p'+1+j
    · subst e2
      rw [head_none,head_none]
      · intro k m hm; rw [hx] at hm; cases hm
      · intro k m hm; rw [List.getElem?_set,if_pos rfl] at hm; split at hm <;> cases hm
    · exact head_congr (by rw [List.getElem?_set,if_neg (fun e=>e2 e.symm)])
  · rw [store_no h]
theorem obj_store {s:ASt} (hok:AOk s) (p i w q:Int):isObj (aStoreS p i w s) q=isObj s q:=by unfold isObj; rw [head_store hok]
theorem kind_store {s:ASt} (hok:AOk s) (p i w q:Int):aKind (aStoreS p i w s).c q=aKind s.c q:=by unfold aKind; rw [head_store hok]
theorem len_store {s:ASt} (hok:AOk s) (p i w q:Int):aLen (aStoreS p i w s).c q=aLen s.c q:=by unfold aLen; rw [head_store hok]
theorem wd_store {s:ASt} (hw:∀ (p:Nat) w,s.c[p]?=some (.word w)→Wd w) {w:Int} (h:Wd w) (p i:Int):∀ (q:Nat) x,(aStoreS p i w s).c[q]?=some (.word x)→Wd x:=by
  intro q x hx
  by_cases he:aErr p i s=0
  · obtain ⟨p',j,rfl,rfl,e⟩:=store_get (w:=w) he
    rw [e] at hx
    simp only at hx
    rw [List.getElem?_set] at hx
    split at hx
    · split at hx
      · injection hx with hx; injection hx with hx; subst hx; exact h
      · cases hx
    · exact hw q x hx
  · rw [store_no he] at hx; exact hw q x hx
theorem aWords_len {s:ASt} {p:Int}:(aWords s p).length=(aLen s.c p).toNat:=by simp [aWords]
theorem wordOf_wd {s:ASt} (hw:∀ (p:Nat) w,s.c[p]?=some (.word w)→Wd w) (q:Nat):Wd (wordOf s.c[q]?):=by
  cases e:s.c[q]? with
  | none=>unfold wordOf Wd; simp
  | some v =>
    cases v with
    | none=>unfold wordOf Wd; simp
    | head k n=>unfold wordOf Wd; simp
    | word w=>exact hw q w e
theorem aWords_wd {s:ASt} (hw:∀ (p:Nat) w,s.c[p]?=some (.word w)→Wd w) (p:Int):∀ x ∈ aWords s p,Wd x:=by
  intro x hx
  obtain ⟨j,_,rfl⟩:=List.mem_map.1 hx
  exact wordOf_wd hw _
theorem shade_a (p:Int) (h:HSt):(hShade p h).a=h.a:=by unfold hShade hPush; split <;> (try split) <;> rfl
theorem shade_ph (p:Int) (h:HSt):(hShade p h).ph=h.ph:=by unfold hShade hPush; split <;> (try split) <;> rfl
theorem shade_sp (p:Int) (h:HSt):(hShade p h).sp=h.sp:=by unfold hShade hPush; split <;> (try split) <;> rfl
theorem shade_cy (p:Int) (h:HSt):(hShade p h).cy=h.cy:=by unfold hShade hPush; split <;> (try split) <;> rfl
theorem shade_col (p:Int) (h:HSt):(hShade p h).col=if hWhite p h then upd h.col p 1 else h.col:=by
  unfold hShade hPush; split
  · split <;> rfl
  · rfl
theorem HOk.shade {h:HSt} (k:HOk h) (p:Int):HOk (hShade p h):=by
  unfold hShade
  by_cases hw:hWhite p h=true
  · rw [if_pos hw]
    unfold hWhite at hw
    simp only [Bool.and_eq_true,decide_eq_true_eq] at hw
    obtain ⟨⟨hph,ho⟩,hc⟩:=hw
    obtain ⟨r0,r1⟩:=isObj_range ho
    have hcol:∀ x,upd h.col p 1 x=0 ∨ upd h.col p 1 x=1 ∨ upd h.col p 1 x=2:=by
      intro x; unfold upd; split
      · exact .inr (.inl rfl)
      · exact k.cols x
    have hfar:∀ x:Int,¬ (0≤x∧x<(h.a.c.length:Int))→upd h.col p 1 x=0:=by
      intro x hx; unfold upd; rw [if_neg (by rintro rfl; exact hx ⟨r0,r1⟩)]; exact k.far x hx
    unfold hPush
    split
    · rename_i h8
      simp only at h8 ⊢
      refine ⟨k.a,k.wd,by simp; omega,?_,by intro h1; exact absurd hph h1,hcol,hfar,k.phs,k.sp0,k.spn,k.spl,k.len⟩
      intro x hx
      simp only [List.mem_append,List.mem_singleton] at hx
      rcases hx with hx | rfl
      · exact k.gin x hx
      · exact ho
    · exact ⟨k.a,k.wd,k.gl,k.gin,k.gnil,hcol,hfar,k.phs,k.sp0,k.spn,k.spl,k.len⟩
  · rw [if_neg hw]; exact k
theorem HOk.shadeW {h:HSt} (k:HOk h) (w:Int):HOk (hShadeW w h):=by
  unfold hShadeW; split
  · exact k.shade _
  · exact k
theorem HOk.shades {h:HSt} (k:HOk h) (l:List Int):HOk (hShades l h):=by
  unfold hShades
  induction l generalizing h with
  | nil=>exact k
  | cons p l ih=>exact ih (k.shade p)
theorem HOk.shadesW {h:HSt} (k:HOk h) (l:List Int):HOk (hShadesW l h):=by
  unfold hShadesW
  induction l generalizing h with
  | nil=>exact k
  | cons p l ih=>exact ih (k.shadeW p)
theorem shadeW_a (w:Int) (h:HSt):(hShadeW w h).a=h.a:=by unfold hShadeW; split; exact shade_a _ _; rfl
theorem shadesW_a (l:List Int) (h:HSt):(hShadesW l h).a=h.a:=by
  unfold hShadesW
  induction l generalizing h with
  | nil=>rfl
  | cons p l ih=>simp only [List.foldl_cons]; rw [ih,shadeW_a]
theorem shades_a (l:List Int) (h:HSt):(hShades l h).a=h.a:=by
  unfold hShades
  induction l generalizing h with
  | nil=>rfl
  | cons p l ih=>simp only [List.foldl_cons]; rw [ih,shade_a]
theorem shadeW_ph (w:Int) (h:HSt):(hShadeW w h).ph=h.ph:=by unfold hShadeW; split; exact shade_ph _ _; rfl
theorem shadesW_ph (l:List Int) (h:HSt):(hShadesW l h).ph=h.ph:=by
  unfold hShadesW
  induction l generalizing h with
  | nil=>rfl
  | cons p l ih=>simp only [List.foldl_cons]; rw [ih,shadeW_ph]
theorem shades_ph (l:List Int) (h:HSt):(hShades l h).ph=h.ph:=by
  unfold hShades
  induction l generalizing h with
  | nil=>rfl
  | cons p l ih=>simp only [List.foldl_cons]; rw [ih,shade_ph]
theorem HOk.storeA {h:HSt} (k:HOk h) (p i:Int) {w:Int} (hw:Wd w):HOk { h with a:=aStoreS p i w h.a }:=by
  obtain ⟨ok,el,er⟩:=store_ok k.a p i w
  refine ⟨ok,wd_store k.wd hw p i,k.gl,?_,k.gnil,k.cols,?_,k.phs,k.sp0,?_,?_,?_⟩
  · intro x hx; simp only; rw [obj_store k.a]; exact k.gin x hx
  · simp only; rw [el]; exact k.far
  · simp only; rw [er]; exact k.spn
  · simp only; rw [er]; exact k.spl
  · simp only; rw [er]; exact k.len
theorem HOk.store {h:HSt} (k:HOk h) (p i:Int) {w:Int} (hw:Wd w):HOk (hStore p i w h):=by
  unfold hStore; split
  · exact (k.storeA p i hw).shadeW w
  · exact k
theorem HOk.alloc {h:HSt} (k:HOk h) (kind n:Int):HOk (hAlloc kind n h):=by
  unfold hAlloc
  cases hb:aBad kind n with
  | true=>exact k
  | false =>
    simp only [Bool.false_eq_true,if_false]
    cases ha:aAlloc kind n h.a with
    | none=>exact k
    | some x =>
      obtain ⟨p,s'⟩:=x
      have m:=alloc_more k.a hb ha
      have hlt:=m.lt
      have hlen:=m.len
      obtain ⟨ok,_,el,_⟩:=alloc_ok k.a hb ha
      refine ⟨ok,?_,k.gl,?_,k.gnil,?_,?_,k.phs,k.sp0,?_,?_,?_⟩
      · intro q w hq
        simp only at hq
        rw [m.get] at hq
        split at hq
        · injection hq with hq; injection hq with hq; subst hq; unfold Wd; omega
        split at hq
        · cases hq
        · exact k.wd q w hq
      · intro x hx
        simp only
        obtain ⟨q,kk,nn,rfl,hq⟩:=isObj_some (k.gin x hx)
        unfold isObj
        rw [m.head]
        split
        · rfl
        · rw [aHead_nat hq]; rfl
      · intro x; simp only [upd]; split
        · split <;> simp
        · exact k.cols x
      · intro x hx
        simp only at hx ⊢
        rw [hlen] at hx
        unfold upd
        rw [if_neg (by rintro rfl; exact hx ⟨by omega,by omega⟩)]
        exact k.far x hx
      · simp only; rw [el]; exact k.spn
      · simp only; rw [el]; exact k.spl
      · simp only; rw [el]; exact k.len
theorem HOk.clear {h:HSt} (k:HOk h) (h0:h.ph=0):HOk { h with col:=fun _=>0,g:=[],ov:=false,ph:=1 } :=
  ⟨k.a,k.wd,by simp,by simp,by simp,by simp,by simp,by simp,k.sp0,by simp,k.spl,k.len⟩
theorem HOk.begin {h:HSt} (k:HOk h) (l:List Int):HOk (hBegin l h):=by
  unfold hBegin; split
  · rename_i h0; exact (k.clear h0).shades l
  · exact k
theorem hObjs_mem {s:ASt} {p:Int} (h:p ∈ hObjs s):isObj s p=true:=by
  obtain ⟨q,hq,rfl⟩:=List.mem_map.1 h
  unfold aObjects at hq
  rw [List.mem_filter] at hq
  exact hq.2
theorem mem_hObjs {s:ASt} {p:Int}:p ∈ hObjs s ↔ isObj s p=true:=by
  refine ⟨hObjs_mem,fun h=>?_⟩
  obtain ⟨q,k,n,rfl,e⟩:=isObj_some h
  have:=(List.getElem?_eq_some_iff.1 e).1
  exact List.mem_map.2 ⟨q,by unfold aObjects; rw [List.mem_filter]; exact ⟨List.mem_range.2 this,h⟩,rfl⟩
theorem HOk.next {h:HSt} (k:HOk h):HOk (hNext h).2∧(hNext h).2.a=h.a∧(hNext h).2.ph=h.ph∧(∀ p,(hNext h).1=some p→isObj h.a p=true)∧((hNext h).1=none→(hNext h).2.g=[]):=by
  unfold hNext
  cases e:h.g.getLast? with
  | some x =>
    have hx:x ∈ h.g:=List.mem_of_getLast? e
    refine ⟨⟨k.a,k.wd,by simp; have:=k.gl; omega,fun y hy=>k.gin y (List.dropLast_subset _ hy),fun h1=>by simp [k.gnil h1],k.cols,k.far,k.phs,k.sp0,k.spn,k.spl,k.len⟩,rfl,rfl,?_,by simp⟩
    intro p hp; injection hp with hp; subst hp; exact k.gin _ hx
  | none =>
    have hg:h.g=[]:=List.getLast?_eq_none_iff.1 e
    simp only
    split
    · split
      · rename_i p hp
        exact ⟨k,rfl,rfl,fun q hq=>by injection hq with hq; subst hq; exact hObjs_mem (List.mem_of_find?_eq_some hp),by simp⟩
      · exact ⟨⟨k.a,k.wd,k.gl,k.gin,k.gnil,k.cols,k.far,k.phs,k.sp0,k.spn,k.spl,k.len⟩,rfl,rfl,by simp,fun _=>hg⟩
    · exact ⟨k,rfl,rfl,by simp,fun _=>hg⟩
theorem HOk.black {h:HSt} (k:HOk h) {p:Int} (hp:isObj h.a p=true):HOk (hBlack p h):=by
  obtain ⟨r0,r1⟩:=isObj_range hp
  refine ⟨k.a,k.wd,k.gl,k.gin,k.gnil,?_,?_,k.phs,k.sp0,k.spn,k.spl,k.len⟩
  · intro x; simp only [hBlack,upd]; split
    · exact .inr (.inr rfl)
    · exact k.cols x
  · intro x hx; simp only [hBlack,upd]; rw [if_neg (by rintro rfl; exact hx ⟨r0,r1⟩)]; exact k.far x hx
theorem HOk.scan {h:HSt} (k:HOk h) (p:Int):HOk (hScan p h):=by
  unfold hScan; split
  · rename_i hp
    exact (k.shadesW _).black (by rw [shadesW_a]; exact hp)
  · exact k
theorem lost_obj {h:HSt} {p:Int} (e:hLost h=some p):isObj h.a p=true∧aKind h.a.c p=5∧h.col p=0∧1<(aWords h.a p).length∧(aWords h.a p).getD 1 0≠0:=by
  unfold hLost at e
  have h1:=List.mem_of_find?_eq_some e
  have h2:=List.find?_some e
  unfold isLost at h2
  simp only [Bool.and_eq_true,decide_eq_true_eq] at h2
  exact ⟨hObjs_mem h1,h2.1.1.1,h2.1.1.2,h2.1.2,h2.2⟩
theorem HOk.mark {h:HSt} (k:HOk h):HOk (hMark h).2:=by
  unfold hMark
  obtain ⟨k1,ea,ep,ho,hn⟩:=k.next
  cases e:hNext h with
  | mk o h1 =>
    rw [e] at k1 ea ep ho hn
    simp only at k1 ea ep ho hn
    cases o with
    | some p=>exact k1.scan p
    | none =>
      simp only
      cases hl:hLost h1 with
      | some p=>exact (k1.storeA p 1 (by unfold Wd; omega)).shade p
      | none =>
        have:=k1.len
        exact ⟨k1.a,k1.wd,k1.gl,k1.gin,fun _=>hn rfl,k1.cols,k1.far,by simp,by simp,by intro _; simp only; omega,by simp only; omega,k1.len⟩
theorem head_free {s:ASt} (hok:AOk s) (p:Int) (q:Int):aHead (aFreeS p s).c q=if q=p then none else aHead s.c q:=by
  cases e:aHead s.c p with
  | none =>
    have:aFreeS p s=s:=by unfold aFreeS; rw [e]
    rw [this]
    split
    · rename_i hq; rw [hq,e]
    · rfl
  | some kn =>
    obtain ⟨k,n⟩:=kn
    obtain ⟨p',rfl,hp⟩:=aHead_some e
    have m:=free_more hok hp
    by_cases h0:0≤q
    · obtain ⟨q',rfl⟩:=Int.eq_ofNat_of_zero_le h0
      rw [m.head]
      by_cases e2:q'=p'
      · rw [if_pos e2,if_pos (by omega)]
      · rw [if_neg e2,if_neg (by omega)]
    · rw [aHead_neg (by omega),aHead_neg (by omega)]; simp
theorem obj_free {s:ASt} (hok:AOk s) (p q:Int):isObj (aFreeS p s) q=(isObj s q && !decide (q=p)):=by
  unfold isObj; rw [head_free hok]
  by_cases e:q=p
  · rw [if_pos e]; simp [e]
  · rw [if_neg e]; simp [e]
theorem wd_free {s:ASt} (hok:AOk s) (hw:∀ (p:Nat) w,s.c[p]?=some (.word w)→Wd w) (p:Int):∀ (q:Nat) x,(aFreeS p s).c[q]?=some (.word x)→Wd x:=by
  intro q x hx
  cases e:aHead s.c p with
  | none =>
    have e2:aFreeS p s=s:=by unfold aFreeS; rw [e]
    rw [e2] at hx; exact hw q x hx
  | some kn =>
    obtain ⟨k,n⟩:=kn
    obtain ⟨p',rfl,hp⟩:=aHead_some e
    rw [(free_more hok hp).get] at hx
    split at hx
    · cases hx
    · exact hw q x hx
theorem HOk.freeA {h:HSt} (k:HOk h) {p:Int} (hp:p ∉ h.g):HOk { h with a:=aFreeS p h.a }:=by
  obtain ⟨ok,el,er⟩:=free_ok k.a p
  refine ⟨ok,wd_free k.a k.wd p,k.gl,?_,k.gnil,k.cols,?_,k.phs,k.sp0,?_,?_,?_⟩
  · intro x hx
    simp only
    rw [obj_free k.a,k.gin x hx]
    have:¬ x=p:=by rintro rfl; exact hp hx
    simp [this]
  · simp only; rw [el]; exact k.far
  · simp only; rw [er]; exact k.spn
  · simp only; rw [er]; exact k.spl
  · simp only; rw [er]; exact k.len
theorem HOk.frees {h:HSt} (k:HOk h) (l:List Int) (hl:∀ p ∈ l,p ∉ h.g):HOk { h with a:=l.foldl (fun s p=>aFreeS p s) h.a }:=by
  induction l generalizing h with
  | nil=>exact k
  | cons p l ih=>exact ih (k.freeA (hl p (by simp))) (fun q hq=>hl q (by simp [hq]))
theorem frees_len {s:ASt} (hok:AOk s) (l:List Int):(l.foldl (fun s p=>aFreeS p s) s).l.length=s.l.length∧(l.foldl (fun s p=>aFreeS p s) s).c.length=s.c.length∧AOk (l.foldl (fun s p=>aFreeS p s) s):=by
  induction l generalizing s with
  | nil=>exact ⟨rfl,rfl,hok⟩
  | cons p l ih =>
    obtain ⟨ok,el,er⟩:=free_ok hok p
    obtain ⟨a,b,c⟩:=ih ok
    exact ⟨a.trans er,b.trans el,c⟩
theorem HOk.sweep {h:HSt} (k:HOk h) (h2:h.ph=2):HOk (hSweep h).2:=by
  unfold hSweep
  have hg:h.g=[]:=k.gnil (by omega)
  have k1:=k.frees (hGone h) (by rw [hg]; simp)
  obtain ⟨el,_,_⟩:=frees_len k.a (hGone h)
  have:=k.sp0
  have:=k.spn h2
  simp only
  split
  · exact ⟨k1.a,k1.wd,k1.gl,k1.gin,fun _=>hg,k1.cols,k1.far,by simp,by simp only; omega,by simp,by simp only; rw [el]; omega,k1.len⟩
  · exact ⟨k1.a,k1.wd,k1.gl,k1.gin,k1.gnil,k1.cols,k1.far,k1.phs,by simp only; omega,by intro _; simp only; rw [el]; omega,by simp only; rw [el]; omega,k1.len⟩
theorem HOk.step {h:HSt} (k:HOk h):HOk (hStep h).2:=by
  unfold hStep; split
  · exact k.mark
  split
  · rename_i h2; exact k.sweep h2
  · exact k
theorem HOk.new (n:Nat) (h2:2≤n) (h128:n≤128):HOk (hNew n):=by
  have hl:(aNew n).l.length=n:=by simp [aNew,sNew]
  refine ⟨aNew_ok n,?_,by simp [hNew],by simp [hNew],by simp [hNew],by simp [hNew],by simp [hNew],by simp [hNew],by simp [hNew],by simp [hNew],by simp [hNew],?_⟩
  · intro p w hp
    simp only [hNew,aNew,List.getElem?_replicate] at hp
    split at hp <;> simp at hp
  · show 2≤(aNew n).l.length∧(aNew n).l.length≤128
    rw [hl]; exact ⟨h2,h128⟩
end Go.Proofs.Ytffnjpapggidlaa
namespace Go.Proofs.Ytffnjpapggidlaa
set_option linter.unusedVariables false
def succs (s:ASt) (p:Int):List Int:=((aWords s p).filter vIsPtr).map vAt
inductive Rch (s:ASt) (roots:List Int):Int→Prop
  | root (p:Int):p ∈ roots→isObj s p=true→Rch s roots p
  | step (p q:Int):Rch s roots p→q ∈ succs s p→isObj s q=true→Rch s roots q
theorem Rch.obj {s:ASt} {roots:List Int} {p:Int} (h:Rch s roots p):isObj s p=true:=by cases h <;> assumption
theorem Rch.mono {s:ASt} {r r':List Int} (hr:∀ p ∈ r,isObj s p=true→Rch s r' p) {p:Int} (h:Rch s r p):Rch s r' p:=by
  induction h with
  | root p h1 h2=>exact hr p h1 h2
  | step p q _ h2 h3 ih=>exact .step p q ih h2 h3
theorem Rch.append {s:ASt} {x y:List Int} {p:Int}:Rch s (x ++ y) p ↔ Rch s x p ∨ Rch s y p:=by
  constructor
  · intro h
    induction h with
    | root p h1 h2 =>
      rcases List.mem_append.1 h1 with h | h
      · exact Or.inl (.root p h h2)
      · exact Or.inr (.root p h h2)
    | step p q _ h2 h3 ih =>
      rcases ih with ih | ih
      · exact Or.inl (.step p q ih h2 h3)
      · exact Or.inr (.step p q ih h2 h3)
  · rintro (h | h)
    · exact h.mono fun p h1 h2=>.root p (List.mem_append.2 (Or.inl h1)) h2
    · exact h.mono fun p h1 h2=>.root p (List.mem_append.2 (Or.inr h1)) h2
theorem Rch.none {s:ASt} {p:Int}:¬ Rch s [] p:=by
  intro h
  induction h with
  | root p h1 _=>cases h1
  | step _ _ _ _ _ ih=>exact ih
end Go.Proofs.Ytffnjpapggidlaa
namespace Go.Proofs.Ytffnjpapggidlaa
set_option linter.unusedVariables false
set_option linter.unusedSimpArgs false
theorem len_spot {s:ASt} {p:Int} {j:Nat} (hj:j<(aLen s.c p).toNat):∃ (q:Nat) (k n:Int),p=q∧s.c[q]?=some (.head k n)∧j<n.toNat:=by
  unfold aLen at hj
  cases e:aHead s.c p with
  | none=>rw [e] at hj; simp at hj
  | some kn =>
    rw [e] at hj
    obtain ⟨k,n⟩:=kn
    obtain ⟨q,rfl,hq⟩:=aHead_some e
    exact ⟨q,k,n,rfl,hq,hj⟩
theorem words_store_far {s:ASt} (hok:AOk s) (p i w:Int) {q:Int} (hne:q≠p):aWords (aStoreS p i w s) q=aWords s q:=by
  by_cases h:aErr p i s=0
  · obtain ⟨p',j,k,n,rfl,rfl,hp,hj⟩:=err_zero h
    have e:aStoreS p' j w s=⟨s.l,s.c.set (p'+1+j) (.word w)⟩:=by unfold aStoreS; rw [if_pos h]; rfl
    unfold aWords
    rw [len_store hok]
    apply List.map_congr_left
    intro m hm
    rw [List.mem_range] at hm
    obtain ⟨q',k',n',rfl,hq,hm'⟩:=len_spot hm
    have:=(free_more hok hp).apart q' (1+m) k' n' hq (by omega) (by omega)
    rw [e]
    simp only [Int.toNat_natCast]
    rw [List.getElem?_set,if_neg (by omega)]
  · rw [store_no h]
theorem aWords_get (s:ASt) (p:Int) (m:Nat):(aWords s p)[m]?=if m<(aLen s.c p).toNat then some (wordOf s.c[p.toNat+1+m]?) else none:=by
  unfold aWords
  rw [List.getElem?_map]
  by_cases h:m<(aLen s.c p).toNat
  · rw [if_pos h,List.getElem?_range h]; rfl
  · rw [if_neg h,List.getElem?_eq_none (by simpa using h)]; rfl
theorem words_store_self {s:ASt} (hok:AOk s) (p i w:Int) (h:aErr p i s=0):aWords (aStoreS p i w s) p=(aWords s p).set i.toNat w:=by
  obtain ⟨p',j,k,n,rfl,rfl,hp,hj⟩:=err_zero h
  have e:aStoreS p' j w s=⟨s.l,s.c.set (p'+1+j) (.word w)⟩:=by unfold aStoreS; rw [if_pos h]; rfl
  have hl:=len_store hok (p':Int) (j:Int) w (p':Int)
  have hn:aLen s.c (p':Int)=n:=by unfold aLen; rw [aHead_nat hp]
  obtain ⟨x,hx⟩:=err_word hok hp hj
  have hlt:=(List.getElem?_eq_some_iff.1 hx).1
  apply List.ext_getElem?
  intro m
  rw [aWords_get,hl,List.getElem?_set,aWords_get,aWords_len,hn,e]
  simp only [Int.toNat_natCast]
  rw [List.getElem?_set]
  by_cases em:j=m
  · subst em
    rw [if_pos hj,if_pos rfl,if_pos rfl,if_pos hj,if_pos hlt]; rfl
  · rw [if_neg em,if_neg (show ¬ p'+1+j=p'+1+m by omega)]
theorem words_store_mem {s:ASt} (hok:AOk s) (p i w:Int) {q x:Int} (hx:x ∈ aWords (aStoreS p i w s) q):x ∈ aWords s q ∨ (x=w∧q=p):=by
  by_cases e:q=p
  · subst e
    by_cases h:aErr q i s=0
    · rw [words_store_self hok q i w h] at hx
      rcases List.mem_or_eq_of_mem_set hx with h | h
      · exact .inl h
      · exact .inr ⟨h,rfl⟩
    · rw [store_no h] at hx; exact .inl hx
  · rw [words_store_far hok p i w e] at hx; exact .inl hx
theorem AllocMore.words {kind n:Int} {s:ASt} {p:Nat} {s':ASt} (h:AllocMore kind n s p s') {q:Int} (ho:isObj s q=true):aWords s' q=aWords s q∧aKind s'.c q=aKind s.c q∧q≠(p:Int):=by
  obtain ⟨q',k,m,rfl,hq⟩:=isObj_some ho
  have hne:q'≠p:=by
    rintro rfl
    have:=h.fresh
    rw [aHead_nat hq] at this; cases this
  have hh:=h.head q'
  rw [if_neg hne] at hh
  refine ⟨?_,by unfold aKind; rw [hh],by omega⟩
  have hl:aLen s'.c q'=aLen s.c q':=by unfold aLen; rw [hh]
  unfold aWords
  rw [hl]
  apply List.map_congr_left
  intro j hj
  rw [List.mem_range] at hj
  have hln:aLen s.c (q':Int)=m:=by unfold aLen; rw [aHead_nat hq]
  rw [hln] at hj
  have:=h.apart q' (1+j) k m hq (by omega)
  simp only [Int.toNat_natCast]
  rw [h.get,if_neg (by omega),if_neg (by omega)]
theorem AllocMore.wordsNew {kind n:Int} {s:ASt} {p:Nat} {s':ASt} (h:AllocMore kind n s p s'):aWords s' (p:Int)=List.replicate n.toNat 0:=by
  have hh:=h.head p
  rw [if_pos rfl] at hh
  have hl:aLen s'.c (p:Int)=n:=by unfold aLen; rw [hh]
  apply List.ext_getElem?
  intro m
  rw [aWords_get,hl,List.getElem?_replicate,Int.toNat_natCast]
  by_cases hm:m<n.toNat
  · rw [if_pos hm,if_pos hm,h.get,if_pos (by omega)]; rfl
  · rw [if_neg hm,if_neg hm]
theorem AllocMore.obj {kind n:Int} {s:ASt} {p:Nat} {s':ASt} (h:AllocMore kind n s p s') (q:Int):isObj s' q=true ↔ isObj s q=true ∨ q=(p:Int):=by
  by_cases h0:0≤q
  · obtain ⟨q',rfl⟩:=Int.eq_ofNat_of_zero_le h0
    unfold isObj
    rw [h.head]
    by_cases e:q'=p
    · subst e; simp
    · rw [if_neg e]
      constructor
      · exact .inl
      · rintro (h | h)
        · exact h
        · omega
  · unfold isObj
    rw [aHead_neg (by omega),aHead_neg (by omega)]
    simp; omega
theorem mem_succs {s:ASt} {p q:Int}:q ∈ succs s p ↔ ∃ x ∈ aWords s p,vIsPtr x=true∧vAt x=q:=by
  unfold succs
  simp only [List.mem_map,List.mem_filter]
  constructor
  · rintro ⟨x,⟨a,b⟩,c⟩; exact ⟨x,a,b,c⟩
  · rintro ⟨x,a,b,c⟩; exact ⟨x,⟨a,b⟩,c⟩
theorem succs_congr {s s':ASt} {p:Int} (h:aWords s' p=aWords s p):succs s' p=succs s p:=by unfold succs; rw [h]
theorem succs_store {s:ASt} (hok:AOk s) (p i w:Int) {q y:Int} (h:y ∈ succs (aStoreS p i w s) q):y ∈ succs s q ∨ (vIsPtr w=true∧vAt w=y∧q=p):=by
  obtain ⟨x,h1,h2,h3⟩:=mem_succs.1 h
  rcases words_store_mem hok p i w h1 with h1 | ⟨rfl,e⟩
  · exact .inl (mem_succs.2 ⟨x,h1,h2,h3⟩)
  · exact .inr ⟨h2,h3,e⟩
theorem succs_zero {s:ASt} {p:Int} (h:∀ x ∈ aWords s p,vIsPtr x=false):succs s p=[]:=by
  unfold succs
  rw [List.filter_eq_nil_iff.2 (fun x hx=>by rw [h x hx]; simp)]
  rfl
end Go.Proofs.Ytffnjpapggidlaa
namespace Go.Proofs.Ytffnjpapggidlaa
set_option linter.unusedVariables false
theorem room_none {s:ASt} {kd n:Int} (hb:aBad kd n=false) (h:aAlloc kd n s=none):∀ r ∈ s.l,isNone r=false∧rowFree (cOf n) r=false:=by
  obtain ⟨_,_,hfit⟩:=aBad_no hb
  obtain ⟨_,_,c0,c3,_⟩:=cOf_fits hfit
  have hs:cSlots (cOf n)≠0:=by
    have hc:cOf n=0 ∨ cOf n=1 ∨ cOf n=2 ∨ cOf n=3:=by omega
    rcases hc with h | h | h | h <;> rw [h] <;> decide
  have h1:sAlloc (cOf n) s.l=none:=by
    unfold aAlloc at h
    cases e:sAlloc (cOf n) s.l with
    | none=>rfl
    | some x=>rw [e] at h; cases h
  unfold sAlloc at h1
  rw [if_neg hs] at h1
  cases e1:s.l.findIdx? (rowFree (cOf n)) with
  | some i=>rw [e1] at h1; cases h1
  | none =>
    rw [e1] at h1
    simp only at h1
    cases e2:s.l.findIdx? isNone with
    | some i=>rw [e2] at h1; cases h1
    | none =>
      rw [List.findIdx?_eq_none_iff] at e1 e2
      exact fun r hr=>⟨e2 r hr,e1 r hr⟩
theorem used_obj {s:ASt} (hok:AOk s) {i u:Nat} (h:sUsed s.l i u=true):isObj s ((i * 32+u * nW s.l i:Nat):Int)=true∧(i * 32+u * nW s.l i) / 32=i:=by
  obtain ⟨k,n,hp⟩:=hok.slot i u h
  obtain ⟨_,hW,hlt,_⟩:=used_geo hok.rows h
  refine ⟨by unfold isObj; rw [aHead_nat hp]; rfl,?_⟩
  have:=(coord (i:=i) (t:=u) (j:=0) hW hlt (by rcases hW with h | h | h | h <;> omega)).1
  rw [Nat.add_zero] at this
  exact this
theorem row_obj {s:ASt} (hok:AOk s) {j:Nat} (hj:j<s.l.length) (h:isNone s.l[j]=false):∃ x,isObj s x=true∧x / 32=(j:Int):=by
  rcases hok.rows s.l[j] (List.getElem_mem hj) with ⟨e,_⟩ | ⟨_,_,_,ht⟩
  · exfalso
    unfold isNone at h
    rw [e] at h
    simp at h
  · obtain ⟨u,hu,eu⟩:=List.mem_iff_getElem.1 ht
    have hus:sUsed s.l (j:Nat) (u:Nat)=true:=sUsed_iff.2 ⟨s.l[j],List.getElem?_eq_getElem hj,by rw [List.getElem?_eq_getElem hu,eu]⟩
    obtain ⟨a,b⟩:=used_obj hok hus
    exact ⟨_,a,by omega⟩
theorem room_one {s:ASt} (hok:AOk s) {kd n:Int} (hb:aBad kd n=false) (h2:2≤s.l.length) (i0:Int) (hi:∀ x,isObj s x=true→x / 32=i0):aAlloc kd n s≠none:=by
  intro h
  have hr:=room_none hb h
  obtain ⟨x,hx,ex⟩:=row_obj hok (j:=0) (by omega) (hr _ (List.getElem_mem _)).1
  obtain ⟨y,hy,ey⟩:=row_obj hok (j:=1) (by omega) (hr _ (List.getElem_mem _)).1
  have:=hi x hx; have:=hi y hy
  omega
theorem word_is {s:ASt} {p:Int} {i:Nat} {w:Int} (h:(aWords s p)[i]?=some w):aWord p i s=w∧aErr p i s=0:=by
  rw [aWords_get] at h
  split at h
  · rename_i hlt
    injection h with h
    have he:aErr p i s=0:=by
      unfold aErr
      unfold aLen at hlt
      cases e:aHead s.c p with
      | none=>rw [e] at hlt; simp at hlt
      | some kn =>
        rw [e] at hlt
        simp only at hlt ⊢
        rw [if_pos (by omega)]
    refine ⟨?_,he⟩
    unfold aWord
    rw [if_pos he,Int.toNat_natCast]
    exact h
  · cases h
end Go.Proofs.Ytffnjpapggidlaa
