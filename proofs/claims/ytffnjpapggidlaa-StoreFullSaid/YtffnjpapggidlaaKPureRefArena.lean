/- PureRefArena -/
import Derived.Test.YtffnjpapggidlaaKPureArena
namespace Go.Proofs.Ytffnjpapggidlaa
set_option linter.unusedVariables false
def RW (s:ASt) (W:List Int):Prop :=
  W.length=s.c.length∧∀ (p:Nat) (k n:Int),s.c[p]?=some (.head k n)→W[p]?=some (k+16 * n)∧∀ j:Nat,j<n.toNat→∃ x,s.c[p+1+j]?=some (.word x)∧W[p+1+j]?=some x
theorem isObj_at {s:ASt} (hok:AOk s) (p:Nat):(aHead s.c p).isSome=(decide (0<nW s.l (p / 32)) && decide (p % 32 % nW s.l (p / 32)=0) && sUsed s.l (p / 32:Nat) (p % 32 / nW s.l (p / 32):Nat)):=by
  cases e:aHead s.c p with
  | some kn =>
    obtain ⟨k,n⟩:=kn
    obtain ⟨q,e1,hq⟩:=aHead_some e
    have:p=q:=by omega
    subst this
    obtain ⟨g1,g2,g3,g4,g5,g6,g7,g8,g9,g10,g11⟩:=head_geo hok hq
    have hd:=Nat.div_add_mod (p % 32) (nW s.l (p / 32))
    rw [Nat.mul_comm] at hd
    have hm:p % 32 % nW s.l (p / 32)=0:=by omega
    rw [g2,decide_eq_true g5,decide_eq_true hm]; rfl
  | none =>
    cases h:(decide (0<nW s.l (p / 32)) && decide (p % 32 % nW s.l (p / 32)=0) && sUsed s.l (p / 32:Nat) (p % 32 / nW s.l (p / 32):Nat)) with
    | false=>rfl
    | true =>
      simp only [Bool.and_eq_true,decide_eq_true_eq] at h
      obtain ⟨⟨h0,hm⟩,hu⟩:=h
      obtain ⟨k,n,hk⟩:=hok.slot _ _ hu
      have hd:=Nat.div_add_mod (p % 32) (nW s.l (p / 32))
      rw [Nat.mul_comm] at hd
      have ep:p / 32 * 32+p % 32 / nW s.l (p / 32) * nW s.l (p / 32)=p:=by omega
      rw [ep] at hk
      rw [aHead_nat hk] at e; cases e
def zeros (W:List Int) (p:Nat):Nat→List Int
  | 0=>W
  | n+1=>(zeros W p n).set (p+n) 0
theorem zeros_len (W:List Int) (p n:Nat):(zeros W p n).length=W.length:=by
  induction n with
  | zero=>rfl
  | succ n ih=>simp [zeros,ih]
theorem zeros_get (W:List Int) (p n q:Nat):(zeros W p n)[q]?=if p≤q∧q<p+n∧q<W.length then some 0 else W[q]?:=by
  induction n with
  | zero=>rw [if_neg (by omega)]; rfl
  | succ n ih =>
    unfold zeros
    rw [List.getElem?_set,zeros_len,ih]
    by_cases e:p+n=q
    · subst e
      rw [if_pos rfl]
      by_cases hl:p+n<W.length
      · rw [if_pos hl,if_pos ⟨by omega,by omega,hl⟩]
      · rw [if_neg hl,if_neg (by omega),List.getElem?_eq_none (by omega)]
    · rw [if_neg e]
      by_cases h:p≤q∧q<p+n∧q<W.length
      · rw [if_pos h,if_pos ⟨h.1,by omega,h.2.2⟩]
      · rw [if_neg h,if_neg (by omega)]
theorem slot_apart {kind n:Int} {s:ASt} (hok:AOk s) {i t:Nat} {l':List SRow} (c0:0≤cOf n) (c3:cOf n<4) (ha:sAlloc (cOf n) s.l=some (i,t,l')) {q:Nat} {k m:Int} (hq:s.c[q]?=some (.head k m)) (j x:Nat) (hj:j<m.toNat+1) (hx:x<(cWords (cOf n)).toNat):q+j≠i * 32+t * (cWords (cOf n)).toNat+x:=by
  have fa:=alloc_facts hok.rows ha
  obtain ⟨gW,gs,gc⟩:=ws_geo c0 c3
  have gt:=slot_fit fa.slot gs
  generalize hWd:(cWords (cOf n)).toNat=W at *
  obtain ⟨i',u,hp,hu,a,b,c,d,f⟩:=hok.head q k m hq
  intro e
  obtain ⟨_,uW,ut,_⟩:=used_geo hok.rows hu
  have hcl:i'=i→nW s.l i'=W:=by
    intro ei
    subst ei
    rcases fa.old with h | h
    · unfold nW; rw [h,hWd]
    · rw [none_used hok.rows h u] at hu; cases hu
  obtain ⟨a,b,_⟩:=slots_apart uW ut (show j<nW s.l i' by omega) gW gt hx hcl (by omega)
  subst a b
  rw [fa.new] at hu; cases hu
theorem RW.alloc {kind n:Int} {s:ASt} {W:List Int} (hok:AOk s) (h:RW s W) (hb:aBad kind n=false) {i t:Nat} {l':List SRow} (ha:sAlloc (cOf n) s.l=some (i,t,l')) {p:Nat} {s':ASt} (hs:aAlloc kind n s=some (p,s')) :
    p=i * 32+t * (cWords (cOf n)).toNat∧p+(cWords (cOf n)).toNat≤s.c.length∧RW s' ((zeros W p (cWords (cOf n)).toNat).set p (kind+16 * n)):=by
  obtain ⟨k1,k6,hf⟩:=aBad_no hb
  obtain ⟨n0,n32,c0,c3,nW'⟩:=cOf_fits hf
  have m:=alloc_more hok hb hs
  have fa:=alloc_facts hok.rows ha
  obtain ⟨gW,gs,gc⟩:=ws_geo c0 c3
  have gt:=slot_fit fa.slot gs
  have hp:p=i * 32+t * (cWords (cOf n)).toNat:=by
    unfold aAlloc at hs; rw [ha] at hs; injection hs with hs; injection hs with e1 _; exact e1.symm
  have hlt:=fa.lt
  have hL:=hok.len
  have hend:p+(cWords (cOf n)).toNat≤s.c.length:=by omega
  refine ⟨hp,hend,?_,?_⟩
  · rw [List.length_set,zeros_len,h.1,m.len]
  · intro q k x hq
    have hget:∀ y:Nat,((zeros W p (cWords (cOf n)).toNat).set p (kind+16 * n))[y]?=if y=p then some (kind+16 * n) else if p≤y∧y<p+(cWords (cOf n)).toNat then some 0 else W[y]?:=by
      intro y
      rw [List.getElem?_set,zeros_len,zeros_get]
      have hWl:=h.1
      by_cases e:y=p
      · rw [if_pos e.symm,if_pos e,if_pos (by omega)]
      · rw [if_neg (fun x=>e x.symm),if_neg e]
        by_cases e2:p≤y∧y<p+(cWords (cOf n)).toNat
        · rw [if_pos e2,if_pos ⟨e2.1,e2.2,by omega⟩]
        · rw [if_neg e2,if_neg (by omega)]
    rw [m.get] at hq
    split at hq
    · cases hq
    split at hq
    · rename_i h1 h2
      injection hq with hq; injection hq with e1 e2; subst e1 e2 h2
      refine ⟨by rw [hget,if_pos rfl],fun j hj=>⟨0,?_,?_⟩⟩
      · rw [m.get,if_pos (by omega)]
      · rw [hget,if_neg (by omega),if_pos (by omega)]
    · rename_i h1 h2
      obtain ⟨w1,w2⟩:=h.2 q k x hq
      have hap:∀ j y:Nat,j<x.toNat+1→y<(cWords (cOf n)).toNat→q+j≠p+y:=by
        intro j y hj hy; rw [hp]; exact slot_apart (kind:=kind) hok c0 c3 ha hq j y hj hy
      have hout:∀ j:Nat,j<x.toNat+1→¬ (p≤q+j∧q+j<p+(cWords (cOf n)).toNat):=by
        intro j hj hh; exact hap j (q+j - p) hj (by omega) (by omega)
      have hne:∀ j:Nat,j<x.toNat+1→q+j≠p:=by
        intro j hj e; exact hap j 0 hj (by omega) (by omega)
      refine ⟨?_,fun j hj=>?_⟩
      · rw [hget,if_neg h2,if_neg (by have:=hout 0 (by omega); simpa using this)]; exact w1
      · obtain ⟨z,z1,z2⟩:=w2 j hj
        have o:=hout (1+j) (by omega)
        have e:=hne (1+j) (by omega)
        refine ⟨z,?_,?_⟩
        · rw [m.get,if_neg (by omega),if_neg (by omega)]; exact z1
        · rw [hget,if_neg (by omega),if_neg (by omega)]; exact z2
theorem RW.free {s:ASt} {W:List Int} (hok:AOk s) (h:RW s W) (p:Int):RW (aFreeS p s) W:=by
  cases e:aHead s.c p with
  | none =>
    have:aFreeS p s=s:=by unfold aFreeS; rw [e]
    rw [this]; exact h
  | some kn =>
    obtain ⟨k,n⟩:=kn
    obtain ⟨p',rfl,hp⟩:=aHead_some e
    have m:=free_more hok hp
    refine ⟨h.1.trans m.len.symm,?_⟩
    intro q k' x hq
    rw [m.get] at hq
    split at hq
    · cases hq
    · rename_i h1
      obtain ⟨w1,w2⟩:=h.2 q k' x hq
      refine ⟨w1,fun j hj=>?_⟩
      obtain ⟨z,z1,z2⟩:=w2 j hj
      have hne:q≠p':=by rintro rfl; omega
      have:=m.apart q (1+j) k' x hq hne (by omega)
      exact ⟨z,by rw [m.get,if_neg (by omega)]; exact z1,z2⟩
theorem RW.store {s:ASt} {W:List Int} (hok:AOk s) (h:RW s W) {q j:Nat} {k n:Int} (hq:s.c[q]?=some (.head k n)) (hj:j<n.toNat) (w:Int):RW ⟨s.l,s.c.set (q+1+j) (.word w)⟩ (W.set (q+1+j) w):=by
  obtain ⟨x,hx⟩:=err_word hok hq hj
  have hlt:=(List.getElem?_eq_some_iff.1 hx).1
  have hWl:=h.1
  refine ⟨by simp [h.1],?_⟩
  intro p k' m hp
  simp only at hp ⊢
  rw [List.getElem?_set] at hp
  split at hp
  · first | cases hp | (split at hp <;> cases hp)
  · rename_i hne
    obtain ⟨w1,w2⟩:=h.2 p k' m hp
    refine ⟨by rw [List.getElem?_set,if_neg hne]; exact w1,fun y hy=>?_⟩
    obtain ⟨z,z1,z2⟩:=w2 y hy
    rw [List.getElem?_set,List.getElem?_set]
    by_cases e:q+1+j=p+1+y
    · rw [if_pos e,if_pos e,if_pos hlt,if_pos (by omega)]; exact ⟨w,rfl,rfl⟩
    · rw [if_neg e,if_neg e]; exact ⟨z,z1,z2⟩
theorem RW.new (n:Nat) (W:List Int) (hW:W.length=32 * n):RW (aNew n) W:=by
  refine ⟨by simp [aNew,hW],?_⟩
  intro p k m hp
  simp only [aNew,List.getElem?_replicate] at hp
  split at hp <;> simp at hp
end Go.Proofs.Ytffnjpapggidlaa
