/- Prim Allots -/
import Derived.Test.YtmhciohocgeepaaKEv2
import Derived.Test.YtmhciohocgeepaaKSepHeap
import Derived.Test.YtmhciohocgeepaaKFast
import Derived.Test.YtmhciohocgeepaaKPureArena
namespace Go.Proofs.Ytmhciohocgeepaa
open Go.RowKit
set_option linter.unusedVariables false
def aAllocP (kind n:Int) (s:ASt):Int:=if aBad kind n then 0 else match aAlloc kind n s with | some (p,_)=>p | none=>0
def aAllocE (kind n:Int) (s:ASt):Int:=if aBad kind n then 1 else match aAlloc kind n s with | some _=>0 | none=>9
theorem aAllocV_eq (kind n:Int) (s:ASt):aAllocV kind n s=.tuple #[.int .i64 (aAllocP kind n s),.int .i64 (aAllocE kind n s)]:=by
  unfold aAllocV aAllocP aAllocE
  split
  · rfl
  · split
    · rename_i h; simp only [h]
    · rename_i h; simp only [h]
def wdB (x:Int):Bool:=decide (-9223372036854775808≤x) && decide (x≤9223372036854775807)
theorem wdB_spec {x:Int} (h:wdB x=true):Wd x:=by
  unfold wdB at h; simp at h; unfold Wd; omega
def pNew (n:Int):Option HSt:=if 2≤n∧n≤128 then some (hNew n.toNat) else none
def pAlloc (kind n:Int) (s:HSt):Option (Int×Int×HSt):=some (aAllocP kind n s.a,aAllocE kind n s.a,hAlloc kind n s)
def pStore (p i x:Int) (s:HSt):Option (Int×HSt):=if wdB x then some (aErr p i s.a,hStore p i x s) else none
def pShade (p:Int) (s:HSt):Option HSt:=if wdB p then some (hShade p s) else none
def pBegin (s:HSt) (L:List Int):Option (Int×HSt):=if L.all wdB then some (hBeginE s,hBegin L s) else none
def pStep (s:HSt):Option (List Gn×HSt):=some (hStepF s)
def pColour (p:Int) (s:HSt):Option Int:=if wdB p then some (hColour s p) else none
def pLoad (p i:Int) (s:HSt):Option (Int×Int):=some (aWord p i s.a,aErr p i s.a)
def pFree (p:Int) (s:HSt):Option (Int×HSt):=if p ∈ s.g then none else some (aFreeE p s.a,{ s with a:=aFreeS p s.a })
section
variable {w0 w:World} {F0:List Nat} {ps:List Piece} {b ab:Nat} {s s':HSt}
theorem p_New {n:Int} (hs:St w0 F0 ps w) (hx:pNew n=some s) :
    Calls Try.prog 4 #[.int .i64 n] w fun e w'=>∃ b ab,e=.returned (.tuple #[.pointer (some ⟨b,0,none⟩),.int .i64 0])∧St w0 F0 (HeapP b ab s::ps) w':=by
  unfold pNew at hx
  split at hx
  · rename_i h
    injection hx with hx
    subst hx
    obtain ⟨m,rfl⟩:∃ m:Nat,n=m:=⟨n.toNat,by omega⟩
    exact h_New (by omega) (by omega) hs
  · cases hx
theorem p_Arena (hs:St w0 F0 (HeapP b ab s::ps) w) :
    Calls Try.prog 6 #[.pointer (some ⟨b,0,none⟩)] w fun e w'=>e=.returned (.pointer (some ⟨ab,0,none⟩))∧St w0 F0 (HeapP b ab s::ps) w' :=
  (h_Arena hs).mono fun e w' ⟨he,hw⟩=>⟨he,hw ▸ hs⟩
theorem p_Phase (hs:St w0 F0 (HeapP b ab s::ps) w) :
    Calls Try.prog 10 #[.pointer (some ⟨b,0,none⟩)] w fun e w'=>e=.returned (.int .i64 s.ph)∧St w0 F0 (HeapP b ab s::ps) w' :=
  (h_Phase hs).mono fun e w' ⟨he,hw⟩=>⟨he,hw ▸ hs⟩
theorem p_Cycles (hs:St w0 F0 (HeapP b ab s::ps) w) :
    Calls Try.prog 14 #[.pointer (some ⟨b,0,none⟩)] w fun e w'=>e=.returned (.int .i64 s.cy)∧St w0 F0 (HeapP b ab s::ps) w' :=
  (h_Cycles hs).mono fun e w' ⟨he,hw⟩=>⟨he,hw ▸ hs⟩
theorem p_Words (hs:St w0 F0 (HeapP b ab s::ps) w) :
    Calls Try.prog 34 #[.pointer (some ⟨ab,0,none⟩)] w fun e w'=>e=.returned (.int .i64 s.a.c.length)∧St w0 F0 (HeapP b ab s::ps) w' :=
  (ha_Words hs).mono fun e w' ⟨he,hw⟩=>⟨he,hw ▸ hs⟩
theorem p_Alloc {kind n x e0:Int} (hs:St w0 F0 (HeapP b ab s::ps) w) (hx:pAlloc kind n s=some (x,e0,s')) :
    Calls Try.prog 7 #[.pointer (some ⟨b,0,none⟩),.int .i64 kind,.int .i64 n] w fun e w'=>e=.returned (.tuple #[.int .i64 x,.int .i64 e0])∧St w0 F0 (HeapP b ab s'::ps) w':=by
  unfold pAlloc at hx
  simp only [Option.some.injEq,Prod.mk.injEq] at hx
  obtain ⟨rfl,rfl,rfl⟩:=hx
  rw [← aAllocV_eq]
  exact h_Alloc hs kind n
theorem p_ALoad {p i x e0:Int} (hs:St w0 F0 (HeapP b ab s::ps) w) (hx:pLoad p i s=some (x,e0)) :
    Calls Try.prog 58 #[.pointer (some ⟨ab,0,none⟩),.int .i64 p,.int .i64 i] w fun e w'=>e=.returned (.tuple #[.int .i64 x,.int .i64 e0])∧St w0 F0 (HeapP b ab s::ps) w':=by
  unfold pLoad at hx
  simp only [Option.some.injEq,Prod.mk.injEq] at hx
  obtain ⟨rfl,rfl⟩:=hx
  exact ha_Load hs p i
theorem p_Shade {p:Int} (hs:St w0 F0 (HeapP b ab s::ps) w) (hx:pShade p s=some s') :
    Calls Try.prog 18 #[.pointer (some ⟨b,0,none⟩),.int .i64 p] w fun e w'=>e=.returned (.tuple #[])∧St w0 F0 (HeapP b ab s'::ps) w':=by
  unfold pShade at hx
  split at hx
  · rename_i hw
    injection hx with hx
    subst hx
    exact h_Shade hs p (wdB_spec hw)
  · cases hx
theorem p_Begin {v:Value} {L:List Int} {e0:Int} (hs:St w0 F0 (HeapP b ab s::RowP v L::ps) w) (hx:pBegin s L=some (e0,s')) :
    Calls Try.prog 8 #[.pointer (some ⟨b,0,none⟩),v] w fun e w'=>e=.returned (.int .i64 e0)∧St w0 F0 (HeapP b ab s'::RowP v L::ps) w':=by
  unfold pBegin at hx
  split at hx
  · rename_i hw
    simp only [Option.some.injEq,Prod.mk.injEq] at hx
    obtain ⟨rfl,rfl⟩:=hx
    exact h_Begin hs fun x hx=>wdB_spec (List.all_eq_true.1 hw x hx)
  · cases hx
theorem p_Step {L:List Gn} (hs:St w0 F0 (HeapP b ab s::ps) w) (hx:pStep s=some (L,s')) :
    Calls Try.prog 9 #[.pointer (some ⟨b,0,none⟩)] w fun e w'=>∃ v,e=.returned v∧St w0 F0 (HeapP b ab s'::GonesP v L::ps) w':=by
  unfold pStep at hx
  injection hx with hx
  refine (h_Step hs).mono fun e w' ⟨v,he,h⟩=>⟨v,he,?_⟩
  rw [hStepF_eq,hx] at h
  exact h.pick1
theorem p_Colour {p c:Int} (hs:St w0 F0 (HeapP b ab s::ps) w) (hx:pColour p s=some c) :
    Calls Try.prog 12 #[.pointer (some ⟨b,0,none⟩),.int .i64 p] w fun e w'=>e=.returned (.int .i64 c)∧St w0 F0 (HeapP b ab s::ps) w':=by
  unfold pColour at hx
  split at hx
  · rename_i hw
    injection hx with hx
    subst hx
    exact h_Colour hs p (wdB_spec hw)
  · cases hx
theorem p_Kind {p:Int} (hs:St w0 F0 (HeapP b ab s::ps) w) :
    Calls Try.prog 13 #[.pointer (some ⟨ab,0,none⟩),.int .i64 p] w fun e w'=>e=.returned (.int .i64 (aKind s.a.c p))∧St w0 F0 (HeapP b ab s::ps) w':=ha_Kind hs p
theorem p_Len {p:Int} (hs:St w0 F0 (HeapP b ab s::ps) w) :
    Calls Try.prog 57 #[.pointer (some ⟨ab,0,none⟩),.int .i64 p] w fun e w'=>e=.returned (.int .i64 (aLen s.a.c p))∧St w0 F0 (HeapP b ab s::ps) w':=ha_Len hs p
theorem p_Objects (hs:St w0 F0 (HeapP b ab s::ps) w) :
    Calls Try.prog 31 #[.pointer (some ⟨ab,0,none⟩)] w fun e w'=>∃ v,e=.returned v∧St w0 F0 (HeapP b ab s::RowP v (hObjsF s.a)::ps) w' :=
  (ha_Objects hs).mono fun e w' ⟨v,he,h⟩=>⟨v,he,hObjsF_eq s.a ▸ h.pick1⟩
theorem p_Free {p e0:Int} (hs:St w0 F0 (HeapP b ab s::ps) w) (hx:pFree p s=some (e0,s')) :
    Calls Try.prog 33 #[.pointer (some ⟨ab,0,none⟩),.int .i64 p] w fun e w'=>e=.returned (.int .i64 e0)∧St w0 F0 (HeapP b ab s'::ps) w':=by
  unfold pFree at hx
  split at hx
  · cases hx
  · rename_i hg
    simp only [Option.some.injEq,Prod.mk.injEq] at hx
    obtain ⟨rfl,rfl⟩:=hx
    exact ha_Free hs p hg
end
def pAt (a:Int):Option Int:=if wdB a then some (vAt a) else none
def pNum (a:Int):Option Int:=if wdB a then some (vNum a) else none
section
variable {w0 w:World} {F0:List Nat} {ps:List Piece}
theorem p_vIsPtr {a:Int} (hs:St w0 F0 ps w):Calls Try.prog 43 #[.int .i64 a] w fun e w'=>e=.returned (.bool (vIsPtr a))∧St w0 F0 ps w' :=
  (value_IsPtr a w).mono fun e w' ⟨he,hw⟩=>⟨he,hw ▸ hs⟩
theorem p_vAt {a r:Int} (hs:St w0 F0 ps w) (hx:pAt a=some r):Calls Try.prog 44 #[.int .i64 a] w fun e w'=>e=.returned (.int .i64 r)∧St w0 F0 ps w':=by
  unfold pAt at hx
  split at hx
  · rename_i h; injection hx with hx; subst hx
    exact (value_At a (wdB_spec h) w).mono fun e w' ⟨he,hw⟩=>⟨he,hw ▸ hs⟩
  · cases hx
end
section
variable {w0 w:World} {F0:List Nat} {ps:List Piece} {b ab:Nat} {s s':HSt}
theorem p_BeginS {g n c k:Nat} {L:List Int} {e0:Int} (hk:k≤L.length) (hs:St w0 F0 (HeapP b ab s::RowP (.slice (some ⟨g,0,none⟩) n c) L::ps) w) (hx:pBegin s (L.take k)=some (e0,s')) :
    Calls Try.prog 8 #[.pointer (some ⟨b,0,none⟩),.slice (some ⟨g,0,none⟩) k c] w fun e w'=>e=.returned (.int .i64 e0)∧St w0 F0 (HeapP b ab s'::RowP (.slice (some ⟨g,0,none⟩) n c) L::ps) w':=by
  unfold pBegin at hx
  split at hx
  · rename_i hw
    simp only [Option.some.injEq,Prod.mk.injEq] at hx
    obtain ⟨rfl,rfl⟩:=hx
    exact h_BeginR (sees_take k hk) hs fun x hx=>wdB_spec (List.all_eq_true.1 hw x hx)
  · cases hx
end
end Go.Proofs.Ytmhciohocgeepaa
namespace Go.Proofs.Ytmhciohocgeepaa
open Go.RowKit
set_option linter.unusedVariables false
set_option linter.unusedSimpArgs false
structure AI (at':List Int) (h:HSt):Prop where
  ok:HOk h
  z:∀ (q:Nat) w,h.a.c[q]?=some (.word w)→w=0
  g:h.g=[]
  ov:h.ov=false
  cy0:h.ph=0→h.cy=1
  cy1:h.ph≠0→h.cy=0
  ats:∀ p ∈ at',isObj h.a p=true∧(h.ph≠0→h.col p=2)
def rem (h:HSt):Nat:=if h.ph=1 then h.a.l.length+1 else if h.ph=2 then h.a.l.length - h.sp.toNat else 0
theorem words_zero {s:ASt} (hz:∀ (q:Nat) w,s.c[q]?=some (.word w)→w=0) (p:Int):∀ x ∈ aWords s p,x=0:=by
  intro x hx
  unfold aWords at hx
  simp only [List.mem_map] at hx
  obtain ⟨j,_,rfl⟩:=hx
  cases e:s.c[p.toNat+1+j]? with
  | none=>rfl
  | some c =>
    cases c with
    | word w=>exact hz _ w e
    | none=>rfl
    | head k n=>rfl
theorem lost_none {h:HSt} (hz:∀ (q:Nat) w,h.a.c[q]?=some (.word w)→w=0):hLost h=none:=by
  unfold hLost
  rw [List.find?_eq_none]
  intro p _ hl
  unfold isLost at hl
  simp only [Bool.and_eq_true,decide_eq_true_eq] at hl
  obtain ⟨⟨_,h1⟩,h2⟩:=hl
  apply h2
  rw [List.getD_eq_getElem?_getD,List.getElem?_eq_getElem h1]
  exact words_zero hz p _ (List.getElem_mem h1)
theorem z_free {s:ASt} (hok:AOk s) (hz:∀ (q:Nat) w,s.c[q]?=some (.word w)→w=0) (p:Int):∀ (q:Nat) x,(aFreeS p s).c[q]?=some (.word x)→x=0:=by
  intro q x hx
  cases e:aHead s.c p with
  | none =>
    have e2:aFreeS p s=s:=by unfold aFreeS; rw [e]
    rw [e2] at hx; exact hz q x hx
  | some kn =>
    obtain ⟨k,n⟩:=kn
    obtain ⟨p',rfl,hp⟩:=aHead_some e
    rw [(free_more hok hp).get] at hx
    split at hx
    · cases hx
    · exact hz q x hx
theorem frees_keep {s:ASt} (hok:AOk s) (hz:∀ (q:Nat) w,s.c[q]?=some (.word w)→w=0) (l:List Int):(∀ (q:Nat) w,(l.foldl (fun s p=>aFreeS p s) s).c[q]?=some (.word w)→w=0)∧∀ q,q ∉ l→isObj (l.foldl (fun s p=>aFreeS p s) s) q=isObj s q:=by
  induction l generalizing s with
  | nil=>exact ⟨hz,fun q _=>rfl⟩
  | cons p l ih =>
    obtain ⟨ok,el,er⟩:=free_ok hok p
    obtain ⟨a,b⟩:=ih ok (z_free hok hz p)
    refine ⟨a,fun q hq=>?_⟩
    simp only [List.mem_cons,not_or] at hq
    show isObj (l.foldl (fun s p=>aFreeS p s) (aFreeS p s)) q=_
    rw [b q hq.2,obj_free hok]
    simp [hq.1]
theorem AI.mark {at':List Int} {h:HSt} (k:AI at' h) (h1:h.ph=1):(hStep h).2={ h with ph:=2,sp:=0 }:=by
  unfold hStep
  rw [if_pos h1]
  unfold hMark
  have e:hNext h=(none,h):=by unfold hNext; rw [k.g,k.ov]; rfl
  rw [e]
  simp only
  rw [lost_none k.z]
theorem AI.step {at':List Int} {h:HSt} (k:AI at' h):AI at' (hStep h).2∧(h.ph≠0→rem (hStep h).2+1≤rem h)∧(h.ph=0→(hStep h).2=h):=by
  have ok:=k.ok.step
  by_cases h1:h.ph=1
  · rw [k.mark h1] at ok ⊢
    refine ⟨⟨ok,k.z,k.g,k.ov,fun h=>by simp at h,fun _=>k.cy1 (by rw [h1]; decide),fun p hp=>⟨(k.ats p hp).1,fun _=>(k.ats p hp).2 (by rw [h1]; decide)⟩⟩,fun _=>?_,fun h0=>by rw [h0] at h1; cases h1⟩
    unfold rem
    rw [if_neg (by simp),if_pos (by simp),if_pos h1]
    simp
  by_cases h2:h.ph=2
  · have n0:h.ph≠0:=by rw [h2]; decide
    have hcy:=k.cy1 n0
    have hsp:=k.ok.spn h2
    have hs0:=k.ok.sp0
    obtain ⟨fz,fo⟩:=frees_keep k.ok.a k.z (hGone h)
    obtain ⟨fl,_,_⟩:=frees_len k.ok.a (hGone h)
    have hnot:∀ p ∈ at',p ∉ hGone h:=by
      intro p hp hm
      unfold hGone at hm
      simp only [List.mem_filter,Bool.and_eq_true,decide_eq_true_eq] at hm
      have:=(k.ats p hp).2 n0
      omega
    have e:hStep h=hSweep h:=by unfold hStep; rw [if_neg h1,if_pos h2]
    rw [e] at ok ⊢
    unfold hSweep at ok ⊢
    by_cases hl:h.sp+1 ≥ h.a.l.length
    · simp only [if_pos hl] at ok ⊢
      refine ⟨⟨ok,fz,k.g,k.ov,fun _=>by simp only [hcy]; unfold wrap64; omega,fun h=>absurd rfl h,fun p hp=>⟨by simp only; rw [fo p (hnot p hp)]; exact (k.ats p hp).1,fun h=>absurd rfl h⟩⟩,fun _=>?_,fun h0=>absurd h0 n0⟩
      unfold rem
      rw [if_neg (by simp),if_neg (by simp),if_neg h1,if_pos h2]
      omega
    · simp only [if_neg hl] at ok ⊢
      refine ⟨⟨ok,fz,k.g,k.ov,fun h0=>absurd h0 n0,fun _=>hcy,fun p hp=>⟨by simp only; rw [fo p (hnot p hp)]; exact (k.ats p hp).1,(k.ats p hp).2⟩⟩,fun _=>?_,fun h0=>absurd h0 n0⟩
      unfold rem
      simp only [h2,fl]
      rw [if_neg (by decide),if_pos trivial,if_neg (by decide),if_pos trivial]
      omega
  · have h0:h.ph=0:=by rcases k.ok.phs with h | h | h <;> first | exact h | contradiction
    have e:(hStep h).2=h:=by unfold hStep; rw [if_neg h1,if_neg h2]
    rw [e]
    exact ⟨k,fun h=>absurd h0 h,fun _=>rfl⟩
theorem AI.alloc {at':List Int} {h h':HSt} {kind n x e:Int} (k:AI at' h) (hx:pAlloc kind n h=some (x,e,h')):(e≠0→h'=h)∧(e=0→AI (if h.ph=0 then at' else at' ++ [x]) h'∧h'.ph=h.ph∧rem h'=rem h∧(h.ph≠0→pColour x h'=some 2)):=by
  unfold pAlloc at hx
  simp only [Option.some.injEq,Prod.mk.injEq] at hx
  obtain ⟨rfl,rfl,rfl⟩:=hx
  have ok:=k.ok.alloc kind n
  unfold aAllocP aAllocE hAlloc at *
  cases hb:aBad kind n with
  | true=>simp
  | false =>
    cases ha:aAlloc kind n h.a with
    | none=>simp
    | some y =>
      obtain ⟨p,s'⟩:=y
      simp only [hb,ha,Bool.false_eq_true,if_false] at ok ⊢
      refine ⟨fun hh=>absurd rfl hh,fun _=>?_⟩
      have m:=alloc_more k.ok.a hb ha
      obtain ⟨_,_,el,_⟩:=alloc_ok k.ok.a hb ha
      have hlt:=m.lt
      have obj:∀ q,isObj h.a q=true→isObj s' q=true∧q≠(p:Int):=by
        intro q hq
        obtain ⟨q',kk,nn,rfl,hq'⟩:=isObj_some hq
        have hne:q'≠p:=by
          rintro rfl
          have:=m.fresh
          rw [aHead_nat hq'] at this; cases this
        refine ⟨?_,by omega⟩
        unfold isObj
        rw [m.head,if_neg hne,aHead_nat hq']; rfl
      have objp:isObj s' (p:Int)=true:=by unfold isObj; rw [m.head,if_pos rfl]; rfl
      refine ⟨⟨ok,?_,k.g,k.ov,k.cy0,k.cy1,?_⟩,by first | rfl | trivial,?_,?_⟩
      · intro q w hq
        simp only at hq
        rw [m.get] at hq
        split at hq
        · injection hq with hq; injection hq with hq; exact hq.symm
        split at hq
        · cases hq
        · exact k.z q w hq
      · intro q hq
        simp only
        by_cases h0:h.ph=0
        · rw [if_pos h0] at hq
          exact ⟨(obj q (k.ats q hq).1).1,fun h=>absurd h0 h⟩
        · rw [if_neg h0] at hq
          rcases List.mem_append.1 hq with hq | hq
          · obtain ⟨o1,o2⟩:=obj q (k.ats q hq).1
            refine ⟨o1,fun _=>?_⟩
            unfold upd
            rw [if_neg o2]
            exact (k.ats q hq).2 h0
          · simp only [List.mem_singleton] at hq
            subst hq
            refine ⟨objp,fun _=>?_⟩
            unfold upd
            rw [if_pos rfl,if_neg h0]
      · unfold rem; simp only [el]
      · intro h0
        have hc:=k.ok.a.len
        have hl:=k.ok.len
        unfold pColour
        rw [if_pos (by unfold wdB; simp; omega)]
        unfold hColour
        simp only [objp,if_true]
        unfold upd
        rw [if_pos rfl,if_neg h0]
end Go.Proofs.Ytmhciohocgeepaa
