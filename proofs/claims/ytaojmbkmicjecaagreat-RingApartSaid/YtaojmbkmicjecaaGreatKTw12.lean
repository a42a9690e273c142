/- Tw12 -/
import Derived.Test.YtaojmbkmicjecaaGreatKPrimV
import Derived.Test.YtaojmbkmicjecaaGreatKGView
import Derived.Test.YtaojmbkmicjecaaGreatKG12b
import Derived.KernelRfl
namespace Go.Proofs.YtaojmbkmicjecaaGreat
open Go.RowKit
set_option linter.unusedVariables false
set_option maxRecDepth 10000
def lenZ:List Int→Int
  | []=>0
  | _::t=>lenZ t+1
theorem lenZ_eq (L:List Int):lenZ L=(L.length:Int):=by
  induction L with
  | nil=>rfl
  | cons x t ih=>show lenZ t+1=_; rw [ih]; simp
def natZ:Nat→Int
  | 0=>0
  | n+1=>natZ n+1
theorem natZ_eq:∀ n,natZ n=(n:Int)
  | 0=>rfl
  | n+1=>by show natZ n+1=_; rw [natZ_eq n]; simp
def intZ:Int→Int
  | .ofNat n=>natZ n
  | .negSucc n=>.negSucc n
theorem intZ_eq:∀ x,intZ x=x
  | .ofNat n=>natZ_eq n
  | .negSucc _=>rfl
def pAllocI (kind n:Int) (s:HSt):Option (Int×Int×HSt):=some (intZ (aAllocP kind n s.a),aAllocE kind n s.a,hAlloc kind n s)
def InvH (s:HSt):Prop:=HOk s∧s.ph=0
def OkP {R:Type} (P:R→Prop) (m m':Option R):Prop:=m'=m∧∀ r,m=some r→P r
section
variable {α β γ δ R:Type} {P:R→Prop}
theorem OkP.no:OkP P none none:=⟨rfl,fun _ h=>by cases h⟩
theorem OkP.yes {r:R} (h:P r):OkP P (some r) (some r):=⟨rfl,fun _ e=>by injection e with e; exact e ▸ h⟩
theorem OkP.any {m:Option R}:OkP (fun _=>True) m m:=⟨rfl,fun _ _=>trivial⟩
theorem OkP.when {c:Prop} [Decidable c] {a a' b b':Option R} (h1:c→OkP P a a') (h2:¬ c→OkP P b b'):OkP P (if c then a else b) (if c then a' else b'):=by
  split
  · exact h1 ‹_›
  · exact h2 ‹_›
theorem OkP.b1 {Q:α→Prop} {m m':Option α} {f f':α→Option R} (hm:OkP Q m m') (hf:∀ x,Q x→OkP P (f x) (f' x)):OkP P (bind1 m f) (bind1 m' f'):=by
  obtain ⟨rfl,hq⟩:=hm
  cases m' with
  | none=>exact .no
  | some x=>exact hf x (hq x rfl)
theorem OkP.b2 {Q:α×β→Prop} {m m':Option (α×β)} {f f':α→β→Option R} (hm:OkP Q m m') (hf:∀ x y,Q (x,y)→OkP P (f x y) (f' x y)):OkP P (bind2 m f) (bind2 m' f'):=by
  obtain ⟨rfl,hq⟩:=hm
  cases m' with
  | none=>exact .no
  | some x=>exact hf x.1 x.2 (hq x rfl)
theorem OkP.b3 {Q:α×β×γ→Prop} {m m':Option (α×β×γ)} {f f':α→β→γ→Option R} (hm:OkP Q m m') (hf:∀ x y z,Q (x,y,z)→OkP P (f x y z) (f' x y z)):OkP P (bind3 m f) (bind3 m' f'):=by
  obtain ⟨rfl,hq⟩:=hm
  cases m' with
  | none=>exact .no
  | some x=>exact hf x.1 x.2.1 x.2.2 (hq x rfl)
theorem OkP.opt {x:Option α} {A A':Option R} {B B':α→Option R} (ha:x=none→OkP P A A') (hb:∀ q,x=some q→OkP P (B q) (B' q)):OkP P (optE x A B) (optE x A' B'):=by
  cases x with
  | none=>exact ha rfl
  | some q=>exact hb q rfl
end
def AllW (L:List Int):Prop:=∀ x ∈ L,wdB x=true
theorem wdB_of {x:Int} (h:Wd x):wdB x=true:=by unfold Wd at h; unfold wdB; simp; omega
theorem wdB_w64 (x:Int):wdB (wrap64 x)=true:=wdB_of (by unfold Wd wrap64; omega)
theorem AllW.at {L:List Int} (h:AllW L) (i:Int):wdB (atI L i)=true:=by
  show wdB (L.getD i.toNat 0)=true
  rw [List.getD_eq_getElem?_getD]
  by_cases hi:i.toNat<L.length
  · rw [List.getElem?_eq_getElem hi]; exact h _ (List.getElem_mem _)
  · rw [List.getElem?_eq_none (by omega)]; rfl
theorem AllW.nil:AllW []:=fun _ h=>by cases h
theorem AllW.cons {x:Int} {L:List Int} (h:wdB x=true) (hL:AllW L):AllW (x::L):=fun y hy=>by
  rcases List.mem_cons.1 hy with rfl | hy
  · exact h
  · exact hL y hy
theorem AllW.push {L L':List Int} {x:Int} (h:AllW L) (hx:wdB x=true) (e:pushM L x=some L'):AllW L':=by
  unfold pushM at e
  split at e
  · injection e with e; subst e
    intro y hy
    rcases List.mem_append.1 hy with hy | hy
    · exact h y hy
    · simp at hy; exact hy ▸ hx
  · cases e
theorem push_ok {L:List Int} {x:Int} (h:AllW L) (hx:wdB x=true):OkP (fun L=>AllW L) (pushM L x) (pushM L x):=⟨rfl,fun _ e=>h.push hx e⟩
theorem InvH.words {s:HSt} (k:InvH s) (p:Int):AllW (aWords s.a p):=fun x hx=>wdB_of (aWords_wd k.1.wd p x hx)
theorem InvH.cells {s:HSt} (k:InvH s) {p kind:Int} {n:Nat} (h:Is s.a p kind n) (hn:0<n):cellsB p n s.a=true:=by
  obtain ⟨h1,h2⟩:=h
  unfold aLen at h2
  cases e:aHead s.a.c p with
  | none=>rw [e] at h2; simp at h2; omega
  | some x =>
    rw [e] at h2
    simp only at h2
    have he:aErr p ((n - 1:Nat):Int) s.a=0:=by
      unfold aErr; rw [e]; simp only; rw [if_pos (by omega)]
    obtain ⟨q,j,kd,m,rfl,hj,hq,hm⟩:=err_zero he
    unfold cellsB
    rw [List.all_eq_true]
    intro i hi
    simp only [List.mem_range] at hi
    simp only [Int.toNat_natCast]
    have hj':j=n - 1:=by omega
    obtain ⟨w,hw⟩:=err_word k.1.a hq (j:=i) (by omega)
    rw [hw]
theorem InvH.put {s:HSt} (k:InvH s) (p kind:Int) {n:Nat} (hn:0<n) (l:List Int):hPut p kind n l s=if Is s.a p kind n then { s with a:=wrI p l n s.a } else s:=by
  by_cases h:Is s.a p kind n
  · exact hPut_idle k.2 (k.cells h hn)
  · unfold hPut; rw [if_neg h,if_neg h]
theorem InvH.putInv {s:HSt} (k:InvH s) (p kind:Int) {n:Nat} (hn:0<n) {l:List Int} (hl:∀ x ∈ l,Wd x):InvH (hPut p kind n l s):=by
  refine ⟨(k.1.put p kind n hl).1,?_⟩
  rw [k.put p kind hn]
  split
  · exact k.2
  · exact k.2
theorem aWord_w {s:HSt} (k:InvH s) (p i:Int):wdB (aWord p i s.a)=true:=by
  unfold aWord
  split
  · exact wdB_of (wordOf_wd k.1.wd _)
  · rfl
theorem pLoad_ok {p i:Int} {s:HSt} (k:InvH s):OkP (fun r=>wdB r.1=true) (pLoad p i s) (pLoad p i s):=.yes (aWord_w k p i)
theorem pPutChan_ok {p:Int} {c:Ch} {s:HSt} (k:InvH s):OkP (fun r=>InvH r.2) (pPutChan p c s) (pPutChan p c s):=.yes (k.putInv p 1 (by omega) (chW_wd c))
theorem pPutGor_ok {p:Int} {c:Gr} {s:HSt} (k:InvH s) (hc:wdG c=true):OkP (fun r=>InvH r.2) (pPutGor p c s) (pPutGorI p c s):=by
  have e:pPutGor p c s=some (putE s.a p 4 10,hPut p 4 10 (goW c) s):=if_pos hc
  have h:=hc
  simp only [wdG,Bool.and_eq_true] at h
  refine ⟨?_,fun r hr=>?_⟩
  · rw [e,k.put p 4 (by omega)]; rfl
  · rw [e] at hr; injection hr with hr; subst hr
    exact k.putInv p 4 (by omega) (goW_wd c ⟨wdB_spec h.1.1.1.1.1,wdB_spec h.1.1.1.1.2,wdB_spec h.1.1.1.2,wdB_spec h.1.1.2,wdB_spec h.1.2,wdB_spec h.2⟩)
theorem hStore_ph {p i w:Int} {s:HSt}:(hStore p i w s).ph=s.ph:=by
  unfold hStore
  split
  · rw [shadeW_ph]
  · rfl
theorem pStore_ok {p i x:Int} {s:HSt} (k:InvH s) (hx:wdB x=true):OkP (fun r=>InvH r.2) (pStore p i x s) (pStoreI p i x s):=by
  refine ⟨(pStore_idle k.2 hx).symm,fun r hr=>?_⟩
  have e:pStore p i x s=some (aErr p i s.a,hStore p i x s):=if_pos hx
  rw [e] at hr; injection hr with hr; subst hr
  exact ⟨k.1.store p i (wdB_spec hx),hStore_ph.trans k.2⟩
theorem hAlloc_ph {kind n:Int} {s:HSt}:(hAlloc kind n s).ph=s.ph:=by
  unfold hAlloc
  split
  · rfl
  · split <;> rfl
theorem pAlloc_ok {kind n:Int} {s:HSt} (k:InvH s):OkP (fun r=>InvH r.2.2) (pAlloc kind n s) (pAllocI kind n s):=by
  unfold pAllocI
  rw [intZ_eq]
  exact .yes ⟨k.1.alloc kind n,hAlloc_ph.trans k.2⟩
theorem pNew_ok (n:Int):OkP (fun r=>InvH r) (pNew n) (pNew n):=by
  refine ⟨rfl,fun r hr=>?_⟩
  unfold pNew at hr
  split at hr
  · injection hr with hr; subst hr; exact ⟨HOk.new _ (by omega) (by omega),rfl⟩
  · cases hr
theorem prNew_ok (n:Int):OkP (fun r=>InvH r) (prNew n) (prNew n):=pNew_ok n
theorem wdG_mk {i st pc a b c d e f sd:Int} (ha:wdB a=true) (hb:wdB b=true) (hc:wdB c=true) (hd:wdB d=true) (he:wdB e=true) (hf:wdB f=true):wdG ⟨i,st,pc,a,b,c,d,e,f,sd⟩=true:=by
  simp only [wdG,ha,hb,hc,hd,he,hf,Bool.and_self]
theorem wdG_all {q:Gr} (h:wdG q=true):wdB q.a=true∧wdB q.b=true∧wdB q.c=true∧wdB q.d=true∧wdB q.e=true∧wdB q.f=true:=by
  simp only [wdG,Bool.and_eq_true] at h
  exact ⟨h.1.1.1.1.1,h.1.1.1.1.2,h.1.1.1.2,h.1.1.2,h.1.2,h.2⟩
theorem ptr_ok {k:Nat} {x:Int}:OkP (fun r=>wdB r=true) (ref11_ptr.m k x) (ref11_ptr.m k x):=by
  refine ⟨rfl,fun r h=>?_⟩
  unfold ref11_ptr.m at h
  split at h
  · injection h with h; subst h; exact wdB_w64 _
  · injection h with h; subst h; exact wdB_w64 _
def WordsAt (p:Int) (L:List Int) (s:HSt):Prop:=∀ j:Nat,j<L.length→s.a.c[p.toNat+1+j]?=some (.word (atI L j))∧aErr p j s.a=0
theorem words_l2 {s:HSt} (k:InvH s) {p kd:Int} (hk:aKind s.a.c p=kd) (hl:aLen s.a.c p=rNeed kd 0):∀ (f:Nat) (L:List Int) (x:Int),AllW L→x=(L.length:Int)→WordsAt p L s→L.length<100→∀ r,ref11_words.l2 s p kd f L x=some r→AllW r.1∧r.2.2=s∧WordsAt p r.1 s
  | 0,_,_,_,_,_,_,r,h=>by cases h
  | f+1,L,x,hL,hx,hw,h100,r,h=>by
    have ih:=words_l2 k hk hl f
    change ref11_words.l2b s p kd (ref11_words.l2 s p kd f) L x=some r at h
    unfold ref11_words.l2b at h
    split at h
    · rename_i hlt
      simp only [decide_eq_true_eq] at hlt
      have hn:rNeed kd 0≤10:=by unfold rNeed; repeat' split <;> omega
      have he:aErr p x s.a=0:=by
        unfold aLen at hl
        cases e:aHead s.a.c p with
        | none=>rw [e] at hl; simp only at hl; omega
        | some y=>rw [e] at hl; simp only at hl; unfold aErr; rw [e]; simp only; rw [if_pos (by omega)]
      have hc:s.a.c[p.toNat+1+L.length]?=some (.word (aWord p x s.a)):=by
        obtain ⟨q,j,kd',m,rfl,hj,hq,hm⟩:=err_zero he
        obtain ⟨w,hw2⟩:=err_word k.1.a hq (j:=j) (by omega)
        have:j=L.length:=by omega
        subst this
        unfold aWord
        rw [if_pos he,hj]
        simp only [Int.toNat_natCast] at hw2 ⊢
        rw [hw2]; rfl
      have hp:pLoad p x s=some (aWord p x s.a,aErr p x s.a):=rfl
      rw [hp,bind2_some] at h
      have hpush:pushM L (aWord p x s.a)=some (L ++ [aWord p x s.a]):=by unfold pushM; rw [if_pos (by omega)]
      rw [hpush,bind1_some] at h
      refine ih (L ++ [aWord p x s.a]) _ (hL.push (aWord_w k p x) hpush) ?_ ?_ (by simp; omega) r h
      · have:IntKind.i64.wrap (x+1)=x+1:=by
          rw [IntKind.wrap_i64]; omega
        rw [this]; simp; omega
      · intro j hj
        simp only [List.length_append,List.length_cons,List.length_nil] at hj
        by_cases hj2:j<L.length
        · obtain ⟨h1,h2⟩:=hw j hj2
          refine ⟨?_,h2⟩
          rw [h1]
          show some (ACell.word (L.getD ((j:Int)).toNat 0))=some (ACell.word ((L ++ [aWord p x s.a]).getD ((j:Int)).toNat 0))
          simp only [Int.toNat_natCast,List.getD_eq_getElem?_getD]
          rw [List.getElem?_append_left hj2]
        · have:j=L.length:=by omega
          subst this
          rw [← hx]
          refine ⟨?_,he⟩
          rw [hc]
          show _=some (ACell.word ((L ++ [aWord p x s.a]).getD x.toNat 0))
          rw [hx]
          simp [List.getD_eq_getElem?_getD]
    · injection h with h; subst h; exact ⟨hL,rfl,hw⟩
theorem words_ok {k:Nat} {s:HSt} {p kd:Int} (ki:InvH s):OkP (fun r=>AllW r.1∧InvH r.2.2∧(r.2.1=0→WordsAt p r.1 r.2.2)) (ref11_words.m k s p kd) (ref11_words.m k s p kd):=by
  refine ⟨rfl,fun r h=>?_⟩
  have no:∀ {b:Bool},b=true→ref11_words.j1 s p kd k b=some r→AllW r.1∧InvH r.2.2∧(r.2.1=0→WordsAt p r.1 r.2.2):=by
    intro b hb h
    subst hb
    unfold ref11_words.j1 at h
    rw [if_pos rfl] at h
    injection h with h; subst h
    exact ⟨.nil,ki,fun h=>by simp at h⟩
  unfold ref11_words.m at h
  split at h
  · exact no rfl h
  · rename_i h1
    by_cases hb:(aLen s.a.c p != rNeed kd 0)=true
    · exact no hb h
    · have hl:aLen s.a.c p=rNeed kd 0:=by simpa using hb
      have hk:aKind s.a.c p=kd:=by simpa using h1
      unfold ref11_words.j1 at h
      rw [if_neg hb] at h
      obtain ⟨a,b,c⟩:=words_l2 ki hk hl k [] 0 .nil rfl (fun j hj=>by simp at hj) (by simp) r h
      exact ⟨a,b ▸ ki,fun _=>b.symm ▸ c⟩
def qPutI (p:Int) (L:List Int) (n:Nat) (s:HSt):HSt:={ s with a:=wrI p L n s.a }
def ref11_putI.m (k:Nat) (s0:HSt) (i1:Int) (i2:Int) (L3:List Int):Option (Int×HSt):=bind3 (ref11_words.m k s0 i1 i2) fun L9 x10 s11=>if (x10 == 0 && decide (L9.length≤L3.length) && decide (L9.length<k) && decide (L9.length<1000)) then some (0,qPutI i1 L3 L9.length s11) else ref11_put.l5 i1 L3 L9 k s11 0 x10
theorem wrI_head {p:Int} {L:List Int} {s:HSt} (k:InvH s) (hL:AllW L):∀ i:Nat,InvH { s with a:=wrI p L i s.a }∧∀ j:Int,aErr p j (wrI p L i s.a)=aErr p j s.a
  | 0=>⟨k,fun _=>rfl⟩
  | i+1=>by
    obtain ⟨h1,h2⟩:=wrI_head k hL i
    have hw:wdB (L.getD i 0)=true:=hL.at (i:Int)
    refine ⟨⟨h1.1.storeA p i (wdB_spec hw),k.2⟩,fun j=>?_⟩
    rw [← h2 j]
    exact err_of_head (head_store h1.1.a p i (L.getD i 0) p) j
theorem put_l5 {p:Int} {L L9:List Int} {s:HSt} (k:InvH s) (hL:AllW L) (hw:WordsAt p L9 s) (hn:L9.length≤L.length) (h1000:L9.length<1000):∀ (d i f:Nat),i+d=L9.length→d<f→ref11_put.l5 p L L9 f (qPutI p L i s) (i:Int) 0=some (0,qPutI p L L9.length s)
  | 0,i,f,hi,hf=>by
    obtain ⟨f,rfl⟩:∃ g,f=g+1:=⟨f - 1,by omega⟩
    have hi:i=L9.length:=by omega
    subst hi
    show ref11_put.l5b p L L9 (ref11_put.l5 p L L9 f) _ _ 0=_
    unfold ref11_put.l5b ref11_put.j6
    rw [if_neg (by simp),if_neg (by simp)]
  | d+1,i,f,hi,hf=>by
    obtain ⟨f,rfl⟩:∃ g,f=g+1:=⟨f - 1,by omega⟩
    have ih:=put_l5 k hL hw hn h1000 d (i+1) f (by omega) (by omega)
    obtain ⟨hi1,hi2⟩:=wrI_head k hL (p:=p) i
    obtain ⟨hc,he⟩:=hw i (by omega)
    have hwx:wdB (atI L (i:Int))=true:=hL.at _
    have hnext:IntKind.i64.wrap ((i:Int)+1)=((i+1:Nat):Int):=by
      rw [IntKind.wrap_i64]; omega
    have hst:pStore p i (atI L (i:Int)) (qPutI p L i s)=some (0,qPutI p L (i+1) s):=by
      rw [pStore_idle (s:=qPutI p L i s) hi1.2 hwx]
      unfold pStoreI
      have e0:aErr p i (qPutI p L i s).a=0:=(hi2 i).trans he
      rw [e0,if_pos rfl]
      rfl
    show ref11_put.l5b p L L9 (ref11_put.l5 p L L9 f) _ _ 0=_
    unfold ref11_put.l5b ref11_put.j6
    rw [if_pos (by simp; omega),if_pos (by simp),if_pos (by simp [inR]; omega),if_pos (by simp [inR]; omega)]
    split
    · rw [hst,bind2_some]
      unfold ref11_put.j7
      rw [hnext]; exact ih
    · rename_i heq
      have heq:atI L9 (i:Int)=atI L (i:Int):=by simpa using heq
      have hsame:qPutI p L (i+1) s=qPutI p L i s:=by
        show ({ s with a:=aStoreS p i (L.getD i 0) (wrI p L i s.a) }:HSt)={ s with a:=wrI p L i s.a }
        have:aStoreS p i (L.getD i 0) (wrI p L i s.a)=wrI p L i s.a:=by
          unfold aStoreS
          rw [if_pos ((hi2 i).trans he)]
          have hg:=wrI_get p L s.a i i (Nat.le_refl _)
          rw [hc] at hg
          have e3:L.getD i 0=atI L9 (i:Int):=heq.symm ▸ rfl
          rw [e3]
          simp only [Int.toNat_natCast]
          obtain ⟨hlt,hge⟩:=List.getElem?_eq_some_iff.1 hg
          rw [← hge,List.set_getElem_self]
        rw [this]
      unfold ref11_put.j7
      rw [hnext,← hsame]; exact ih
theorem ref11_put_ok {k:Nat} {s:HSt} {p kd:Int} {L:List Int} (ki:InvH s) (hL:AllW L):OkP (fun r=>InvH r.2) (ref11_put.m k s p kd L) (ref11_putI.m k s p kd L):=by
  unfold ref11_put.m ref11_putI.m
  refine .b3 (words_ok ki) fun L9 x10 s11 ⟨h1,h2,h3⟩=>?_
  have loop:∀ f (s:HSt) i x,InvH s→∀ r,ref11_put.l5 p L L9 f s i x=some r→InvH r.2:=by
    intro f
    induction f with
    | zero=>intro s i x _ r h; cases h
    | succ f ih =>
      intro s i x hs r h
      change ref11_put.l5b p L L9 (ref11_put.l5 p L L9 f) s i x=some r at h
      unfold ref11_put.l5b at h
      have j6:∀ b,ref11_put.j6 p L L9 s i x (ref11_put.l5 p L L9 f) b=some r→InvH r.2:=by
        intro b h
        unfold ref11_put.j6 at h
        split at h
        · split at h
          · split at h
            · split at h
              · cases e:pStore p i (atI L i) s with
                | none=>rw [e] at h; cases h
                | some y =>
                  obtain ⟨y1,y2⟩:=y
                  rw [e,bind2_some] at h
                  exact ih _ _ _ ((pStore_ok hs (hL.at i)).2 _ e) r h
              · exact ih _ _ _ hs r h
            · cases h
          · cases h
        · injection h with h; subst h; exact hs
      split at h
      · exact j6 _ h
      · exact j6 _ h
  split
  · rename_i hc
    simp only [Bool.and_eq_true,beq_iff_eq,decide_eq_true_eq] at hc
    obtain ⟨⟨⟨rfl,ha⟩,hb⟩,hd⟩:=hc
    have h3':WordsAt p L9 s11:=h3 rfl
    have e:=put_l5 h2 hL h3' ha hd L9.length 0 k (by omega) hb
    have e2:ref11_put.l5 p L L9 k s11 0 0=some (0,qPutI p L L9.length s11):=e
    rw [e2]
    exact .yes (wrI_head h2 hL _).1
  · exact ⟨rfl,fun r h=>loop k s11 0 x10 h2 r h⟩
def ref11_PutChanI.m (k:Nat) (s0:HSt) (i1:Int) (i2:Ch):Option (Int×HSt):=bind1 (ref11_ptr.m k i2.buf) fun x26=>bind1 (ref11_ptr.m k i2.th) fun x33=>bind1 (ref11_ptr.m k i2.tt) fun x40=>bind1 (ref11_ptr.m k i2.sh) fun x47=>bind1 (ref11_ptr.m k i2.st) fun x54=>bind2 (ref11_putI.m k s0 i1 1 [wrap64 (i2.cap * 2),wrap64 (i2.closed * 2),wrap64 (i2.count * 2),wrap64 (i2.start * 2),x26,x33,x40,x47,x54]) fun x65 s66=>some (x65,s66)
theorem ref11_PutChan.m_ok {k:Nat} {s0:HSt} {i1:Int} {i2:Ch} (hs0:InvH s0):OkP (fun r=>InvH r.2) (ref11_PutChan.m k s0 i1 i2) (ref11_PutChanI.m k s0 i1 i2):=by
  unfold ref11_PutChan.m ref11_PutChanI.m
  refine .b1 (ptr_ok) fun x26 hx26=>?_
  refine .b1 (ptr_ok) fun x33 hx33=>?_
  refine .b1 (ptr_ok) fun x40 hx40=>?_
  refine .b1 (ptr_ok) fun x47 hx47=>?_
  refine .b1 (ptr_ok) fun x54 hx54=>?_
  refine .b2 (ref11_put_ok hs0 (AllW.cons (wdB_w64 _) (AllW.cons (wdB_w64 _) (AllW.cons (wdB_w64 _) (AllW.cons (wdB_w64 _) (AllW.cons hx26 (AllW.cons hx33 (AllW.cons hx40 (AllW.cons hx47 (AllW.cons hx54 AllW.nil)))))))))) fun x65 s66 hs66=>?_
  exact .yes hs66
def ref11_PutGorI.l1b (s0:HSt) (i1:Int) (i2:Gr) (k:Nat) (rec34:List Int→Int→Option (Int×HSt)) (L29:List Int) (x31:Int):Option (Int×HSt):=(if (decide (x31<6)) then (if (inR x31 6) then bind1 (pushM L29 (atI [i2.a,i2.b,i2.c,i2.d,i2.e,i2.f] x31)) fun L58=>rec34 L58 (IntKind.i64.wrap (x31+1)) else none) else bind1 (ref11_ptr.m k i2.sudogs) fun x76=>bind1 (pushM L29 x76) fun L85=>bind2 (ref11_putI.m k s0 i1 4 L85) fun x95 s96=>some (x95,s96))
theorem ref11_PutGor.l1b_ok {s0:HSt} {i1:Int} {i2:Gr} {k:Nat} {rec34 rec34':List Int→Int→Option (Int×HSt)} {L29:List Int} {x31:Int} (hs0:InvH s0) (hi2:wdG i2=true) (hrec34:∀ y0 y1,AllW y0→OkP (fun r=>InvH r.2) (rec34 y0 y1) (rec34' y0 y1)) (hL29:AllW L29):OkP (fun r=>InvH r.2) (ref11_PutGor.l1b s0 i1 i2 k rec34 L29 x31) (ref11_PutGorI.l1b s0 i1 i2 k rec34' L29 x31):=by
  unfold ref11_PutGor.l1b ref11_PutGorI.l1b
  refine .when (fun _=>?_) fun _=>?_
  · skip
    refine .when (fun _=>?_) fun _=>?_
    · skip
      refine .b1 (push_ok hL29 (((AllW.cons (wdG_all hi2).1 (AllW.cons (wdG_all hi2).2.1 (AllW.cons (wdG_all hi2).2.2.1 (AllW.cons (wdG_all hi2).2.2.2.1 (AllW.cons (wdG_all hi2).2.2.2.2.1 (AllW.cons (wdG_all hi2).2.2.2.2.2 AllW.nil))))))).at _)) fun L58 hL58=>?_
      exact hrec34 _ _ hL58
    · skip
      exact .no
  · skip
    refine .b1 (ptr_ok) fun x76 hx76=>?_
    refine .b1 (push_ok hL29 hx76) fun L85 hL85=>?_
    refine .b2 (ref11_put_ok hs0 hL85) fun x95 s96 hs96=>?_
    exact .yes hs96
def ref11_PutGorI.l1 (s0:HSt) (i1:Int) (i2:Gr) (k:Nat):Nat→List Int→Int→Option (Int×HSt)
  | 0=>fun _ _=>none
  | kI+1=>ref11_PutGorI.l1b s0 i1 i2 k (ref11_PutGorI.l1 s0 i1 i2 k kI)
theorem ref11_PutGor.l1_ok {s0:HSt} {i1:Int} {i2:Gr} {k:Nat} (hs0:InvH s0) (hi2:wdG i2=true):∀ (f:Nat) (y0:List Int) (y1:Int),AllW y0→OkP (fun r=>InvH r.2) (ref11_PutGor.l1 s0 i1 i2 k f y0 y1) (ref11_PutGorI.l1 s0 i1 i2 k f y0 y1)
  | 0,_,_,_=>.no
  | f+1,_,_,k0=>ref11_PutGor.l1b_ok hs0 hi2 (ref11_PutGor.l1_ok hs0 hi2 f) k0
def ref11_PutGorI.m (k:Nat) (s0:HSt) (i1:Int) (i2:Gr):Option (Int×HSt):=ref11_PutGorI.l1 s0 i1 i2 k k [wrap64 (i2.id * 2),wrap64 (i2.status * 2),wrap64 (i2.pc * 2)] 0
theorem ref11_PutGor.m_ok {k:Nat} {s0:HSt} {i1:Int} {i2:Gr} (hs0:InvH s0) (hi2:wdG i2=true):OkP (fun r=>InvH r.2) (ref11_PutGor.m k s0 i1 i2) (ref11_PutGorI.m k s0 i1 i2):=by
  unfold ref11_PutGor.m ref11_PutGorI.m
  exact ref11_PutGor.l1_ok hs0 hi2 _ _ _ (AllW.cons (wdB_w64 _) (AllW.cons (wdB_w64 _) (AllW.cons (wdB_w64 _) AllW.nil)))
theorem ring_of.j1_ok {s0:HSt} {i1:Ch} {y16:Bool} (hs0:InvH s0):OkP (fun r=>InvH r.2) (ring_of.j1 s0 i1 y16) (ring_of.j1 s0 i1 y16):=by
  unfold ring_of.j1
  refine .when (fun _=>?_) fun _=>?_
  · skip
    exact .yes hs0
  · skip
    exact .yes hs0
theorem ring_of.m_ok {k:Nat} {s0:HSt} {i1:Ch} (hs0:InvH s0):OkP (fun r=>InvH r.2) (ring_of.m k s0 i1) (ring_of.m k s0 i1):=by
  unfold ring_of.m
  refine .when (fun _=>?_) fun _=>?_
  · skip
    exact ring_of.j1_ok hs0
  · skip
    refine .when (fun _=>?_) fun _=>?_
    · skip
      exact ring_of.j1_ok hs0
    · skip
      exact ring_of.j1_ok hs0
def ring_PutI.m (k:Nat) (s0:HSt) (i1:Int) (i2:Int):Option (Int×HSt):=bind2 (pChan i1 s0) fun q5 x6=>(if (x6 != 0) then some (x6,s0) else bind2 (ring_of.m k s0 (⟨q5.cap,q5.closed,q5.count,q5.start,q5.buf,q5.th,q5.tt,q5.sh,q5.st⟩:Ch)) fun o39 s40=>optE o39 (some (9,s40)) fun q65=>(if (decide (q65.count ≥ q65.cap)) then some (9,s40) else (if (q65.cap == 0) then none else bind2 (pStoreI q65.buf (Int.tmod (IntKind.i64.wrap (q65.start+q65.count)) q65.cap) i2 s40) fun x102 s103=>bind2 (pPutChan i1 (⟨q5.cap,q5.closed,IntKind.i64.wrap (q65.count+1),q5.start,q5.buf,q5.th,q5.tt,q5.sh,q5.st⟩:Ch) s103) fun x129 s130=>some (x129,s130))))
theorem ring_Put.m_ok {k:Nat} {s0:HSt} {i1:Int} {i2:Int} (hs0:InvH s0) (hi2:wdB i2=true):OkP (fun r=>InvH r.2) (ring_Put.m k s0 i1 i2) (ring_PutI.m k s0 i1 i2):=by
  unfold ring_Put.m ring_PutI.m
  refine .b2 (OkP.any) fun q5 x6 _=>?_
  refine .when (fun _=>?_) fun _=>?_
  · skip
    exact .yes hs0
  · skip
    refine .b2 (ring_of.m_ok hs0) fun o39 s40 hs40=>?_
    refine .opt (fun _=>?_) fun q65 hq65o=>?_
    · skip
      exact .yes hs40
    · skip
      refine .when (fun _=>?_) fun _=>?_
      · skip
        exact .yes hs40
      · skip
        refine .when (fun _=>?_) fun _=>?_
        · skip
          exact .no
        · skip
          refine .b2 (pStore_ok hs40 hi2) fun x102 s103 hs103=>?_
          refine .b2 (pPutChan_ok hs103) fun x129 s130 hs130=>?_
          exact .yes hs130
theorem ring_Take.m_ok {k:Nat} {s0:HSt} {i1:Int} (hs0:InvH s0):OkP (fun r=>InvH r.2.2) (ring_Take.m k s0 i1) (ring_Take.m k s0 i1):=by
  unfold ring_Take.m
  refine .b2 (OkP.any) fun q5 x6 _=>?_
  refine .when (fun _=>?_) fun _=>?_
  · skip
    exact .yes hs0
  · skip
    refine .b2 (ring_of.m_ok hs0) fun o40 s41 hs41=>?_
    refine .opt (fun _=>?_) fun q67 hq67o=>?_
    · skip
      exact .yes hs41
    · skip
      refine .when (fun _=>?_) fun _=>?_
      · skip
        exact .yes hs41
      · skip
        refine .when (fun _=>?_) fun _=>?_
        · skip
          exact .no
        · skip
          refine .b1 (OkP.any) fun x109 _=>?_
          refine .b2 (pLoad_ok hs41) fun x121 x122 hx121=>?_
          refine .b2 (pStore_ok hs41 (show wdB (0)=true by decide)) fun x137 s138 hs138=>?_
          refine .b2 (pPutChan_ok hs138) fun x168 s169 hs169=>?_
          exact .yes hs169
def law12_allocI.j1 (x18:Int) (s20:HSt) (s38:HSt) (y47:Bool):Option (Int×HSt×HSt):=(if (y47) then some (-1,s20,s38) else some (x18,s20,s38))
theorem law12_alloc.j1_ok {x18:Int} {s20:HSt} {s38:HSt} {y47:Bool} (hs20:InvH s20) (hs38:InvH s38):OkP (fun r=>InvH r.2.1∧InvH r.2.2) (law12_alloc.j1 x18 s20 s38 y47) (law12_allocI.j1 x18 s20 s38 y47):=by
  unfold law12_alloc.j1 law12_allocI.j1
  refine .when (fun _=>?_) fun _=>?_
  · skip
    exact .yes ⟨hs20,hs38⟩
  · skip
    exact .yes ⟨hs20,hs38⟩
def law12_allocI.m (k:Nat) (s0:HSt) (u0:HSt) (Lc0:List Int) (Lg0:List Int) (i1:Int) (i2:Int):Option (Int×HSt×HSt):=bind3 (pAllocI i1 i2 s0) fun x18 x19 s20=>bind3 (pAllocI i1 i2 u0) fun x36 x37 s38=>(if (x18 != x36) then law12_allocI.j1 x18 s20 s38 true else (if (x19 != 0) then law12_allocI.j1 x18 s20 s38 true else law12_allocI.j1 x18 s20 s38 (x37 != 0)))
theorem law12_alloc.m_ok {k:Nat} {s0:HSt} {u0:HSt} {Lc0:List Int} {Lg0:List Int} {i1:Int} {i2:Int} (hs0:InvH s0) (hu0:InvH u0):OkP (fun r=>InvH r.2.1∧InvH r.2.2) (law12_alloc.m k s0 u0 Lc0 Lg0 i1 i2) (law12_allocI.m k s0 u0 Lc0 Lg0 i1 i2):=by
  unfold law12_alloc.m law12_allocI.m
  refine .b3 (pAlloc_ok hs0) fun x18 x19 s20 hs20=>?_
  refine .b3 (pAlloc_ok hu0) fun x36 x37 s38 hs38=>?_
  refine .when (fun _=>?_) fun _=>?_
  · skip
    exact law12_alloc.j1_ok hs20 hs38
  · skip
    refine .when (fun _=>?_) fun _=>?_
    · skip
      exact law12_alloc.j1_ok hs20 hs38
    · skip
      exact law12_alloc.j1_ok hs20 hs38
def law12_madeI.j7 (L0:List Int) (k:Nat) (L56:List Int) (x60:Int) (rec63:List Int→HSt→HSt→Int→Option (HSt×HSt×List Int×List Int)) (x104:Int) (s121:HSt) (s122:HSt) (x123:Int):Option (HSt×HSt×List Int×List Int):=bind2 (pPutChan x104 (⟨IntKind.i64.wrap (Int.tmod (IntKind.u64.wrap (atI L0 x60)) 4),0,0,0,x123,-1,-1,-1,-1⟩:Ch) s121) fun x136 s137=>bind2 (ref11_PutChanI.m k s122 x104 (⟨IntKind.i64.wrap (Int.tmod (IntKind.u64.wrap (atI L0 x60)) 4),0,0,0,x123,-1,-1,-1,-1⟩:Ch)) fun x145 s146=>(if (x136 != x145) then none else bind1 (pushM L56 x104) fun L170=>rec63 L170 s137 s146 (IntKind.i64.wrap (x60+1)))
theorem law12_made.j7_ok {L0:List Int} {k:Nat} {L56:List Int} {x60:Int} {rec63 rec63':List Int→HSt→HSt→Int→Option (HSt×HSt×List Int×List Int)} {x104:Int} {s121:HSt} {s122:HSt} {x123:Int} (hrec63:∀ y0 y1 y2 y3,InvH y1→InvH y2→OkP (fun r=>InvH r.1∧InvH r.2.1) (rec63 y0 y1 y2 y3) (rec63' y0 y1 y2 y3)) (hs121:InvH s121) (hs122:InvH s122):OkP (fun r=>InvH r.1∧InvH r.2.1) (law12_made.j7 L0 k L56 x60 rec63 x104 s121 s122 x123) (law12_madeI.j7 L0 k L56 x60 rec63' x104 s121 s122 x123):=by
  unfold law12_made.j7 law12_madeI.j7
  refine .b2 (pPutChan_ok hs121) fun x136 s137 hs137=>?_
  refine .b2 (ref11_PutChan.m_ok hs122) fun x145 s146 hs146=>?_
  refine .when (fun _=>?_) fun _=>?_
  · skip
    exact .no
  · skip
    refine .b1 (OkP.any) fun L170 _=>?_
    exact hrec63 _ _ _ _ hs137 hs146
def law12_madeI.l8b (i1:Int) (k:Nat) (L56:List Int) (rec226:List Int→HSt→HSt→Int→Option (HSt×HSt×List Int×List Int)) (L219:List Int) (s221:HSt) (s222:HSt) (x223:Int):Option (HSt×HSt×List Int×List Int):=(if (decide (x223<(IntKind.i64.wrap (1+(IntKind.i64.wrap (Int.tmod (IntKind.u64.wrap i1) 6)))))) then bind3 (law12_allocI.m k s221 s222 L56 L219 4 10) fun x243 s244 s245=>bind2 (pPutGorI x243 (⟨x223,0,0,0,0,0,0,0,0,-1⟩:Gr) s244) fun x267 s268=>bind2 (ref11_PutGorI.m k s245 x243 (⟨x223,0,0,0,0,0,0,0,0,-1⟩:Gr)) fun x276 s277=>(if (x267 != x276) then none else bind1 (pushM L219 x243) fun L301=>rec226 L301 s268 s277 (IntKind.i64.wrap (x223+1))) else some ((s221,s222,L56,L219)))
theorem law12_made.l8b_ok {i1:Int} {k:Nat} {L56:List Int} {rec226 rec226':List Int→HSt→HSt→Int→Option (HSt×HSt×List Int×List Int)} {L219:List Int} {s221:HSt} {s222:HSt} {x223:Int} (hrec226:∀ y0 y1 y2 y3,InvH y1→InvH y2→OkP (fun r=>InvH r.1∧InvH r.2.1) (rec226 y0 y1 y2 y3) (rec226' y0 y1 y2 y3)) (hs221:InvH s221) (hs222:InvH s222):OkP (fun r=>InvH r.1∧InvH r.2.1) (law12_made.l8b i1 k L56 rec226 L219 s221 s222 x223) (law12_madeI.l8b i1 k L56 rec226' L219 s221 s222 x223):=by
  unfold law12_made.l8b law12_madeI.l8b
  refine .when (fun _=>?_) fun _=>?_
  · skip
    refine .b3 (law12_alloc.m_ok hs221 hs222) fun x243 s244 s245 ⟨hs244,hs245⟩=>?_
    refine .b2 (pPutGor_ok hs244 (wdG_mk (show wdB (0)=true by decide) (show wdB (0)=true by decide) (show wdB (0)=true by decide) (show wdB (0)=true by decide) (show wdB (0)=true by decide) (show wdB (0)=true by decide))) fun x267 s268 hs268=>?_
    refine .b2 (ref11_PutGor.m_ok hs245 (wdG_mk (show wdB (0)=true by decide) (show wdB (0)=true by decide) (show wdB (0)=true by decide) (show wdB (0)=true by decide) (show wdB (0)=true by decide) (show wdB (0)=true by decide))) fun x276 s277 hs277=>?_
    refine .when (fun _=>?_) fun _=>?_
    · skip
      exact .no
    · skip
      refine .b1 (OkP.any) fun L301 _=>?_
      exact hrec226 _ _ _ _ hs268 hs277
  · skip
    exact .yes ⟨hs221,hs222⟩
def law12_madeI.l8 (i1:Int) (k:Nat) (L56:List Int):Nat→List Int→HSt→HSt→Int→Option (HSt×HSt×List Int×List Int)
  | 0=>fun _ _ _ _=>none
  | kI+1=>law12_madeI.l8b i1 k L56 (law12_madeI.l8 i1 k L56 kI)
theorem law12_made.l8_ok {i1:Int} {k:Nat} {L56:List Int}:∀ (f:Nat) (y0:List Int) (y1:HSt) (y2:HSt) (y3:Int),InvH y1→InvH y2→OkP (fun r=>InvH r.1∧InvH r.2.1) (law12_made.l8 i1 k L56 f y0 y1 y2 y3) (law12_madeI.l8 i1 k L56 f y0 y1 y2 y3)
  | 0,_,_,_,_,_,_=>.no
  | f+1,_,_,_,_,k0,k1=>law12_made.l8b_ok (law12_made.l8_ok f) k0 k1
def law12_madeI.j6 (L0:List Int) (i1:Int) (k:Nat) (L56:List Int) (s58:HSt) (s59:HSt) (x60:Int) (rec63:List Int→HSt→HSt→Int→Option (HSt×HSt×List Int×List Int)) (y72:Bool):Option (HSt×HSt×List Int×List Int):=(if (y72) then (if (inR x60 L0.length) then bind3 (law12_allocI.m k s58 s59 L56 [] 1 9) fun x104 s105 s106=>(if (decide ((IntKind.i64.wrap (Int.tmod (IntKind.u64.wrap (atI L0 x60)) 4)) > 0)) then bind3 (law12_allocI.m k s105 s106 L56 [] 2 (IntKind.i64.wrap (Int.tmod (IntKind.u64.wrap (atI L0 x60)) 4))) fun x196 s197 s198=>law12_madeI.j7 L0 k L56 x60 rec63 x104 s197 s198 x196 else law12_madeI.j7 L0 k L56 x60 rec63 x104 s105 s106 (-1)) else none) else law12_madeI.l8 i1 k L56 k [] s58 s59 0)
theorem law12_made.j6_ok {L0:List Int} {i1:Int} {k:Nat} {L56:List Int} {s58:HSt} {s59:HSt} {x60:Int} {rec63 rec63':List Int→HSt→HSt→Int→Option (HSt×HSt×List Int×List Int)} {y72:Bool} (hs58:InvH s58) (hs59:InvH s59) (hrec63:∀ y0 y1 y2 y3,InvH y1→InvH y2→OkP (fun r=>InvH r.1∧InvH r.2.1) (rec63 y0 y1 y2 y3) (rec63' y0 y1 y2 y3)):OkP (fun r=>InvH r.1∧InvH r.2.1) (law12_made.j6 L0 i1 k L56 s58 s59 x60 rec63 y72) (law12_madeI.j6 L0 i1 k L56 s58 s59 x60 rec63' y72):=by
  unfold law12_made.j6 law12_madeI.j6
  refine .when (fun _=>?_) fun _=>?_
  · skip
    refine .when (fun _=>?_) fun _=>?_
    · skip
      refine .b3 (law12_alloc.m_ok hs58 hs59) fun x104 s105 s106 ⟨hs105,hs106⟩=>?_
      refine .when (fun _=>?_) fun _=>?_
      · skip
        refine .b3 (law12_alloc.m_ok hs105 hs106) fun x196 s197 s198 ⟨hs197,hs198⟩=>?_
        exact law12_made.j7_ok hrec63 hs197 hs198
      · skip
        exact law12_made.j7_ok hrec63 hs105 hs106
    · skip
      exact .no
  · skip
    exact law12_made.l8_ok _ _ _ _ _ hs58 hs59
def law12_madeI.l5b (L0:List Int) (i1:Int) (k:Nat) (rec63:List Int→HSt→HSt→Int→Option (HSt×HSt×List Int×List Int)) (L56:List Int) (s58:HSt) (s59:HSt) (x60:Int):Option (HSt×HSt×List Int×List Int):=(if (decide (x60<(lenZ L0))) then law12_madeI.j6 L0 i1 k L56 s58 s59 x60 rec63 (decide (x60<4)) else law12_madeI.j6 L0 i1 k L56 s58 s59 x60 rec63 false)
theorem law12_made.l5b_ok {L0:List Int} {i1:Int} {k:Nat} {rec63 rec63':List Int→HSt→HSt→Int→Option (HSt×HSt×List Int×List Int)} {L56:List Int} {s58:HSt} {s59:HSt} {x60:Int} (hrec63:∀ y0 y1 y2 y3,InvH y1→InvH y2→OkP (fun r=>InvH r.1∧InvH r.2.1) (rec63 y0 y1 y2 y3) (rec63' y0 y1 y2 y3)) (hs58:InvH s58) (hs59:InvH s59):OkP (fun r=>InvH r.1∧InvH r.2.1) (law12_made.l5b L0 i1 k rec63 L56 s58 s59 x60) (law12_madeI.l5b L0 i1 k rec63' L56 s58 s59 x60):=by
  unfold law12_made.l5b law12_madeI.l5b
  simp only [lenZ_eq]
  refine .when (fun _=>?_) fun _=>?_
  · skip
    exact law12_made.j6_ok hs58 hs59 hrec63
  · skip
    exact law12_made.j6_ok hs58 hs59 hrec63
def law12_madeI.l5 (L0:List Int) (i1:Int) (k:Nat):Nat→List Int→HSt→HSt→Int→Option (HSt×HSt×List Int×List Int)
  | 0=>fun _ _ _ _=>none
  | kI+1=>law12_madeI.l5b L0 i1 k (law12_madeI.l5 L0 i1 k kI)
theorem law12_made.l5_ok {L0:List Int} {i1:Int} {k:Nat}:∀ (f:Nat) (y0:List Int) (y1:HSt) (y2:HSt) (y3:Int),InvH y1→InvH y2→OkP (fun r=>InvH r.1∧InvH r.2.1) (law12_made.l5 L0 i1 k f y0 y1 y2 y3) (law12_madeI.l5 L0 i1 k f y0 y1 y2 y3)
  | 0,_,_,_,_,_,_=>.no
  | f+1,_,_,_,_,k0,k1=>law12_made.l5b_ok (law12_made.l5_ok f) k0 k1
def law12_madeI.m (k:Nat) (L0:List Int) (i1:Int):Option (HSt×HSt×List Int×List Int):=bind1 (pNew 60) fun s7=>bind1 (prNew 60) fun s19=>law12_madeI.l5 L0 i1 k k [] s7 s19 0
theorem law12_made.m_ok {k:Nat} {L0:List Int} {i1:Int}:OkP (fun r=>InvH r.1∧InvH r.2.1) (law12_made.m k L0 i1) (law12_madeI.m k L0 i1):=by
  unfold law12_made.m law12_madeI.m
  refine .b1 (pNew_ok _) fun s7 hs7=>?_
  refine .b1 (prNew_ok _) fun s19 hs19=>?_
  exact law12_made.l5_ok _ _ _ _ _ hs7 hs19
end Go.Proofs.YtaojmbkmicjecaaGreat
