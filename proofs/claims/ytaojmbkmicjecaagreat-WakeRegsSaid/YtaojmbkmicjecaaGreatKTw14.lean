/- Tw14 -/
import Derived.Test.YtaojmbkmicjecaaGreatKPrimV
import Derived.Test.YtaojmbkmicjecaaGreatKG14w
import Derived.KernelRfl
namespace Go.Proofs.YtaojmbkmicjecaaGreat
open Go.RowKit
set_option linter.unusedVariables false
set_option maxRecDepth 10000
def lenZ:List Int→Int
  | []=>0
  | _::t=>lenZ t+1
theorem lenZ_eq (L:List Int):lenZ L=(L.length:Int):=by
  induction L with
  | nil=>rfl
  | cons x t ih=>show lenZ t+1=_; rw [ih]; simp
def natZ:Nat→Int
  | 0=>0
  | n+1=>natZ n+1
theorem natZ_eq:∀ n,natZ n=(n:Int)
  | 0=>rfl
  | n+1=>by show natZ n+1=_; rw [natZ_eq n]; simp
def intZ:Int→Int
  | .ofNat n=>natZ n
  | .negSucc n=>.negSucc n
theorem intZ_eq:∀ x,intZ x=x
  | .ofNat n=>natZ_eq n
  | .negSucc _=>rfl
def pAllocI (kind n:Int) (s:HSt):Option (Int×Int×HSt):=some (intZ (aAllocP kind n s.a),aAllocE kind n s.a,hAlloc kind n s)
def InvH (s:HSt):Prop:=HOk s∧s.ph=0
def OkP {R:Type} (P:R→Prop) (m m':Option R):Prop:=m'=m∧∀ r,m=some r→P r
section
variable {α β γ δ R:Type} {P:R→Prop}
theorem OkP.no:OkP P none none:=⟨rfl,fun _ h=>by cases h⟩
theorem OkP.yes {r:R} (h:P r):OkP P (some r) (some r):=⟨rfl,fun _ e=>by injection e with e; exact e ▸ h⟩
theorem OkP.any {m:Option R}:OkP (fun _=>True) m m:=⟨rfl,fun _ _=>trivial⟩
theorem OkP.when {c:Prop} [Decidable c] {a a' b b':Option R} (h1:c→OkP P a a') (h2:¬ c→OkP P b b'):OkP P (if c then a else b) (if c then a' else b'):=by
  split
  · exact h1 ‹_›
  · exact h2 ‹_›
theorem OkP.b1 {Q:α→Prop} {m m':Option α} {f f':α→Option R} (hm:OkP Q m m') (hf:∀ x,Q x→OkP P (f x) (f' x)):OkP P (bind1 m f) (bind1 m' f'):=by
  obtain ⟨rfl,hq⟩:=hm
  cases m' with
  | none=>exact .no
  | some x=>exact hf x (hq x rfl)
theorem OkP.b2 {Q:α×β→Prop} {m m':Option (α×β)} {f f':α→β→Option R} (hm:OkP Q m m') (hf:∀ x y,Q (x,y)→OkP P (f x y) (f' x y)):OkP P (bind2 m f) (bind2 m' f'):=by
  obtain ⟨rfl,hq⟩:=hm
  cases m' with
  | none=>exact .no
  | some x=>exact hf x.1 x.2 (hq x rfl)
theorem OkP.b3 {Q:α×β×γ→Prop} {m m':Option (α×β×γ)} {f f':α→β→γ→Option R} (hm:OkP Q m m') (hf:∀ x y z,Q (x,y,z)→OkP P (f x y z) (f' x y z)):OkP P (bind3 m f) (bind3 m' f'):=by
  obtain ⟨rfl,hq⟩:=hm
  cases m' with
  | none=>exact .no
  | some x=>exact hf x.1 x.2.1 x.2.2 (hq x rfl)
theorem OkP.opt {x:Option α} {A A':Option R} {B B':α→Option R} (ha:x=none→OkP P A A') (hb:∀ q,x=some q→OkP P (B q) (B' q)):OkP P (optE x A B) (optE x A' B'):=by
  cases x with
  | none=>exact ha rfl
  | some q=>exact hb q rfl
theorem OkP.sum {x:α ⊕ β} {A A':α→Option R} {B B':β→Option R} (ha:∀ q,x=.inl q→OkP P (A q) (A' q)) (hb:∀ q,x=.inr q→OkP P (B q) (B' q)):OkP P (sumE x A B) (sumE x A' B'):=by
  cases x with
  | inl q=>exact ha q rfl
  | inr q=>exact hb q rfl
end
def pPutSudogI (p:Int) (c:Su) (s:HSt):Option (Int×HSt):=some (putE s.a p 3 7,if Is s.a p 3 7 then { s with a:=wrI p (suW c) 7 s.a } else s)
def AllW (L:List Int):Prop:=∀ x ∈ L,wdB x=true
def wdO (o:Option Su):Prop:=∀ q,o=some q→wdB q.value=true
def wdOG (o:Option (Su ⊕ Gr)):Prop:=∀ q,o=some q→(∀ y,q=.inl y→wdB y.value=true)∧∀ y,q=.inr y→wdG y=true
theorem wdB_of {x:Int} (h:Wd x):wdB x=true:=by unfold Wd at h; unfold wdB; simp; omega
theorem wdB_w64 (x:Int):wdB (wrap64 x)=true:=wdB_of (by unfold Wd wrap64; omega)
theorem wdB_wI (x:Int):wdB (IntKind.i64.wrap x)=true:=by
  refine wdB_of ?_
  rw [IntKind.wrap_i64]; unfold Wd; omega
theorem AllW.at {L:List Int} (h:AllW L) (i:Int):wdB (atI L i)=true:=by
  show wdB (L.getD i.toNat 0)=true
  rw [List.getD_eq_getElem?_getD]
  by_cases hi:i.toNat<L.length
  · rw [List.getElem?_eq_getElem hi]; exact h _ (List.getElem_mem _)
  · rw [List.getElem?_eq_none (by omega)]; rfl
theorem AllW.nil:AllW []:=fun _ h=>by cases h
theorem AllW.cons {x:Int} {L:List Int} (h:wdB x=true) (hL:AllW L):AllW (x::L):=fun y hy=>by
  rcases List.mem_cons.1 hy with rfl | hy
  · exact h
  · exact hL y hy
theorem AllW.push {L L':List Int} {x:Int} (h:AllW L) (hx:wdB x=true) (e:pushM L x=some L'):AllW L':=by
  unfold pushM at e
  split at e
  · injection e with e; subst e
    intro y hy
    rcases List.mem_append.1 hy with hy | hy
    · exact h y hy
    · simp at hy; exact hy ▸ hx
  · cases e
theorem push_ok {L:List Int} {x:Int} (h:AllW L) (hx:wdB x=true):OkP (fun L=>AllW L) (pushM L x) (pushM L x):=⟨rfl,fun _ e=>h.push hx e⟩
theorem InvH.words {s:HSt} (k:InvH s) (p:Int):AllW (aWords s.a p):=fun x hx=>wdB_of (aWords_wd k.1.wd p x hx)
theorem InvH.cells {s:HSt} (k:InvH s) {p kind:Int} {n:Nat} (h:Is s.a p kind n) (hn:0<n):cellsB p n s.a=true:=by
  obtain ⟨h1,h2⟩:=h
  unfold aLen at h2
  cases e:aHead s.a.c p with
  | none=>rw [e] at h2; simp at h2; omega
  | some x =>
    rw [e] at h2
    simp only at h2
    have he:aErr p ((n - 1:Nat):Int) s.a=0:=by
      unfold aErr; rw [e]; simp only; rw [if_pos (by omega)]
    obtain ⟨q,j,kd,m,rfl,hj,hq,hm⟩:=err_zero he
    unfold cellsB
    rw [List.all_eq_true]
    intro i hi
    simp only [List.mem_range] at hi
    simp only [Int.toNat_natCast]
    have hj':j=n - 1:=by omega
    obtain ⟨w,hw⟩:=err_word k.1.a hq (j:=i) (by omega)
    rw [hw]
theorem InvH.put {s:HSt} (k:InvH s) (p kind:Int) {n:Nat} (hn:0<n) (l:List Int):hPut p kind n l s=if Is s.a p kind n then { s with a:=wrI p l n s.a } else s:=by
  by_cases h:Is s.a p kind n
  · exact hPut_idle k.2 (k.cells h hn)
  · unfold hPut; rw [if_neg h,if_neg h]
theorem InvH.putInv {s:HSt} (k:InvH s) (p kind:Int) {n:Nat} (hn:0<n) {l:List Int} (hl:∀ x ∈ l,Wd x):InvH (hPut p kind n l s):=by
  refine ⟨(k.1.put p kind n hl).1,?_⟩
  rw [k.put p kind hn]
  split
  · exact k.2
  · exact k.2
theorem pSudog_ok {p:Int} {s:HSt} (k:InvH s):OkP (fun r=>wdB r.1.value=true) (pSudog p s) (pSudog p s):=by
  refine .yes ?_
  split
  · exact (k.words p).at 2
  · rfl
theorem pSeen4_ok {p:Int} {s:HSt} (k:InvH s):OkP (fun r=>AllW r.1) (pSeen4 p s) (pSeen4 p s):=by
  refine .yes ?_
  split
  · exact k.words p
  · exact .nil
theorem aWord_w {s:HSt} (k:InvH s) (p i:Int):wdB (aWord p i s.a)=true:=by
  unfold aWord
  split
  · exact wdB_of (wordOf_wd k.1.wd _)
  · rfl
theorem pPutChan_ok {p:Int} {c:Ch} {s:HSt} (k:InvH s):OkP (fun r=>InvH r.2) (pPutChan p c s) (pPutChan p c s):=.yes (k.putInv p 1 (by omega) (chW_wd c))
theorem pPutSudog_ok {p:Int} {c:Su} {s:HSt} (k:InvH s) (hc:wdB c.value=true):OkP (fun r=>InvH r.2) (pPutSudog p c s) (pPutSudogI p c s):=by
  have e:pPutSudog p c s=some (putE s.a p 3 7,hPut p 3 7 (suW c) s):=if_pos hc
  refine ⟨?_,fun r hr=>?_⟩
  · rw [e,k.put p 3 (by omega)]; rfl
  · rw [e] at hr; injection hr with hr; subst hr
    exact k.putInv p 3 (by omega) (suW_wd c (wdB_spec hc))
theorem pPutGor_ok {p:Int} {c:Gr} {s:HSt} (k:InvH s) (hc:wdG c=true):OkP (fun r=>InvH r.2) (pPutGor p c s) (pPutGorI p c s):=by
  have e:pPutGor p c s=some (putE s.a p 4 10,hPut p 4 10 (goW c) s):=if_pos hc
  have h:=hc
  simp only [wdG,Bool.and_eq_true] at h
  refine ⟨?_,fun r hr=>?_⟩
  · rw [e,k.put p 4 (by omega)]; rfl
  · rw [e] at hr; injection hr with hr; subst hr
    exact k.putInv p 4 (by omega) (goW_wd c ⟨wdB_spec h.1.1.1.1.1,wdB_spec h.1.1.1.1.2,wdB_spec h.1.1.1.2,wdB_spec h.1.1.2,wdB_spec h.1.2,wdB_spec h.2⟩)
theorem hStore_ph {p i w:Int} {s:HSt}:(hStore p i w s).ph=s.ph:=by
  unfold hStore
  split
  · rw [shadeW_ph]
  · rfl
theorem pStore_ok {p i x:Int} {s:HSt} (k:InvH s) (hx:wdB x=true):OkP (fun r=>InvH r.2) (pStore p i x s) (pStoreI p i x s):=by
  refine ⟨(pStore_idle k.2 hx).symm,fun r hr=>?_⟩
  have e:pStore p i x s=some (aErr p i s.a,hStore p i x s):=if_pos hx
  rw [e] at hr; injection hr with hr; subst hr
  exact ⟨k.1.store p i (wdB_spec hx),hStore_ph.trans k.2⟩
theorem pShade_ok {p:Int} {s:HSt} (k:InvH s):OkP (fun r=>InvH r) (pShade p s) (pShade p s):=by
  refine ⟨rfl,fun r hr=>?_⟩
  unfold pShade at hr
  split at hr
  · injection hr with hr; subst hr; exact ⟨k.1.shade p,(shade_ph p s).trans k.2⟩
  · cases hr
theorem hAlloc_ph {kind n:Int} {s:HSt}:(hAlloc kind n s).ph=s.ph:=by
  unfold hAlloc
  split
  · rfl
  · split <;> rfl
theorem pAlloc_ok {kind n:Int} {s:HSt} (k:InvH s):OkP (fun r=>InvH r.2.2) (pAlloc kind n s) (pAllocI kind n s):=by
  unfold pAllocI
  rw [intZ_eq]
  exact .yes ⟨k.1.alloc kind n,hAlloc_ph.trans k.2⟩
theorem pNew_ok (n:Int):OkP (fun r=>InvH r) (pNew n) (pNew n):=by
  refine ⟨rfl,fun r hr=>?_⟩
  unfold pNew at hr
  split at hr
  · injection hr with hr; subst hr; exact ⟨HOk.new _ (by omega) (by omega),rfl⟩
  · cases hr
theorem prNew_ok (n:Int):OkP (fun r=>InvH r) (prNew n) (prNew n):=pNew_ok n
theorem wdG_mk {i st pc a b c d e f sd:Int} (ha:wdB a=true) (hb:wdB b=true) (hc:wdB c=true) (hd:wdB d=true) (he:wdB e=true) (hf:wdB f=true):wdG ⟨i,st,pc,a,b,c,d,e,f,sd⟩=true:=by
  simp only [wdG,ha,hb,hc,hd,he,hf,Bool.and_self]
theorem wdG_all {q:Gr} (h:wdG q=true):wdB q.a=true∧wdB q.b=true∧wdB q.c=true∧wdB q.d=true∧wdB q.e=true∧wdB q.f=true:=by
  simp only [wdG,Bool.and_eq_true] at h
  exact ⟨h.1.1.1.1.1,h.1.1.1.1.2,h.1.1.1.2,h.1.1.2,h.1.2,h.2⟩
theorem ptr_ok {k:Nat} {x:Int}:OkP (fun r=>wdB r=true) (ref11_ptr.m k x) (ref11_ptr.m k x):=by
  refine ⟨rfl,fun r h=>?_⟩
  unfold ref11_ptr.m at h
  split at h
  · injection h with h; subst h; exact wdB_w64 _
  · injection h with h; subst h; exact wdB_w64 _
def WordsAt (p:Int) (L:List Int) (s:HSt):Prop:=∀ j:Nat,j<L.length→s.a.c[p.toNat+1+j]?=some (.word (atI L j))∧aErr p j s.a=0
theorem words_l2 {s:HSt} (k:InvH s) {p kd:Int} (hk:aKind s.a.c p=kd) (hl:aLen s.a.c p=rNeed kd 0):∀ (f:Nat) (L:List Int) (x:Int),AllW L→x=(L.length:Int)→WordsAt p L s→L.length<100→∀ r,ref11_words.l2 s p kd f L x=some r→AllW r.1∧r.2.2=s∧WordsAt p r.1 s
  | 0,_,_,_,_,_,_,r,h=>by cases h
  | f+1,L,x,hL,hx,hw,h100,r,h=>by
    have ih:=words_l2 k hk hl f
    change ref11_words.l2b s p kd (ref11_words.l2 s p kd f) L x=some r at h
    unfold ref11_words.l2b at h
    split at h
    · rename_i hlt
      simp only [decide_eq_true_eq] at hlt
      have hn:rNeed kd 0≤10:=by unfold rNeed; repeat' split <;> omega
      have he:aErr p x s.a=0:=by
        unfold aLen at hl
        cases e:aHead s.a.c p with
        | none=>rw [e] at hl; simp only at hl; omega
        | some y=>rw [e] at hl; simp only at hl; unfold aErr; rw [e]; simp only; rw [if_pos (by omega)]
      have hc:s.a.c[p.toNat+1+L.length]?=some (.word (aWord p x s.a)):=by
        obtain ⟨q,j,kd',m,rfl,hj,hq,hm⟩:=err_zero he
        obtain ⟨w,hw2⟩:=err_word k.1.a hq (j:=j) (by omega)
        have:j=L.length:=by omega
        subst this
        unfold aWord
        rw [if_pos he,hj]
        simp only [Int.toNat_natCast] at hw2 ⊢
        rw [hw2]; rfl
      have hp:pLoad p x s=some (aWord p x s.a,aErr p x s.a):=rfl
      rw [hp,bind2_some] at h
      have hpush:pushM L (aWord p x s.a)=some (L ++ [aWord p x s.a]):=by unfold pushM; rw [if_pos (by omega)]
      rw [hpush,bind1_some] at h
      refine ih (L ++ [aWord p x s.a]) _ (hL.push (aWord_w k p x) hpush) ?_ ?_ (by simp; omega) r h
      · have:IntKind.i64.wrap (x+1)=x+1:=by
          rw [IntKind.wrap_i64]; omega
        rw [this]; simp; omega
      · intro j hj
        simp only [List.length_append,List.length_cons,List.length_nil] at hj
        by_cases hj2:j<L.length
        · obtain ⟨h1,h2⟩:=hw j hj2
          refine ⟨?_,h2⟩
          rw [h1]
          show some (ACell.word (L.getD ((j:Int)).toNat 0))=some (ACell.word ((L ++ [aWord p x s.a]).getD ((j:Int)).toNat 0))
          simp only [Int.toNat_natCast,List.getD_eq_getElem?_getD]
          rw [List.getElem?_append_left hj2]
        · have:j=L.length:=by omega
          subst this
          rw [← hx]
          refine ⟨?_,he⟩
          rw [hc]
          show _=some (ACell.word ((L ++ [aWord p x s.a]).getD x.toNat 0))
          rw [hx]
          simp [List.getD_eq_getElem?_getD]
    · injection h with h; subst h; exact ⟨hL,rfl,hw⟩
theorem words_ok {k:Nat} {s:HSt} {p kd:Int} (ki:InvH s):OkP (fun r=>AllW r.1∧InvH r.2.2∧(r.2.1=0→WordsAt p r.1 r.2.2)) (ref11_words.m k s p kd) (ref11_words.m k s p kd):=by
  refine ⟨rfl,fun r h=>?_⟩
  have no:∀ {b:Bool},b=true→ref11_words.j1 s p kd k b=some r→AllW r.1∧InvH r.2.2∧(r.2.1=0→WordsAt p r.1 r.2.2):=by
    intro b hb h
    subst hb
    unfold ref11_words.j1 at h
    rw [if_pos rfl] at h
    injection h with h; subst h
    exact ⟨.nil,ki,fun h=>by simp at h⟩
  unfold ref11_words.m at h
  split at h
  · exact no rfl h
  · rename_i h1
    by_cases hb:(aLen s.a.c p != rNeed kd 0)=true
    · exact no hb h
    · have hl:aLen s.a.c p=rNeed kd 0:=by simpa using hb
      have hk:aKind s.a.c p=kd:=by simpa using h1
      unfold ref11_words.j1 at h
      rw [if_neg hb] at h
      obtain ⟨a,b,c⟩:=words_l2 ki hk hl k [] 0 .nil rfl (fun j hj=>by simp at hj) (by simp) r h
      exact ⟨a,b ▸ ki,fun _=>b.symm ▸ c⟩
def qPutI (p:Int) (L:List Int) (n:Nat) (s:HSt):HSt:={ s with a:=wrI p L n s.a }
def ref11_putI.m (k:Nat) (s0:HSt) (i1:Int) (i2:Int) (L3:List Int):Option (Int×HSt):=bind3 (ref11_words.m k s0 i1 i2) fun L9 x10 s11=>if (x10 == 0 && decide (L9.length≤L3.length) && decide (L9.length<k) && decide (L9.length<1000)) then some (0,qPutI i1 L3 L9.length s11) else ref11_put.l5 i1 L3 L9 k s11 0 x10
theorem wrI_head {p:Int} {L:List Int} {s:HSt} (k:InvH s) (hL:AllW L):∀ i:Nat,InvH { s with a:=wrI p L i s.a }∧∀ j:Int,aErr p j (wrI p L i s.a)=aErr p j s.a
  | 0=>⟨k,fun _=>rfl⟩
  | i+1=>by
    obtain ⟨h1,h2⟩:=wrI_head k hL i
    have hw:wdB (L.getD i 0)=true:=hL.at (i:Int)
    refine ⟨⟨h1.1.storeA p i (wdB_spec hw),k.2⟩,fun j=>?_⟩
    rw [← h2 j]
    exact err_of_head (head_store h1.1.a p i (L.getD i 0) p) j
theorem put_l5 {p:Int} {L L9:List Int} {s:HSt} (k:InvH s) (hL:AllW L) (hw:WordsAt p L9 s) (hn:L9.length≤L.length) (h1000:L9.length<1000):∀ (d i f:Nat),i+d=L9.length→d<f→ref11_put.l5 p L L9 f (qPutI p L i s) (i:Int) 0=some (0,qPutI p L L9.length s)
  | 0,i,f,hi,hf=>by
    obtain ⟨f,rfl⟩:∃ g,f=g+1:=⟨f - 1,by omega⟩
    have hi:i=L9.length:=by omega
    subst hi
    show ref11_put.l5b p L L9 (ref11_put.l5 p L L9 f) _ _ 0=_
    unfold ref11_put.l5b ref11_put.j6
    rw [if_neg (by simp),if_neg (by simp)]
  | d+1,i,f,hi,hf=>by
    obtain ⟨f,rfl⟩:∃ g,f=g+1:=⟨f - 1,by omega⟩
    have ih:=put_l5 k hL hw hn h1000 d (i+1) f (by omega) (by omega)
    obtain ⟨hi1,hi2⟩:=wrI_head k hL (p:=p) i
    obtain ⟨hc,he⟩:=hw i (by omega)
    have hwx:wdB (atI L (i:Int))=true:=hL.at _
    have hnext:IntKind.i64.wrap ((i:Int)+1)=((i+1:Nat):Int):=by
      rw [IntKind.wrap_i64]; omega
    have hst:pStore p i (atI L (i:Int)) (qPutI p L i s)=some (0,qPutI p L (i+1) s):=by
      rw [pStore_idle (s:=qPutI p L i s) hi1.2 hwx]
      unfold pStoreI
      have e0:aErr p i (qPutI p L i s).a=0:=(hi2 i).trans he
      rw [e0,if_pos rfl]
      rfl
    show ref11_put.l5b p L L9 (ref11_put.l5 p L L9 f) _ _ 0=_
    unfold ref11_put.l5b ref11_put.j6
    rw [if_pos (by simp; omega),if_pos (by simp),if_pos (by simp [inR]; omega),if_pos (by simp [inR]; omega)]
    split
    · rw [hst,bind2_some]
      unfold ref11_put.j7
      rw [hnext]; exact ih
    · rename_i heq
      have heq:atI L9 (i:Int)=atI L (i:Int):=by simpa using heq
      have hsame:qPutI p L (i+1) s=qPutI p L i s:=by
        show ({ s with a:=aStoreS p i (L.getD i 0) (wrI p L i s.a) }:HSt)={ s with a:=wrI p L i s.a }
        have:aStoreS p i (L.getD i 0) (wrI p L i s.a)=wrI p L i s.a:=by
          unfold aStoreS
          rw [if_pos ((hi2 i).trans he)]
          have hg:=wrI_get p L s.a i i (Nat.le_refl _)
          rw [hc] at hg
          have e3:L.getD i 0=atI L9 (i:Int):=heq.symm ▸ rfl
          rw [e3]
          simp only [Int.toNat_natCast]
          obtain ⟨hlt,hge⟩:=List.getElem?_eq_some_iff.1 hg
          rw [← hge,List.set_getElem_self]
        rw [this]
      unfold ref11_put.j7
      rw [hnext,← hsame]; exact ih
theorem ref11_put_ok {k:Nat} {s:HSt} {p kd:Int} {L:List Int} (ki:InvH s) (hL:AllW L):OkP (fun r=>InvH r.2) (ref11_put.m k s p kd L) (ref11_putI.m k s p kd L):=by
  unfold ref11_put.m ref11_putI.m
  refine .b3 (words_ok ki) fun L9 x10 s11 ⟨h1,h2,h3⟩=>?_
  have loop:∀ f (s:HSt) i x,InvH s→∀ r,ref11_put.l5 p L L9 f s i x=some r→InvH r.2:=by
    intro f
    induction f with
    | zero=>intro s i x _ r h; cases h
    | succ f ih =>
      intro s i x hs r h
      change ref11_put.l5b p L L9 (ref11_put.l5 p L L9 f) s i x=some r at h
      unfold ref11_put.l5b at h
      have j6:∀ b,ref11_put.j6 p L L9 s i x (ref11_put.l5 p L L9 f) b=some r→InvH r.2:=by
        intro b h
        unfold ref11_put.j6 at h
        split at h
        · split at h
          · split at h
            · split at h
              · cases e:pStore p i (atI L i) s with
                | none=>rw [e] at h; cases h
                | some y =>
                  obtain ⟨y1,y2⟩:=y
                  rw [e,bind2_some] at h
                  exact ih _ _ _ ((pStore_ok hs (hL.at i)).2 _ e) r h
              · exact ih _ _ _ hs r h
            · cases h
          · cases h
        · injection h with h; subst h; exact hs
      split at h
      · exact j6 _ h
      · exact j6 _ h
  split
  · rename_i hc
    simp only [Bool.and_eq_true,beq_iff_eq,decide_eq_true_eq] at hc
    obtain ⟨⟨⟨rfl,ha⟩,hb⟩,hd⟩:=hc
    have h3':WordsAt p L9 s11:=h3 rfl
    have e:=put_l5 h2 hL h3' ha hd L9.length 0 k (by omega) hb
    have e2:ref11_put.l5 p L L9 k s11 0 0=some (0,qPutI p L L9.length s11):=e
    rw [e2]
    exact .yes (wrI_head h2 hL _).1
  · exact ⟨rfl,fun r h=>loop k s11 0 x10 h2 r h⟩
theorem ref11_Sudog.m_ok {k:Nat} {s0:HSt} {i1:Int} (hs0:InvH s0):OkP (fun r=>wdB r.1.value=true∧InvH r.2.2) (ref11_Sudog.m k s0 i1) (ref11_Sudog.m k s0 i1):=by
  unfold ref11_Sudog.m
  refine .b3 (words_ok hs0) fun L10 x11 s12 ⟨hL10,hs12,_⟩=>?_
  refine .when (fun _=>?_) fun _=>?_
  · skip
    exact .yes ⟨(show wdB (0)=true by decide),hs12⟩
  · skip
    refine .when (fun _=>?_) fun _=>?_
    · skip
      refine .when (fun _=>?_) fun _=>?_
      · skip
        refine .when (fun _=>?_) fun _=>?_
        · skip
          refine .when (fun _=>?_) fun _=>?_
          · skip
            refine .when (fun _=>?_) fun _=>?_
            · skip
              refine .when (fun _=>?_) fun _=>?_
              · skip
                refine .when (fun _=>?_) fun _=>?_
                · skip
                  refine .b1 (OkP.any) fun x67 _=>?_
                  refine .b1 (OkP.any) fun x74 _=>?_
                  refine .b1 (OkP.any) fun x81 _=>?_
                  refine .b1 (OkP.any) fun x88 _=>?_
                  refine .b1 (OkP.any) fun x95 _=>?_
                  refine .b1 (OkP.any) fun x102 _=>?_
                  exact .yes ⟨(hL10.at _),hs12⟩
                · skip
                  exact .no
              · skip
                exact .no
            · skip
              exact .no
          · skip
            exact .no
        · skip
          exact .no
      · skip
        exact .no
    · skip
      exact .no
theorem ref11_Chan.m_ok {k:Nat} {s0:HSt} {i1:Int} (hs0:InvH s0):OkP (fun r=>InvH r.2.2) (ref11_Chan.m k s0 i1) (ref11_Chan.m k s0 i1):=by
  unfold ref11_Chan.m
  refine .b3 (words_ok hs0) fun L10 x11 s12 ⟨hL10,hs12,_⟩=>?_
  refine .when (fun _=>?_) fun _=>?_
  · skip
    exact .yes hs12
  · skip
    refine .when (fun _=>?_) fun _=>?_
    · skip
      refine .when (fun _=>?_) fun _=>?_
      · skip
        refine .when (fun _=>?_) fun _=>?_
        · skip
          refine .when (fun _=>?_) fun _=>?_
          · skip
            refine .when (fun _=>?_) fun _=>?_
            · skip
              refine .when (fun _=>?_) fun _=>?_
              · skip
                refine .when (fun _=>?_) fun _=>?_
                · skip
                  refine .when (fun _=>?_) fun _=>?_
                  · skip
                    refine .when (fun _=>?_) fun _=>?_
                    · skip
                      refine .b1 (OkP.any) fun x71 _=>?_
                      refine .b1 (OkP.any) fun x78 _=>?_
                      refine .b1 (OkP.any) fun x85 _=>?_
                      refine .b1 (OkP.any) fun x92 _=>?_
                      refine .b1 (OkP.any) fun x99 _=>?_
                      refine .b1 (OkP.any) fun x106 _=>?_
                      refine .b1 (OkP.any) fun x113 _=>?_
                      refine .b1 (OkP.any) fun x120 _=>?_
                      refine .b1 (OkP.any) fun x127 _=>?_
                      exact .yes hs12
                    · skip
                      exact .no
                  · skip
                    exact .no
                · skip
                  exact .no
              · skip
                exact .no
            · skip
              exact .no
          · skip
            exact .no
        · skip
          exact .no
      · skip
        exact .no
    · skip
      exact .no
theorem ref11_Gor.l2b_ok {L10:List Int} {x11:Int} {s12:HSt} {x49:Int} {x50:Int} {x51:Int} {x52:Int} {rec71 rec71':Int→Int→Int→Int→Int→Int→Int→Option (Gr×Int×HSt)} {x62:Int} {x63:Int} {x64:Int} {x65:Int} {x66:Int} {x67:Int} {x68:Int} (hL10:AllW L10) (hs12:InvH s12) (hrec71:∀ y0 y1 y2 y3 y4 y5 y6,wdB y0=true→wdB y1=true→wdB y2=true→wdB y3=true→wdB y4=true→wdB y5=true→OkP (fun r=>wdG r.1=true∧InvH r.2.2) (rec71 y0 y1 y2 y3 y4 y5 y6) (rec71' y0 y1 y2 y3 y4 y5 y6)) (hx62:wdB x62=true) (hx63:wdB x63=true) (hx64:wdB x64=true) (hx65:wdB x65=true) (hx66:wdB x66=true) (hx67:wdB x67=true):OkP (fun r=>wdG r.1=true∧InvH r.2.2) (ref11_Gor.l2b L10 x11 s12 x49 x50 x51 x52 rec71 x62 x63 x64 x65 x66 x67 x68) (ref11_Gor.l2b L10 x11 s12 x49 x50 x51 x52 rec71' x62 x63 x64 x65 x66 x67 x68):=by
  unfold ref11_Gor.l2b
  refine .when (fun _=>?_) fun _=>?_
  · skip
    refine .when (fun _=>?_) fun _=>?_
    · skip
      refine .when (fun _=>?_) fun _=>?_
      · skip
        exact hrec71 _ _ _ _ _ _ _ (hL10.at _) hx63 hx64 hx65 hx66 hx67
      · skip
        refine .when (fun _=>?_) fun _=>?_
        · skip
          exact hrec71 _ _ _ _ _ _ _ hx62 (hL10.at _) hx64 hx65 hx66 hx67
        · skip
          refine .when (fun _=>?_) fun _=>?_
          · skip
            exact hrec71 _ _ _ _ _ _ _ hx62 hx63 (hL10.at _) hx65 hx66 hx67
          · skip
            refine .when (fun _=>?_) fun _=>?_
            · skip
              exact hrec71 _ _ _ _ _ _ _ hx62 hx63 hx64 (hL10.at _) hx66 hx67
            · skip
              refine .when (fun _=>?_) fun _=>?_
              · skip
                exact hrec71 _ _ _ _ _ _ _ hx62 hx63 hx64 hx65 (hL10.at _) hx67
              · skip
                refine .when (fun _=>?_) fun _=>?_
                · skip
                  exact hrec71 _ _ _ _ _ _ _ hx62 hx63 hx64 hx65 hx66 (hL10.at _)
                · skip
                  exact .no
    · skip
      exact .no
  · skip
    exact .yes ⟨(wdG_mk hx62 hx63 hx64 hx65 hx66 hx67),hs12⟩
theorem ref11_Gor.l2_ok {L10:List Int} {x11:Int} {s12:HSt} {x49:Int} {x50:Int} {x51:Int} {x52:Int} (hL10:AllW L10) (hs12:InvH s12):∀ (f:Nat) (y0:Int) (y1:Int) (y2:Int) (y3:Int) (y4:Int) (y5:Int) (y6:Int),wdB y0=true→wdB y1=true→wdB y2=true→wdB y3=true→wdB y4=true→wdB y5=true→OkP (fun r=>wdG r.1=true∧InvH r.2.2) (ref11_Gor.l2 L10 x11 s12 x49 x50 x51 x52 f y0 y1 y2 y3 y4 y5 y6) (ref11_Gor.l2 L10 x11 s12 x49 x50 x51 x52 f y0 y1 y2 y3 y4 y5 y6)
  | 0,_,_,_,_,_,_,_,_,_,_,_,_,_=>.no
  | f+1,_,_,_,_,_,_,_,k0,k1,k2,k3,k4,k5=>ref11_Gor.l2b_ok hL10 hs12 (ref11_Gor.l2_ok hL10 hs12 f) k0 k1 k2 k3 k4 k5
theorem ref11_Gor.j1_ok {k:Nat} {L10:List Int} {x11:Int} {s12:HSt} {x49:Int} {x50:Int} {x51:Int} {x52:Int} (hL10:AllW L10) (hs12:InvH s12):OkP (fun r=>wdG r.1=true∧InvH r.2.2) (ref11_Gor.j1 k L10 x11 s12 x49 x50 x51 x52) (ref11_Gor.j1 k L10 x11 s12 x49 x50 x51 x52):=by
  unfold ref11_Gor.j1
  exact ref11_Gor.l2_ok hL10 hs12 _ _ _ _ _ _ _ _ (show wdB (0)=true by decide) (show wdB (0)=true by decide) (show wdB (0)=true by decide) (show wdB (0)=true by decide) (show wdB (0)=true by decide) (show wdB (0)=true by decide)
theorem ref11_Gor.m_ok {k:Nat} {s0:HSt} {i1:Int} (hs0:InvH s0):OkP (fun r=>wdG r.1=true∧InvH r.2.2) (ref11_Gor.m k s0 i1) (ref11_Gor.m k s0 i1):=by
  unfold ref11_Gor.m
  refine .b3 (words_ok hs0) fun L10 x11 s12 ⟨hL10,hs12,_⟩=>?_
  refine .when (fun _=>?_) fun _=>?_
  · skip
    exact .yes ⟨(wdG_mk (show wdB (0)=true by decide) (show wdB (0)=true by decide) (show wdB (0)=true by decide) (show wdB (0)=true by decide) (show wdB (0)=true by decide) (show wdB (0)=true by decide)),hs12⟩
  · skip
    refine .when (fun _=>?_) fun _=>?_
    · skip
      refine .when (fun _=>?_) fun _=>?_
      · skip
        refine .when (fun _=>?_) fun _=>?_
        · skip
          refine .when (fun _=>?_) fun _=>?_
          · skip
            refine .b1 (OkP.any) fun x195 _=>?_
            refine .b1 (OkP.any) fun x202 _=>?_
            refine .b1 (OkP.any) fun x209 _=>?_
            refine .b1 (OkP.any) fun x216 _=>?_
            exact ref11_Gor.j1_ok hL10 hs12
          · skip
            exact .no
        · skip
          exact .no
      · skip
        exact .no
    · skip
      exact .no
def ref11_PutChanI.m (k:Nat) (s0:HSt) (i1:Int) (i2:Ch):Option (Int×HSt):=bind1 (ref11_ptr.m k i2.buf) fun x26=>bind1 (ref11_ptr.m k i2.th) fun x33=>bind1 (ref11_ptr.m k i2.tt) fun x40=>bind1 (ref11_ptr.m k i2.sh) fun x47=>bind1 (ref11_ptr.m k i2.st) fun x54=>bind2 (ref11_putI.m k s0 i1 1 [wrap64 (i2.cap * 2),wrap64 (i2.closed * 2),wrap64 (i2.count * 2),wrap64 (i2.start * 2),x26,x33,x40,x47,x54]) fun x65 s66=>some (x65,s66)
theorem ref11_PutChan.m_ok {k:Nat} {s0:HSt} {i1:Int} {i2:Ch} (hs0:InvH s0):OkP (fun r=>InvH r.2) (ref11_PutChan.m k s0 i1 i2) (ref11_PutChanI.m k s0 i1 i2):=by
  unfold ref11_PutChan.m ref11_PutChanI.m
  refine .b1 (ptr_ok) fun x26 hx26=>?_
  refine .b1 (ptr_ok) fun x33 hx33=>?_
  refine .b1 (ptr_ok) fun x40 hx40=>?_
  refine .b1 (ptr_ok) fun x47 hx47=>?_
  refine .b1 (ptr_ok) fun x54 hx54=>?_
  refine .b2 (ref11_put_ok hs0 (AllW.cons (wdB_w64 _) (AllW.cons (wdB_w64 _) (AllW.cons (wdB_w64 _) (AllW.cons (wdB_w64 _) (AllW.cons hx26 (AllW.cons hx33 (AllW.cons hx40 (AllW.cons hx47 (AllW.cons hx54 AllW.nil)))))))))) fun x65 s66 hs66=>?_
  exact .yes hs66
def ref11_PutSudogI.m (k:Nat) (s0:HSt) (i1:Int) (i2:Su):Option (Int×HSt):=bind1 (ref11_ptr.m k i2.gor) fun x10=>bind1 (ref11_ptr.m k i2.chan) fun x17=>bind1 (ref11_ptr.m k i2.next) fun x24=>bind1 (ref11_ptr.m k i2.more) fun x39=>bind2 (ref11_putI.m k s0 i1 3 [x10,x17,i2.value,x24,wrap64 (i2.to * 2),wrap64 (i2.reg * 2),x39]) fun x50 s51=>some (x50,s51)
theorem ref11_PutSudog.m_ok {k:Nat} {s0:HSt} {i1:Int} {i2:Su} (hs0:InvH s0) (hi2:wdB i2.value=true):OkP (fun r=>InvH r.2) (ref11_PutSudog.m k s0 i1 i2) (ref11_PutSudogI.m k s0 i1 i2):=by
  unfold ref11_PutSudog.m ref11_PutSudogI.m
  refine .b1 (ptr_ok) fun x10 hx10=>?_
  refine .b1 (ptr_ok) fun x17 hx17=>?_
  refine .b1 (ptr_ok) fun x24 hx24=>?_
  refine .b1 (ptr_ok) fun x39 hx39=>?_
  refine .b2 (ref11_put_ok hs0 (AllW.cons hx10 (AllW.cons hx17 (AllW.cons hi2 (AllW.cons hx24 (AllW.cons (wdB_w64 _) (AllW.cons (wdB_w64 _) (AllW.cons hx39 AllW.nil)))))))) fun x50 s51 hs51=>?_
  exact .yes hs51
def ref11_PutGorI.l1b (s0:HSt) (i1:Int) (i2:Gr) (k:Nat) (rec34:List Int→Int→Option (Int×HSt)) (L29:List Int) (x31:Int):Option (Int×HSt):=(if (decide (x31<6)) then (if (inR x31 6) then bind1 (pushM L29 (atI [i2.a,i2.b,i2.c,i2.d,i2.e,i2.f] x31)) fun L58=>rec34 L58 (IntKind.i64.wrap (x31+1)) else none) else bind1 (ref11_ptr.m k i2.sudogs) fun x76=>bind1 (pushM L29 x76) fun L85=>bind2 (ref11_putI.m k s0 i1 4 L85) fun x95 s96=>some (x95,s96))
theorem ref11_PutGor.l1b_ok {s0:HSt} {i1:Int} {i2:Gr} {k:Nat} {rec34 rec34':List Int→Int→Option (Int×HSt)} {L29:List Int} {x31:Int} (hs0:InvH s0) (hi2:wdG i2=true) (hrec34:∀ y0 y1,AllW y0→OkP (fun r=>InvH r.2) (rec34 y0 y1) (rec34' y0 y1)) (hL29:AllW L29):OkP (fun r=>InvH r.2) (ref11_PutGor.l1b s0 i1 i2 k rec34 L29 x31) (ref11_PutGorI.l1b s0 i1 i2 k rec34' L29 x31):=by
  unfold ref11_PutGor.l1b ref11_PutGorI.l1b
  refine .when (fun _=>?_) fun _=>?_
  · skip
    refine .when (fun _=>?_) fun _=>?_
    · skip
      refine .b1 (push_ok hL29 (((AllW.cons (wdG_all hi2).1 (AllW.cons (wdG_all hi2).2.1 (AllW.cons (wdG_all hi2).2.2.1 (AllW.cons (wdG_all hi2).2.2.2.1 (AllW.cons (wdG_all hi2).2.2.2.2.1 (AllW.cons (wdG_all hi2).2.2.2.2.2 AllW.nil))))))).at _)) fun L58 hL58=>?_
      exact hrec34 _ _ hL58
    · skip
      exact .no
  · skip
    refine .b1 (ptr_ok) fun x76 hx76=>?_
    refine .b1 (push_ok hL29 hx76) fun L85 hL85=>?_
    refine .b2 (ref11_put_ok hs0 hL85) fun x95 s96 hs96=>?_
    exact .yes hs96
def ref11_PutGorI.l1 (s0:HSt) (i1:Int) (i2:Gr) (k:Nat):Nat→List Int→Int→Option (Int×HSt)
  | 0=>fun _ _=>none
  | kI+1=>ref11_PutGorI.l1b s0 i1 i2 k (ref11_PutGorI.l1 s0 i1 i2 k kI)
theorem ref11_PutGor.l1_ok {s0:HSt} {i1:Int} {i2:Gr} {k:Nat} (hs0:InvH s0) (hi2:wdG i2=true):∀ (f:Nat) (y0:List Int) (y1:Int),AllW y0→OkP (fun r=>InvH r.2) (ref11_PutGor.l1 s0 i1 i2 k f y0 y1) (ref11_PutGorI.l1 s0 i1 i2 k f y0 y1)
  | 0,_,_,_=>.no
  | f+1,_,_,k0=>ref11_PutGor.l1b_ok hs0 hi2 (ref11_PutGor.l1_ok hs0 hi2 f) k0
def ref11_PutGorI.m (k:Nat) (s0:HSt) (i1:Int) (i2:Gr):Option (Int×HSt):=ref11_PutGorI.l1 s0 i1 i2 k k [wrap64 (i2.id * 2),wrap64 (i2.status * 2),wrap64 (i2.pc * 2)] 0
theorem ref11_PutGor.m_ok {k:Nat} {s0:HSt} {i1:Int} {i2:Gr} (hs0:InvH s0) (hi2:wdG i2=true):OkP (fun r=>InvH r.2) (ref11_PutGor.m k s0 i1 i2) (ref11_PutGorI.m k s0 i1 i2):=by
  unfold ref11_PutGor.m ref11_PutGorI.m
  exact ref11_PutGor.l1_ok hs0 hi2 _ _ _ (AllW.cons (wdB_w64 _) (AllW.cons (wdB_w64 _) (AllW.cons (wdB_w64 _) AllW.nil)))
def ref11_nextI.j1 (s24:HSt):Option (HSt):=some (s24)
theorem ref11_next.j1_ok {s24:HSt} (hs24:InvH s24):OkP (fun r=>InvH r) (ref11_next.j1 s24) (ref11_nextI.j1 s24):=by
  unfold ref11_next.j1 ref11_nextI.j1
  exact .yes hs24
def ref11_nextI.m (k:Nat) (s0:HSt) (i1:Int) (i2:Int):Option (HSt):=bind3 (ref11_Sudog.m k s0 i1) fun q3 x4 s5=>(if (x4 == 0) then bind2 (ref11_PutSudogI.m k s5 i1 (⟨q3.gor,q3.chan,q3.value,i2,q3.to,q3.reg,q3.more⟩:Su)) fun x47 s48=>ref11_nextI.j1 s48 else ref11_nextI.j1 s5)
theorem ref11_next.m_ok {k:Nat} {s0:HSt} {i1:Int} {i2:Int} (hs0:InvH s0):OkP (fun r=>InvH r) (ref11_next.m k s0 i1 i2) (ref11_nextI.m k s0 i1 i2):=by
  unfold ref11_next.m ref11_nextI.m
  refine .b3 (ref11_Sudog.m_ok hs0) fun q3 x4 s5 ⟨hq3,hs5⟩=>?_
  refine .when (fun _=>?_) fun _=>?_
  · skip
    refine .b2 (ref11_PutSudog.m_ok hs5 hq3) fun x47 s48 hs48=>?_
    exact ref11_next.j1_ok hs48
  · skip
    exact ref11_next.j1_ok hs5
theorem ref11_AllList.j4_ok {L60:List Int} {x63:Int} {rec66 rec66':List Int→HSt→Int→Option (List Int×HSt)} {q78:Su} {s80:HSt} {y97:Bool} (hrec66:∀ y0 y1 y2,InvH y1→OkP (fun r=>InvH r.2) (rec66 y0 y1 y2) (rec66' y0 y1 y2)) (hq78:wdB q78.value=true) (hs80:InvH s80):OkP (fun r=>InvH r.2) (ref11_AllList.j4 L60 x63 rec66 q78 s80 y97) (ref11_AllList.j4 L60 x63 rec66' q78 s80 y97):=by
  unfold ref11_AllList.j4
  refine .when (fun _=>?_) fun _=>?_
  · skip
    exact .yes hs80
  · skip
    refine .b1 (OkP.any) fun L121 _=>?_
    exact hrec66 _ _ _ hs80
theorem ref11_AllList.l3b_ok {k:Nat} {rec66 rec66':List Int→HSt→Int→Option (List Int×HSt)} {L60:List Int} {s62:HSt} {x63:Int} (hrec66:∀ y0 y1 y2,InvH y1→OkP (fun r=>InvH r.2) (rec66 y0 y1 y2) (rec66' y0 y1 y2)) (hs62:InvH s62):OkP (fun r=>InvH r.2) (ref11_AllList.l3b k rec66 L60 s62 x63) (ref11_AllList.l3b k rec66' L60 s62 x63):=by
  unfold ref11_AllList.l3b
  refine .b3 (ref11_Sudog.m_ok hs62) fun q78 x79 s80 ⟨hq78,hs80⟩=>?_
  refine .when (fun _=>?_) fun _=>?_
  · skip
    exact ref11_AllList.j4_ok hrec66 hq78 hs80
  · skip
    refine .b1 (OkP.any) fun y143 _=>?_
    exact ref11_AllList.j4_ok hrec66 hq78 hs80
theorem ref11_AllList.l3_ok {k:Nat}:∀ (f:Nat) (y0:List Int) (y1:HSt) (y2:Int),InvH y1→OkP (fun r=>InvH r.2) (ref11_AllList.l3 k f y0 y1 y2) (ref11_AllList.l3 k f y0 y1 y2)
  | 0,_,_,_,_=>.no
  | f+1,_,_,_,k0=>ref11_AllList.l3b_ok (ref11_AllList.l3_ok f) k0
theorem ref11_AllList.m_ok {k:Nat} {s0:HSt} {i1:Int} {i2:Bool} (hs0:InvH s0):OkP (fun r=>InvH r.2) (ref11_AllList.m k s0 i1 i2) (ref11_AllList.m k s0 i1 i2):=by
  unfold ref11_AllList.m
  refine .b3 (ref11_Chan.m_ok hs0) fun q8 x9 s10 hs10=>?_
  refine .when (fun _=>?_) fun _=>?_
  · skip
    exact .yes hs10
  · skip
    refine .b2 (OkP.any) fun x49 x50 _=>?_
    exact ref11_AllList.l3_ok _ _ _ _ hs10
def ref11_PushI.j1 (i1:Int) (i2:Bool) (i3:Int) (k:Nat) (q5:Ch) (s94:HSt) (x95:Int):Option (Int×HSt):=bind1 (ref11_nextI.m k s94 i3 (-1)) fun s105=>bind1 (ref11_turned.m k (⟨q5.cap,q5.closed,q5.count,q5.start,q5.buf,q5.th,q5.tt,q5.sh,q5.st⟩:Ch) (i2) x95 i3) fun q119=>bind2 (ref11_PutChanI.m k s105 i1 (⟨q119.cap,q119.closed,q119.count,q119.start,q119.buf,q119.th,q119.tt,q119.sh,q119.st⟩:Ch)) fun x126 s127=>some (x126,s127)
theorem ref11_Push.j1_ok {i1:Int} {i2:Bool} {i3:Int} {k:Nat} {q5:Ch} {s94:HSt} {x95:Int} (hs94:InvH s94):OkP (fun r=>InvH r.2) (ref11_Push.j1 i1 i2 i3 k q5 s94 x95) (ref11_PushI.j1 i1 i2 i3 k q5 s94 x95):=by
  unfold ref11_Push.j1 ref11_PushI.j1
  refine .b1 (ref11_next.m_ok hs94) fun s105 hs105=>?_
  refine .b1 (OkP.any) fun q119 _=>?_
  refine .b2 (ref11_PutChan.m_ok hs105) fun x126 s127 hs127=>?_
  exact .yes hs127
def ref11_PushI.m (k:Nat) (s0:HSt) (i1:Int) (i2:Bool) (i3:Int):Option (Int×HSt):=bind3 (ref11_Chan.m k s0 i1) fun q5 x6 s7=>(if (x6 != 0) then some (x6,s7) else bind3 (ref11_Sudog.m k s7 i3) fun q38 x39 s40=>(if (x39 != 0) then some (x39,s40) else bind2 (ref11_ends.m k (⟨q5.cap,q5.closed,q5.count,q5.start,q5.buf,q5.th,q5.tt,q5.sh,q5.st⟩:Ch) (i2)) fun x64 x65=>bind2 (ref11_AllList.m k s40 i1 (i2)) fun L76 s77=>(if ((lenZ L76) == 0) then ref11_PushI.j1 i1 i2 i3 k q5 s77 i3 else (if (inR (IntKind.i64.wrap ((lenZ L76) - 1)) L76.length) then bind1 (ref11_nextI.m k s77 (atI L76 (IntKind.i64.wrap ((lenZ L76) - 1))) i3) fun s156=>ref11_PushI.j1 i1 i2 i3 k q5 s156 x64 else none))))
theorem ref11_Push.m_ok {k:Nat} {s0:HSt} {i1:Int} {i2:Bool} {i3:Int} (hs0:InvH s0):OkP (fun r=>InvH r.2) (ref11_Push.m k s0 i1 i2 i3) (ref11_PushI.m k s0 i1 i2 i3):=by
  unfold ref11_Push.m ref11_PushI.m
  simp only [lenZ_eq]
  refine .b3 (ref11_Chan.m_ok hs0) fun q5 x6 s7 hs7=>?_
  refine .when (fun _=>?_) fun _=>?_
  · skip
    exact .yes hs7
  · skip
    refine .b3 (ref11_Sudog.m_ok hs7) fun q38 x39 s40 ⟨hq38,hs40⟩=>?_
    refine .when (fun _=>?_) fun _=>?_
    · skip
      exact .yes hs40
    · skip
      refine .b2 (OkP.any) fun x64 x65 _=>?_
      refine .b2 (ref11_AllList.m_ok hs40) fun L76 s77 hs77=>?_
      refine .when (fun _=>?_) fun _=>?_
      · skip
        exact ref11_Push.j1_ok hs77
      · skip
        refine .when (fun _=>?_) fun _=>?_
        · skip
          refine .b1 (ref11_next.m_ok hs77) fun s156 hs156=>?_
          exact ref11_Push.j1_ok hs156
        · skip
          exact .no
def ref11_ParkI.j8 (L2:List Int) (k:Nat) (x103:Int) (rec106:HSt→Int→Option (Int×HSt)) (q126:Su) (s128:HSt) (x154:Int):Option (Int×HSt):=bind2 (ref11_PutSudogI.m k s128 (atI L2 x103) (⟨q126.gor,q126.chan,q126.value,q126.next,q126.to,q126.reg,x154⟩:Su)) fun x167 s168=>rec106 s168 (IntKind.i64.wrap (x103+1))
theorem ref11_Park.j8_ok {L2:List Int} {k:Nat} {x103:Int} {rec106 rec106':HSt→Int→Option (Int×HSt)} {q126:Su} {s128:HSt} {x154:Int} (hrec106:∀ y0 y1,InvH y0→OkP (fun r=>InvH r.2) (rec106 y0 y1) (rec106' y0 y1)) (hq126:wdB q126.value=true) (hs128:InvH s128):OkP (fun r=>InvH r.2) (ref11_Park.j8 L2 k x103 rec106 q126 s128 x154) (ref11_ParkI.j8 L2 k x103 rec106' q126 s128 x154):=by
  unfold ref11_Park.j8 ref11_ParkI.j8
  refine .b2 (ref11_PutSudog.m_ok hs128 hq126) fun x167 s168 hs168=>?_
  exact hrec106 _ _ hs168
def ref11_ParkI.j9 (i1:Int) (k:Nat) (q9:Gr) (s102:HSt) (x202:Int):Option (Int×HSt):=bind2 (ref11_PutGorI.m k s102 i1 (⟨q9.id,1,q9.pc,q9.a,q9.b,q9.c,q9.d,q9.e,q9.f,x202⟩:Gr)) fun x215 s216=>some (x215,s216)
theorem ref11_Park.j9_ok {i1:Int} {k:Nat} {q9:Gr} {s102:HSt} {x202:Int} (hq9:wdG q9=true) (hs102:InvH s102):OkP (fun r=>InvH r.2) (ref11_Park.j9 i1 k q9 s102 x202) (ref11_ParkI.j9 i1 k q9 s102 x202):=by
  unfold ref11_Park.j9 ref11_ParkI.j9
  refine .b2 (ref11_PutGor.m_ok hs102 (wdG_mk (wdG_all hq9).1 (wdG_all hq9).2.1 (wdG_all hq9).2.2.1 (wdG_all hq9).2.2.2.1 (wdG_all hq9).2.2.2.2.1 (wdG_all hq9).2.2.2.2.2)) fun x215 s216 hs216=>?_
  exact .yes hs216
def ref11_ParkI.l7b (i1:Int) (L2:List Int) (k:Nat) (q9:Gr) (rec106:HSt→Int→Option (Int×HSt)) (s102:HSt) (x103:Int):Option (Int×HSt):=(if (decide (x103<(lenZ L2))) then (if (inR x103 L2.length) then bind3 (ref11_Sudog.m k s102 (atI L2 x103)) fun q126 x127 s128=>(if (decide ((IntKind.i64.wrap (x103+1))<(lenZ L2))) then (if (inR (IntKind.i64.wrap (x103+1)) L2.length) then ref11_ParkI.j8 L2 k x103 rec106 q126 s128 (atI L2 (IntKind.i64.wrap (x103+1))) else none) else ref11_ParkI.j8 L2 k x103 rec106 q126 s128 (-1)) else none) else (if (decide ((lenZ L2) > 0)) then (if (inR (0:Int) L2.length) then ref11_ParkI.j9 i1 k q9 s102 (atI L2 (0:Int)) else none) else ref11_ParkI.j9 i1 k q9 s102 (-1)))
theorem ref11_Park.l7b_ok {i1:Int} {L2:List Int} {k:Nat} {q9:Gr} {rec106 rec106':HSt→Int→Option (Int×HSt)} {s102:HSt} {x103:Int} (hq9:wdG q9=true) (hrec106:∀ y0 y1,InvH y0→OkP (fun r=>InvH r.2) (rec106 y0 y1) (rec106' y0 y1)) (hs102:InvH s102):OkP (fun r=>InvH r.2) (ref11_Park.l7b i1 L2 k q9 rec106 s102 x103) (ref11_ParkI.l7b i1 L2 k q9 rec106' s102 x103):=by
  unfold ref11_Park.l7b ref11_ParkI.l7b
  simp only [lenZ_eq]
  refine .when (fun _=>?_) fun _=>?_
  · skip
    refine .when (fun _=>?_) fun _=>?_
    · skip
      refine .b3 (ref11_Sudog.m_ok hs102) fun q126 x127 s128 ⟨hq126,hs128⟩=>?_
      refine .when (fun _=>?_) fun _=>?_
      · skip
        refine .when (fun _=>?_) fun _=>?_
        · skip
          exact ref11_Park.j8_ok hrec106 hq126 hs128
        · skip
          exact .no
      · skip
        exact ref11_Park.j8_ok hrec106 hq126 hs128
    · skip
      exact .no
  · skip
    refine .when (fun _=>?_) fun _=>?_
    · skip
      refine .when (fun _=>?_) fun _=>?_
      · skip
        exact ref11_Park.j9_ok hq9 hs102
      · skip
        exact .no
    · skip
      exact ref11_Park.j9_ok hq9 hs102
def ref11_ParkI.l7 (i1:Int) (L2:List Int) (k:Nat) (q9:Gr):Nat→HSt→Int→Option (Int×HSt)
  | 0=>fun _ _=>none
  | kI+1=>ref11_ParkI.l7b i1 L2 k q9 (ref11_ParkI.l7 i1 L2 k q9 kI)
theorem ref11_Park.l7_ok {i1:Int} {L2:List Int} {k:Nat} {q9:Gr} (hq9:wdG q9=true):∀ (f:Nat) (y0:HSt) (y1:Int),InvH y0→OkP (fun r=>InvH r.2) (ref11_Park.l7 i1 L2 k q9 f y0 y1) (ref11_ParkI.l7 i1 L2 k q9 f y0 y1)
  | 0,_,_,_=>.no
  | f+1,_,_,k0=>ref11_Park.l7b_ok hq9 (ref11_Park.l7_ok hq9 f) k0
def ref11_ParkI.j4 (i1:Int) (L2:List Int) (k:Nat) (q9:Gr) (s30:HSt) (x31:Int) (x32:Int) (rec35:HSt→Int→Int→Option (Int×HSt)) (y40:Bool):Option (Int×HSt):=(if (y40) then (if (inR x31 L2.length) then bind3 (ref11_Sudog.m k s30 (atI L2 x31)) fun q61 x62 s63=>rec35 s63 (IntKind.i64.wrap (x31+1)) x62 else none) else (if (x32 != 0) then some (x32,s30) else ref11_ParkI.l7 i1 L2 k q9 k s30 0))
theorem ref11_Park.j4_ok {i1:Int} {L2:List Int} {k:Nat} {q9:Gr} {s30:HSt} {x31:Int} {x32:Int} {rec35 rec35':HSt→Int→Int→Option (Int×HSt)} {y40:Bool} (hq9:wdG q9=true) (hs30:InvH s30) (hrec35:∀ y0 y1 y2,InvH y0→OkP (fun r=>InvH r.2) (rec35 y0 y1 y2) (rec35' y0 y1 y2)):OkP (fun r=>InvH r.2) (ref11_Park.j4 i1 L2 k q9 s30 x31 x32 rec35 y40) (ref11_ParkI.j4 i1 L2 k q9 s30 x31 x32 rec35' y40):=by
  unfold ref11_Park.j4 ref11_ParkI.j4
  refine .when (fun _=>?_) fun _=>?_
  · skip
    refine .when (fun _=>?_) fun _=>?_
    · skip
      refine .b3 (ref11_Sudog.m_ok hs30) fun q61 x62 s63 ⟨hq61,hs63⟩=>?_
      exact hrec35 _ _ _ hs63
    · skip
      exact .no
  · skip
    refine .when (fun _=>?_) fun _=>?_
    · skip
      exact .yes hs30
    · skip
      exact ref11_Park.l7_ok hq9 _ _ _ hs30
def ref11_ParkI.l3b (i1:Int) (L2:List Int) (k:Nat) (q9:Gr) (rec35:HSt→Int→Int→Option (Int×HSt)) (s30:HSt) (x31:Int) (x32:Int):Option (Int×HSt):=(if (decide (x31<(lenZ L2))) then ref11_ParkI.j4 i1 L2 k q9 s30 x31 x32 rec35 (x32 == 0) else ref11_ParkI.j4 i1 L2 k q9 s30 x31 x32 rec35 false)
theorem ref11_Park.l3b_ok {i1:Int} {L2:List Int} {k:Nat} {q9:Gr} {rec35 rec35':HSt→Int→Int→Option (Int×HSt)} {s30:HSt} {x31:Int} {x32:Int} (hq9:wdG q9=true) (hrec35:∀ y0 y1 y2,InvH y0→OkP (fun r=>InvH r.2) (rec35 y0 y1 y2) (rec35' y0 y1 y2)) (hs30:InvH s30):OkP (fun r=>InvH r.2) (ref11_Park.l3b i1 L2 k q9 rec35 s30 x31 x32) (ref11_ParkI.l3b i1 L2 k q9 rec35' s30 x31 x32):=by
  unfold ref11_Park.l3b ref11_ParkI.l3b
  simp only [lenZ_eq]
  refine .when (fun _=>?_) fun _=>?_
  · skip
    exact ref11_Park.j4_ok hq9 hs30 hrec35
  · skip
    exact ref11_Park.j4_ok hq9 hs30 hrec35
def ref11_ParkI.l3 (i1:Int) (L2:List Int) (k:Nat) (q9:Gr):Nat→HSt→Int→Int→Option (Int×HSt)
  | 0=>fun _ _ _=>none
  | kI+1=>ref11_ParkI.l3b i1 L2 k q9 (ref11_ParkI.l3 i1 L2 k q9 kI)
theorem ref11_Park.l3_ok {i1:Int} {L2:List Int} {k:Nat} {q9:Gr} (hq9:wdG q9=true):∀ (f:Nat) (y0:HSt) (y1:Int) (y2:Int),InvH y0→OkP (fun r=>InvH r.2) (ref11_Park.l3 i1 L2 k q9 f y0 y1 y2) (ref11_ParkI.l3 i1 L2 k q9 f y0 y1 y2)
  | 0,_,_,_,_=>.no
  | f+1,_,_,_,k0=>ref11_Park.l3b_ok hq9 (ref11_Park.l3_ok hq9 f) k0
def ref11_ParkI.m (k:Nat) (s0:HSt) (i1:Int) (L2:List Int):Option (Int×HSt):=bind3 (ref11_Gor.m k s0 i1) fun q9 x10 s11=>ref11_ParkI.l3 i1 L2 k q9 k s11 0 x10
theorem ref11_Park.m_ok {k:Nat} {s0:HSt} {i1:Int} {L2:List Int} (hs0:InvH s0):OkP (fun r=>InvH r.2) (ref11_Park.m k s0 i1 L2) (ref11_ParkI.m k s0 i1 L2):=by
  unfold ref11_Park.m ref11_ParkI.m
  refine .b3 (ref11_Gor.m_ok hs0) fun q9 x10 s11 ⟨hq9,hs11⟩=>?_
  exact ref11_Park.l3_ok hq9 _ _ _ _ hs11
theorem view_Gor.l2b_ok {s0:HSt} {L10:List Int} {x48:Int} {x49:Int} {x50:Int} {rec69 rec69':Int→Int→Int→Int→Int→Int→Int→Option (Gr×Int×HSt)} {x60:Int} {x61:Int} {x62:Int} {x63:Int} {x64:Int} {x65:Int} {x66:Int} (hs0:InvH s0) (hL10:AllW L10) (hrec69:∀ y0 y1 y2 y3 y4 y5 y6,wdB y0=true→wdB y1=true→wdB y2=true→wdB y3=true→wdB y4=true→wdB y5=true→OkP (fun r=>wdG r.1=true∧InvH r.2.2) (rec69 y0 y1 y2 y3 y4 y5 y6) (rec69' y0 y1 y2 y3 y4 y5 y6)) (hx60:wdB x60=true) (hx61:wdB x61=true) (hx62:wdB x62=true) (hx63:wdB x63=true) (hx64:wdB x64=true) (hx65:wdB x65=true):OkP (fun r=>wdG r.1=true∧InvH r.2.2) (view_Gor.l2b s0 L10 x48 x49 x50 rec69 x60 x61 x62 x63 x64 x65 x66) (view_Gor.l2b s0 L10 x48 x49 x50 rec69' x60 x61 x62 x63 x64 x65 x66):=by
  unfold view_Gor.l2b
  refine .when (fun _=>?_) fun _=>?_
  · skip
    refine .when (fun _=>?_) fun _=>?_
    · skip
      refine .when (fun _=>?_) fun _=>?_
      · skip
        exact hrec69 _ _ _ _ _ _ _ (hL10.at _) hx61 hx62 hx63 hx64 hx65
      · skip
        refine .when (fun _=>?_) fun _=>?_
        · skip
          exact hrec69 _ _ _ _ _ _ _ hx60 (hL10.at _) hx62 hx63 hx64 hx65
        · skip
          refine .when (fun _=>?_) fun _=>?_
          · skip
            exact hrec69 _ _ _ _ _ _ _ hx60 hx61 (hL10.at _) hx63 hx64 hx65
          · skip
            refine .when (fun _=>?_) fun _=>?_
            · skip
              exact hrec69 _ _ _ _ _ _ _ hx60 hx61 hx62 (hL10.at _) hx64 hx65
            · skip
              refine .when (fun _=>?_) fun _=>?_
              · skip
                exact hrec69 _ _ _ _ _ _ _ hx60 hx61 hx62 hx63 (hL10.at _) hx65
              · skip
                refine .when (fun _=>?_) fun _=>?_
                · skip
                  exact hrec69 _ _ _ _ _ _ _ hx60 hx61 hx62 hx63 hx64 (hL10.at _)
                · skip
                  exact .no
    · skip
      exact .no
  · skip
    refine .when (fun _=>?_) fun _=>?_
    · skip
      refine .b1 (OkP.any) fun x174 _=>?_
      exact .yes ⟨(wdG_mk hx60 hx61 hx62 hx63 hx64 hx65),hs0⟩
    · skip
      exact .no
theorem view_Gor.l2_ok {s0:HSt} {L10:List Int} {x48:Int} {x49:Int} {x50:Int} (hs0:InvH s0) (hL10:AllW L10):∀ (f:Nat) (y0:Int) (y1:Int) (y2:Int) (y3:Int) (y4:Int) (y5:Int) (y6:Int),wdB y0=true→wdB y1=true→wdB y2=true→wdB y3=true→wdB y4=true→wdB y5=true→OkP (fun r=>wdG r.1=true∧InvH r.2.2) (view_Gor.l2 s0 L10 x48 x49 x50 f y0 y1 y2 y3 y4 y5 y6) (view_Gor.l2 s0 L10 x48 x49 x50 f y0 y1 y2 y3 y4 y5 y6)
  | 0,_,_,_,_,_,_,_,_,_,_,_,_,_=>.no
  | f+1,_,_,_,_,_,_,_,k0,k1,k2,k3,k4,k5=>view_Gor.l2b_ok hs0 hL10 (view_Gor.l2_ok hs0 hL10 f) k0 k1 k2 k3 k4 k5
theorem view_Gor.j1_ok {s0:HSt} {k:Nat} {L10:List Int} {x48:Int} {x49:Int} {x50:Int} (hs0:InvH s0) (hL10:AllW L10):OkP (fun r=>wdG r.1=true∧InvH r.2.2) (view_Gor.j1 s0 k L10 x48 x49 x50) (view_Gor.j1 s0 k L10 x48 x49 x50):=by
  unfold view_Gor.j1
  exact view_Gor.l2_ok hs0 hL10 _ _ _ _ _ _ _ _ (show wdB (0)=true by decide) (show wdB (0)=true by decide) (show wdB (0)=true by decide) (show wdB (0)=true by decide) (show wdB (0)=true by decide) (show wdB (0)=true by decide)
theorem view_Gor.m_ok {k:Nat} {s0:HSt} {i1:Int} (hs0:InvH s0):OkP (fun r=>wdG r.1=true∧InvH r.2.2) (view_Gor.m k s0 i1) (view_Gor.m k s0 i1):=by
  unfold view_Gor.m
  refine .b2 (pSeen4_ok hs0) fun L10 x11 hL10=>?_
  refine .when (fun _=>?_) fun _=>?_
  · skip
    exact .yes ⟨(wdG_mk (show wdB (0)=true by decide) (show wdB (0)=true by decide) (show wdB (0)=true by decide) (show wdB (0)=true by decide) (show wdB (0)=true by decide) (show wdB (0)=true by decide)),hs0⟩
  · skip
    refine .when (fun _=>?_) fun _=>?_
    · skip
      refine .when (fun _=>?_) fun _=>?_
      · skip
        refine .when (fun _=>?_) fun _=>?_
        · skip
          refine .b1 (OkP.any) fun x215 _=>?_
          refine .b1 (OkP.any) fun x222 _=>?_
          refine .b1 (OkP.any) fun x229 _=>?_
          exact view_Gor.j1_ok hs0 hL10
        · skip
          exact .no
      · skip
        exact .no
    · skip
      exact .no
theorem list_look.m_ok {k:Nat} {s0:HSt} {i1:Int} (hs0:InvH s0):OkP (fun r=>wdO r.1∧InvH r.2) (list_look.m k s0 i1) (list_look.m k s0 i1):=by
  unfold list_look.m
  refine .b2 (pSudog_ok hs0) fun q5 x6 hq5=>?_
  refine .when (fun _=>?_) fun _=>?_
  · skip
    exact .yes ⟨(fun _ h=>by cases h),hs0⟩
  · skip
    exact .yes ⟨(fun q h=>by injection h with h; subst h; exact hq5),hs0⟩
def list_followI.m (k:Nat) (s0:HSt) (i1:Int) (i2:Int):Option (HSt):=bind2 (list_look.m k s0 i1) fun o3 s4=>optE o3 (some (s4)) fun q27=>bind2 (pPutSudogI i1 (⟨q27.gor,q27.chan,q27.value,i2,q27.to,q27.reg,q27.more⟩:Su) s4) fun x53 s54=>some (s54)
theorem list_follow.m_ok {k:Nat} {s0:HSt} {i1:Int} {i2:Int} (hs0:InvH s0):OkP (fun r=>InvH r) (list_follow.m k s0 i1 i2) (list_followI.m k s0 i1 i2):=by
  unfold list_follow.m list_followI.m
  refine .b2 (list_look.m_ok hs0) fun o3 s4 ⟨ho3,hs4⟩=>?_
  refine .opt (fun _=>?_) fun q27 hq27o=>?_
  · skip
    exact .yes hs4
  · skip
    have hq27:=ho3 _ hq27o
    refine .b2 (pPutSudog_ok hs4 hq27) fun x53 s54 hs54=>?_
    exact .yes hs54
theorem list_All.l1b_ok {k:Nat} {rec64 rec64':List Int→HSt→Int→Option (List Int×HSt)} {L58:List Int} {s60:HSt} {x61:Int} (hrec64:∀ y0 y1 y2,InvH y1→OkP (fun r=>InvH r.2) (rec64 y0 y1 y2) (rec64' y0 y1 y2)) (hs60:InvH s60):OkP (fun r=>InvH r.2) (list_All.l1b k rec64 L58 s60 x61) (list_All.l1b k rec64' L58 s60 x61):=by
  unfold list_All.l1b
  refine .b1 (OkP.any) fun y75 _=>?_
  refine .when (fun _=>?_) fun _=>?_
  · skip
    refine .b2 (list_look.m_ok hs60) fun o90 s91 ⟨ho90,hs91⟩=>?_
    refine .opt (fun _=>?_) fun q116 hq116o=>?_
    · skip
      exact .yes hs91
    · skip
      have hq116:=ho90 _ hq116o
      refine .b1 (OkP.any) fun L134 _=>?_
      exact hrec64 _ _ _ hs91
  · skip
    exact .yes hs60
theorem list_All.l1_ok {k:Nat}:∀ (f:Nat) (y0:List Int) (y1:HSt) (y2:Int),InvH y1→OkP (fun r=>InvH r.2) (list_All.l1 k f y0 y1 y2) (list_All.l1 k f y0 y1 y2)
  | 0,_,_,_,_=>.no
  | f+1,_,_,_,k0=>list_All.l1b_ok (list_All.l1_ok f) k0
theorem list_All.m_ok {k:Nat} {s0:HSt} {i1:Int} {i2:Bool} (hs0:InvH s0):OkP (fun r=>InvH r.2) (list_All.m k s0 i1 i2) (list_All.m k s0 i1 i2):=by
  unfold list_All.m
  refine .b2 (OkP.any) fun q8 x9 _=>?_
  refine .when (fun _=>?_) fun _=>?_
  · skip
    exact .yes hs0
  · skip
    refine .b1 (OkP.any) fun q48 _=>?_
    exact list_All.l1_ok _ _ _ _ hs0
def list_PushI.j1 (i1:Int) (i2:Bool) (i3:Int) (k:Nat) (q5:Ch) (s99:HSt) (x100:Int):Option (Int×HSt):=bind1 (list_followI.m k s99 i3 (-1)) fun s118=>bind1 (list_into.m k (⟨q5.cap,q5.closed,q5.count,q5.start,q5.buf,q5.th,q5.tt,q5.sh,q5.st⟩:Ch) (i2) (⟨x100,i3⟩:En)) fun q134=>bind2 (pPutChan i1 (⟨q134.cap,q134.closed,q134.count,q134.start,q134.buf,q134.th,q134.tt,q134.sh,q134.st⟩:Ch) s118) fun x141 s142=>some (x141,s142)
theorem list_Push.j1_ok {i1:Int} {i2:Bool} {i3:Int} {k:Nat} {q5:Ch} {s99:HSt} {x100:Int} (hs99:InvH s99):OkP (fun r=>InvH r.2) (list_Push.j1 i1 i2 i3 k q5 s99 x100) (list_PushI.j1 i1 i2 i3 k q5 s99 x100):=by
  unfold list_Push.j1 list_PushI.j1
  refine .b1 (list_follow.m_ok hs99) fun s118 hs118=>?_
  refine .b1 (OkP.any) fun q134 _=>?_
  refine .b2 (pPutChan_ok hs118) fun x141 s142 hs142=>?_
  exact .yes hs142
def list_PushI.m (k:Nat) (s0:HSt) (i1:Int) (i2:Bool) (i3:Int):Option (Int×HSt):=bind2 (pChan i1 s0) fun q5 x6=>(if (x6 != 0) then some (x6,s0) else bind2 (pSudog i3 s0) fun q37 x38=>(if (x38 != 0) then some (x38,s0) else bind1 (list_of.m k (⟨q5.cap,q5.closed,q5.count,q5.start,q5.buf,q5.th,q5.tt,q5.sh,q5.st⟩:Ch) (i2)) fun q62=>bind2 (list_All.m k s0 i1 (i2)) fun L81 s82=>(if (decide ((lenZ L81) > 0)) then (if (inR (IntKind.i64.wrap ((lenZ L81) - 1)) L81.length) then bind1 (list_followI.m k s82 (atI L81 (IntKind.i64.wrap ((lenZ L81) - 1))) i3) fun s167=>list_PushI.j1 i1 i2 i3 k q5 s167 q62.head else none) else list_PushI.j1 i1 i2 i3 k q5 s82 i3)))
theorem list_Push.m_ok {k:Nat} {s0:HSt} {i1:Int} {i2:Bool} {i3:Int} (hs0:InvH s0):OkP (fun r=>InvH r.2) (list_Push.m k s0 i1 i2 i3) (list_PushI.m k s0 i1 i2 i3):=by
  unfold list_Push.m list_PushI.m
  simp only [lenZ_eq]
  refine .b2 (OkP.any) fun q5 x6 _=>?_
  refine .when (fun _=>?_) fun _=>?_
  · skip
    exact .yes hs0
  · skip
    refine .b2 (pSudog_ok hs0) fun q37 x38 hq37=>?_
    refine .when (fun _=>?_) fun _=>?_
    · skip
      exact .yes hs0
    · skip
      refine .b1 (OkP.any) fun q62 _=>?_
      refine .b2 (list_All.m_ok hs0) fun L81 s82 hs82=>?_
      refine .when (fun _=>?_) fun _=>?_
      · skip
        refine .when (fun _=>?_) fun _=>?_
        · skip
          refine .b1 (list_follow.m_ok hs82) fun s167 hs167=>?_
          exact list_Push.j1_ok hs167
        · skip
          exact .no
      · skip
        exact list_Push.j1_ok hs82
def list_PopI.j1 (i1:Int) (i2:Bool) (k:Nat) (q5:Ch) (q39:En) (s65:HSt) (q91:Su) (x125:Int):Option (Int×Bool×HSt):=bind1 (list_into.m k (⟨q5.cap,q5.closed,q5.count,q5.start,q5.buf,q5.th,q5.tt,q5.sh,q5.st⟩:Ch) (i2) (⟨q91.next,x125⟩:En)) fun q141=>bind2 (pPutChan i1 (⟨q141.cap,q141.closed,q141.count,q141.start,q141.buf,q141.th,q141.tt,q141.sh,q141.st⟩:Ch) s65) fun x149 s150=>bind1 (list_followI.m k s150 q39.head (-1)) fun s161=>some (q39.head,true,s161)
theorem list_Pop.j1_ok {i1:Int} {i2:Bool} {k:Nat} {q5:Ch} {q39:En} {s65:HSt} {q91:Su} {x125:Int} (hs65:InvH s65) (hq91:wdB q91.value=true):OkP (fun r=>InvH r.2.2) (list_Pop.j1 i1 i2 k q5 q39 s65 q91 x125) (list_PopI.j1 i1 i2 k q5 q39 s65 q91 x125):=by
  unfold list_Pop.j1 list_PopI.j1
  refine .b1 (OkP.any) fun q141 _=>?_
  refine .b2 (pPutChan_ok hs65) fun x149 s150 hs150=>?_
  refine .b1 (list_follow.m_ok hs150) fun s161 hs161=>?_
  exact .yes hs161
def list_PopI.m (k:Nat) (s0:HSt) (i1:Int) (i2:Bool):Option (Int×Bool×HSt):=bind2 (pChan i1 s0) fun q5 x6=>(if (x6 != 0) then some (0,false,s0) else bind1 (list_of.m k (⟨q5.cap,q5.closed,q5.count,q5.start,q5.buf,q5.th,q5.tt,q5.sh,q5.st⟩:Ch) (i2)) fun q39=>bind2 (list_look.m k s0 q39.head) fun o64 s65=>optE o64 (some (0,false,s65)) fun q91=>(if (q91.next == (-1)) then list_PopI.j1 i1 i2 k q5 q39 s65 q91 (-1) else list_PopI.j1 i1 i2 k q5 q39 s65 q91 q39.tail))
theorem list_Pop.m_ok {k:Nat} {s0:HSt} {i1:Int} {i2:Bool} (hs0:InvH s0):OkP (fun r=>InvH r.2.2) (list_Pop.m k s0 i1 i2) (list_PopI.m k s0 i1 i2):=by
  unfold list_Pop.m list_PopI.m
  refine .b2 (OkP.any) fun q5 x6 _=>?_
  refine .when (fun _=>?_) fun _=>?_
  · skip
    exact .yes hs0
  · skip
    refine .b1 (OkP.any) fun q39 _=>?_
    refine .b2 (list_look.m_ok hs0) fun o64 s65 ⟨ho64,hs65⟩=>?_
    refine .opt (fun _=>?_) fun q91 hq91o=>?_
    · skip
      exact .yes hs65
    · skip
      have hq91:=ho64 _ hq91o
      refine .when (fun _=>?_) fun _=>?_
      · skip
        exact list_Pop.j1_ok hs65 hq91
      · skip
        exact list_Pop.j1_ok hs65 hq91
def list_RemoveI.j2 (i1:Int) (i2:Bool) (i3:Int) (k:Nat) (q47:Ch) (s109:HSt) (x110:Int) (x125:Int):Option (Bool×HSt):=bind1 (list_into.m k (⟨q47.cap,q47.closed,q47.count,q47.start,q47.buf,q47.th,q47.tt,q47.sh,q47.st⟩:Ch) (i2) (⟨x110,x125⟩:En)) fun q141=>bind2 (pPutChan i1 (⟨q141.cap,q141.closed,q141.count,q141.start,q141.buf,q141.th,q141.tt,q141.sh,q141.st⟩:Ch) s109) fun x149 s150=>bind1 (list_followI.m k s150 i3 (-1)) fun s161=>some (true,s161)
theorem list_Remove.j2_ok {i1:Int} {i2:Bool} {i3:Int} {k:Nat} {q47:Ch} {s109:HSt} {x110:Int} {x125:Int} (hs109:InvH s109):OkP (fun r=>InvH r.2) (list_Remove.j2 i1 i2 i3 k q47 s109 x110 x125) (list_RemoveI.j2 i1 i2 i3 k q47 s109 x110 x125):=by
  unfold list_Remove.j2 list_RemoveI.j2
  refine .b1 (OkP.any) fun q141 _=>?_
  refine .b2 (pPutChan_ok hs109) fun x149 s150 hs150=>?_
  refine .b1 (list_follow.m_ok hs150) fun s161 hs161=>?_
  exact .yes hs161
def list_RemoveI.j1 (i1:Int) (i2:Bool) (i3:Int) (k:Nat) (q47:Ch) (q90:En) (s109:HSt) (x110:Int) (x111:Int):Option (Bool×HSt):=(if (q90.tail == i3) then list_RemoveI.j2 i1 i2 i3 k q47 s109 x110 x111 else list_RemoveI.j2 i1 i2 i3 k q47 s109 x110 q90.tail)
theorem list_Remove.j1_ok {i1:Int} {i2:Bool} {i3:Int} {k:Nat} {q47:Ch} {q90:En} {s109:HSt} {x110:Int} {x111:Int} (hs109:InvH s109):OkP (fun r=>InvH r.2) (list_Remove.j1 i1 i2 i3 k q47 q90 s109 x110 x111) (list_RemoveI.j1 i1 i2 i3 k q47 q90 s109 x110 x111):=by
  unfold list_Remove.j1 list_RemoveI.j1
  refine .when (fun _=>?_) fun _=>?_
  · skip
    exact list_Remove.j2_ok hs109
  · skip
    exact list_Remove.j2_ok hs109
def list_RemoveI.m (k:Nat) (s0:HSt) (i1:Int) (i2:Bool) (i3:Int):Option (Bool×HSt):=bind2 (list_All.m k s0 i1 (i2)) fun L5 s6=>bind1 (slices_Index.m k L5 i3) fun x24=>(if (decide (x24<0)) then some (false,s6) else bind2 (pChan i1 s6) fun q47 x48=>bind2 (pSudog i3 s6) fun q68 x69=>bind1 (list_of.m k (⟨q47.cap,q47.closed,q47.count,q47.start,q47.buf,q47.th,q47.tt,q47.sh,q47.st⟩:Ch) (i2)) fun q90=>(if (decide (x24 > 0)) then (if (inR (IntKind.i64.wrap (x24 - 1)) L5.length) then bind1 (list_followI.m k s6 (atI L5 (IntKind.i64.wrap (x24 - 1))) q68.next) fun s203=>list_RemoveI.j1 i1 i2 i3 k q47 q90 s203 q90.head (atI L5 (IntKind.i64.wrap (x24 - 1))) else none) else list_RemoveI.j1 i1 i2 i3 k q47 q90 s6 q68.next (-1)))
theorem list_Remove.m_ok {k:Nat} {s0:HSt} {i1:Int} {i2:Bool} {i3:Int} (hs0:InvH s0):OkP (fun r=>InvH r.2) (list_Remove.m k s0 i1 i2 i3) (list_RemoveI.m k s0 i1 i2 i3):=by
  unfold list_Remove.m list_RemoveI.m
  refine .b2 (list_All.m_ok hs0) fun L5 s6 hs6=>?_
  refine .b1 (OkP.any) fun x24 _=>?_
  refine .when (fun _=>?_) fun _=>?_
  · skip
    exact .yes hs6
  · skip
    refine .b2 (OkP.any) fun q47 x48 _=>?_
    refine .b2 (pSudog_ok hs6) fun q68 x69 hq68=>?_
    refine .b1 (OkP.any) fun q90 _=>?_
    refine .when (fun _=>?_) fun _=>?_
    · skip
      refine .when (fun _=>?_) fun _=>?_
      · skip
        refine .b1 (list_follow.m_ok hs6) fun s203 hs203=>?_
        exact list_Remove.j1_ok hs203
      · skip
        exact .no
    · skip
      exact list_Remove.j1_ok hs6
theorem wake_look.m_ok {k:Nat} {s0:HSt} {i1:Int} (hs0:InvH s0):OkP (fun r=>wdOG r.1∧InvH r.2) (wake_look.m k s0 i1) (wake_look.m k s0 i1):=by
  unfold wake_look.m
  refine .b2 (pSudog_ok hs0) fun q5 x6 hq5=>?_
  refine .when (fun _=>?_) fun _=>?_
  · skip
    exact .yes ⟨(fun q h=>by injection h with h; subst h; exact ⟨fun y h=>(by injection h with h; subst h; exact hq5),fun y h=>(by cases h)⟩),hs0⟩
  · skip
    refine .b3 (view_Gor.m_ok hs0) fun q39 x40 s41 ⟨hq39,hs41⟩=>?_
    refine .when (fun _=>?_) fun _=>?_
    · skip
      exact .yes ⟨(fun q h=>by injection h with h; subst h; exact ⟨fun y h=>(by cases h),fun y h=>(by injection h with h; subst h; exact (wdG_mk (wdG_all hq39).1 (wdG_all hq39).2.1 (wdG_all hq39).2.2.1 (wdG_all hq39).2.2.2.1 (wdG_all hq39).2.2.2.2.1 (wdG_all hq39).2.2.2.2.2))⟩),hs41⟩
    · skip
      exact .yes ⟨(fun _ h=>by cases h),hs41⟩
def wake_leaveI.l1b (k:Nat) (rec12:(Int→Int)→HSt→Int→Option (HSt)) (f7:(Int→Int)) (s8:HSt) (x9:Int):Option (HSt):=(if (wdR x9) then (if ((f7 x9) == 0) then bind2 (wake_look.m k s8 x9) fun o32 s33=>optE o32 (some (s33)) fun q55=>sumE q55 (fun q57=>(if (keyR x9) then (if (wdR (IntKind.i64.wrap ((f7 x9)+1))) then bind2 (list_RemoveI.m k s33 q57.chan (true) x9) fun y97 s98=>bind2 (list_RemoveI.m k s98 q57.chan (false) x9) fun y112 s113=>rec12 ((updM f7 x9 (IntKind.i64.wrap ((f7 x9)+1)))) s113 q57.more else none) else none)) fun q58=>some (s33) else some (s8)) else none)
theorem wake_leave.l1b_ok {k:Nat} {rec12 rec12':(Int→Int)→HSt→Int→Option (HSt)} {f7:(Int→Int)} {s8:HSt} {x9:Int} (hrec12:∀ y0 y1 y2,InvH y1→OkP (fun r=>InvH r) (rec12 y0 y1 y2) (rec12' y0 y1 y2)) (hs8:InvH s8):OkP (fun r=>InvH r) (wake_leave.l1b k rec12 f7 s8 x9) (wake_leaveI.l1b k rec12' f7 s8 x9):=by
  unfold wake_leave.l1b wake_leaveI.l1b
  refine .when (fun _=>?_) fun _=>?_
  · skip
    refine .when (fun _=>?_) fun _=>?_
    · skip
      refine .b2 (wake_look.m_ok hs8) fun o32 s33 ⟨ho32,hs33⟩=>?_
      refine .opt (fun _=>?_) fun q55 hq55o=>?_
      · skip
        exact .yes hs33
      · skip
        have hq55:=ho32 _ hq55o
        refine .sum (fun q57 hq57o=>?_) fun q58 hq58o=>?_
        · skip
          have hq57:=hq55.1 _ hq57o
          refine .when (fun _=>?_) fun _=>?_
          · skip
            refine .when (fun _=>?_) fun _=>?_
            · skip
              refine .b2 (list_Remove.m_ok hs33) fun y97 s98 hs98=>?_
              refine .b2 (list_Remove.m_ok hs98) fun y112 s113 hs113=>?_
              exact hrec12 _ _ _ hs113
            · skip
              exact .no
          · skip
            exact .no
        · skip
          have hq58:=hq55.2 _ hq58o
          exact .yes hs33
    · skip
      exact .yes hs8
  · skip
    exact .no
def wake_leaveI.l1 (k:Nat):Nat→(Int→Int)→HSt→Int→Option (HSt)
  | 0=>fun _ _ _=>none
  | kI+1=>wake_leaveI.l1b k (wake_leaveI.l1 k kI)
theorem wake_leave.l1_ok {k:Nat}:∀ (f:Nat) (y0:(Int→Int)) (y1:HSt) (y2:Int),InvH y1→OkP (fun r=>InvH r) (wake_leave.l1 k f y0 y1 y2) (wake_leaveI.l1 k f y0 y1 y2)
  | 0,_,_,_,_=>.no
  | f+1,_,_,_,k0=>wake_leave.l1b_ok (wake_leave.l1_ok f) k0
def wake_leaveI.m (k:Nat) (s0:HSt) (i1:Int):Option (HSt):=wake_leaveI.l1 k k (fun _=>0) s0 i1
theorem wake_leave.m_ok {k:Nat} {s0:HSt} {i1:Int} (hs0:InvH s0):OkP (fun r=>InvH r) (wake_leave.m k s0 i1) (wake_leaveI.m k s0 i1):=by
  unfold wake_leave.m wake_leaveI.m
  exact wake_leave.l1_ok _ _ _ _ hs0
def wake_WakeI.j2 (q5:Su) (q40:Gr) (s76:HSt) (x114:Int) (x115:Int) (x116:Int) (x117:Int) (x118:Int) (x119:Int):Option (Int×Int×HSt):=bind2 (pPutGorI q5.gor (⟨q40.id,0,q5.to,x114,x115,x116,x117,x118,x119,-1⟩:Gr) s76) fun x134 s135=>bind1 (pShade q5.gor s135) fun s149=>some (q5.gor,x134,s149)
theorem wake_Wake.j2_ok {q5:Su} {q40:Gr} {s76:HSt} {x114:Int} {x115:Int} {x116:Int} {x117:Int} {x118:Int} {x119:Int} (hq5:wdB q5.value=true) (hq40:wdG q40=true) (hs76:InvH s76) (hx114:wdB x114=true) (hx115:wdB x115=true) (hx116:wdB x116=true) (hx117:wdB x117=true) (hx118:wdB x118=true) (hx119:wdB x119=true):OkP (fun r=>InvH r.2.2) (wake_Wake.j2 q5 q40 s76 x114 x115 x116 x117 x118 x119) (wake_WakeI.j2 q5 q40 s76 x114 x115 x116 x117 x118 x119):=by
  unfold wake_Wake.j2 wake_WakeI.j2
  refine .b2 (pPutGor_ok hs76 (wdG_mk hx114 hx115 hx116 hx117 hx118 hx119)) fun x134 s135 hs135=>?_
  refine .b1 (pShade_ok hs135) fun s149 hs149=>?_
  exact .yes hs149
def wake_WakeI.j1 (i2:Int) (q5:Su) (q40:Gr) (s76:HSt) (y106:Bool):Option (Int×Int×HSt):=(if (y106) then (if (q5.reg == 0) then wake_WakeI.j2 q5 q40 s76 i2 q40.b q40.c q40.d q40.e q40.f else (if (q5.reg == 1) then wake_WakeI.j2 q5 q40 s76 q40.a i2 q40.c q40.d q40.e q40.f else (if (q5.reg == 2) then wake_WakeI.j2 q5 q40 s76 q40.a q40.b i2 q40.d q40.e q40.f else (if (q5.reg == 3) then wake_WakeI.j2 q5 q40 s76 q40.a q40.b q40.c i2 q40.e q40.f else (if (q5.reg == 4) then wake_WakeI.j2 q5 q40 s76 q40.a q40.b q40.c q40.d i2 q40.f else (if (q5.reg == 5) then wake_WakeI.j2 q5 q40 s76 q40.a q40.b q40.c q40.d q40.e i2 else none)))))) else wake_WakeI.j2 q5 q40 s76 q40.a q40.b q40.c q40.d q40.e q40.f)
theorem wake_Wake.j1_ok {i2:Int} {q5:Su} {q40:Gr} {s76:HSt} {y106:Bool} (hi2:wdB i2=true) (hq5:wdB q5.value=true) (hq40:wdG q40=true) (hs76:InvH s76):OkP (fun r=>InvH r.2.2) (wake_Wake.j1 i2 q5 q40 s76 y106) (wake_WakeI.j1 i2 q5 q40 s76 y106):=by
  unfold wake_Wake.j1 wake_WakeI.j1
  refine .when (fun _=>?_) fun _=>?_
  · skip
    refine .when (fun _=>?_) fun _=>?_
    · skip
      exact wake_Wake.j2_ok hq5 hq40 hs76 hi2 ((wdG_all hq40).2.1) ((wdG_all hq40).2.2.1) ((wdG_all hq40).2.2.2.1) ((wdG_all hq40).2.2.2.2.1) ((wdG_all hq40).2.2.2.2.2)
    · skip
      refine .when (fun _=>?_) fun _=>?_
      · skip
        exact wake_Wake.j2_ok hq5 hq40 hs76 ((wdG_all hq40).1) hi2 ((wdG_all hq40).2.2.1) ((wdG_all hq40).2.2.2.1) ((wdG_all hq40).2.2.2.2.1) ((wdG_all hq40).2.2.2.2.2)
      · skip
        refine .when (fun _=>?_) fun _=>?_
        · skip
          exact wake_Wake.j2_ok hq5 hq40 hs76 ((wdG_all hq40).1) ((wdG_all hq40).2.1) hi2 ((wdG_all hq40).2.2.2.1) ((wdG_all hq40).2.2.2.2.1) ((wdG_all hq40).2.2.2.2.2)
        · skip
          refine .when (fun _=>?_) fun _=>?_
          · skip
            exact wake_Wake.j2_ok hq5 hq40 hs76 ((wdG_all hq40).1) ((wdG_all hq40).2.1) ((wdG_all hq40).2.2.1) hi2 ((wdG_all hq40).2.2.2.2.1) ((wdG_all hq40).2.2.2.2.2)
          · skip
            refine .when (fun _=>?_) fun _=>?_
            · skip
              exact wake_Wake.j2_ok hq5 hq40 hs76 ((wdG_all hq40).1) ((wdG_all hq40).2.1) ((wdG_all hq40).2.2.1) ((wdG_all hq40).2.2.2.1) hi2 ((wdG_all hq40).2.2.2.2.2)
            · skip
              refine .when (fun _=>?_) fun _=>?_
              · skip
                exact wake_Wake.j2_ok hq5 hq40 hs76 ((wdG_all hq40).1) ((wdG_all hq40).2.1) ((wdG_all hq40).2.2.1) ((wdG_all hq40).2.2.2.1) ((wdG_all hq40).2.2.2.2.1) hi2
              · skip
                exact .no
  · skip
    exact wake_Wake.j2_ok hq5 hq40 hs76 ((wdG_all hq40).1) ((wdG_all hq40).2.1) ((wdG_all hq40).2.2.1) ((wdG_all hq40).2.2.2.1) ((wdG_all hq40).2.2.2.2.1) ((wdG_all hq40).2.2.2.2.2)
def wake_WakeI.m (k:Nat) (s0:HSt) (i1:Int) (i2:Int):Option (Int×Int×HSt):=bind2 (pSudog i1 s0) fun q5 x6=>(if (x6 != 0) then some (0,x6,s0) else bind3 (view_Gor.m k s0 q5.gor) fun q40 x41 s42=>(if (x41 != 0) then some (0,x41,s42) else bind1 (wake_leaveI.m k s42 q40.sudogs) fun s76=>(if (decide (q5.reg ≥ 0)) then wake_WakeI.j1 i2 q5 q40 s76 (decide (q5.reg<6)) else wake_WakeI.j1 i2 q5 q40 s76 false)))
theorem wake_Wake.m_ok {k:Nat} {s0:HSt} {i1:Int} {i2:Int} (hs0:InvH s0) (hi2:wdB i2=true):OkP (fun r=>InvH r.2.2) (wake_Wake.m k s0 i1 i2) (wake_WakeI.m k s0 i1 i2):=by
  unfold wake_Wake.m wake_WakeI.m
  refine .b2 (pSudog_ok hs0) fun q5 x6 hq5=>?_
  refine .when (fun _=>?_) fun _=>?_
  · skip
    exact .yes hs0
  · skip
    refine .b3 (view_Gor.m_ok hs0) fun q40 x41 s42 ⟨hq40,hs42⟩=>?_
    refine .when (fun _=>?_) fun _=>?_
    · skip
      exact .yes hs42
    · skip
      refine .b1 (wake_leave.m_ok hs42) fun s76 hs76=>?_
      refine .when (fun _=>?_) fun _=>?_
      · skip
        exact wake_Wake.j1_ok hi2 hq5 hq40 hs76
      · skip
        exact wake_Wake.j1_ok hi2 hq5 hq40 hs76
def wake_ParkI.l2b (i1:Int) (L2:List Int) (q9:Gr) (rec100:HSt→Int→Int→Option (Int×HSt)) (s95:HSt) (x96:Int) (x97:Int):Option (Int×HSt):=(if (decide (x96 ≥ 0)) then (if (inR x96 L2.length) then bind2 (pSudog (atI L2 x96) s95) fun q120 x121=>bind2 (pPutSudogI (atI L2 x96) (⟨q120.gor,q120.chan,q120.value,q120.next,q120.to,q120.reg,x97⟩:Su) s95) fun x150 s151=>rec100 s151 (IntKind.i64.wrap (x96 - 1)) (atI L2 x96) else none) else bind2 (pPutGorI i1 (⟨q9.id,1,q9.pc,q9.a,q9.b,q9.c,q9.d,q9.e,q9.f,x97⟩:Gr) s95) fun x190 s191=>some (x190,s191))
theorem wake_Park.l2b_ok {i1:Int} {L2:List Int} {q9:Gr} {rec100 rec100':HSt→Int→Int→Option (Int×HSt)} {s95:HSt} {x96:Int} {x97:Int} (hq9:wdG q9=true) (hrec100:∀ y0 y1 y2,InvH y0→OkP (fun r=>InvH r.2) (rec100 y0 y1 y2) (rec100' y0 y1 y2)) (hs95:InvH s95):OkP (fun r=>InvH r.2) (wake_Park.l2b i1 L2 q9 rec100 s95 x96 x97) (wake_ParkI.l2b i1 L2 q9 rec100' s95 x96 x97):=by
  unfold wake_Park.l2b wake_ParkI.l2b
  refine .when (fun _=>?_) fun _=>?_
  · skip
    refine .when (fun _=>?_) fun _=>?_
    · skip
      refine .b2 (pSudog_ok hs95) fun q120 x121 hq120=>?_
      refine .b2 (pPutSudog_ok hs95 hq120) fun x150 s151 hs151=>?_
      exact hrec100 _ _ _ hs151
    · skip
      exact .no
  · skip
    refine .b2 (pPutGor_ok hs95 (wdG_mk (wdG_all hq9).1 (wdG_all hq9).2.1 (wdG_all hq9).2.2.1 (wdG_all hq9).2.2.2.1 (wdG_all hq9).2.2.2.2.1 (wdG_all hq9).2.2.2.2.2)) fun x190 s191 hs191=>?_
    exact .yes hs191
def wake_ParkI.l2 (i1:Int) (L2:List Int) (q9:Gr):Nat→HSt→Int→Int→Option (Int×HSt)
  | 0=>fun _ _ _=>none
  | kI+1=>wake_ParkI.l2b i1 L2 q9 (wake_ParkI.l2 i1 L2 q9 kI)
theorem wake_Park.l2_ok {i1:Int} {L2:List Int} {q9:Gr} (hq9:wdG q9=true):∀ (f:Nat) (y0:HSt) (y1:Int) (y2:Int),InvH y0→OkP (fun r=>InvH r.2) (wake_Park.l2 i1 L2 q9 f y0 y1 y2) (wake_ParkI.l2 i1 L2 q9 f y0 y1 y2)
  | 0,_,_,_,_=>.no
  | f+1,_,_,_,k0=>wake_Park.l2b_ok hq9 (wake_Park.l2_ok hq9 f) k0
def wake_ParkI.l1b (i1:Int) (L2:List Int) (k:Nat) (q9:Gr) (s11:HSt) (rec44:Int→Option (Int×HSt)) (x41:Int):Option (Int×HSt):=(if (decide (x41<(lenZ L2))) then (if (inR x41 L2.length) then bind2 (pSudog (atI L2 x41) s11) fun q66 x67=>(if (x67 != 0) then some (x67,s11) else rec44 (IntKind.i64.wrap (x41+1))) else none) else wake_ParkI.l2 i1 L2 q9 k s11 (IntKind.i64.wrap ((lenZ L2) - 1)) (-1))
theorem wake_Park.l1b_ok {i1:Int} {L2:List Int} {k:Nat} {q9:Gr} {s11:HSt} {rec44 rec44':Int→Option (Int×HSt)} {x41:Int} (hq9:wdG q9=true) (hs11:InvH s11) (hrec44:∀ y0,OkP (fun r=>InvH r.2) (rec44 y0) (rec44' y0)):OkP (fun r=>InvH r.2) (wake_Park.l1b i1 L2 k q9 s11 rec44 x41) (wake_ParkI.l1b i1 L2 k q9 s11 rec44' x41):=by
  unfold wake_Park.l1b wake_ParkI.l1b
  simp only [lenZ_eq]
  refine .when (fun _=>?_) fun _=>?_
  · skip
    refine .when (fun _=>?_) fun _=>?_
    · skip
      refine .b2 (pSudog_ok hs11) fun q66 x67 hq66=>?_
      refine .when (fun _=>?_) fun _=>?_
      · skip
        exact .yes hs11
      · skip
        exact hrec44 _
    · skip
      exact .no
  · skip
    exact wake_Park.l2_ok hq9 _ _ _ _ hs11
def wake_ParkI.l1 (i1:Int) (L2:List Int) (k:Nat) (q9:Gr) (s11:HSt):Nat→Int→Option (Int×HSt)
  | 0=>fun _=>none
  | kI+1=>wake_ParkI.l1b i1 L2 k q9 s11 (wake_ParkI.l1 i1 L2 k q9 s11 kI)
theorem wake_Park.l1_ok {i1:Int} {L2:List Int} {k:Nat} {q9:Gr} {s11:HSt} (hq9:wdG q9=true) (hs11:InvH s11):∀ (f:Nat) (y0:Int),OkP (fun r=>InvH r.2) (wake_Park.l1 i1 L2 k q9 s11 f y0) (wake_ParkI.l1 i1 L2 k q9 s11 f y0)
  | 0,_=>.no
  | f+1,_=>wake_Park.l1b_ok hq9 hs11 (wake_Park.l1_ok hq9 hs11 f)
def wake_ParkI.m (k:Nat) (s0:HSt) (i1:Int) (L2:List Int):Option (Int×HSt):=bind3 (view_Gor.m k s0 i1) fun q9 x10 s11=>(if (x10 != 0) then some (x10,s11) else wake_ParkI.l1 i1 L2 k q9 s11 k 0)
theorem wake_Park.m_ok {k:Nat} {s0:HSt} {i1:Int} {L2:List Int} (hs0:InvH s0):OkP (fun r=>InvH r.2) (wake_Park.m k s0 i1 L2) (wake_ParkI.m k s0 i1 L2):=by
  unfold wake_Park.m wake_ParkI.m
  refine .b3 (view_Gor.m_ok hs0) fun q9 x10 s11 ⟨hq9,hs11⟩=>?_
  refine .when (fun _=>?_) fun _=>?_
  · skip
    exact .yes hs11
  · skip
    exact wake_Park.l1_ok hq9 hs11 _ _
def law14_allocI.j1 (x18:Int) (s20:HSt) (s38:HSt) (y47:Bool):Option (Int×HSt×HSt):=(if (y47) then some (-1,s20,s38) else some (x18,s20,s38))
theorem law14_alloc.j1_ok {x18:Int} {s20:HSt} {s38:HSt} {y47:Bool} (hs20:InvH s20) (hs38:InvH s38):OkP (fun r=>InvH r.2.1∧InvH r.2.2) (law14_alloc.j1 x18 s20 s38 y47) (law14_allocI.j1 x18 s20 s38 y47):=by
  unfold law14_alloc.j1 law14_allocI.j1
  refine .when (fun _=>?_) fun _=>?_
  · skip
    exact .yes ⟨hs20,hs38⟩
  · skip
    exact .yes ⟨hs20,hs38⟩
def law14_allocI.m (k:Nat) (s0:HSt) (u0:HSt) (Lc0:List Int) (Lg0:List Int) (i1:Int) (i2:Int):Option (Int×HSt×HSt):=bind3 (pAllocI i1 i2 s0) fun x18 x19 s20=>bind3 (pAllocI i1 i2 u0) fun x36 x37 s38=>(if (x18 != x36) then law14_allocI.j1 x18 s20 s38 true else (if (x19 != 0) then law14_allocI.j1 x18 s20 s38 true else law14_allocI.j1 x18 s20 s38 (x37 != 0)))
theorem law14_alloc.m_ok {k:Nat} {s0:HSt} {u0:HSt} {Lc0:List Int} {Lg0:List Int} {i1:Int} {i2:Int} (hs0:InvH s0) (hu0:InvH u0):OkP (fun r=>InvH r.2.1∧InvH r.2.2) (law14_alloc.m k s0 u0 Lc0 Lg0 i1 i2) (law14_allocI.m k s0 u0 Lc0 Lg0 i1 i2):=by
  unfold law14_alloc.m law14_allocI.m
  refine .b3 (pAlloc_ok hs0) fun x18 x19 s20 hs20=>?_
  refine .b3 (pAlloc_ok hu0) fun x36 x37 s38 hs38=>?_
  refine .when (fun _=>?_) fun _=>?_
  · skip
    exact law14_alloc.j1_ok hs20 hs38
  · skip
    refine .when (fun _=>?_) fun _=>?_
    · skip
      exact law14_alloc.j1_ok hs20 hs38
    · skip
      exact law14_alloc.j1_ok hs20 hs38
def law14_madeI.j7 (L0:List Int) (k:Nat) (L56:List Int) (x60:Int) (rec63:List Int→HSt→HSt→Int→Option (HSt×HSt×List Int×List Int)) (x104:Int) (s121:HSt) (s122:HSt) (x123:Int):Option (HSt×HSt×List Int×List Int):=bind2 (pPutChan x104 (⟨IntKind.i64.wrap (Int.tmod (IntKind.u64.wrap (atI L0 x60)) 4),0,0,0,x123,-1,-1,-1,-1⟩:Ch) s121) fun x136 s137=>bind2 (ref11_PutChanI.m k s122 x104 (⟨IntKind.i64.wrap (Int.tmod (IntKind.u64.wrap (atI L0 x60)) 4),0,0,0,x123,-1,-1,-1,-1⟩:Ch)) fun x145 s146=>(if (x136 != x145) then none else bind1 (pushM L56 x104) fun L170=>rec63 L170 s137 s146 (IntKind.i64.wrap (x60+1)))
theorem law14_made.j7_ok {L0:List Int} {k:Nat} {L56:List Int} {x60:Int} {rec63 rec63':List Int→HSt→HSt→Int→Option (HSt×HSt×List Int×List Int)} {x104:Int} {s121:HSt} {s122:HSt} {x123:Int} (hrec63:∀ y0 y1 y2 y3,InvH y1→InvH y2→OkP (fun r=>InvH r.1∧InvH r.2.1) (rec63 y0 y1 y2 y3) (rec63' y0 y1 y2 y3)) (hs121:InvH s121) (hs122:InvH s122):OkP (fun r=>InvH r.1∧InvH r.2.1) (law14_made.j7 L0 k L56 x60 rec63 x104 s121 s122 x123) (law14_madeI.j7 L0 k L56 x60 rec63' x104 s121 s122 x123):=by
  unfold law14_made.j7 law14_madeI.j7
  refine .b2 (pPutChan_ok hs121) fun x136 s137 hs137=>?_
  refine .b2 (ref11_PutChan.m_ok hs122) fun x145 s146 hs146=>?_
  refine .when (fun _=>?_) fun _=>?_
  · skip
    exact .no
  · skip
    refine .b1 (OkP.any) fun L170 _=>?_
    exact hrec63 _ _ _ _ hs137 hs146
def law14_madeI.l8b (i1:Int) (k:Nat) (L56:List Int) (rec226:List Int→HSt→HSt→Int→Option (HSt×HSt×List Int×List Int)) (L219:List Int) (s221:HSt) (s222:HSt) (x223:Int):Option (HSt×HSt×List Int×List Int):=(if (decide (x223<(IntKind.i64.wrap (1+(IntKind.i64.wrap (Int.tmod (IntKind.u64.wrap i1) 6)))))) then bind3 (law14_allocI.m k s221 s222 L56 L219 4 10) fun x243 s244 s245=>bind2 (pPutGorI x243 (⟨x223,0,0,0,0,0,0,0,0,-1⟩:Gr) s244) fun x267 s268=>bind2 (ref11_PutGorI.m k s245 x243 (⟨x223,0,0,0,0,0,0,0,0,-1⟩:Gr)) fun x276 s277=>(if (x267 != x276) then none else bind1 (pushM L219 x243) fun L301=>rec226 L301 s268 s277 (IntKind.i64.wrap (x223+1))) else some ((s221,s222,L56,L219)))
theorem law14_made.l8b_ok {i1:Int} {k:Nat} {L56:List Int} {rec226 rec226':List Int→HSt→HSt→Int→Option (HSt×HSt×List Int×List Int)} {L219:List Int} {s221:HSt} {s222:HSt} {x223:Int} (hrec226:∀ y0 y1 y2 y3,InvH y1→InvH y2→OkP (fun r=>InvH r.1∧InvH r.2.1) (rec226 y0 y1 y2 y3) (rec226' y0 y1 y2 y3)) (hs221:InvH s221) (hs222:InvH s222):OkP (fun r=>InvH r.1∧InvH r.2.1) (law14_made.l8b i1 k L56 rec226 L219 s221 s222 x223) (law14_madeI.l8b i1 k L56 rec226' L219 s221 s222 x223):=by
  unfold law14_made.l8b law14_madeI.l8b
  refine .when (fun _=>?_) fun _=>?_
  · skip
    refine .b3 (law14_alloc.m_ok hs221 hs222) fun x243 s244 s245 ⟨hs244,hs245⟩=>?_
    refine .b2 (pPutGor_ok hs244 (wdG_mk (show wdB (0)=true by decide) (show wdB (0)=true by decide) (show wdB (0)=true by decide) (show wdB (0)=true by decide) (show wdB (0)=true by decide) (show wdB (0)=true by decide))) fun x267 s268 hs268=>?_
    refine .b2 (ref11_PutGor.m_ok hs245 (wdG_mk (show wdB (0)=true by decide) (show wdB (0)=true by decide) (show wdB (0)=true by decide) (show wdB (0)=true by decide) (show wdB (0)=true by decide) (show wdB (0)=true by decide))) fun x276 s277 hs277=>?_
    refine .when (fun _=>?_) fun _=>?_
    · skip
      exact .no
    · skip
      refine .b1 (OkP.any) fun L301 _=>?_
      exact hrec226 _ _ _ _ hs268 hs277
  · skip
    exact .yes ⟨hs221,hs222⟩
def law14_madeI.l8 (i1:Int) (k:Nat) (L56:List Int):Nat→List Int→HSt→HSt→Int→Option (HSt×HSt×List Int×List Int)
  | 0=>fun _ _ _ _=>none
  | kI+1=>law14_madeI.l8b i1 k L56 (law14_madeI.l8 i1 k L56 kI)
theorem law14_made.l8_ok {i1:Int} {k:Nat} {L56:List Int}:∀ (f:Nat) (y0:List Int) (y1:HSt) (y2:HSt) (y3:Int),InvH y1→InvH y2→OkP (fun r=>InvH r.1∧InvH r.2.1) (law14_made.l8 i1 k L56 f y0 y1 y2 y3) (law14_madeI.l8 i1 k L56 f y0 y1 y2 y3)
  | 0,_,_,_,_,_,_=>.no
  | f+1,_,_,_,_,k0,k1=>law14_made.l8b_ok (law14_made.l8_ok f) k0 k1
def law14_madeI.j6 (L0:List Int) (i1:Int) (k:Nat) (L56:List Int) (s58:HSt) (s59:HSt) (x60:Int) (rec63:List Int→HSt→HSt→Int→Option (HSt×HSt×List Int×List Int)) (y72:Bool):Option (HSt×HSt×List Int×List Int):=(if (y72) then (if (inR x60 L0.length) then bind3 (law14_allocI.m k s58 s59 L56 [] 1 9) fun x104 s105 s106=>(if (decide ((IntKind.i64.wrap (Int.tmod (IntKind.u64.wrap (atI L0 x60)) 4)) > 0)) then bind3 (law14_allocI.m k s105 s106 L56 [] 2 (IntKind.i64.wrap (Int.tmod (IntKind.u64.wrap (atI L0 x60)) 4))) fun x196 s197 s198=>law14_madeI.j7 L0 k L56 x60 rec63 x104 s197 s198 x196 else law14_madeI.j7 L0 k L56 x60 rec63 x104 s105 s106 (-1)) else none) else law14_madeI.l8 i1 k L56 k [] s58 s59 0)
theorem law14_made.j6_ok {L0:List Int} {i1:Int} {k:Nat} {L56:List Int} {s58:HSt} {s59:HSt} {x60:Int} {rec63 rec63':List Int→HSt→HSt→Int→Option (HSt×HSt×List Int×List Int)} {y72:Bool} (hs58:InvH s58) (hs59:InvH s59) (hrec63:∀ y0 y1 y2 y3,InvH y1→InvH y2→OkP (fun r=>InvH r.1∧InvH r.2.1) (rec63 y0 y1 y2 y3) (rec63' y0 y1 y2 y3)):OkP (fun r=>InvH r.1∧InvH r.2.1) (law14_made.j6 L0 i1 k L56 s58 s59 x60 rec63 y72) (law14_madeI.j6 L0 i1 k L56 s58 s59 x60 rec63' y72):=by
  unfold law14_made.j6 law14_madeI.j6
  refine .when (fun _=>?_) fun _=>?_
  · skip
    refine .when (fun _=>?_) fun _=>?_
    · skip
      refine .b3 (law14_alloc.m_ok hs58 hs59) fun x104 s105 s106 ⟨hs105,hs106⟩=>?_
      refine .when (fun _=>?_) fun _=>?_
      · skip
        refine .b3 (law14_alloc.m_ok hs105 hs106) fun x196 s197 s198 ⟨hs197,hs198⟩=>?_
        exact law14_made.j7_ok hrec63 hs197 hs198
      · skip
        exact law14_made.j7_ok hrec63 hs105 hs106
    · skip
      exact .no
  · skip
    exact law14_made.l8_ok _ _ _ _ _ hs58 hs59
def law14_madeI.l5b (L0:List Int) (i1:Int) (k:Nat) (rec63:List Int→HSt→HSt→Int→Option (HSt×HSt×List Int×List Int)) (L56:List Int) (s58:HSt) (s59:HSt) (x60:Int):Option (HSt×HSt×List Int×List Int):=(if (decide (x60<(lenZ L0))) then law14_madeI.j6 L0 i1 k L56 s58 s59 x60 rec63 (decide (x60<4)) else law14_madeI.j6 L0 i1 k L56 s58 s59 x60 rec63 false)
theorem law14_made.l5b_ok {L0:List Int} {i1:Int} {k:Nat} {rec63 rec63':List Int→HSt→HSt→Int→Option (HSt×HSt×List Int×List Int)} {L56:List Int} {s58:HSt} {s59:HSt} {x60:Int} (hrec63:∀ y0 y1 y2 y3,InvH y1→InvH y2→OkP (fun r=>InvH r.1∧InvH r.2.1) (rec63 y0 y1 y2 y3) (rec63' y0 y1 y2 y3)) (hs58:InvH s58) (hs59:InvH s59):OkP (fun r=>InvH r.1∧InvH r.2.1) (law14_made.l5b L0 i1 k rec63 L56 s58 s59 x60) (law14_madeI.l5b L0 i1 k rec63' L56 s58 s59 x60):=by
  unfold law14_made.l5b law14_madeI.l5b
  simp only [lenZ_eq]
  refine .when (fun _=>?_) fun _=>?_
  · skip
    exact law14_made.j6_ok hs58 hs59 hrec63
  · skip
    exact law14_made.j6_ok hs58 hs59 hrec63
def law14_madeI.l5 (L0:List Int) (i1:Int) (k:Nat):Nat→List Int→HSt→HSt→Int→Option (HSt×HSt×List Int×List Int)
  | 0=>fun _ _ _ _=>none
  | kI+1=>law14_madeI.l5b L0 i1 k (law14_madeI.l5 L0 i1 k kI)
theorem law14_made.l5_ok {L0:List Int} {i1:Int} {k:Nat}:∀ (f:Nat) (y0:List Int) (y1:HSt) (y2:HSt) (y3:Int),InvH y1→InvH y2→OkP (fun r=>InvH r.1∧InvH r.2.1) (law14_made.l5 L0 i1 k f y0 y1 y2 y3) (law14_madeI.l5 L0 i1 k f y0 y1 y2 y3)
  | 0,_,_,_,_,_,_=>.no
  | f+1,_,_,_,_,k0,k1=>law14_made.l5b_ok (law14_made.l5_ok f) k0 k1
def law14_madeI.m (k:Nat) (L0:List Int) (i1:Int):Option (HSt×HSt×List Int×List Int):=bind1 (pNew 60) fun s7=>bind1 (prNew 60) fun s19=>law14_madeI.l5 L0 i1 k k [] s7 s19 0
theorem law14_made.m_ok {k:Nat} {L0:List Int} {i1:Int}:OkP (fun r=>InvH r.1∧InvH r.2.1) (law14_made.m k L0 i1) (law14_madeI.m k L0 i1):=by
  unfold law14_made.m law14_madeI.m
  refine .b1 (pNew_ok _) fun s7 hs7=>?_
  refine .b1 (prNew_ok _) fun s19 hs19=>?_
  exact law14_made.l5_ok _ _ _ _ _ hs7 hs19
theorem law14_ch.m_ok {k:Nat} {s0:HSt} {u0:HSt} {Lc0:List Int} {Lg0:List Int} {i1:Int} (hs0:InvH s0) (hu0:InvH u0):OkP (fun r=>InvH r.2.1∧InvH r.2.2) (law14_ch.m k s0 u0 Lc0 Lg0 i1) (law14_ch.m k s0 u0 Lc0 Lg0 i1):=by
  unfold law14_ch.m
  refine .when (fun _=>?_) fun _=>?_
  · skip
    exact .yes ⟨hs0,hu0⟩
  · skip
    refine .when (fun _=>?_) fun _=>?_
    · skip
      exact .no
    · skip
      refine .when (fun _=>?_) fun _=>?_
      · skip
        exact .yes ⟨hs0,hu0⟩
      · skip
        exact .no
theorem law14_gor.m_ok {k:Nat} {s0:HSt} {u0:HSt} {Lc0:List Int} {Lg0:List Int} {i1:Int} (hs0:InvH s0) (hu0:InvH u0):OkP (fun r=>InvH r.2.1∧InvH r.2.2) (law14_gor.m k s0 u0 Lc0 Lg0 i1) (law14_gor.m k s0 u0 Lc0 Lg0 i1):=by
  unfold law14_gor.m
  refine .when (fun _=>?_) fun _=>?_
  · skip
    exact .no
  · skip
    refine .when (fun _=>?_) fun _=>?_
    · skip
      exact .yes ⟨hs0,hu0⟩
    · skip
      exact .no
def law14_waitI.j7 (L68:List Int) (x72:Int) (rec75:List Int→HSt→HSt→Int→Option (Bool×HSt×HSt)) (x128:Int) (s139:HSt) (s140:HSt) (y141:Bool):Option (Bool×HSt×HSt):=(if (y141) then some (false,s140,s139) else bind1 (pushM L68 x128) fun L163=>rec75 L163 s139 s140 (IntKind.i64.wrap (x72+1)))
theorem law14_wait.j7_ok {L68:List Int} {x72:Int} {rec75 rec75':List Int→HSt→HSt→Int→Option (Bool×HSt×HSt)} {x128:Int} {s139:HSt} {s140:HSt} {y141:Bool} (hrec75:∀ y0 y1 y2 y3,InvH y1→InvH y2→OkP (fun r=>InvH r.2.1∧InvH r.2.2) (rec75 y0 y1 y2 y3) (rec75' y0 y1 y2 y3)) (hs139:InvH s139) (hs140:InvH s140):OkP (fun r=>InvH r.2.1∧InvH r.2.2) (law14_wait.j7 L68 x72 rec75 x128 s139 s140 y141) (law14_waitI.j7 L68 x72 rec75' x128 s139 s140 y141):=by
  unfold law14_wait.j7 law14_waitI.j7
  refine .when (fun _=>?_) fun _=>?_
  · skip
    exact .yes ⟨hs140,hs139⟩
  · skip
    refine .b1 (OkP.any) fun L163 _=>?_
    exact hrec75 _ _ _ _ hs139 hs140
def law14_waitI.j6 (Lc0:List Int) (Lg0:List Int) (i1:Int) (L2:List Int) (L3:List Bool) (i4:Int) (i5:Int) (k:Nat) (L68:List Int) (s70:HSt) (s71:HSt) (x72:Int) (rec75:List Int→HSt→HSt→Int→Option (Bool×HSt×HSt)) (x117:Int):Option (Bool×HSt×HSt):=bind3 (law14_allocI.m k s71 s70 Lc0 Lg0 3 7) fun x128 s129 s130=>bind2 (pPutSudogI x128 (⟨i1,atI L2 x72,IntKind.i64.wrap (i4+(IntKind.i64.wrap (2 * x72))),-1,IntKind.i64.wrap (i5+x72),x117,-1⟩:Su) s129) fun x182 s183=>bind2 (ref11_PutSudogI.m k s130 x128 (⟨i1,atI L2 x72,IntKind.i64.wrap (i4+(IntKind.i64.wrap (2 * x72))),-1,IntKind.i64.wrap (i5+x72),x117,-1⟩:Su)) fun x191 s192=>(if (x182 != x191) then law14_waitI.j7 L68 x72 rec75 x128 s192 s183 true else bind2 (list_PushI.m k s183 (atI L2 x72) (atB L3 x72) x128) fun x210 s211=>bind2 (ref11_PushI.m k s192 (atI L2 x72) (atB L3 x72) x128) fun x219 s220=>law14_waitI.j7 L68 x72 rec75 x128 s220 s211 (x210 != x219))
theorem law14_wait.j6_ok {Lc0:List Int} {Lg0:List Int} {i1:Int} {L2:List Int} {L3:List Bool} {i4:Int} {i5:Int} {k:Nat} {L68:List Int} {s70:HSt} {s71:HSt} {x72:Int} {rec75 rec75':List Int→HSt→HSt→Int→Option (Bool×HSt×HSt)} {x117:Int} (hs70:InvH s70) (hs71:InvH s71) (hrec75:∀ y0 y1 y2 y3,InvH y1→InvH y2→OkP (fun r=>InvH r.2.1∧InvH r.2.2) (rec75 y0 y1 y2 y3) (rec75' y0 y1 y2 y3)):OkP (fun r=>InvH r.2.1∧InvH r.2.2) (law14_wait.j6 Lc0 Lg0 i1 L2 L3 i4 i5 k L68 s70 s71 x72 rec75 x117) (law14_waitI.j6 Lc0 Lg0 i1 L2 L3 i4 i5 k L68 s70 s71 x72 rec75' x117):=by
  unfold law14_wait.j6 law14_waitI.j6
  refine .b3 (law14_alloc.m_ok hs71 hs70) fun x128 s129 s130 ⟨hs129,hs130⟩=>?_
  refine .b2 (pPutSudog_ok hs129 (wdB_wI _)) fun x182 s183 hs183=>?_
  refine .b2 (ref11_PutSudog.m_ok hs130 (wdB_wI _)) fun x191 s192 hs192=>?_
  refine .when (fun _=>?_) fun _=>?_
  · skip
    exact law14_wait.j7_ok hrec75 hs192 hs183
  · skip
    refine .b2 (list_Push.m_ok hs183) fun x210 s211 hs211=>?_
    refine .b2 (ref11_Push.m_ok hs192) fun x219 s220 hs220=>?_
    exact law14_wait.j7_ok hrec75 hs220 hs211
def law14_waitI.l5b (Lc0:List Int) (Lg0:List Int) (i1:Int) (L2:List Int) (L3:List Bool) (i4:Int) (i5:Int) (k:Nat) (rec75:List Int→HSt→HSt→Int→Option (Bool×HSt×HSt)) (L68:List Int) (s70:HSt) (s71:HSt) (x72:Int):Option (Bool×HSt×HSt):=(if (decide (x72<(lenZ L2))) then (if (inR x72 L2.length) then (if (inR x72 L3.length) then (if (atB L3 x72) then law14_waitI.j6 Lc0 Lg0 i1 L2 L3 i4 i5 k L68 s70 s71 x72 rec75 (-1) else law14_waitI.j6 Lc0 Lg0 i1 L2 L3 i4 i5 k L68 s70 s71 x72 rec75 x72) else none) else none) else bind2 (wake_ParkI.m k s71 i1 L68) fun x247 s248=>bind2 (ref11_ParkI.m k s70 i1 L68) fun x256 s257=>some (x247 == x256,s248,s257))
theorem law14_wait.l5b_ok {Lc0:List Int} {Lg0:List Int} {i1:Int} {L2:List Int} {L3:List Bool} {i4:Int} {i5:Int} {k:Nat} {rec75 rec75':List Int→HSt→HSt→Int→Option (Bool×HSt×HSt)} {L68:List Int} {s70:HSt} {s71:HSt} {x72:Int} (hrec75:∀ y0 y1 y2 y3,InvH y1→InvH y2→OkP (fun r=>InvH r.2.1∧InvH r.2.2) (rec75 y0 y1 y2 y3) (rec75' y0 y1 y2 y3)) (hs70:InvH s70) (hs71:InvH s71):OkP (fun r=>InvH r.2.1∧InvH r.2.2) (law14_wait.l5b Lc0 Lg0 i1 L2 L3 i4 i5 k rec75 L68 s70 s71 x72) (law14_waitI.l5b Lc0 Lg0 i1 L2 L3 i4 i5 k rec75' L68 s70 s71 x72):=by
  unfold law14_wait.l5b law14_waitI.l5b
  simp only [lenZ_eq]
  refine .when (fun _=>?_) fun _=>?_
  · skip
    refine .when (fun _=>?_) fun _=>?_
    · skip
      refine .when (fun _=>?_) fun _=>?_
      · skip
        refine .when (fun _=>?_) fun _=>?_
        · skip
          exact law14_wait.j6_ok hs70 hs71 hrec75
        · skip
          exact law14_wait.j6_ok hs70 hs71 hrec75
      · skip
        exact .no
    · skip
      exact .no
  · skip
    refine .b2 (wake_Park.m_ok hs71) fun x247 s248 hs248=>?_
    refine .b2 (ref11_Park.m_ok hs70) fun x256 s257 hs257=>?_
    exact .yes ⟨hs248,hs257⟩
def law14_waitI.l5 (Lc0:List Int) (Lg0:List Int) (i1:Int) (L2:List Int) (L3:List Bool) (i4:Int) (i5:Int) (k:Nat):Nat→List Int→HSt→HSt→Int→Option (Bool×HSt×HSt)
  | 0=>fun _ _ _ _=>none
  | kI+1=>law14_waitI.l5b Lc0 Lg0 i1 L2 L3 i4 i5 k (law14_waitI.l5 Lc0 Lg0 i1 L2 L3 i4 i5 k kI)
theorem law14_wait.l5_ok {Lc0:List Int} {Lg0:List Int} {i1:Int} {L2:List Int} {L3:List Bool} {i4:Int} {i5:Int} {k:Nat}:∀ (f:Nat) (y0:List Int) (y1:HSt) (y2:HSt) (y3:Int),InvH y1→InvH y2→OkP (fun r=>InvH r.2.1∧InvH r.2.2) (law14_wait.l5 Lc0 Lg0 i1 L2 L3 i4 i5 k f y0 y1 y2 y3) (law14_waitI.l5 Lc0 Lg0 i1 L2 L3 i4 i5 k f y0 y1 y2 y3)
  | 0,_,_,_,_,_,_=>.no
  | f+1,_,_,_,_,k0,k1=>law14_wait.l5b_ok (law14_wait.l5_ok f) k0 k1
def law14_waitI.m (k:Nat) (s0:HSt) (u0:HSt) (Lc0:List Int) (Lg0:List Int) (i1:Int) (L2:List Int) (L3:List Bool) (i4:Int) (i5:Int):Option (Bool×HSt×HSt):=bind3 (ref11_Gor.m k u0 i1) fun q26 x27 s28=>(if (q26.status != 0) then some (true,s0,s28) else law14_waitI.l5 Lc0 Lg0 i1 L2 L3 i4 i5 k k [] s28 s0 0)
theorem law14_wait.m_ok {k:Nat} {s0:HSt} {u0:HSt} {Lc0:List Int} {Lg0:List Int} {i1:Int} {L2:List Int} {L3:List Bool} {i4:Int} {i5:Int} (hs0:InvH s0) (hu0:InvH u0):OkP (fun r=>InvH r.2.1∧InvH r.2.2) (law14_wait.m k s0 u0 Lc0 Lg0 i1 L2 L3 i4 i5) (law14_waitI.m k s0 u0 Lc0 Lg0 i1 L2 L3 i4 i5):=by
  unfold law14_wait.m law14_waitI.m
  refine .b3 (ref11_Gor.m_ok hu0) fun q26 x27 s28 ⟨hq26,hs28⟩=>?_
  refine .when (fun _=>?_) fun _=>?_
  · skip
    exact .yes ⟨hs0,hs28⟩
  · skip
    exact law14_wait.l5_ok _ _ _ _ _ hs28 hs0
end Go.Proofs.YtaojmbkmicjecaaGreat
