/- RReach -/
import Derived.Test.YtffnjpapggidlaaGreatKGRefLive
import Derived.Test.YtffnjpapggidlaaGreatKPureArena
import Derived.Test.YtffnjpapggidlaaGreatKSepHeap
namespace Go.Proofs.YtffnjpapggidlaaGreat
open Go.RowKit
set_option linter.unusedVariables false
set_option linter.unusedSimpArgs false
theorem wrap_s (x:Int) (h:0≤x) (h2:x<1000000):IntKind.i64.wrap x=x:=by rw [IntKind.wrap_i64]; omega
theorem countP_lt {α:Type} {p q:α→Bool} {a:α}:∀ {l:List α},(∀ x ∈ l,q x=true→p x=true)→a ∈ l→p a=true→q a=false→l.countP q<l.countP p
  | [],_,h,_,_=>by cases h
  | x::l,hi,ha,h1,h2=>by
    rw [List.countP_cons,List.countP_cons]
    have hle:l.countP q≤l.countP p:=List.countP_mono_left fun y hy h=>hi y (List.mem_cons_of_mem _ hy) h
    rcases List.mem_cons.1 ha with rfl | h
    · rw [h1,h2]; simp; omega
    · have:=countP_lt (fun y hy h=>hi y (List.mem_cons_of_mem _ hy) h) h h1 h2
      have h3:=hi x (by simp)
      cases hq:q x with
      | false=>simp; split <;> omega
      | true=>rw [h3 hq]; simp; omega
def togo (s:ASt) (f:Int→Int) (L:List Int):Nat:=32 * (hObjs s).countP (fun p=>!decide (f p > 0))+L.length
structure JR (s:ASt) (roots:List Int) (f:Int→Int) (L:List Int):Prop where
  f01:∀ p,f p=0 ∨ f p=1
  fin:∀ p,f p > 0→Rch s roots p
  lin:∀ p ∈ L,isObj s p=true→Rch s roots p
  rt:∀ p ∈ roots,isObj s p=true→f p > 0 ∨ p ∈ L
  cl:∀ p q,f p > 0→q ∈ succs s p→isObj s q=true→f q > 0 ∨ q ∈ L
theorem succs_len {s:HSt} (ok:HOk s) (p:Int):(succs s.a p).length≤31:=by
  unfold succs
  rw [List.length_map]
  have:=List.length_filter_le vIsPtr (aWords s.a p)
  have hb:=alen_bd ok.a p
  rw [aWords_len] at this
  omega
theorem objs_len (s:ASt):(hObjs s).length≤s.c.length:=by
  unfold hObjs aObjects
  rw [List.length_map]
  have:=List.length_filter_le (fun p:Nat=>(aHead s.c p).isSome) (List.range s.c.length)
  rw [List.length_range] at this
  exact this
theorem JR.skip {s:ASt} {roots L:List Int} {f:Int→Int} {x:Int} (J:JR s roots f (x::L)) (h:isObj s x=true→f x > 0):JR s roots f L :=
  ⟨J.f01,J.fin,fun p hp=>J.lin p (List.mem_cons_of_mem _ hp),fun p h1 h2=>by
    rcases J.rt p h1 h2 with h3 | h3
    · exact Or.inl h3
    · rcases List.mem_cons.1 h3 with rfl | h3
      · exact Or.inl (h h2)
      · exact Or.inr h3,fun p q h1 h2 h4=>by
    rcases J.cl p q h1 h2 h4 with h3 | h3
    · exact Or.inl h3
    · rcases List.mem_cons.1 h3 with rfl | h3
      · exact Or.inl (h h4)
      · exact Or.inr h3⟩
theorem JR.mark {s:ASt} {roots L:List Int} {f g:Int→Int} {x:Int} (J:JR s roots f (x::L)) (ho:isObj s x=true) (hg:∀ p,g p=if p=x then 1 else f p):JR s roots g (L ++ succs s x):=by
  have rx:Rch s roots x:=J.lin x (by simp) ho
  have hup:∀ p,g p > 0 ↔ p=x ∨ f p > 0:=by
    intro p
    rw [hg]
    by_cases e:p=x
    · rw [if_pos e]; simp [e]
    · rw [if_neg e]; simp [e]
  refine ⟨fun p=>?_,fun p h=>?_,fun p h1 h2=>?_,fun p h1 h2=>?_,fun p q h1 h2 h3=>?_⟩
  · rw [hg]; split
    · right; rfl
    · exact J.f01 p
  · rcases (hup p).1 h with rfl | h
    · exact rx
    · exact J.fin p h
  · rcases List.mem_append.1 h1 with h | h
    · exact J.lin p (List.mem_cons_of_mem _ h) h2
    · exact .step x p rx h h2
  · rcases J.rt p h1 h2 with h | h
    · exact Or.inl ((hup p).2 (Or.inr h))
    · rcases List.mem_cons.1 h with rfl | h
      · exact Or.inl ((hup _).2 (Or.inl rfl))
      · exact Or.inr (List.mem_append.2 (Or.inl h))
  · rcases (hup p).1 h1 with rfl | h1
    · exact Or.inr (List.mem_append.2 (Or.inr h2))
    · rcases J.cl p q h1 h2 h3 with h | h
      · exact Or.inl ((hup q).2 (Or.inr h))
      · rcases List.mem_cons.1 h with rfl | h
        · exact Or.inl ((hup _).2 (Or.inl rfl))
        · exact Or.inr (List.mem_append.2 (Or.inl h))
theorem JR.swap {s:ASt} {roots L L2:List Int} {f:Int→Int} (J:JR s roots f L) (h:∀ p,p ∈ L ↔ p ∈ L2):JR s roots f L2 :=
  ⟨J.f01,J.fin,fun p hp=>J.lin p ((h p).2 hp),fun p h1 h2=>(J.rt p h1 h2).imp id (h p).1,fun p q h1 h2 h3=>(J.cl p q h1 h2 h3).imp id (h q).1⟩
def fB (B:List Bool) (p:Int):Int:=if (inR p B.length && atB B p)=true then 1 else 0
theorem fB_pos (B:List Bool) (p:Int):fB B p > 0 ↔ (inR p B.length && atB B p)=true:=by unfold fB; split <;> simp [*]
theorem fB_set {B:List Bool} {x:Int} (hx:inR x B.length=true) (p:Int):fB (setX B x true) p=if p=x then 1 else fB B p:=by
  obtain ⟨x0,x1⟩:=inR_spec hx
  unfold fB atB setX
  rw [List.length_set,List.getD_eq_getElem?_getD,List.getElem?_set,List.getD_eq_getElem?_getD]
  by_cases e:p=x
  · subst e
    have e2:(if p.toNat=p.toNat then (if p.toNat<B.length then some true else none) else B[p.toNat]?)=some true:=by rw [if_pos rfl,if_pos (by omega)]
    rw [e2]; simp [hx]
  · rw [if_neg e]
    by_cases h0:0≤p
    · have e2:(if x.toNat=p.toNat then (if x.toNat<B.length then some true else none) else B[p.toNat]?)=B[p.toNat]?:=if_neg (by omega)
      rw [e2]
    · have:inR p B.length=false:=by simp [inR]; omega
      rw [this]; simp
theorem inner_l15 {s:HSt} (ok:HOk s) {x:Int} {L M:List Int} {B:List Bool} {R:List Int→List Bool→Option (List Int×HSt)} (hM:atI M (IntKind.i64.wrap ((M.length:Int) - 1))=x) (hL:L.length<500000) :
    ∀ (m j:Nat),j≤(aWords s.a x).length→(aWords s.a x).length - j<m→ref06_Reach.l15 s M B R m (L ++ ((((aWords s.a x).take j).filter vIsPtr).map vAt)) (j:Int)=R (L ++ succs s.a x) (setX B x true):=by
  have hl:(aWords s.a x).length<32:=by have:=alen_bd ok.a x; rw [aWords_len]; omega
  have hw:=aWords_wd ok.wd x
  intro m
  induction m with
  | zero=>intro j _ h; omega
  | succ m ih =>
    intro j hj hm
    show ref06_Reach.l15b s M B R (ref06_Reach.l15 s M B R m) _ _=_
    unfold ref06_Reach.l15b
    rw [hM]
    by_cases hlt:j<(aWords s.a x).length
    · have hat:atI (aWords s.a x) (j:Int)=(aWords s.a x)[j]:=by unfold atI; rw [List.getD_eq_getElem?_getD,Int.toNat_natCast,List.getElem?_eq_getElem hlt]; rfl
      have hT:(aWords s.a x).take (j+1)=(aWords s.a x).take j ++ [(aWords s.a x)[j]]:=List.take_succ_eq_append_getElem hlt
      have next:=ih (j+1) (by omega) (by omega)
      rw [hT,List.filter_append,List.map_append] at next
      rw [if_pos (by rw [decide_eq_true_eq]; omega),if_pos (show inR (j:Int) (aWords s.a x).length=true by simp [inR]; omega),hat]
      have hWd:=hw (aWords s.a x)[j] (List.getElem_mem hlt)
      cases hv:vIsPtr (aWords s.a x)[j] with
      | true =>
        rw [if_pos rfl]
        unfold bind1 pAt
        rw [if_pos (by unfold wdB; unfold Wd at hWd; simp; omega)]
        simp only [Option.bind_some]
        unfold pushM
        rw [if_pos (by rw [List.length_append,List.length_map]; have:=List.length_filter_le vIsPtr ((aWords s.a x).take j); rw [List.length_take] at this; omega)]
        simp only [Option.bind_some]
        unfold ref06_Reach.j16
        rw [wrap_s _ (by omega) (by omega)]
        simpa [List.filter_cons,hv] using next
      | false =>
        rw [if_neg Bool.false_ne_true]
        unfold ref06_Reach.j16
        rw [wrap_s _ (by omega) (by omega)]
        simpa [List.filter_cons,hv] using next
    · rw [if_neg (by rw [decide_eq_true_eq]; omega),List.take_of_length_le (by omega)]
      rfl
theorem last_l19 {s:HSt} {B:List Bool} (hB:B.length≤4096):∀ (m j:Nat),j≤B.length→B.length - j<m→ref06_Reach.l19 s B m (((List.range j).filter fun i:Nat=>atB B (i:Int)).map fun i:Nat=>(i:Int)) (j:Int)=some (((List.range B.length).filter fun i:Nat=>atB B (i:Int)).map (fun i:Nat=>(i:Int)),s):=by
  intro m
  induction m with
  | zero=>intro j _ h; omega
  | succ m ih =>
    intro j hj hm
    show ref06_Reach.l19b s B (ref06_Reach.l19 s B m) _ _=_
    unfold ref06_Reach.l19b
    by_cases hlt:j<B.length
    · have next:=ih (j+1) (by omega) (by omega)
      rw [List.range_succ,List.filter_append,List.map_append] at next
      rw [if_pos (by rw [decide_eq_true_eq]; omega),if_pos (show inR (j:Int) B.length=true by simp [inR]; omega)]
      cases hv:atB B (j:Int) with
      | true =>
        rw [if_pos rfl]
        unfold bind1 pushM
        rw [if_pos (by rw [List.length_map]; have:=List.length_filter_le (fun i:Nat=>atB B (i:Int)) (List.range j); rw [List.length_range] at this; omega)]
        simp only [Option.bind_some]
        unfold ref06_Reach.j20
        rw [wrap_s _ (by omega) (by omega)]
        simpa [List.filter_cons,hv] using next
      | false =>
        rw [if_neg Bool.false_ne_true]
        unfold ref06_Reach.j20
        rw [wrap_s _ (by omega) (by omega)]
        simpa [List.filter_cons,hv] using next
    · rw [if_neg (by rw [decide_eq_true_eq]; omega),show j=B.length by omega]
theorem refReach_l11 {s:HSt} (ok:HOk s) {roots:List Int} {k:Nat} (hk:5000≤k):∀ (m:Nat) (L:List Int) (B:List Bool),JR s.a roots (fB B) L→B.length=s.a.c.length→togo s.a (fB B) L<m→togo s.a (fB B) L<500000→∃ C:List Bool,(∀ p,fB C p > 0 ↔ Rch s.a roots p)∧C.length=s.a.c.length∧ref06_Reach.l11 s k m L B=some (((List.range C.length).filter fun i:Nat=>atB C (i:Int)).map (fun i:Nat=>(i:Int)),s):=by
  have c4:s.a.c.length≤4096:=by have:=ok.a.len; have:=ok.len; omega
  intro m
  induction m with
  | zero=>intro L B _ _ h; omega
  | succ m ih =>
    intro L B J hB hm hb
    show ∃ C:List Bool,_∧_∧ref06_Reach.l11b s k (ref06_Reach.l11 s k m) L B=_
    unfold ref06_Reach.l11b
    rcases List.eq_nil_or_concat L with rfl | ⟨L',x,rfl⟩
    · refine ⟨B,fun p=>⟨J.fin p,fun h=>?_⟩,hB,?_⟩
      · induction h with
        | root p h1 h2=>rcases J.rt p h1 h2 with h | h; exact h; cases h
        | step p q _ h2 h3 ih=>rcases J.cl p q ih h2 h3 with h | h; exact h; cases h
      · rw [if_neg (by decide)]
        exact last_l19 (s:=s) (B:=B) (by omega) k 0 (by omega) (by omega)
    · rw [List.concat_eq_append] at *
      have J2:JR s.a roots (fB B) (x::L'):=J.swap fun p=>by simp [or_comm]
      have tg:togo s.a (fB B) (L' ++ [x])=togo s.a (fB B) L'+1:=by unfold togo; simp; omega
      have hlen:L'.length<500000:=by unfold togo at hb; simp at hb; omega
      have hwi:IntKind.i64.wrap (((L' ++ [x]).length:Int) - 1)=(L'.length:Int):=by rw [wrap_s _ (by simp) (by simp; omega)]; simp
      have hat:atI (L' ++ [x]) (L'.length:Int)=x:=by unfold atI; simp
      have htake:(L' ++ [x]).take ((L'.length:Int)).toNat=L':=by simp
      rw [if_pos (by simp)]
      unfold ref06_Reach.j12
      rw [hwi,hat,htake,if_pos (by unfold inR; rw [List.length_append,List.length_singleton]; simp only [Bool.and_eq_true,decide_eq_true_eq]; omega),if_pos (by unfold leR; rw [List.length_append,List.length_singleton]; simp only [Bool.and_eq_true,decide_eq_true_eq]; omega)]
      have go1:∀ (_:isObj s.a x=true→fB B x > 0),∃ C:List Bool,(∀ p,fB C p > 0 ↔ Rch s.a roots p)∧C.length=s.a.c.length∧ref06_Reach.l11 s k m L' B=some (((List.range C.length).filter fun i:Nat=>atB C (i:Int)).map (fun i:Nat=>(i:Int)),s) :=
        fun h=>ih L' B (J2.skip h) hB (by omega) (by omega)
      cases ho:isObj s.a x with
      | false =>
        simp only [Bool.not_false,if_true]
        exact go1 fun h=>by rw [ho] at h; cases h
      | true =>
        obtain ⟨r0,r1⟩:=isObj_range ho
        have hin:inR x B.length=true:=by simp [inR]; omega
        simp only [Bool.not_true,Bool.false_eq_true,if_false]
        rw [if_pos hin]
        cases hm2:atB B x with
        | true =>
          simp only [if_true]
          exact go1 fun _=>(fB_pos B x).2 (by rw [hin,hm2]; rfl)
        | false =>
          simp only [Bool.false_eq_true,if_false]
          rw [if_pos hin]
          have e:=inner_l15 ok (x:=x) (L:=L') (M:=L' ++ [x]) (B:=B) (R:=ref06_Reach.l11 s k m) (by rw [hwi,hat]) hlen k 0 (by omega) (by have:=alen_bd ok.a x; rw [aWords_len]; omega)
          simp only [List.take_zero,List.filter_nil,List.map_nil,List.append_nil] at e
          rw [show ref06_Reach.l15 s (L' ++ [x]) B (ref06_Reach.l11 s k m) k L' 0=_ from e]
          have hcnt:(hObjs s.a).countP (fun p=>!decide (fB (setX B x true) p > 0))<(hObjs s.a).countP (fun p=>!decide (fB B p > 0)):=by
            refine countP_lt (a:=x) (fun p _ h=>?_) (mem_hObjs.2 ho) ?_ ?_
            · simp only [Bool.not_eq_true',decide_eq_false_iff_not] at h ⊢
              intro h2
              apply h
              rw [fB_set hin]
              split
              · omega
              · exact h2
            · simp only [Bool.not_eq_true',decide_eq_false_iff_not]
              intro h2
              rw [fB_pos,hin,hm2] at h2
              cases h2
            · simp only [Bool.not_eq_false',decide_eq_true_eq]
              rw [fB_set hin,if_pos rfl]; omega
          have hsl:=succs_len ok x
          have tg2:togo s.a (fB (setX B x true)) (L' ++ succs s.a x)+1≤togo s.a (fB B) L':=by
            unfold togo; rw [List.length_append]; omega
          exact ih _ _ (J2.mark ho (fB_set hin)) (by unfold setX; rw [List.length_set]; exact hB) (by omega) (by omega)
theorem refReach_m {s:HSt} (ok:HOk s) {roots:List Int} (hr:roots.length≤5000) {k:Nat} (hk:200000≤k):∃ g:Int→Bool,(∀ p,g p=true ↔ Rch s.a roots p)∧ref06_Reach.m k s roots=some ((hObjs s.a).filter g,s):=by
  have c4:s.a.c.length≤4096:=by have:=ok.a.len; have:=ok.len; omega
  have f0:∀ n p,fB (List.replicate n false) p=0:=by
    intro n p
    unfold fB atB
    rw [List.getD_eq_getElem?_getD,List.getElem?_replicate]
    split <;> simp_all
  have hl:∀ f:Int→Int,(hObjs s.a).countP (fun p=>!decide (f p > 0))≤4096:=by
    intro f
    have h1:=List.countP_le_length (p:=fun p:Int=>!decide (f p > 0)) (l:=hObjs s.a)
    have:=objs_len s.a
    omega
  have tg:togo s.a (fB (List.replicate s.a.c.length false)) roots<200000:=by
    unfold togo; have:=hl (fB (List.replicate s.a.c.length false)); omega
  obtain ⟨C,hC,hlC,e⟩:=refReach_l11 ok (roots:=roots) (k:=k) (by omega) k roots (List.replicate s.a.c.length false) ⟨fun p=>Or.inl (f0 _ p),fun p h=>by rw [f0] at h; omega,fun p h1 h2=>.root p h1 h2,fun p h _=>Or.inr h,fun p q h _ _=>by rw [f0] at h; omega⟩ (by simp) (by omega) (by omega)
  refine ⟨fun p=>inR p C.length && atB C p,fun p=>by rw [← hC,fB_pos],?_⟩
  unfold ref06_Reach.m bind1 appM
  rw [if_pos (by unfold mkR; simp; omega),if_pos (by simp; omega)]
  simp only [Option.bind_some,List.nil_append,Int.toNat_natCast]
  rw [e]
  congr 2
  unfold hObjs aObjects
  rw [← hlC,List.filter_map,List.filter_filter]
  congr 1
  apply List.filter_congr
  intro i hi
  rw [List.mem_range] at hi
  have hin:inR (i:Int) C.length=true:=by simp [inR]; omega
  simp only [Function.comp,hin,Bool.true_and]
  cases hv:atB C (i:Int) with
  | false=>rfl
  | true =>
    have:=((hC (i:Int)).1 ((fB_pos C _).2 (by rw [hin,hv]; rfl))).obj
    unfold isObj at this
    rw [this]; rfl
end Go.Proofs.YtffnjpapggidlaaGreat
