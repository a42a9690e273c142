/- Plays09 -/
import Derived.Test.YtffnjpapggidlaaGreatKG09p
import Derived.Test.YtffnjpapggidlaaGreatKRStepM
import Derived.Test.YtffnjpapggidlaaGreatKRBegin
import Derived.Test.YtffnjpapggidlaaGreatKSepArena
import Derived.Test.YtffnjpapggidlaaGreatKSepLit
namespace Go.Proofs.YtffnjpapggidlaaGreat
open Go.RowKit
set_option linter.unusedVariables false
set_option linter.unusedSimpArgs false
theorem pick09_m {s:HSt} (ok:HOk s) (n:Int) (k:Nat):∃ p,law09_pick.m k s n=some (p,s)∧Wd p∧(p=-1 ∨ isObj s.a p=true):=by
  have hn:=objs_n ok
  unfold law09_pick.m
  obtain ⟨m,hm⟩:∃ m,(hObjsF s.a).length=m:=⟨_,rfl⟩
  rw [hm] at hn ⊢
  by_cases h0:m=0
  · rw [if_pos (by simp [h0])]
    exact ⟨-1,rfl,by unfold Wd; omega,.inl rfl⟩
  · rw [if_neg (by simpa using h0)]
    have hu:IntKind.u64.wrap (m:Int)=m:=by rw [IntKind.wrap_u64]; omega
    rw [hu,if_neg (by simpa using h0)]
    obtain ⟨c,hc,ec⟩:=u_mod n m (by omega)
    rw [ec,wr_t _ (by omega) (by omega),if_pos (inR_n hc),atI_n (by omega),bind1_y]
    obtain ⟨o1,o2,o3,o4⟩:=objs_in ok (List.getElem_mem (show c<(hObjsF s.a).length by omega))
    exact ⟨_,rfl,by unfold Wd; omega,.inr o1⟩
theorem tt_y {α:Type} (x:Int) (s:α):(some (x == x,s,s):Option (Bool×α×α))=some (true,s,s):=by simp
theorem pStore_y {s:HSt} (p i:Int) {x:Int} (hx:Wd x):pStore p i x s=some (aErr p i s.a,hStore p i x s):=by unfold pStore; rw [if_pos (wd_yes hx)]
theorem pShade_y {s:HSt} {p:Int} (hp:Wd p):pShade p s=some (hShade p s):=by unfold pShade; rw [if_pos (wd_yes hp)]
theorem pBegin_y {s:HSt} {L:List Int} (hL:∀ x ∈ L,Wd x):pBegin s L=some (hBeginE s,hBegin L s):=by unfold pBegin; rw [if_pos (List.all_eq_true.2 fun x hx=>wd_yes (hL x hx))]
theorem store_cy9 (p i x:Int) (s:HSt):(hStore p i x s).cy=s.cy:=by
  unfold hStore hShadeW
  split
  · split
    · rw [shade_cy]
    · rfl
  · rfl
theorem store_len9 {s:HSt} (ok:HOk s) (p i x:Int):(hStore p i x s).a.l.length=s.a.l.length:=by
  rw [store_a,(store_ok ok.a p i x).2.2]
theorem alloc_cy9 (k n:Int) (s:HSt):(hAlloc k n s).cy=s.cy:=by
  unfold hAlloc
  split
  · rfl
  · split <;> rfl
theorem alloc_len9 {s:HSt} (ok:HOk s) (k n:Int):(hAlloc k n s).a.l.length=s.a.l.length:=by
  unfold hAlloc
  cases hb:aBad k n with
  | true=>rfl
  | false =>
    simp only [Bool.false_eq_true,if_false]
    cases ha:aAlloc k n s.a with
    | none=>rfl
    | some x =>
      obtain ⟨p,s'⟩:=x
      exact (alloc_ok ok.a hb ha).2.2.1
theorem sizes09_m (k:Nat):∀ c<6,(law09_sizes.m k ((c+1:Nat):Int)).isSome=true:=by
  intro c hc
  unfold law09_sizes.m
  rw [if_pos (by simp [inR]; omega)]
  rfl
def Kept9 (s s':HSt):Prop:=s'.ph=s.ph∧s'.cy=s.cy∧s'.a.l.length=s.a.l.length
theorem play09_j2 {s:HSt} (ok:BI s) (o:Op09) {p x:Int} (hx:Wd x):∃ s',law09_play.j2 s o p s x=some (true,s',s')∧BI s'∧Kept9 s s':=by
  unfold law09_play.j2
  rw [bind1_y,pStore_y _ _ hx,bind2_y,bind2_y]
  exact ⟨_,tt_y _ _,ok.store _ _ hx,hStore_ph _ _ _ _,store_cy9 _ _ _ _,store_len9 ok.ok _ _ _⟩
theorem play09_m {s:HSt} (ok:BI s) (o:Op09) (hw:Wd o.w) {k:Nat} (hk:5000≤k):∃ s',law09_play.m k s s o=some (true,s',s')∧BI s'∧(¬ (o.kind=3 ∨ o.kind=4)→Kept9 s s'):=by
  unfold law09_play.m
  by_cases h1:o.kind=1
  · rw [if_pos (by simpa using h1),pStore_y _ _ hw,bind2_y,bind2_y]
    exact ⟨_,tt_y _ _,ok.store _ _ hw,fun _=>⟨hStore_ph _ _ _ _,store_cy9 _ _ _ _,store_len9 ok.ok _ _ _⟩⟩
  rw [if_neg (by simpa using h1)]
  by_cases h2:o.kind=2
  · obtain ⟨p,ep,hp,_⟩:=pick09_m ok.ok o.at' k
    rw [if_pos (by simpa using h2),ep,bind2_y,pShade_y hp,bind1_y,bind1_y]
    exact ⟨_,rfl,ok.shade p,fun _=>⟨shade_ph _ _,shade_cy _ _,by rw [shade_a]⟩⟩
  rw [if_neg (by simpa using h2)]
  by_cases h3:o.kind=3
  · obtain ⟨p,ep,hp,_⟩:=pick09_m ok.ok o.at' k
    obtain ⟨q,eq,hq,_⟩:=pick09_m ok.ok o.to k
    rw [if_pos (by simpa using h3),ep,bind2_y,eq,bind2_y]
    have hL:∀ x ∈ [p,q,o.w],Wd x:=by
      intro x hx
      simp only [List.mem_cons,List.not_mem_nil,or_false] at hx
      rcases hx with rfl | rfl | rfl <;> assumption
    rw [pBegin_y hL,bind2_y,bind2_y]
    exact ⟨_,tt_y _ _,ok.begin _,fun h=>absurd (.inl h3) h⟩
  rw [if_neg (by simpa using h3)]
  by_cases h4:o.kind=4
  · rw [if_pos (by simpa using h4),rStep_m ok.ok hk]
    unfold pStep
    rw [← hStepF_eq]
    cases e:hStep s with
    | mk L s' =>
      rw [bind2_y,bind2_y]
      have:=ok.step
      rw [e] at this
      exact ⟨s',by simp [sameG],this,fun h=>absurd (.inr h4) h⟩
  rw [if_neg (by simpa using h4)]
  have pq:∃ s',law09_play.j1 s s o k true=some (true,s',s')∧BI s'∧Kept9 s s':=by
    unfold law09_play.j1
    obtain ⟨p,ep,hp,_⟩:=pick09_m ok.ok o.at' k
    obtain ⟨q,eq,hq,_⟩:=pick09_m ok.ok o.to k
    rw [if_pos rfl,ep,bind2_y,eq,bind2_y]
    split
    · rw [bind1_y]; exact play09_j2 ok o (w64_wd _)
    · exact play09_j2 ok o (w64_wd _)
  by_cases h5:o.kind=5
  · rw [if_pos (by simpa using h5)]
    obtain ⟨s',e,b,c⟩:=pq
    exact ⟨s',e,b,fun _=>c⟩
  rw [if_neg (by simpa using h5)]
  by_cases h6:o.kind=6
  · rw [show (o.kind == 6)=true by simpa using h6]
    obtain ⟨s',e,b,c⟩:=pq
    exact ⟨s',e,b,fun _=>c⟩
  · rw [show (o.kind == 6)=false by simpa using h6]
    unfold law09_play.j1
    rw [if_neg Bool.false_ne_true,bind1_y]
    obtain ⟨c,hc,ec⟩:=u_mod o.of 6 (by omega)
    simp only [Int.cast_ofNat_Int] at ec
    rw [ec,wr_t (c:Int) (by omega) (by omega),wr_t (1+(c:Int)) (by omega) (by omega),show 1+(c:Int)=((c+1:Nat):Int) by omega]
    obtain ⟨z,hz⟩:=Option.isSome_iff_exists.1 (sizes09_m k c hc)
    rw [hz,bind1_y]
    unfold pAlloc
    rw [bind3_y,bind1_y,bind3_y]
    unfold law09_play.j3
    rw [if_pos (by simp)]
    exact ⟨_,tt_y _ _,ok.alloc _ _,fun _=>⟨hAlloc_ph _ _ _,alloc_cy9 _ _ _,alloc_len9 ok.ok _ _⟩⟩
theorem pColour_y {s:HSt} {p:Int} (hp:Wd p):pColour p s=some (hColour s p):=by unfold pColour; rw [if_pos (wd_yes hp)]
theorem alike09_l8 {s:HSt} (ok:HOk s) {i:Nat} (hi:i<(hObjsF s.a).length) {R:Int→Option (Bool×HSt×HSt)}:∀ (m j:Nat),(j:Int)≤aLen s.a.c (hObjsF s.a)[i]→(aLen s.a.c (hObjsF s.a)[i]).toNat - j<m→law09_alike.l8 s s (i:Int) R m (j:Int)=R (IntKind.i64.wrap ((i:Int)+1)):=by
  have hb:=alen_bd ok.a (hObjsF s.a)[i]
  intro m
  induction m with
  | zero=>intro j _ h; omega
  | succ m ih =>
    intro j hj hm
    show law09_alike.l8b s s (i:Int) R (law09_alike.l8 s s (i:Int) R m) (j:Int)=_
    unfold law09_alike.l8b
    rw [if_pos (inR_n hi),atI_n hi]
    by_cases hlt:(j:Int)<aLen s.a.c (hObjsF s.a)[i]
    · rw [if_pos (by rw [decide_eq_true_eq]; exact hlt)]
      unfold pLoad
      rw [bind2_y,bind2_y,if_neg (by simp),wr_t _ (by omega) (by omega)]
      exact ih (j+1) (by omega) (by omega)
    · rw [if_neg (by rw [decide_eq_true_eq]; exact hlt)]
theorem alike09_l6 {s:HSt} (ok:HOk s) {k:Nat} (hk:5000≤k):∀ (m i:Nat),i≤(hObjsF s.a).length→(hObjsF s.a).length - i<m→law09_alike.l6 s s k m (i:Int)=some (true,s,s):=by
  have hn:=objs_n ok
  intro m
  induction m with
  | zero=>intro i _ h; omega
  | succ m ih =>
    intro i hi hm
    show law09_alike.l6b s s k (law09_alike.l6 s s k m) (i:Int)=_
    unfold law09_alike.l6b
    by_cases hlt:i<(hObjsF s.a).length
    · obtain ⟨o1,o2,o3,o4⟩:=objs_in ok (List.getElem_mem hlt)
      have hb:=alen_bd ok.a (hObjsF s.a)[i]
      rw [if_pos (lt_yes hlt),if_pos (inR_n hlt),atI_n hlt,if_pos o2,pColour_y (by unfold Wd; omega),bind1_y]
      have hc:hColour s (hObjsF s.a)[i]=s.col (hObjsF s.a)[i]:=by unfold hColour; rw [if_pos o1]
      rw [if_neg (by simp [hc]),if_neg (by simp)]
      unfold law09_alike.j7
      rw [if_neg (by simp)]
      have:=alike09_l8 ok hlt (R:=law09_alike.l6 s s k m) k 0 (by omega) (by omega)
      rw [show ((0:Int))=((0:Nat):Int) from rfl,this,wr_t _ (by omega) (by omega)]
      exact ih (i+1) (by omega) (by omega)
    · rw [if_neg (lt_no hlt)]
theorem alike09_m {s:HSt} (ok:HOk s) {k:Nat} (hk:5000≤k):law09_alike.m k s s=some (true,s,s):=by
  have hn:=objs_n ok
  unfold law09_alike.m
  rw [Plain_m (by omega) hk,bind1_y,if_neg (by simp),if_neg (by simp)]
  unfold law09_alike.j1
  rw [if_neg (by simp)]
  exact alike09_l6 ok hk k 0 (by omega) (by omega)
end Go.Proofs.YtffnjpapggidlaaGreat
