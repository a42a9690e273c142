/- RStepM -/
import Derived.Test.YtffnjpapggidlaaGreatKGRStep
import Derived.Test.YtffnjpapggidlaaGreatKCyc
import Derived.Test.YtffnjpapggidlaaGreatKPrim
namespace Go.Proofs.YtffnjpapggidlaaGreat
open Go.RowKit
set_option linter.unusedVariables false
set_option linter.unusedSimpArgs false
theorem objs_n {s:HSt} (ok:HOk s):(hObjsF s.a).length≤4096:=by
  rw [← hObjsF_eq]; have:=hObjs_len (s:=s.a); have:=ok.a.len; have:=ok.len; omega
theorem objs_in {s:HSt} (ok:HOk s) {x:Int} (h:x ∈ hObjsF s.a):isObj s.a x=true∧inR x s.a.c.length=true∧0≤x∧x<4096:=by
  rw [← hObjsF_eq,mem_hObjs] at h
  obtain ⟨r0,r1⟩:=isObj_range h
  have:=ok.a.len; have:=ok.len
  exact ⟨h,by simp [inR]; omega,r0,by omega⟩
def greyR (s:HSt):Int×Bool×HSt:=((hNext s).1.getD 0,(hNext s).1.isSome,(hNext s).2)
theorem grey_l2 {s:HSt} (ok:HOk s):∀ (m j:Nat),j≤(hObjsF s.a).length→(hObjsF s.a).length - j<m→ref06_grey.l2 s m (j:Int)=some (match ((hObjsF s.a).drop j).find? (fun p=>decide (s.col p=1)) with | some p=>(p,true,s) | none=>(0,false,{ s with ov:=false })):=by
  have hn:=objs_n ok
  intro m
  induction m with
  | zero=>intro j _ h; omega
  | succ m ih =>
    intro j hj hm
    show ref06_grey.l2b s (ref06_grey.l2 s m) (j:Int)=_
    unfold ref06_grey.l2b
    by_cases hlt:j<(hObjsF s.a).length
    · obtain ⟨h1,h2,_⟩:=objs_in ok (List.getElem_mem hlt)
      rw [if_pos (lt_yes hlt),if_pos (inR_n hlt),atI_n hlt,if_pos h2,List.drop_eq_getElem_cons hlt,List.find?_cons]
      by_cases hc:s.col (hObjsF s.a)[j]=1
      · rw [if_pos (by simpa using hc)]
        simp only [hc,decide_true]
      · rw [if_neg (by simpa using hc),wr_t _ (by omega) (by omega)]
        have:=ih (j+1) (by omega) (by omega)
        simp only [hc,decide_false]
        exact this
    · rw [if_neg (lt_no hlt),List.drop_of_length_le (by omega)]
      rfl
theorem grey_m {s:HSt} (ok:HOk s) {k:Nat} (hk:5000≤k):ref06_grey.m k s=some (greyR s):=by
  unfold ref06_grey.m pPop greyR hNext
  cases e:s.g.getLast? with
  | some x=>rfl
  | none =>
    show ref06_grey.j1 k 0 s (!s.ov) false=_
    unfold ref06_grey.j1
    cases ho:s.ov with
    | false=>rfl
    | true =>
      have:=grey_l2 ok k 0 (by omega) (by have:=objs_n ok; omega)
      rw [if_neg (by simp)]
      show ref06_grey.l2 s k ((0:Nat):Int)=_
      rw [this,List.drop_zero,← hObjsF_eq]
      simp only [if_true]
      cases (hObjs s.a).find? (fun p=>decide (s.col p=1)) <;> rfl
theorem mark_l3 {s:HSt} (ok:HOk s) {p:Int} (ho:isObj s.a p=true):∀ (m j:Nat) (s2:HSt),s2.a=s.a→j≤(aWords s.a p).length→(aWords s.a p).length - j<m→ref06_mark.l3 p s m s2 (j:Int)=some ([],hBlack p (hShadesW ((aWords s.a p).drop j) s2)):=by
  have hn:(aWords s.a p).length≤31:=by rw [aWords_len]; have:=alen_bd ok.a p; omega
  have hwd:=aWords_wd ok.wd p
  obtain ⟨r0,r1⟩:=isObj_range ho
  intro m
  induction m with
  | zero=>intro j _ _ _ h; omega
  | succ m ih =>
    intro j s2 ha hj hm
    show ref06_mark.l3b p s (ref06_mark.l3 p s m) s2 (j:Int)=_
    unfold ref06_mark.l3b
    by_cases hlt:j<(aWords s.a p).length
    · have hw:=hwd _ (List.getElem_mem hlt)
      rw [if_pos (lt_yes hlt),if_pos (inR_n hlt),atI_n hlt,List.drop_eq_getElem_cons hlt]
      have hS:hShadesW ((aWords s.a p)[j]::(aWords s.a p).drop (j+1)) s2=hShadesW ((aWords s.a p).drop (j+1)) (hShadeW (aWords s.a p)[j] s2):=by unfold hShadesW; rfl
      rw [hS]
      unfold hShadeW ref06_mark.j4
      cases hv:vIsPtr (aWords s.a p)[j] with
      | true =>
        rw [if_pos rfl,if_pos rfl]
        unfold pAt pShade
        rw [if_pos (wd_yes hw)]
        simp only [bind1,Option.bind_some]
        rw [if_pos (wd_yes (vAt_wd hw))]
        simp only [Option.bind_some]
        rw [wr_t _ (by omega) (by omega)]
        exact ih (j+1) _ (by rw [shade_a]; exact ha) (by omega) (by omega)
      | false =>
        rw [if_neg Bool.false_ne_true,if_neg Bool.false_ne_true,wr_t _ (by omega) (by omega)]
        exact ih (j+1) _ ha (by omega) (by omega)
    · rw [if_neg (lt_no hlt),List.drop_of_length_le (by omega),ha,if_pos (show inR p s.a.c.length=true by simp [inR]; omega),if_pos ho]
      rfl
def lostR (s:HSt) (o:Option Int):List Gn×HSt:=match o with | some p=>([gnOf s true p],hShade p { s with a:=aStoreS p 1 0 s.a }) | none=>([],{ s with ph:=2,sp:=0 })
theorem mark_l7 {s:HSt} (ok:HOk s) (h1:s.g=[]):∀ (m j:Nat),j≤(hObjsF s.a).length→(hObjsF s.a).length - j<m→ref06_mark.l7 s m (j:Int)=some (lostR s (((hObjsF s.a).drop j).find? (isLost s))):=by
  have hn:=objs_n ok
  intro m
  induction m with
  | zero=>intro j _ h; omega
  | succ m ih =>
    intro j hj hm
    show ref06_mark.l7b s (ref06_mark.l7 s m) (j:Int)=_
    unfold ref06_mark.l7b
    by_cases hlt:j<(hObjsF s.a).length
    · obtain ⟨o1,o2,o3,o4⟩:=objs_in ok (List.getElem_mem hlt)
      have next:=ih (j+1) (by omega) (by omega)
      rw [if_pos (lt_yes hlt),if_pos (inR_n hlt),atI_n hlt,List.drop_eq_getElem_cons hlt,List.find?_cons]
      unfold ref06_mark.j8
      rw [wr_t _ (by omega) (by omega),atI_n hlt]
      generalize (hObjsF s.a)[j]=x at *
      by_cases h5:aKind s.a.c x=5
      · rw [if_pos (by simpa using h5),if_pos o2]
        by_cases h0:s.col x=0
        · rw [if_pos (by simpa using h0)]
          by_cases hl:1<(aWords s.a x).length
          · rw [if_pos (by rw [decide_eq_true_eq]; omega),if_pos (by simp [inR]; omega)]
            have hg:(aWords s.a x).getD 1 0=atI (aWords s.a x) 1:=rfl
            by_cases hw:atI (aWords s.a x) 1=0
            · rw [if_neg (by simpa using hw)]
              rw [isLost_false (.inr (.inr (.inr (by rw [hg]; exact hw))))]
              exact next
            · have hL:isLost s x=true:=by unfold isLost; rw [h5,h0,hg,decide_eq_true hl]; simp [hw]
              rw [if_pos (by simpa using hw),hL]
              unfold pAStore pShade
              rw [if_pos (by decide)]
              simp only [bind2,bind1,Option.bind_some]
              rw [if_pos (wd_yes (by unfold Wd; omega))]
              simp only [Option.bind_some]
              show _=some ([(⟨aKind s.a.c x,x,aWords s.a x,true⟩:Gn)],hShade x { s with a:=aStoreS x 1 0 s.a })
              rw [h5]
          · rw [if_neg (by rw [decide_eq_true_eq]; omega),if_neg Bool.false_ne_true]
            rw [isLost_false (.inr (.inr (.inl hl)))]
            exact next
        · rw [if_neg (by simpa using h0),if_neg Bool.false_ne_true]
          rw [isLost_false (.inr (.inl h0))]
          exact next
      · rw [if_neg (by simpa using h5),if_neg Bool.false_ne_true]
        rw [isLost_false (.inl h5)]
        exact next
    · rw [if_neg (lt_no hlt),List.drop_of_length_le (by omega)]
      have:=ok.len
      rw [if_pos (by unfold okTo; rw [h1]; simp; omega)]
      rfl
theorem rmark_m {s:HSt} (ok:HOk s) {k:Nat} (hk:5000≤k):ref06_mark.m k s=some (hMark s):=by
  obtain ⟨okn,ea,ep,ho,hgn⟩:=ok.next
  unfold ref06_mark.m hMark
  rw [grey_m ok hk]
  unfold greyR
  cases e:hNext s with
  | mk o s1 =>
    rw [e] at okn ea ep ho hgn
    cases o with
    | some p =>
      have hp:=ho p rfl
      have hp1:isObj s1.a p=true:=by rw [show s1.a=s.a from ea]; exact hp
      have hl:(aWords s1.a p).length≤31:=by rw [aWords_len]; have:=alen_bd okn.a p; simp only at this; omega
      have:=mark_l3 okn hp1 k 0 s1 rfl (by omega) (by simp only; omega)
      simp only [bind3,Option.bind_some,Option.getD_some,Option.isSome_some,if_true]
      rw [show ((0:Int))=((0:Nat):Int) from rfl,this,List.drop_zero]
      unfold hScan
      rw [if_pos hp1]
    | none =>
      have:=mark_l7 okn (hgn rfl) k 0 (by omega) (by have:=objs_n okn; simp only at this ⊢; omega)
      simp only [bind3,Option.bind_some,Option.isSome_none,Bool.false_eq_true,if_false]
      rw [show ((0:Int))=((0:Nat):Int) from rfl,this,List.drop_zero,← hObjsF_eq]
      unfold hLost lostR
      cases (hObjs s1.a).find? (isLost s1) <;> rfl
def frs (l:List Int) (s:HSt):HSt:={ s with a:=l.foldl (fun s p=>aFreeS p s) s.a }
theorem sweep_l8 {L:List Gn} (hL:L.length≤4096):∀ (m j:Nat) (s:HSt),s.g=[]→j≤L.length→L.length - j<m→ref06_sweep.l8 L m s (j:Int)=ref06_sweep.l8b L (fun _ _=>none) (frs ((L.drop j).map Gn.at') s) (L.length:Int):=by
  intro m
  induction m with
  | zero=>intro j _ _ _ h; omega
  | succ m ih =>
    intro j s hg hj hm
    show ref06_sweep.l8b L (ref06_sweep.l8 L m) s (j:Int)=_
    by_cases hlt:j<L.length
    · rw [show ref06_sweep.l8b L (ref06_sweep.l8 L m) s (j:Int)=bind2 (pFree ((atG L (j:Int)).at') s) fun x163 s164=>ref06_sweep.l8 L m s164 (IntKind.i64.wrap ((j:Int)+1)) by
        unfold ref06_sweep.l8b; rw [if_pos (lt_yes hlt),if_pos (inR_n hlt)]]
      have hat:atG L (j:Int)=L[j]:=by unfold atG; rw [List.getD_eq_getElem?_getD,Int.toNat_natCast,List.getElem?_eq_getElem hlt]; rfl
      rw [hat]
      unfold pFree
      rw [if_neg (by rw [hg]; simp)]
      simp only [bind2,Option.bind_some]
      rw [wr_t _ (by omega) (by omega)]
      have:=ih (j+1) { s with a:=aFreeS L[j].at' s.a } hg (by omega) (by omega)
      rw [List.drop_eq_getElem_cons hlt]
      exact this
    · have hj':j=L.length:=by omega
      subst hj'
      rw [List.drop_of_length_le (Nat.le_refl _)]
      unfold ref06_sweep.l8b
      rw [if_neg (lt_no hlt),if_neg (lt_no hlt)]
      rfl
theorem appX_y {L M:List Gn} (h:L.length+M.length<1000000):appX L M=some (L ++ M):=by unfold appX; rw [if_pos (by omega)]
theorem sweep_l5 {s:HSt} (ok:HOk s) {k:Nat}:∀ (m j:Nat) (L:List Gn),L.length≤j→j≤(hObjsF s.a).length→(hObjsF s.a).length - j<m→ref06_sweep.l5 s k m L (j:Int)=ref06_sweep.l8 (L ++ (((hObjsF s.a).drop j).filter (goneB s)).map (gnOf s false)) k s 0:=by
  have hn:=objs_n ok
  intro m
  induction m with
  | zero=>intro j _ _ _ h; omega
  | succ m ih =>
    intro j L hL hj hm
    show ref06_sweep.l5b s k (ref06_sweep.l5 s k m) L (j:Int)=_
    unfold ref06_sweep.l5b
    by_cases hlt:j<(hObjsF s.a).length
    · obtain ⟨o1,o2,o3,o4⟩:=objs_in ok (List.getElem_mem hlt)
      rw [if_pos (lt_yes hlt),if_pos (inR_n hlt)]
      unfold ref06_sweep.j6 ref06_sweep.j7
      rw [if_pos (inR_n hlt),wr_t ((j:Int)+1) (by omega) (by omega),atI_n hlt,List.drop_eq_getElem_cons hlt,List.filter_cons]
      have n1:=ih (j+1) L (by omega) (by omega) (by omega)
      have n2:=ih (j+1) (L ++ [gnOf s false (hObjsF s.a)[j]]) (by simp; omega) (by omega) (by omega)
      generalize (hObjsF s.a)[j]=x at *
      have hd:IntKind.i64.wrap (Int.tdiv x 32)=x / 32:=by rw [Int.tdiv_eq_ediv_of_nonneg o3]; exact wr_t _ (by omega) (by omega)
      rw [hd]
      by_cases hq:x / 32=s.sp
      · rw [if_pos (by simpa using hq),if_pos o2]
        by_cases hc:s.col x=0
        · have hg:goneB s x=true:=by unfold goneB; simp [hq,hc]
          rw [if_pos (by simpa using hc),hg,appX_y (by simp; omega)]
          simp only [bind1,Option.bind_some,if_true,List.map_cons]
          rw [show (L ++ gnOf s false x::List.map (gnOf s false) (List.filter (goneB s) (List.drop (j+1) (hObjsF s.a))))=(L ++ [gnOf s false x]) ++ List.map (gnOf s false) (List.filter (goneB s) (List.drop (j+1) (hObjsF s.a))) by simp]
          exact n2
        · have hg:goneB s x=false:=by unfold goneB; simp [hc]
          rw [if_neg (by simpa using hc),hg,if_neg Bool.false_ne_true]
          exact n1
      · have hg:goneB s x=false:=by unfold goneB; simp [hq]
        rw [if_neg (by simpa using hq),if_neg Bool.false_ne_true,hg,if_neg Bool.false_ne_true]
        exact n1
    · rw [if_neg (lt_no hlt),List.drop_of_length_le (by omega)]
      simp
theorem rsweep_m {s:HSt} (ok:HOk s) (h2:s.ph=2) {k:Nat} (hk:5000≤k):ref06_sweep.m k s=some (hSweep s):=by
  have hg:s.g=[]:=ok.gnil (by omega)
  have hn:=objs_n ok
  have hsp:=ok.spn h2
  have hs0:=ok.sp0
  have hlen:=ok.len
  unfold ref06_sweep.m
  have e5:=sweep_l5 ok (k:=k) k 0 [] (by simp) (by omega) (by omega)
  rw [show ((0:Int))=((0:Nat):Int) from rfl,e5,List.drop_zero,List.nil_append]
  have eG:(hObjsF s.a).filter (goneB s)=hGone s:=by rw [← hObjsF_eq]; rfl
  rw [eG]
  have hGl:((hGone s).map (gnOf s false)).length≤4096:=by
    rw [List.length_map,← eG]; exact Nat.le_trans (List.length_filter_le _ _) hn
  have e8:=sweep_l8 hGl k 0 s hg (by omega) (by omega)
  rw [show ((0:Int))=((0:Nat):Int) from rfl,e8,List.drop_zero]
  have eat:((hGone s).map (gnOf s false)).map Gn.at'=hGone s:=by rw [List.map_map]; exact List.map_id' _
  rw [eat]
  obtain ⟨fl,fc,_⟩:=frees_len ok.a (hGone s)
  unfold ref06_sweep.l8b
  rw [if_neg (lt_no (by omega))]
  unfold ref06_sweep.j9 hSweep frs
  simp only
  have ew:IntKind.i64.wrap (s.sp+1)=s.sp+1:=wr_t _ (by omega) (by omega)
  have ecy:IntKind.i64.wrap (s.cy+1)=Go.RowKit.wrap64 (s.cy+1):=by rw [IntKind.wrap_i64]; unfold wrap64; rfl
  rw [ew,ecy,fl]
  by_cases hl:s.sp+1 ≥ s.a.l.length
  · rw [if_pos (by rw [decide_eq_true_eq]; omega),if_pos (by unfold okTo; simp only [hg,fl]; simp; omega),if_pos hl]
  · rw [if_neg (by rw [decide_eq_true_eq]; omega),if_pos (by unfold okTo; simp only [hg,fl,h2]; simp; omega),if_neg hl]
theorem rStep_m {s:HSt} (ok:HOk s) {k:Nat} (hk:5000≤k):ref06_Step.m k s=some (hStep s):=by
  unfold ref06_Step.m hStep
  rcases ok.phs with h | h | h
  · rw [h]; rfl
  · rw [if_pos (by simpa using h),if_pos h,rmark_m ok hk]; rfl
  · rw [if_neg (by rw [h]; decide),if_pos (by simpa using h),if_neg (by omega),if_pos h,rsweep_m ok h hk]; rfl
end Go.Proofs.YtffnjpapggidlaaGreat
