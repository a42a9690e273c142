/- Bench12 RingPlaysW RingPlays -/
import Derived.Test.YtffnjpapggidlaaGreatKGRingPlays
import Derived.Test.YtffnjpapggidlaaGreatKRings
import Derived.Test.YtffnjpapggidlaaGreatKRBegin
import Derived.Test.YtffnjpapggidlaaGreatKSepLit
import Derived.Test.YtffnjpapggidlaaGreatKRStepM
import Derived.Test.YtffnjpapggidlaaGreatKPure5
import Derived.Test.YtffnjpapggidlaaGreatRows
import Derived.WalkKit
import Derived.WalkSpells
import Derived.WalkLawsBesides
import Derived.ProofKit
import Derived.OpenShut
import Derived.ShutString
import Derived.ChangeOld
import Derived.Below
namespace Go.Proofs.YtffnjpapggidlaaGreat
open Go.RowKit
set_option linter.unusedVariables false
set_option linter.unusedSimpArgs false
theorem allocP_wd {s:HSt} (ok:HOk s) (kind n:Int):Wd (aAllocP kind n s.a):=by
  unfold aAllocP
  cases hb:aBad kind n with
  | true=>simp; unfold Wd; omega
  | false =>
    simp only [Bool.false_eq_true,if_false]
    cases ha:aAlloc kind n s.a with
    | none=>unfold Wd; simp
    | some x =>
      obtain ⟨p,s'⟩:=x
      have:=(alloc_ok ok.a hb ha).2.2.2
      have:=ok.a.len; have:=ok.len
      simp only
      unfold Wd; omega
theorem balloc_m {s:HSt} (ok:HOk s) (Lc Lg:List Int) (kind n:Int) (k:Nat):∃ x,law12_alloc.m k s s Lc Lg kind n=some (x,hAlloc kind n s,hAlloc kind n s)∧Wd x:=by
  unfold law12_alloc.m pAlloc law12_alloc.j1
  rw [bind3_y,bind3_y,if_neg (by simp)]
  have h1:Wd (-1):=by unfold Wd; omega
  split
  · exact ⟨-1,by rw [if_pos rfl],h1⟩
  · exact ⟨_,rfl,allocP_wd ok kind n⟩
theorem bgors_m {i1:Int} {N:Nat} (hN:IntKind.i64.wrap (1+(IntKind.i64.wrap (Int.tmod (IntKind.u64.wrap i1) 6)))=(N:Int)) (h6:N≤6) {k:Nat} (hk:40≤k) {Lc:List Int}:∀ (m i:Nat) (Lg:List Int) (s:HSt),WI s→s.ph=0→Lg.length=i→(∀ x ∈ Lg,Wd x)→i≤N→N - i<m→∃ s' Lg',law12_madeK.l8 i1 k Lc m Lg s s (i:Int)=some (s',s',Lc,Lg')∧WI s'∧s'.ph=0∧Lg'.length=N∧∀ x ∈ Lg',Wd x:=by
  intro m
  induction m with
  | zero=>intro i _ _ _ _ _ _ _ h; omega
  | succ m ih =>
    intro i Lg s W h0 hl hw hi hm
    show ∃ s' Lg',law12_madeK.l8b i1 k Lc (law12_madeK.l8 i1 k Lc m) Lg s s (i:Int)=_∧_
    unfold law12_madeK.l8b
    rw [hN]
    by_cases hlt:i<N
    · obtain ⟨x,ex,wx⟩:=balloc_m W.ok Lc Lg 4 10 k
      have W1:=W.alloc 4 10
      have hg:GoWd (⟨(i:Int),0,0,0,0,0,0,0,0,-1⟩:Gr):=by unfold GoWd Wd; simp
      rw [if_pos (by rw [decide_eq_true_eq]; omega),ex,bind3_y,rPutGor_m W1.ok x _ hg hk]
      unfold pPutGor
      rw [if_pos (by rfl),bind2_y,bind2_y,if_neg (by simp)]
      unfold pushM
      rw [if_pos (by omega),bind1_y,wr_t _ (by omega) (by omega)]
      exact ih (i+1) _ _ (W1.putGor x hg) (by rw [hPut_ph,hAlloc_ph]; exact h0) (by simp [hl]) (fun y hy=>by
        rcases List.mem_append.1 hy with h | h
        · exact hw y h
        · simp only [List.mem_singleton] at h; subst h; exact wx) (by omega) (by omega)
    · rw [if_neg (by rw [decide_eq_true_eq]; omega)]
      exact ⟨s,Lg,rfl,W,h0,by omega,hw⟩
theorem bchans_m {L:List Int} {i1:Int} {N:Nat} (hN:IntKind.i64.wrap (1+(IntKind.i64.wrap (Int.tmod (IntKind.u64.wrap i1) 6)))=(N:Int)) (h6:N≤6) {k:Nat} (hk:5000≤k):∀ (m i:Nat) (Lc:List Int) (s:HSt),WI s→s.ph=0→Lc.length=i→(∀ x ∈ Lc,Wd x)→i≤4→4 - i<m→∃ s' Lc' Lg',law12_madeK.l5 L i1 k m Lc s s (i:Int)=some (s',s',Lc',Lg')∧WI s'∧s'.ph=0∧Lc'.length≤4∧(i<L.length→i<4→i<Lc'.length)∧i≤Lc'.length∧Lg'.length=N∧(∀ x ∈ Lc',Wd x)∧∀ x ∈ Lg',Wd x:=by
  intro m
  induction m with
  | zero=>intro i _ _ _ _ _ _ _ h; omega
  | succ m ih =>
    intro i Lc s W h0 hl hw hi hm
    show ∃ s' Lc' Lg',law12_madeK.l5b L i1 k (law12_madeK.l5 L i1 k m) Lc s s (i:Int)=_∧_
    unfold law12_madeK.l5b
    have stop:(i<L.length→¬ i<4)→∃ s' Lc' Lg',law12_madeK.j6 L i1 k Lc s s (i:Int) (law12_madeK.l5 L i1 k m) false=some (s',s',Lc',Lg')∧WI s'∧s'.ph=0∧Lc'.length≤4∧(i<L.length→i<4→i<Lc'.length)∧i≤Lc'.length∧Lg'.length=N∧(∀ x ∈ Lc',Wd x)∧∀ x ∈ Lg',Wd x:=by
      intro hn
      unfold law12_madeK.j6
      rw [if_neg Bool.false_ne_true]
      obtain ⟨s',Lg',e,a,b,c,d⟩:=bgors_m hN h6 (k:=k) (by omega) (Lc:=Lc) k 0 [] s W h0 rfl (by simp) (by omega) (by omega)
      exact ⟨s',Lc,Lg',e,a,b,by omega,fun h1 h2=>absurd h2 (hn h1),by omega,c,hw,d⟩
    by_cases h1:i<L.length
    · rw [if_pos (lt_yes h1)]
      by_cases h2:i<4
      · rw [show decide ((i:Int)<4)=true by rw [decide_eq_true_eq]; omega]
        unfold law12_madeK.j6 law12_madeK.j7
        obtain ⟨x,ex,wx⟩:=balloc_m W.ok Lc [] 1 9 k
        have W1:=W.alloc 1 9
        have p1:(hAlloc 1 9 s).ph=0:=by rw [hAlloc_ph]; exact h0
        rw [if_pos rfl,if_pos (inR_n h1),ex,bind3_y]
        have fin:∀ (s2:HSt) (buf cap:Int),WI s2→s2.ph=0→∃ s' Lc' Lg',(bind2 (pPutChan x (⟨cap,0,0,0,buf,-1,-1,-1,-1⟩:Ch) s2) fun x136 s137=>bind2 (ref11_PutChan.m k s2 x (⟨cap,0,0,0,buf,-1,-1,-1,-1⟩:Ch)) fun x145 s146=>(if (x136 != x145) then none else bind1 (pushM Lc x) fun L170=>law12_madeK.l5 L i1 k m L170 s137 s146 (IntKind.i64.wrap ((i:Int)+1))))=some (s',s',Lc',Lg')∧WI s'∧s'.ph=0∧Lc'.length≤4∧(i<L.length→i<4→i<Lc'.length)∧i≤Lc'.length∧Lg'.length=N∧(∀ x ∈ Lc',Wd x)∧∀ x ∈ Lg',Wd x:=by
          intro s2 buf cap W2 p2
          rw [rPutChan_m W2.ok x _ (by omega)]
          unfold pPutChan
          rw [bind2_y,bind2_y,if_neg (by simp)]
          unfold pushM
          rw [if_pos (by omega),bind1_y,wr_t _ (by omega) (by omega)]
          obtain ⟨s',Lc',Lg',e,a,b,c,_,d2,f,g,h⟩:=ih (i+1) (Lc ++ [x]) _ (W2.putChan x (c:=⟨cap,0,0,0,buf,-1,-1,-1,-1⟩) (by simp) (by simp)) (by rw [hPut_ph]; exact p2) (by simp [hl]) (fun y hy=>by
            rcases List.mem_append.1 hy with h | h
            · exact hw y h
            · simp only [List.mem_singleton] at h; subst h; exact wx) (by omega) (by omega)
          exact ⟨s',Lc',Lg',e,a,b,c,fun _ _=>by omega,by omega,f,g,h⟩
        split
        · obtain ⟨y,ey,_⟩:=balloc_m W1.ok Lc [] 2 (IntKind.i64.wrap (Int.tmod (IntKind.u64.wrap (atI L (i:Int))) 4)) k
          rw [ey,bind3_y]
          exact fin _ _ _ (W1.alloc _ _) (by rw [hAlloc_ph]; exact p1)
        · exact fin _ _ _ W1 p1
      · rw [show decide ((i:Int)<4)=false by rw [decide_eq_false_iff_not]; omega]
        exact stop fun _=>h2
    · rw [if_neg (lt_no h1)]
      exact stop fun h=>absurd h h1
theorem made12_m (L:List Int) (n:Int) {k:Nat} (hk:5000≤k):∃ s Lc Lg,law12_madeK.m k L n=some (s,s,Lc,Lg)∧WI s∧s.ph=0∧Lc.length≤4∧(0<L.length→0<Lc.length)∧1≤Lg.length∧Lg.length≤6∧(∀ x ∈ Lc,Wd x)∧∀ x ∈ Lg,Wd x:=by
  obtain ⟨c,hc,ec⟩:=u_mod n 6 (by omega)
  simp only [Int.cast_ofNat_Int] at ec
  have e1:pNew 60=some (hNew 60):=rfl
  have e2:prNew 60=some (hNew 60):=rfl
  have hN:IntKind.i64.wrap (1+(IntKind.i64.wrap (Int.tmod (IntKind.u64.wrap n) 6)))=((1+c:Nat):Int):=by
    rw [ec,wr_t (c:Int) (by omega) (by omega),wr_t (1+(c:Int)) (by omega) (by omega)]; omega
  unfold law12_madeK.m
  rw [e1,e2,bind1_y,bind1_y]
  obtain ⟨s',Lc',Lg',e,a,b,c1,c2,_,d,f,g⟩:=bchans_m (L:=L) hN (by omega) hk k 0 [] (hNew 60) (WI.new 60 (by omega) (by omega)) rfl rfl (by simp) (by omega) (by omega)
  exact ⟨s',Lc',Lg',e,a,b,c1,fun h=>c2 h (by omega),by omega,by omega,f,g⟩
theorem bch_m {s:HSt} {Lc Lg:List Int} (hl:Lc.length≤4) (hw:∀ x ∈ Lc,Wd x) (n:Int) (k:Nat):∃ x,law12_ch.m k s s Lc Lg n=some (x,s,s)∧Wd x∧(0<Lc.length→x ∈ Lc):=by
  unfold law12_ch.m
  obtain ⟨m,hm⟩:∃ m,Lc.length=m:=⟨_,rfl⟩
  rw [hm] at hl ⊢
  by_cases h0:m=0
  · rw [if_pos (by simp [h0])]
    exact ⟨-1,rfl,by unfold Wd; omega,fun h=>by omega⟩
  · rw [if_neg (by simpa using h0)]
    have hu:IntKind.u64.wrap (m:Int)=m:=by rw [IntKind.wrap_u64]; omega
    rw [hu,if_neg (by simpa using h0)]
    obtain ⟨c,hc,ec⟩:=u_mod n m (by omega)
    rw [ec,wr_t _ (by omega) (by omega),if_pos (inR_n hc),atI_n (by omega)]
    exact ⟨_,rfl,hw _ (List.getElem_mem _),fun _=>List.getElem_mem _⟩
theorem bgor_m {s:HSt} {Lc Lg:List Int} (hl:Lg.length≤6) (h1:1≤Lg.length) (hw:∀ x ∈ Lg,Wd x) (n:Int) (k:Nat):∃ x,law12_gor.m k s s Lc Lg n=some (x,s,s)∧Wd x∧x ∈ Lg:=by
  unfold law12_gor.m
  obtain ⟨m,hm⟩:∃ m,Lg.length=m:=⟨_,rfl⟩
  rw [hm] at hl h1 ⊢
  have hu:IntKind.u64.wrap (m:Int)=m:=by rw [IntKind.wrap_u64]; omega
  rw [hu,if_neg (by simp; omega)]
  obtain ⟨c,hc,ec⟩:=u_mod n m (by omega)
  rw [ec,wr_t _ (by omega) (by omega),if_pos (inR_n hc),atI_n (by omega)]
  exact ⟨_,rfl,hw _ (List.getElem_mem _),List.getElem_mem _⟩
theorem bobjs_n {s:HSt} (ok:HOk s):(hObjsF s.a).length≤4096:=by
  rw [← hObjsF_eq]; have:=hObjs_len (s:=s.a); have:=ok.a.len; have:=ok.len; omega
theorem bobjs_in {s:HSt} (ok:HOk s) {x:Int} (h:x ∈ hObjsF s.a):isObj s.a x=true∧inR x s.a.c.length=true∧0≤x∧x<4096:=by
  rw [← hObjsF_eq,mem_hObjs] at h
  obtain ⟨r0,r1⟩:=isObj_range h
  have:=ok.a.len; have:=ok.len
  exact ⟨h,by simp [inR]; omega,r0,by omega⟩
theorem balike_l4 {s:HSt} (ok:HOk s) {i:Nat} (hi:i<(hObjsF s.a).length) {R:Int→Option (Bool×HSt×HSt)}:∀ (m j:Nat),(j:Int)≤aLen s.a.c (hObjsF s.a)[i]→(aLen s.a.c (hObjsF s.a)[i]).toNat - j<m→law12_alike.l4 s s (i:Int) R m (j:Int)=R (IntKind.i64.wrap ((i:Int)+1)):=by
  have hb:=alen_bd ok.a (hObjsF s.a)[i]
  intro m
  induction m with
  | zero=>intro j _ h; omega
  | succ m ih =>
    intro j hj hm
    show law12_alike.l4b s s (i:Int) R (law12_alike.l4 s s (i:Int) R m) (j:Int)=_
    unfold law12_alike.l4b
    rw [if_pos (inR_n hi),atI_n hi]
    by_cases hlt:(j:Int)<aLen s.a.c (hObjsF s.a)[i]
    · rw [if_pos (by rw [decide_eq_true_eq]; exact hlt)]
      unfold pLoad
      rw [bind2_y,bind2_y,if_neg (by simp),wr_t _ (by omega) (by omega)]
      exact ih (j+1) (by omega) (by omega)
    · rw [if_neg (by rw [decide_eq_true_eq]; exact hlt)]
theorem balike_l3 {s:HSt} (ok:HOk s) {k:Nat} (hk:5000≤k):∀ (m i:Nat),i≤(hObjsF s.a).length→(hObjsF s.a).length - i<m→law12_alike.l3 s s k m (i:Int)=some (true,s,s):=by
  have hn:=bobjs_n ok
  intro m
  induction m with
  | zero=>intro i _ h; omega
  | succ m ih =>
    intro i hi hm
    show law12_alike.l3b s s k (law12_alike.l3 s s k m) (i:Int)=_
    unfold law12_alike.l3b
    by_cases hlt:i<(hObjsF s.a).length
    · obtain ⟨o1,o2,o3,o4⟩:=bobjs_in ok (List.getElem_mem hlt)
      have hb:=alen_bd ok.a (hObjsF s.a)[i]
      rw [if_pos (lt_yes hlt),if_pos (inR_n hlt),atI_n hlt,if_pos o2]
      unfold pColour
      rw [if_pos (wd_yes (by unfold Wd; omega)),bind1_y]
      have hc:hColour s (hObjsF s.a)[i]=s.col (hObjsF s.a)[i]:=by unfold hColour; rw [if_pos o1]
      rw [if_neg (by simp [hc])]
      have:=balike_l4 ok hlt (R:=law12_alike.l3 s s k m) k 0 (by omega) (by omega)
      rw [show ((0:Int))=((0:Nat):Int) from rfl,this,wr_t _ (by omega) (by omega)]
      exact ih (i+1) (by omega) (by omega)
    · rw [if_neg (lt_no hlt)]
theorem balike_m {s:HSt} (ok:HOk s) {k:Nat} (hk:5000≤k) (Lc Lg:List Int):law12_alike.m k s s Lc Lg=some (true,s,s):=by
  have hn:=bobjs_n ok
  unfold law12_alike.m
  rw [Plain_m (by omega) hk,bind1_y,if_neg (by simp)]
  exact balike_l3 ok hk k 0 (by omega) (by omega)
end Go.Proofs.YtffnjpapggidlaaGreat
/-
  The walk of 'dormouselaw12.RingPlays': the call returns true, in a world with at most new blocks.
-/
namespace Go.Proofs.YtffnjpapggidlaaGreat.ringPlays
open Go.RowKit
set_option linter.unusedVariables false

theorem awakeT : law12_awake.m 5000 = some true := by decide +kernel
theorem at_w {K : List Op12} (hw : ∀ o ∈ K, Wd o.w) {i : Nat} (hi : i < K.length) : Wd (atX kOp12 K (i : Int)).w := by
  unfold atX
  rw [List.getD_eq_getElem?_getD, Int.toNat_natCast, List.getElem?_eq_getElem hi]
  exact hw _ (List.getElem_mem hi)
theorem wrap_wd (x : Int) : Wd (IntKind.i64.wrap x) := by rw [IntKind.wrap_i64]; unfold Wd; omega
theorem end_m {s : HSt} (W : WI s) {k : Nat} (hk : 5000 ≤ k) (Lc Lg : List Int) (i : Nat) (hi : i ≤ 80) (R : HSt → HSt → Int → Option Bool) (x : Int) : RingPlays.j22 k Lc Lg (i : Int) R x s s true = R s s ((i + 1 : Nat) : Int) := by
  unfold RingPlays.j22 RingPlays.j23
  obtain ⟨L, hL, e1, e2⟩ := All_m W x (k := k) (by omega)
  rw [if_neg (by simp), balike_m W.ok hk, bind3_y, if_neg (by simp), e1, bind2_y, e2, bind2_y, Plain_m (by omega) hk, bind1_y]
  rw [if_neg (by simp), wr_t _ (by omega) (by omega)]
  rfl
theorem put_m {s : HSt} (W : WI s) {k : Nat} (hk : 5000 ≤ k) (Lc Lg : List Int) (i : Nat) (hi : i ≤ 80) (R : HSt → HSt → Int → Option Bool) (x v : Int) (hv : Wd v) : ∃ s', WI s' ∧ RingPlays.j29 k Lc Lg (i : Int) R x s s v = R s' s' ((i + 1 : Nat) : Int) := by
  unfold RingPlays.j29 RingPlays.j27 RingPlays.j25
  obtain ⟨e, s', e1, e2, W', _⟩ := Put_m W x hv (k := k) (by omega)
  rw [e1, e2, bind2_y, bind2_y, show (e == e) = true by simp, end_m W' hk Lc Lg i hi]
  exact ⟨s', W', rfl⟩
theorem all_l20 {K : List Op12} (hw : ∀ o ∈ K, Wd o.w) {Lc Lg : List Int} (hc : Lc.length ≤ 4) (wc : ∀ x ∈ Lc, Wd x) (hg : Lg.length ≤ 6) (hg1 : 1 ≤ Lg.length) (wg : ∀ x ∈ Lg, Wd x) {k : Nat} (hk : 5000 ≤ k) : ∀ (m i : Nat) (s : HSt), WI s → i ≤ 80 → 80 - i < m → RingPlays.l20 K k Lc Lg m s s (i : Int) = some true := by
  intro m
  induction m with
  | zero => intro i _ _ _ h; omega
  | succ m ih =>
    intro i s W hi hm
    show RingPlays.l20b K k Lc Lg (RingPlays.l20 K k Lc Lg m) s s (i : Int) = _
    unfold RingPlays.l20b
    have stop : RingPlays.j21 K k Lc Lg s s (i : Int) (RingPlays.l20 K k Lc Lg m) false = some true := by unfold RingPlays.j21; rw [if_neg Bool.false_ne_true]
    by_cases h1 : i < K.length
    · rw [if_pos (lt_yes h1)]
      by_cases h2 : i < 80
      · rw [show decide ((i : Int) < 80) = true by rw [decide_eq_true_eq]; omega]
        have go : ∀ s', WI s' → RingPlays.l20 K k Lc Lg m s' s' ((i + 1 : Nat) : Int) = some true := fun s' W' => ih (i + 1) s' W' (by omega) (by omega)
        unfold RingPlays.j21
        obtain ⟨x, ex, wx, _⟩ := bch_m (s := s) (Lg := Lg) hc wc (atX kOp12 K (i : Int)).ch k
        rw [if_pos rfl, if_pos (inR_n h1), ex, bind3_y]
        split
        · obtain ⟨v, e, s', e1, e2, W', _⟩ := Take_m W x (k := k) (by omega)
          rw [e1, e2, bind3_y, bind3_y]
          unfold RingPlays.j24
          rw [if_pos (by simp), show (e == e) = true by simp, end_m W' hk Lc Lg i hi]
          exact go s' W'
        · split
          · unfold pBegin RingPlays.j26 RingPlays.j25
            rw [if_pos (by simp [wd_yes wx]), bind2_y, bind2_y]
            rw [show (hBeginE s == hBeginE s) = true by simp, end_m (W.begin [x]) hk Lc Lg i hi]
            exact go _ (W.begin [x])
          · split
            · split
              · rename_i h1 
                unfold pStep RingPlays.j28 RingPlays.j27 RingPlays.j25
                rw [rStep_m W.ok hk, ← hStepF_eq]
                have e : (hStep s).2 = (hMark s).2 := by unfold hStep; rw [if_pos (by simpa using h1)]
                have W' : WI (hStep s).2 := by rw [e]; exact W.mark
                obtain ⟨L, s', es⟩ : ∃ L s', hStep s = (L, s') := ⟨_, _, rfl⟩
                rw [es] at W' ⊢
                rw [bind2_y, bind2_y, end_m W' hk Lc Lg i hi]
                exact go _ W'
              · unfold RingPlays.j28 RingPlays.j27 RingPlays.j25
                rw [end_m W hk Lc Lg i hi]
                exact go _ W
            · split
              · obtain ⟨g, eg, _, _⟩ := bgor_m (s := s) (Lc := Lc) hg hg1 wg 0 k
                rw [eg, bind3_y]
                obtain ⟨s', W', e⟩ := put_m W hk Lc Lg i hi (RingPlays.l20 K k Lc Lg m) x (IntKind.i64.wrap ((IntKind.i64.wrap (2 * g)) + 1)) (wrap_wd _)
                rw [e]
                exact go _ W'
              · obtain ⟨s', W', e⟩ := put_m W hk Lc Lg i hi (RingPlays.l20 K k Lc Lg m) x _ (at_w hw h1)
                rw [e]
                exact go _ W'
      · rw [show decide ((i : Int) < 80) = false by rw [decide_eq_false_iff_not]; omega]
        exact stop
    · rw [if_neg (lt_no h1)]
      exact stop
theorem pureK {k : Nat} (hk : 5000 ≤ k) (ha : law12_awake.m k = some true) (L : List Int) (K : List Op12) (hw : ∀ o ∈ K, Wd o.w) : RingPlays.m k L K = some true := by
  obtain ⟨s, Lc, Lg, e, W, _, hc, _, hg1, hg, wc, wg⟩ := made12_m L 1 hk
  unfold RingPlays.m
  rw [e]
  show bind1 (law12_awake.m k) _ = _
  rw [ha, bind1_y, if_neg (by simp)]
  unfold RingPlays.j1
  rw [if_neg Bool.false_ne_true]
  exact all_l20 hw hc wc hg hg1 wg hk k 0 s W (by omega) (by omega)
theorem pure (L : List Int) (K : List Op12) (hw : ∀ o ∈ K, Wd o.w) : RingPlays.m 5000 L K = some true := pureK (Nat.le_refl _) awakeT L K hw
theorem walk (a0 : Option Addr) (len0 cap0 : Nat) (z0 : List Int) (a1 : Option Addr) (len1 cap1 : Nat) (f1 : Nat → Nat → Int) (w : World) (w0 : IsRow .i64 w a0 len0 cap0 z0) (w1 : ArgOps w (.slice a1 len1 cap1) 3 len1 f1) :
    Calls Tryz.prog 7 #[.slice a0 len0 cap0, .slice a1 len1 cap1] w fun e w' => e = .returned (.bool true) ∧ Below w.heap.size w w' := by
  obtain ⟨hA, hwd⟩ := argX_of kOp12 (fun f => ⟨f 0, f 1, f 2⟩) (fun f => rfl) w1
  obtain ⟨K1, e1, h1, hw⟩ : ∃ K1 : List Op12, K1.length = len1 ∧ ArgX kOp12 w (.slice a1 len1 cap1) K1 ∧ ∀ o ∈ K1, Wd o.w := ⟨_, by simp, hA, fun o ho => by
    simp only [List.mem_map, List.mem_range] at ho
    obtain ⟨i, hi, rfl⟩ := ho
    exact hwd i hi 2 (by decide)⟩
  obtain ⟨K0, e0, h0⟩ := argInts_len w0
  subst e1
  subst e0
  exact (RingPlays.ok h0 h1 (St.empty w) (pure K0 K1 hw)).mono fun e w' ⟨he, h⟩ => ⟨he, h.old⟩

end Go.Proofs.YtffnjpapggidlaaGreat.ringPlays
/-
  'RingPlaysSaid' ('dormouselaw12.RingPlays'): for every input the law returns true, and each argument reads behind the call as it did before.
  Conditions: none beyond the given row's own.
-/
namespace Go.Proofs.YtffnjpapggidlaaGreat.ringPlays
open Go.ChangeShapes Go.WideShapes Go.ChangeAt Go.RowKit
set_option linter.unusedVariables false

theorem own : ownKnob Tryz.prog.godebug = none := by kernel_rfl
theorem laidOut : laidOutB Tryz.prog = true := by kernel_rfl

/-! ### THE ROW -/
set_option maxRecDepth 100000 in
theorem lifted (os : Os) (started : os.Started) (H : Type) (enc : TypeId × Value → H) :
    ReturnsInHanded {} Tryz.checked os 7 .any (Rows.ringPlaysSpec.pre6 enc Tryz.prog Tryz.f7 Rows.ringPlaysRow.domain false) (Rows.ringPlaysSpec.post enc Tryz.prog Tryz.f7 false true false false) := by
  refine returnsInHanded_of_change (C := Tryz.checked) own started (by kernel_rfl) Tryz.func7
    (ChangeSpec.witness6 (enc := enc) (C := Tryz.checked) false ⟨#[], #[.slice none 0 0, .slice none 0 0], []⟩ 8 (by kernel_rfl) (by kernel_rfl) (by kernel_rfl) (by kernel_rfl)) ?_
  intro W base args ds gs before hval0 hW hcnd _
  have hval : ∀ (j : Nat) t v, Tryz.f7.params[j]? = some t → args[j]? = some v → Value.okWide Tryz.prog W .any base t v := hval0
  have hW' := hW
  obtain ⟨p, q, hA0, hV, rfl, hfz, hnd⟩ := hW
  have hA : DataW.TrodAll enc Tryz.prog W 0 (fun _ => true) true Tryz.f7.params.toList args.toList ds p := hA0
  rw [Tryz.params7] at hA hval
  obtain ⟨v0, vs0, d0, ds0, p0, q0, hargs, rfl, rfl, h0, r0⟩ := trodAll_cons hA
  obtain ⟨v1, vs1, d1, ds1, p1, q1, rfl, rfl, rfl, h1, r1⟩ := trodAll_cons r0
  obtain ⟨rfl, rfl, rfl⟩ := trodAll_nil r1
  obtain rfl : args = #[v0, v1] := by cases args; simp_all
  obtain ⟨rfl, rfl⟩ := trodVars_none hV
  obtain ⟨a0, len0, cap0, rfl⟩ := okWide_slice Tryz.underlying47 (hval 0 47 v0 rfl rfl)
  have k0 := h0
  have lt0 : ∀ x ∈ p0, x.block < W.heap.size := by obtain ⟨m, hm⟩ := k0; exact DataW.trod_lt m _ _ _ hm
  obtain ⟨z0, w0⟩ : ∃ zs, IsRow .i64 W a0 len0 cap0 zs := by
    obtain ⟨fuel, hf⟩ := h0
    rcases open_ints Tryz.underlying47 Tryz.underlying3 (by kernel_rfl) hf with ⟨hcs, _⟩ | ⟨x, l, c, zs, hcs, _, hl, hm, hz, _, hcell, hwz⟩
    · simp [Value.cells] at hcs
      obtain ⟨rfl, rfl, rfl⟩ := hcs
      exact ⟨[], .inl ⟨rfl, rfl, rfl, rfl⟩⟩
    · simp [Value.cells] at hcs
      obtain ⟨rfl, rfl, rfl⟩ := hcs
      exact ⟨zs, .inr ⟨_, rfl, hl, hm, by simpa using hz, hcell, hwz⟩⟩
  obtain ⟨a1, len1, cap1, rfl⟩ := okWide_slice Tryz.underlying88 (hval 1 88 v1 rfl rfl)
  have k1 := h1
  have lt1 : ∀ x ∈ p1, x.block < W.heap.size := by obtain ⟨m, hm⟩ := k1; exact DataW.trod_lt m _ _ _ hm
  obtain ⟨f1, w1⟩ : ∃ f, ArgOps W (.slice a1 len1 cap1) 3 len1 f := by
    obtain ⟨fuel, hf⟩ := h1
    exact ops_open Tryz.underlying88 Tryz.underlying92 (by kernel_rfl) (by kernel_rfl) (by intro j f hj; match j, hj with | 0, hj => (cases hj; exact Tryz.underlying3) | 1, hj => (cases hj; exact Tryz.underlying3) | 2, hj => (cases hj; exact Tryz.underlying3) | (n + 3), hj => cases hj) (by decide) hf
  clear hA0 hval0
  refine (walk a0 len0 cap0 z0 a1 len1 cap1 f1 W w0 w1).mono fun e W' ⟨he, bel⟩ => ?_
  subst he
  exact ⟨_, rfl, _, _, _, [], _, [], hW', trodAll_mk1 (shut_bool Tryz.underlying4 _), (trodAll_cons_mk (Below.trod laidOut (by kernel_rfl) (of_decide_eq_true (by kernel_rfl)) k0 bel lt0) (trodAll_cons_mk (Below.trod laidOut (by kernel_rfl) (of_decide_eq_true (by kernel_rfl)) k1 bel lt1) trodAll_mk0)), rfl, bel.frame _, fun h => by cases h⟩

theorem over : Rows.ringPlaysRow.holds Tryz.pinned (OpenSpec.ofChange Rows.ringPlaysSpec) :=
  OpenClaim.holds_of_wide 7 Tryz.f7 rfl rfl rfl rfl rfl rfl rfl ⟨rfl, rfl, rfl, rfl, rfl⟩ rfl rfl rfl rfl rfl (by kernel_rfl) Tryz.func7 (by kernel_rfl)
    (of_decide_eq_true (by kernel_rfl)) (by unfold Func.isWrapper; first | (rw [if_pos (by decide +kernel)]; kernel_rfl) | (rw [if_neg (by decide +kernel)]; exact ⟨rfl, rfl⟩))
    (fun os started H enc _ => lifted os started H enc)

/-- THE STATEMENT -/
theorem proved : Rows.RingPlaysSaid := over
#print axioms proved
end Go.Proofs.YtffnjpapggidlaaGreat.ringPlays
