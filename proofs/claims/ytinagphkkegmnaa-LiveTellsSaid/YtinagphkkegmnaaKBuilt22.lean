/- Built22 -/
import Derived.Test.YtinagphkkegmnaaKG22Q
import Derived.Test.YtinagphkkegmnaaKGLive
import Derived.Test.YtinagphkkegmnaaKSepLit
namespace Go.Proofs.Ytinagphkkegmnaa
open Go.RowKit
set_option linter.unusedVariables false
set_option linter.unusedSimpArgs false
structure Idle (s:HSt):Prop where
  ok:HOk s
  ph:s.ph=0
theorem Idle.g {s:HSt} (h:Idle s):s.g=[]:=h.ok.gnil (by rw [h.ph]; decide)
theorem store_ph (p i x:Int) (s:HSt):(hStore p i x s).ph=s.ph:=by
  unfold hStore
  split
  · rw [shadeW_ph]
  · rfl
theorem alloc_ph (k n:Int) (s:HSt):(hAlloc k n s).ph=s.ph:=by
  unfold hAlloc
  split
  · rfl
  · split <;> rfl
theorem Idle.store {s:HSt} (h:Idle s) (p i:Int) {x:Int} (hx:Wd x):Idle (hStore p i x s):=⟨h.ok.store p i hx,by rw [store_ph]; exact h.ph⟩
theorem Idle.alloc {s:HSt} (h:Idle s) (k n:Int):Idle (hAlloc k n s):=⟨h.ok.alloc k n,by rw [alloc_ph]; exact h.ph⟩
theorem Idle.free {s:HSt} (h:Idle s) (p:Int):Idle { s with a:=aFreeS p s.a }:=⟨h.ok.freeA (by rw [h.g]; simp),h.ph⟩
theorem w64_wd (x:Int):Wd (wrap64 x):=by unfold wrap64 Wd; omega
theorem wd_B {x:Int} (h:Wd x):wdB x=true:=by unfold wdB; unfold Wd at h; simp; omega
theorem pStore_some {s:HSt} (h:Idle s) (p i:Int) {x:Int} (hx:Wd x):∃ s',Idle s'∧pStore p i x s=some (aErr p i s.a,s'):=by
  refine ⟨hStore p i x s,h.store p i hx,?_⟩
  unfold pStore
  rw [if_pos (wd_B hx)]
theorem pFree_some {s:HSt} (h:Idle s) (p:Int):∃ s',Idle s'∧pFree p s=some (aFreeE p s.a,s'):=by
  refine ⟨_,h.free p,?_⟩
  unfold pFree
  rw [if_neg (by rw [h.g]; simp)]
theorem built_j13 {K:List Op22} {s:HSt} (h:Idle s) (x to at':Int) (hw:Wd (atX kOp K x).w) (R:HSt→HSt→Int→Option (HSt×HSt)) :
    ∃ s',Idle s'∧law22_builtQ.j13 K s s x R to at'=R s' s' (IntKind.i64.wrap (x+1)):=by
  unfold law22_builtQ.j13
  split
  · obtain ⟨s',h',e⟩:=pStore_some h at' (atX kOp K x).i hw
    unfold bind2
    rw [e]
    exact ⟨s',h',rfl⟩
  · split
    · unfold bind1
      simp only [Option.bind_some]
      obtain ⟨s',h',e⟩:=pStore_some h at' (IntKind.i64.wrap (Int.tmod (IntKind.u64.wrap ((atX kOp K x).i)) 10)) (w64_wd (wrap64 (to * 2)+1))
      unfold bind2
      rw [e]
      exact ⟨s',h',rfl⟩
    · split
      · obtain ⟨s',h',e⟩:=pFree_some h at'
        unfold bind2
        rw [e]
        exact ⟨s',h',rfl⟩
      · unfold bind1
        simp only [Option.bind_some]
        obtain ⟨c,hc,ec⟩:=u_mod (atX kOp K x).of 6 (by omega)
        simp only [Int.cast_ofNat_Int] at ec
        rw [ec,wrap_s (c:Int) (by omega) (by omega),wrap_s (1+(c:Int)) (by omega) (by omega),if_pos (by simp [inR]; omega)]
        exact ⟨_,h.alloc _ _,rfl⟩
theorem built_step {K:List Op22} {s:HSt} (h:Idle s) {i:Nat} (hi:i<K.length) (hw:∀ o ∈ K,Wd o.w) (R:HSt→HSt→Int→Option (HSt×HSt)) :
    ∃ s',Idle s'∧law22_builtQ.j12 K s s (i:Int) R true=R s' s' (IntKind.i64.wrap ((i:Int)+1)):=by
  have hwi:Wd (atX kOp K (i:Int)).w:=by
    unfold atX
    rw [List.getD_eq_getElem?_getD,Int.toNat_natCast,List.getElem?_eq_getElem hi]
    exact hw _ (List.getElem_mem hi)
  unfold law22_builtQ.j12
  rw [if_pos rfl,if_pos (by simp [inR]; omega)]
  by_cases hl:(hObjsF s.a).length > 0
  · rw [if_pos (by simpa using hl)]
    have hlen:(hObjsF s.a).length≤4096:=by
      rw [← hObjsF_eq]; have:=objs_len s.a; have:=h.ok.a.len; have:=h.ok.len; omega
    obtain ⟨n,hn⟩:∃ n,(hObjsF s.a).length=n:=⟨_,rfl⟩
    rw [hn] at hlen hl ⊢
    have hu:IntKind.u64.wrap (n:Int)=n:=by rw [IntKind.wrap_u64]; omega
    rw [hu,if_neg (by simp; omega)]
    obtain ⟨c,hc,ec⟩:=u_mod (atX kOp K (i:Int)).at' n hl
    obtain ⟨d,hd,ed⟩:=u_mod (atX kOp K (i:Int)).to n hl
    rw [ec,ed,wrap_s (c:Int) (by omega) (by omega),wrap_s (d:Int) (by omega) (by omega),if_pos (by simp [inR]; omega),if_pos (by simp [inR]; omega)]
    exact built_j13 h _ _ _ hwi R
  · rw [if_neg (by simpa using hl)]
    exact built_j13 h _ _ _ hwi R
theorem built_l11 {K:List Op22} (hw:∀ o ∈ K,Wd o.w):∀ (m i:Nat) (s:HSt),Idle s→i≤60→60 - i<m→∃ s',Idle s'∧law22_builtQ.l11 K m s s (i:Int)=some (s',s'):=by
  intro m
  induction m with
  | zero=>intro i _ _ _ h; omega
  | succ m ih =>
    intro i s h hi hm
    show ∃ s',Idle s'∧law22_builtQ.l11b K (law22_builtQ.l11 K m) s s (i:Int)=_
    unfold law22_builtQ.l11b
    have stop:∀ y,y=false→∃ s',Idle s'∧law22_builtQ.j12 K s s (i:Int) (law22_builtQ.l11 K m) y=some (s',s'):=fun y hy=>⟨s,h,by unfold law22_builtQ.j12; rw [hy,if_neg Bool.false_ne_true]⟩
    by_cases h1:i<K.length
    · rw [if_pos (by simpa using h1)]
      by_cases h2:i<60
      · have e2:decide ((i:Int)<60)=true:=by rw [decide_eq_true_eq]; omega
        rw [e2]
        have key:∀ s',Idle s'→∃ r,Idle r∧law22_builtQ.l11 K m s' s' (IntKind.i64.wrap ((i:Int)+1))=some (r,r):=by
          intro s' h'
          rw [wrap_s _ (by omega) (by omega)]
          exact ih (i+1) s' h' (by omega) (by omega)
        have all:∃ r,Idle r∧law22_builtQ.j12 K s s (i:Int) (law22_builtQ.l11 K m) true=some (r,r):=by
          obtain ⟨s',h',e⟩:=built_step h h1 hw (law22_builtQ.l11 K m)
          rw [e]
          exact key s' h'
        exact all
      · exact stop _ (by rw [decide_eq_false_iff_not]; omega)
    · rw [if_neg (by simpa using h1)]
      exact stop _ rfl
theorem builtQ_m (K:List Op22) (hw:∀ o ∈ K,Wd o.w) {k:Nat} (hk:100≤k):∃ s,Idle s∧law22_builtQ.m k K=some (s,s):=by
  have e1:pNew 6=some (hNew 6):=rfl
  have e2:prNew 6=some (hNew 6):=rfl
  unfold law22_builtQ.m bind1
  rw [e1,e2]
  simp only [Option.bind_some]
  exact built_l11 hw k 0 (hNew 6) ⟨HOk.new 6 (by omega) (by omega),rfl⟩ (by omega) (by omega)
end Go.Proofs.Ytinagphkkegmnaa
