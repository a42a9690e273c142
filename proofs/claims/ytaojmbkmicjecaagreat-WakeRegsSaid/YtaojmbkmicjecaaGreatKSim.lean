/- Sim -/
import Derived.Test.YtaojmbkmicjecaaGreatKPrimV
import Derived.Test.YtaojmbkmicjecaaGreatKGView
namespace Go.Proofs.YtaojmbkmicjecaaGreat
open Go.RowKit
set_option linter.unusedVariables false
def Sim (s u:HSt):Prop:=s.a=u.a∧s.ph=1
inductive RelP {α:Type} (Q:α→α→Prop):Option α→Option α→Prop
  | no:RelP Q none none
  | yes {r u:α} (h:Q r u):RelP Q (some r) (some u)
theorem RelP.out {α:Type} {Q:α→α→Prop} {r u:α} (h:RelP Q (some r) (some u)):Q r u:=by
  cases h with
  | yes h=>exact h
section
variable {α β γ δ R:Type} {P:R→R→Prop}
theorem RelP.same {m:Option α}:RelP (fun r u=>r=u) m m:=by
  cases m
  · exact .no
  · exact .yes rfl
theorem RelP.when {c:Prop} [Decidable c] {a a' b b':Option R} (h1:RelP P a a') (h2:RelP P b b'):RelP P (if c then a else b) (if c then a' else b'):=by
  split
  · exact h1
  · exact h2
theorem RelP.b1 {Q:α→α→Prop} {m m':Option α} {f f':α→Option R} (hm:RelP Q m m') (hf:∀ x u,Q x u→RelP P (f x) (f' u)):RelP P (bind1 m f) (bind1 m' f'):=by
  cases hm with
  | no=>exact .no
  | yes h=>exact hf _ _ h
theorem RelP.b2 {Q:α×β→α×β→Prop} {m m':Option (α×β)} {f f':α→β→Option R} (hm:RelP Q m m') (hf:∀ x y u v,Q (x,y) (u,v)→RelP P (f x y) (f' u v)):RelP P (bind2 m f) (bind2 m' f'):=by
  cases hm with
  | no=>exact .no
  | yes h=>exact hf _ _ _ _ h
theorem RelP.b3 {Q:α×β×γ→α×β×γ→Prop} {m m':Option (α×β×γ)} {f f':α→β→γ→Option R} (hm:RelP Q m m') (hf:∀ x y z u v w,Q (x,y,z) (u,v,w)→RelP P (f x y z) (f' u v w)):RelP P (bind3 m f) (bind3 m' f'):=by
  cases hm with
  | no=>exact .no
  | yes h=>exact hf _ _ _ _ _ _ h
theorem RelP.opt {x:Option α} {A A':Option R} {B B':α→Option R} (ha:RelP P A A') (hb:∀ q,RelP P (B q) (B' q)):RelP P (optE x A B) (optE x A' B'):=by
  cases x
  · exact ha
  · exact hb _
theorem RelP.sum {x:α ⊕ β} {A A':α→Option R} {B B':β→Option R} (ha:∀ q,RelP P (A q) (A' q)) (hb:∀ q,RelP P (B q) (B' q)):RelP P (sumE x A B) (sumE x A' B'):=by
  cases x
  · exact ha _
  · exact hb _
end
section
variable {s u:HSt}
theorem pSudog_sim {p:Int} (h:Sim s u):RelP (fun r u=>r.1=u.1∧r.2=u.2) (pSudog p s) (pSudog p u):=by
  unfold pSudog; rw [h.1]; exact .yes ⟨rfl,rfl⟩
theorem pChan_sim {p:Int} (h:Sim s u):RelP (fun r u=>r.1=u.1∧r.2=u.2) (pChan p s) (pChan p u):=by
  unfold pChan; rw [h.1]; exact .yes ⟨rfl,rfl⟩
theorem pSeen4_sim {p:Int} (h:Sim s u):RelP (fun r u=>r.1=u.1∧r.2=u.2) (pSeen4 p s) (pSeen4 p u):=by
  unfold pSeen4; rw [h.1]; exact .yes ⟨rfl,rfl⟩
theorem putTo_a {p:Int} {old l:List Int}:∀ (k:Nat) {h h':HSt},h.a=h'.a→(hPutTo p old l k h).a=(hPutTo p old l k h').a∧(hPutTo p old l k h).ph=h.ph
  | 0,_,_,e=>⟨e,rfl⟩
  | k+1,h,h',e=>by
    obtain ⟨e1,e2⟩:=putTo_a k e
    unfold hPutTo
    split
    · exact ⟨e1,e2⟩
    · refine ⟨by rw [store_a,store_a,e1],?_⟩
      rw [← e2]
      unfold hStore
      split
      · rw [shadeW_ph]
      · rfl
theorem put_sim {p kind:Int} {n:Nat} {l:List Int} (h:Sim s u):Sim (hPut p kind n l s) (hPut p kind n l u):=by
  unfold hPut
  rw [← h.1]
  split
  · obtain ⟨e1,e2⟩:=putTo_a (p:=p) (old:=aWords s.a p) (l:=l) n h.1
    exact ⟨e1,e2.trans h.2⟩
  · exact h
theorem pPutChan_sim {p:Int} {c:Ch} (h:Sim s u):RelP (fun r u=>r.1=u.1∧Sim r.2 u.2) (pPutChan p c s) (pPutChan p c u):=by
  unfold pPutChan; exact .yes ⟨by rw [h.1],put_sim h⟩
theorem pPutSudog_sim {p:Int} {c:Su} (h:Sim s u):RelP (fun r u=>r.1=u.1∧Sim r.2 u.2) (pPutSudog p c s) (pPutSudog p c u):=by
  unfold pPutSudog; exact .when (.yes ⟨by rw [h.1],put_sim h⟩) .no
theorem pPutGor_sim {p:Int} {c:Gr} (h:Sim s u):RelP (fun r u=>r.1=u.1∧Sim r.2 u.2) (pPutGor p c s) (pPutGor p c u):=by
  unfold pPutGor; exact .when (.yes ⟨by rw [h.1],put_sim h⟩) .no
theorem shade_a1 (p:Int) (h:HSt):(hShade p h).a=h.a:=by
  unfold hShade hPush
  split <;> (try split) <;> rfl
theorem pShade_sim {p:Int} (h:Sim s u):RelP (fun r u=>Sim r u) (pShade p s) (pShade p u):=by
  unfold pShade; exact .when (.yes ⟨by rw [shade_a1,shade_a1,h.1],(shade_ph p s).trans h.2⟩) .no
end
theorem view_Gor.l2b_sim {s0 s0u:HSt} {L10:List Int} {x48:Int} {x49:Int} {x50:Int} {rec69 rec69u:Int→Int→Int→Int→Int→Int→Int→Option (Gr×Int×HSt)} {x60:Int} {x61:Int} {x62:Int} {x63:Int} {x64:Int} {x65:Int} {x66:Int} (hs0:Sim s0 s0u) (hrec69:∀ y0 y1 y2 y3 y4 y5 y6,RelP (fun r u=>r.1=u.1∧r.2.1=u.2.1∧Sim r.2.2 u.2.2) (rec69 y0 y1 y2 y3 y4 y5 y6) (rec69u y0 y1 y2 y3 y4 y5 y6)):RelP (fun r u=>r.1=u.1∧r.2.1=u.2.1∧Sim r.2.2 u.2.2) (view_Gor.l2b s0 L10 x48 x49 x50 rec69 x60 x61 x62 x63 x64 x65 x66) (view_Gor.l2b s0u L10 x48 x49 x50 rec69u x60 x61 x62 x63 x64 x65 x66):=by
  unfold view_Gor.l2b
  refine .when ?_ ?_
  · skip
    refine .when ?_ ?_
    · skip
      refine .when ?_ ?_
      · skip
        exact hrec69 _ _ _ _ _ _ _
      · skip
        refine .when ?_ ?_
        · skip
          exact hrec69 _ _ _ _ _ _ _
        · skip
          refine .when ?_ ?_
          · skip
            exact hrec69 _ _ _ _ _ _ _
          · skip
            refine .when ?_ ?_
            · skip
              exact hrec69 _ _ _ _ _ _ _
            · skip
              refine .when ?_ ?_
              · skip
                exact hrec69 _ _ _ _ _ _ _
              · skip
                refine .when ?_ ?_
                · skip
                  exact hrec69 _ _ _ _ _ _ _
                · skip
                  exact .no
    · skip
      exact .no
  · skip
    refine .when ?_ ?_
    · skip
      refine .b1 (RelP.same) ?_
      intro x174 x174u hq
      have hx174:=hq
      replace hx174:x174=x174u:=hx174
      subst hx174
      exact .yes ⟨rfl,rfl,hs0⟩
    · skip
      exact .no
theorem view_Gor.l2_sim {s0 s0u:HSt} {L10:List Int} {x48:Int} {x49:Int} {x50:Int} (hs0:Sim s0 s0u):∀ (f:Nat) (y0:Int) (y1:Int) (y2:Int) (y3:Int) (y4:Int) (y5:Int) (y6:Int),RelP (fun r u=>r.1=u.1∧r.2.1=u.2.1∧Sim r.2.2 u.2.2) (view_Gor.l2 s0 L10 x48 x49 x50 f y0 y1 y2 y3 y4 y5 y6) (view_Gor.l2 s0u L10 x48 x49 x50 f y0 y1 y2 y3 y4 y5 y6)
  | 0,_,_,_,_,_,_,_=>.no
  | f+1,_,_,_,_,_,_,_=>view_Gor.l2b_sim hs0 (view_Gor.l2_sim hs0 f)
theorem view_Gor.j1_sim {s0 s0u:HSt} {k:Nat} {L10:List Int} {x48:Int} {x49:Int} {x50:Int} (hs0:Sim s0 s0u):RelP (fun r u=>r.1=u.1∧r.2.1=u.2.1∧Sim r.2.2 u.2.2) (view_Gor.j1 s0 k L10 x48 x49 x50) (view_Gor.j1 s0u k L10 x48 x49 x50):=by
  unfold view_Gor.j1
  exact view_Gor.l2_sim hs0 _ _ _ _ _ _ _ _
theorem view_Gor.m_sim {k:Nat} {s0 s0u:HSt} {i1:Int} (hs0:Sim s0 s0u):RelP (fun r u=>r.1=u.1∧r.2.1=u.2.1∧Sim r.2.2 u.2.2) (view_Gor.m k s0 i1) (view_Gor.m k s0u i1):=by
  unfold view_Gor.m
  refine .b2 (pSeen4_sim hs0) ?_
  intro L10 x11 L10u x11u hq
  obtain ⟨hL10,hx11⟩:=hq
  replace hL10:L10=L10u:=hL10
  subst hL10
  replace hx11:x11=x11u:=hx11
  subst hx11
  refine .when ?_ ?_
  · skip
    exact .yes ⟨rfl,rfl,hs0⟩
  · skip
    refine .when ?_ ?_
    · skip
      refine .when ?_ ?_
      · skip
        refine .when ?_ ?_
        · skip
          refine .b1 (RelP.same) ?_
          intro x215 x215u hq
          have hx215:=hq
          replace hx215:x215=x215u:=hx215
          subst hx215
          refine .b1 (RelP.same) ?_
          intro x222 x222u hq
          have hx222:=hq
          replace hx222:x222=x222u:=hx222
          subst hx222
          refine .b1 (RelP.same) ?_
          intro x229 x229u hq
          have hx229:=hq
          replace hx229:x229=x229u:=hx229
          subst hx229
          exact view_Gor.j1_sim hs0
        · skip
          exact .no
      · skip
        exact .no
    · skip
      exact .no
theorem list_look.m_sim {k:Nat} {s0 s0u:HSt} {i1:Int} (hs0:Sim s0 s0u):RelP (fun r u=>r.1=u.1∧Sim r.2 u.2) (list_look.m k s0 i1) (list_look.m k s0u i1):=by
  unfold list_look.m
  refine .b2 (pSudog_sim hs0) ?_
  intro q5 x6 q5u x6u hq
  obtain ⟨hq5,hx6⟩:=hq
  replace hq5:q5=q5u:=hq5
  subst hq5
  replace hx6:x6=x6u:=hx6
  subst hx6
  refine .when ?_ ?_
  · skip
    exact .yes ⟨rfl,hs0⟩
  · skip
    exact .yes ⟨rfl,hs0⟩
theorem list_follow.m_sim {k:Nat} {s0 s0u:HSt} {i1:Int} {i2:Int} (hs0:Sim s0 s0u):RelP (fun r u=>Sim r u) (list_follow.m k s0 i1 i2) (list_follow.m k s0u i1 i2):=by
  unfold list_follow.m
  refine .b2 (list_look.m_sim hs0) ?_
  intro o3 s4 o3u s4u hq
  obtain ⟨ho3,hs4⟩:=hq
  replace ho3:o3=o3u:=ho3
  subst ho3
  refine .opt ?_ fun q27=>?_
  · skip
    exact .yes hs4
  · skip
    refine .b2 (pPutSudog_sim hs4) ?_
    intro x53 s54 x53u s54u hq
    obtain ⟨hx53,hs54⟩:=hq
    replace hx53:x53=x53u:=hx53
    subst hx53
    exact .yes hs54
theorem list_All.l1b_sim {k:Nat} {rec64 rec64u:List Int→HSt→Int→Option (List Int×HSt)} {L58:List Int} {s60 s60u:HSt} {x61:Int} (hrec64:∀ y0 y1 z1 y2,Sim y1 z1→RelP (fun r u=>r.1=u.1∧Sim r.2 u.2) (rec64 y0 y1 y2) (rec64u y0 z1 y2)) (hs60:Sim s60 s60u):RelP (fun r u=>r.1=u.1∧Sim r.2 u.2) (list_All.l1b k rec64 L58 s60 x61) (list_All.l1b k rec64u L58 s60u x61):=by
  unfold list_All.l1b
  refine .b1 (RelP.same) ?_
  intro y75 y75u hq
  have hy75:=hq
  replace hy75:y75=y75u:=hy75
  subst hy75
  refine .when ?_ ?_
  · skip
    refine .b2 (list_look.m_sim hs60) ?_
    intro o90 s91 o90u s91u hq
    obtain ⟨ho90,hs91⟩:=hq
    replace ho90:o90=o90u:=ho90
    subst ho90
    refine .opt ?_ fun q116=>?_
    · skip
      exact .yes ⟨rfl,hs91⟩
    · skip
      refine .b1 (RelP.same) ?_
      intro L134 L134u hq
      have hL134:=hq
      replace hL134:L134=L134u:=hL134
      subst hL134
      exact hrec64 _ _ _ _ hs91
  · skip
    exact .yes ⟨rfl,hs60⟩
theorem list_All.l1_sim {k:Nat}:∀ (f:Nat) (y0:List Int) (y1 z1:HSt) (y2:Int),Sim y1 z1→RelP (fun r u=>r.1=u.1∧Sim r.2 u.2) (list_All.l1 k f y0 y1 y2) (list_All.l1 k f y0 z1 y2)
  | 0,_,_,_,_,_=>.no
  | f+1,_,_,_,_,k0=>list_All.l1b_sim (list_All.l1_sim f) k0
theorem list_All.m_sim {k:Nat} {s0 s0u:HSt} {i1:Int} {i2:Bool} (hs0:Sim s0 s0u):RelP (fun r u=>r.1=u.1∧Sim r.2 u.2) (list_All.m k s0 i1 i2) (list_All.m k s0u i1 i2):=by
  unfold list_All.m
  refine .b2 (pChan_sim hs0) ?_
  intro q8 x9 q8u x9u hq
  obtain ⟨hq8,hx9⟩:=hq
  replace hq8:q8=q8u:=hq8
  subst hq8
  replace hx9:x9=x9u:=hx9
  subst hx9
  refine .when ?_ ?_
  · skip
    exact .yes ⟨rfl,hs0⟩
  · skip
    refine .b1 (RelP.same) ?_
    intro q48 q48u hq
    have hq48:=hq
    replace hq48:q48=q48u:=hq48
    subst hq48
    exact list_All.l1_sim _ _ _ _ _ hs0
theorem list_Remove.j2_sim {i1:Int} {i2:Bool} {i3:Int} {k:Nat} {q47:Ch} {s109 s109u:HSt} {x110:Int} {x125:Int} (hs109:Sim s109 s109u):RelP (fun r u=>r.1=u.1∧Sim r.2 u.2) (list_Remove.j2 i1 i2 i3 k q47 s109 x110 x125) (list_Remove.j2 i1 i2 i3 k q47 s109u x110 x125):=by
  unfold list_Remove.j2
  refine .b1 (RelP.same) ?_
  intro q141 q141u hq
  have hq141:=hq
  replace hq141:q141=q141u:=hq141
  subst hq141
  refine .b2 (pPutChan_sim hs109) ?_
  intro x149 s150 x149u s150u hq
  obtain ⟨hx149,hs150⟩:=hq
  replace hx149:x149=x149u:=hx149
  subst hx149
  refine .b1 (list_follow.m_sim hs150) ?_
  intro s161 s161u hq
  have hs161:=hq
  exact .yes ⟨rfl,hs161⟩
theorem list_Remove.j1_sim {i1:Int} {i2:Bool} {i3:Int} {k:Nat} {q47:Ch} {q90:En} {s109 s109u:HSt} {x110:Int} {x111:Int} (hs109:Sim s109 s109u):RelP (fun r u=>r.1=u.1∧Sim r.2 u.2) (list_Remove.j1 i1 i2 i3 k q47 q90 s109 x110 x111) (list_Remove.j1 i1 i2 i3 k q47 q90 s109u x110 x111):=by
  unfold list_Remove.j1
  refine .when ?_ ?_
  · skip
    exact list_Remove.j2_sim hs109
  · skip
    exact list_Remove.j2_sim hs109
theorem list_Remove.m_sim {k:Nat} {s0 s0u:HSt} {i1:Int} {i2:Bool} {i3:Int} (hs0:Sim s0 s0u):RelP (fun r u=>r.1=u.1∧Sim r.2 u.2) (list_Remove.m k s0 i1 i2 i3) (list_Remove.m k s0u i1 i2 i3):=by
  unfold list_Remove.m
  refine .b2 (list_All.m_sim hs0) ?_
  intro L5 s6 L5u s6u hq
  obtain ⟨hL5,hs6⟩:=hq
  replace hL5:L5=L5u:=hL5
  subst hL5
  refine .b1 (RelP.same) ?_
  intro x24 x24u hq
  have hx24:=hq
  replace hx24:x24=x24u:=hx24
  subst hx24
  refine .when ?_ ?_
  · skip
    exact .yes ⟨rfl,hs6⟩
  · skip
    refine .b2 (pChan_sim hs6) ?_
    intro q47 x48 q47u x48u hq
    obtain ⟨hq47,hx48⟩:=hq
    replace hq47:q47=q47u:=hq47
    subst hq47
    replace hx48:x48=x48u:=hx48
    subst hx48
    refine .b2 (pSudog_sim hs6) ?_
    intro q68 x69 q68u x69u hq
    obtain ⟨hq68,hx69⟩:=hq
    replace hq68:q68=q68u:=hq68
    subst hq68
    replace hx69:x69=x69u:=hx69
    subst hx69
    refine .b1 (RelP.same) ?_
    intro q90 q90u hq
    have hq90:=hq
    replace hq90:q90=q90u:=hq90
    subst hq90
    refine .when ?_ ?_
    · skip
      refine .when ?_ ?_
      · skip
        refine .b1 (list_follow.m_sim hs6) ?_
        intro s203 s203u hq
        have hs203:=hq
        exact list_Remove.j1_sim hs203
      · skip
        exact .no
    · skip
      exact list_Remove.j1_sim hs6
theorem wake_look.m_sim {k:Nat} {s0 s0u:HSt} {i1:Int} (hs0:Sim s0 s0u):RelP (fun r u=>r.1=u.1∧Sim r.2 u.2) (wake_look.m k s0 i1) (wake_look.m k s0u i1):=by
  unfold wake_look.m
  refine .b2 (pSudog_sim hs0) ?_
  intro q5 x6 q5u x6u hq
  obtain ⟨hq5,hx6⟩:=hq
  replace hq5:q5=q5u:=hq5
  subst hq5
  replace hx6:x6=x6u:=hx6
  subst hx6
  refine .when ?_ ?_
  · skip
    exact .yes ⟨rfl,hs0⟩
  · skip
    refine .b3 (view_Gor.m_sim hs0) ?_
    intro q39 x40 s41 q39u x40u s41u hq
    obtain ⟨hq39,hx40,hs41⟩:=hq
    replace hq39:q39=q39u:=hq39
    subst hq39
    replace hx40:x40=x40u:=hx40
    subst hx40
    refine .when ?_ ?_
    · skip
      exact .yes ⟨rfl,hs41⟩
    · skip
      exact .yes ⟨rfl,hs41⟩
theorem wake_leave.l1b_sim {k:Nat} {rec12 rec12u:(Int→Int)→HSt→Int→Option (HSt)} {f7:(Int→Int)} {s8 s8u:HSt} {x9:Int} (hrec12:∀ y0 y1 z1 y2,Sim y1 z1→RelP (fun r u=>Sim r u) (rec12 y0 y1 y2) (rec12u y0 z1 y2)) (hs8:Sim s8 s8u):RelP (fun r u=>Sim r u) (wake_leave.l1b k rec12 f7 s8 x9) (wake_leave.l1b k rec12u f7 s8u x9):=by
  unfold wake_leave.l1b
  refine .when ?_ ?_
  · skip
    refine .when ?_ ?_
    · skip
      refine .b2 (wake_look.m_sim hs8) ?_
      intro o32 s33 o32u s33u hq
      obtain ⟨ho32,hs33⟩:=hq
      replace ho32:o32=o32u:=ho32
      subst ho32
      refine .opt ?_ fun q55=>?_
      · skip
        exact .yes hs33
      · skip
        refine .sum (fun q57=>?_) fun q58=>?_
        · skip
          refine .when ?_ ?_
          · skip
            refine .when ?_ ?_
            · skip
              refine .b2 (list_Remove.m_sim hs33) ?_
              intro y97 s98 y97u s98u hq
              obtain ⟨hy97,hs98⟩:=hq
              replace hy97:y97=y97u:=hy97
              subst hy97
              refine .b2 (list_Remove.m_sim hs98) ?_
              intro y112 s113 y112u s113u hq
              obtain ⟨hy112,hs113⟩:=hq
              replace hy112:y112=y112u:=hy112
              subst hy112
              exact hrec12 _ _ _ _ hs113
            · skip
              exact .no
          · skip
            exact .no
        · skip
          exact .yes hs33
    · skip
      exact .yes hs8
  · skip
    exact .no
theorem wake_leave.l1_sim {k:Nat}:∀ (f:Nat) (y0:(Int→Int)) (y1 z1:HSt) (y2:Int),Sim y1 z1→RelP (fun r u=>Sim r u) (wake_leave.l1 k f y0 y1 y2) (wake_leave.l1 k f y0 z1 y2)
  | 0,_,_,_,_,_=>.no
  | f+1,_,_,_,_,k0=>wake_leave.l1b_sim (wake_leave.l1_sim f) k0
theorem wake_leave.m_sim {k:Nat} {s0 s0u:HSt} {i1:Int} (hs0:Sim s0 s0u):RelP (fun r u=>Sim r u) (wake_leave.m k s0 i1) (wake_leave.m k s0u i1):=by
  unfold wake_leave.m
  exact wake_leave.l1_sim _ _ _ _ _ hs0
theorem wake_Wake.j2_sim {q5:Su} {q40:Gr} {s76 s76u:HSt} {x114:Int} {x115:Int} {x116:Int} {x117:Int} {x118:Int} {x119:Int} (hs76:Sim s76 s76u):RelP (fun r u=>r.1=u.1∧r.2.1=u.2.1∧Sim r.2.2 u.2.2) (wake_Wake.j2 q5 q40 s76 x114 x115 x116 x117 x118 x119) (wake_Wake.j2 q5 q40 s76u x114 x115 x116 x117 x118 x119):=by
  unfold wake_Wake.j2
  refine .b2 (pPutGor_sim hs76) ?_
  intro x134 s135 x134u s135u hq
  obtain ⟨hx134,hs135⟩:=hq
  replace hx134:x134=x134u:=hx134
  subst hx134
  refine .b1 (pShade_sim hs135) ?_
  intro s149 s149u hq
  have hs149:=hq
  exact .yes ⟨rfl,rfl,hs149⟩
theorem wake_Wake.j1_sim {i2:Int} {q5:Su} {q40:Gr} {s76 s76u:HSt} {y106:Bool} (hs76:Sim s76 s76u):RelP (fun r u=>r.1=u.1∧r.2.1=u.2.1∧Sim r.2.2 u.2.2) (wake_Wake.j1 i2 q5 q40 s76 y106) (wake_Wake.j1 i2 q5 q40 s76u y106):=by
  unfold wake_Wake.j1
  refine .when ?_ ?_
  · skip
    refine .when ?_ ?_
    · skip
      exact wake_Wake.j2_sim hs76
    · skip
      refine .when ?_ ?_
      · skip
        exact wake_Wake.j2_sim hs76
      · skip
        refine .when ?_ ?_
        · skip
          exact wake_Wake.j2_sim hs76
        · skip
          refine .when ?_ ?_
          · skip
            exact wake_Wake.j2_sim hs76
          · skip
            refine .when ?_ ?_
            · skip
              exact wake_Wake.j2_sim hs76
            · skip
              refine .when ?_ ?_
              · skip
                exact wake_Wake.j2_sim hs76
              · skip
                exact .no
  · skip
    exact wake_Wake.j2_sim hs76
theorem wake_Wake.m_sim {k:Nat} {s0 s0u:HSt} {i1:Int} {i2:Int} (hs0:Sim s0 s0u):RelP (fun r u=>r.1=u.1∧r.2.1=u.2.1∧Sim r.2.2 u.2.2) (wake_Wake.m k s0 i1 i2) (wake_Wake.m k s0u i1 i2):=by
  unfold wake_Wake.m
  refine .b2 (pSudog_sim hs0) ?_
  intro q5 x6 q5u x6u hq
  obtain ⟨hq5,hx6⟩:=hq
  replace hq5:q5=q5u:=hq5
  subst hq5
  replace hx6:x6=x6u:=hx6
  subst hx6
  refine .when ?_ ?_
  · skip
    exact .yes ⟨rfl,rfl,hs0⟩
  · skip
    refine .b3 (view_Gor.m_sim hs0) ?_
    intro q40 x41 s42 q40u x41u s42u hq
    obtain ⟨hq40,hx41,hs42⟩:=hq
    replace hq40:q40=q40u:=hq40
    subst hq40
    replace hx41:x41=x41u:=hx41
    subst hx41
    refine .when ?_ ?_
    · skip
      exact .yes ⟨rfl,rfl,hs42⟩
    · skip
      refine .b1 (wake_leave.m_sim hs42) ?_
      intro s76 s76u hq
      have hs76:=hq
      refine .when ?_ ?_
      · skip
        exact wake_Wake.j1_sim hs76
      · skip
        exact wake_Wake.j1_sim hs76
end Go.Proofs.YtaojmbkmicjecaaGreat
