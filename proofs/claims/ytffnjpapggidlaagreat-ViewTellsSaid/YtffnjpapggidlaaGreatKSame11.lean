/- Same11 -/
import Derived.Test.YtffnjpapggidlaaGreatKGRef11
import Derived.Test.YtffnjpapggidlaaGreatKGView
import Derived.Test.YtffnjpapggidlaaGreatKIdle
import Derived.KernelRfl
namespace Go.Proofs.YtffnjpapggidlaaGreat
open Go.RowKit
set_option linter.unusedVariables false
set_option linter.unusedSimpArgs false
theorem wr_s (x:Int) (h:0≤x) (h2:x<1000000):IntKind.i64.wrap x=x:=by rw [IntKind.wrap_i64]; omega
theorem wd_true {x:Int} (h:Wd x):wdB x=true:=by unfold wdB; unfold Wd at h; simp; omega
theorem dbl (a:Int):wrap64 (a * 2)=vI a:=by unfold vI; rw [Int.mul_comm]
theorem rptr_m (k:Nat) (a:Int):ref11_ptr.m k a=some (vP a):=by
  unfold ref11_ptr.m vP
  by_cases h:a<0
  · rw [if_pos (by simpa using h),if_pos h,show wrap64 (0 * 2)=0 by unfold wrap64; omega]
  · rw [if_neg (by simpa using h),if_neg h,Int.mul_comm]
theorem rnumber_m (k:Nat) {x:Int} (h:Wd x):ref11_number.m k x=some (vNum x):=by
  unfold ref11_number.m pNum; rw [if_pos (wd_true h)]; rfl
theorem rplace_m (k:Nat) {x:Int} (h:Wd x):ref11_place.m k x=some (vAt x):=by
  unfold ref11_place.m pAt; rw [if_pos (wd_true h)]; rfl
theorem rwords_l1 {s:HSt} {p kind:Int} {n:Nat} (hn:rNeed kind 0=n) (hl:(aWords s.a p).length=n) (h31:n≤31):∀ m j:Nat,j≤n→n - j<m→ref11_words.l2 s p kind m ((aWords s.a p).take j) (j:Int)=some (aWords s.a p,0,s):=by
  intro m
  induction m with
  | zero=>intro j _ h; omega
  | succ m ih =>
    intro j hj hm
    show ref11_words.l2b s p kind (ref11_words.l2 s p kind m) _ _=_
    unfold ref11_words.l2b
    rw [hn]
    by_cases hlt:j<n
    · rw [if_pos (by rw [decide_eq_true_eq]; omega)]
      obtain ⟨_,e2⟩:=word_at (s:=s.a) (p:=p) (j:=j) (by omega)
      unfold bind2 pLoad
      simp only [Option.bind_some]
      rw [e2]
      unfold bind1 pushM
      rw [if_pos (by rw [List.length_take]; omega)]
      simp only [Option.bind_some]
      rw [← List.take_succ_eq_append_getElem (by omega),wr_s _ (by omega) (by omega)]
      exact ih (j+1) (by omega) (by omega)
    · rw [if_neg (by rw [decide_eq_true_eq]; omega),show j=n by omega,List.take_of_length_le (by omega)]
def isW (s:HSt) (p kind:Int) (n:Nat):List Int:=if Is s.a p kind n then aWords s.a p else []
def isE (s:HSt) (p kind:Int) (n:Nat):Int:=if Is s.a p kind n then 0 else 10
theorem rwords_m {s:HSt} {p kind:Int} {n:Nat} (hn:rNeed kind 0=n) (h31:n≤31) {k:Nat} (hk:40≤k):ref11_words.m k s p kind=some (isW s p kind n,isE s p kind n,s):=by
  unfold ref11_words.m isW isE
  by_cases h1:aKind s.a.c p=kind
  · rw [if_neg (by simpa using h1),hn]
    unfold ref11_words.j1
    by_cases h2:aLen s.a.c p=n
    · have hi:Is s.a p kind n:=⟨h1,h2⟩
      rw [if_neg (by simpa using h2),if_pos hi,if_pos hi]
      have:=rwords_l1 hn hi.len h31 k 0 (by omega) (by omega)
      simpa using this
    · rw [if_pos (by simpa using h2),if_neg (fun h=>h2 h.2),if_neg (fun h=>h2 h.2)]
  · rw [if_pos (by simpa using h1),if_neg (fun h=>h1 h.1),if_neg (fun h=>h1 h.1)]
    rfl
theorem atI_nat {L:List Int} {j:Nat} (h:j<L.length):atI L (j:Int)=L[j]:=by unfold atI; rw [List.getD_eq_getElem?_getD,Int.toNat_natCast,List.getElem?_eq_getElem h]; rfl
theorem inR_nat {j n:Nat} (h:j<n):inR (j:Int) n=true:=by simp [inR]; omega
theorem rput_l1 {s:HSt} (ok:HOk s) {p kind:Int} {n:Nat} {L:List Int} (hi:Is s.a p kind n) (hL:L.length=n) (hw:∀ x ∈ L,Wd x) (h31:n≤31):∀ m j:Nat,j≤n→n - j<m→ref11_put.l5 p L (aWords s.a p) m (hPutTo p (aWords s.a p) L j s) (j:Int) 0=some (0,hPutTo p (aWords s.a p) L n s):=by
  have hl:=hi.len
  intro m
  induction m with
  | zero=>intro j _ h; omega
  | succ m ih =>
    intro j hj hm
    show ref11_put.l5b p L (aWords s.a p) (ref11_put.l5 p L (aWords s.a p) m) _ _ _=_
    unfold ref11_put.l5b
    by_cases hlt:j<n
    · have next:=ih (j+1) (by omega) (by omega)
      rw [if_pos (by rw [decide_eq_true_eq]; omega)]
      unfold ref11_put.j6 ref11_put.j7
      rw [if_pos (by rfl),if_pos (inR_nat (by omega)),if_pos (inR_nat (by omega)),atI_nat (by omega),atI_nat (by omega)]
      have e1:(aWords s.a p).getD j 0=(aWords s.a p)[j]'(by omega):=by rw [List.getD_eq_getElem?_getD,List.getElem?_eq_getElem (by omega)]; rfl
      have e2:L.getD j 0=L[j]'(by omega):=by rw [List.getD_eq_getElem?_getD,List.getElem?_eq_getElem (by omega)]; rfl
      have hs:hPutTo p (aWords s.a p) L (j+1) s=if L[j]'(by omega)=(aWords s.a p)[j]'(by omega) then hPutTo p (aWords s.a p) L j s else hStore p j (L[j]'(by omega)) (hPutTo p (aWords s.a p) L j s):=by
        rw [← e1,← e2]; rfl
      rw [hs] at next
      by_cases he:L[j]'(by omega)=(aWords s.a p)[j]'(by omega)
      · rw [if_pos he] at next
        rw [if_neg (by simpa using he.symm),wr_s _ (by omega) (by omega)]
        exact next
      · rw [if_neg he] at next
        rw [if_pos (by simpa using fun e=>he e.symm)]
        obtain ⟨ok2,hd⟩:=ok.putTo p (aWords s.a p) hw j
        have er:aErr p (j:Int) (hPutTo p (aWords s.a p) L j s).a=0:=by rw [err_of_head (hd p)]; exact hi.err hlt
        unfold pStore
        rw [if_pos (wd_true (hw _ (List.getElem_mem (by omega)))),er]
        simp only [bind2,Option.bind_some]
        rw [wr_s _ (by omega) (by omega)]
        exact next
    · rw [if_neg (by rw [decide_eq_true_eq]; omega),show j=n by omega]
      rfl
theorem rput_m {s:HSt} (ok:HOk s) {p kind:Int} {n:Nat} {L:List Int} (hn:rNeed kind 0=n) (hL:L.length=n) (hw:∀ x ∈ L,Wd x) (h31:n≤31) {k:Nat} (hk:40≤k):ref11_put.m k s p kind L=some (putE s.a p kind n,hPut p kind n L s):=by
  unfold ref11_put.m
  rw [rwords_m hn h31 hk,bind3_some]
  unfold isW isE putE hPut
  by_cases h:Is s.a p kind n
  · simp only [if_pos h]
    exact rput_l1 ok h hL hw h31 k 0 (by omega) (by omega)
  · simp only [if_neg h]
    obtain ⟨k',rfl⟩:∃ k',k=k'+1:=⟨k - 1,by omega⟩
    rfl
theorem rPutChan_m {s:HSt} (ok:HOk s) (p:Int) (c:Ch) {k:Nat} (hk:40≤k):ref11_PutChan.m k s p c=pPutChan p c s:=by
  unfold ref11_PutChan.m
  simp only [rptr_m,bind1_some,dbl]
  show bind2 (ref11_put.m k s p 1 (chW c)) _=_
  rw [rput_m ok (n:=9) rfl rfl (chW_wd c) (by omega) hk,bind2_some]
  rfl
theorem rPutSudog_m {s:HSt} (ok:HOk s) (p:Int) (c:Su) (hc:Wd c.value) {k:Nat} (hk:40≤k):ref11_PutSudog.m k s p c=pPutSudog p c s:=by
  unfold ref11_PutSudog.m
  simp only [rptr_m,bind1_some,dbl]
  show bind2 (ref11_put.m k s p 3 (suW c)) _=_
  rw [rput_m ok (n:=7) rfl rfl (suW_wd c hc) (by omega) hk,bind2_some]
  unfold pPutSudog
  rw [if_pos (wd_true hc)]
theorem rPutGor_m {s:HSt} (ok:HOk s) (p:Int) (c:Gr) (hc:GoWd c) {k:Nat} (hk:40≤k):ref11_PutGor.m k s p c=pPutGor p c s:=by
  obtain ⟨k',rfl⟩:∃ k',k=k'+7:=⟨k - 7,by omega⟩
  have e:ref11_PutGor.m (k'+7) s p c=bind1 (ref11_ptr.m (k'+7) c.sudogs) fun x187=>bind1 (pushM [wrap64 (c.id * 2),wrap64 (c.status * 2),wrap64 (c.pc * 2),c.a,c.b,c.c,c.d,c.e,c.f] x187) fun L196=>bind2 (ref11_put.m (k'+7) s p 4 L196) fun x206 s207=>some (x206,s207):=by kernel_rfl
  rw [e,rptr_m,bind1_some]
  unfold pushM
  rw [if_pos (by simp),bind1_some]
  simp only [dbl]
  show bind2 (ref11_put.m (k'+7) s p 4 (goW c)) _=_
  rw [rput_m ok (n:=10) rfl rfl (goW_wd c hc) (by omega) hk,bind2_some]
  unfold pPutGor
  obtain ⟨h1,h2,h3,h4,h5,h6⟩:=hc
  rw [wd_true h1,wd_true h2,wd_true h3,wd_true h4,wd_true h5,wd_true h6]
  rfl
theorem rChan_m {s:HSt} (ok:HOk s) (p:Int) {k:Nat} (hk:40≤k):ref11_Chan.m k s p=some (if Is s.a p 1 9 then chOf (aWords s.a p) else ch0,isE s p 1 9,s):=by
  unfold ref11_Chan.m
  rw [rwords_m (n:=9) rfl (by omega) hk,bind3_some]
  unfold isW isE
  by_cases h:Is s.a p 1 9
  · rw [if_pos h,if_pos h,if_pos h]
    have hw:=aWords_wd ok.wd p
    obtain ⟨a,b,c,d,e,f,g,i,j,he⟩:=nine h.len
    rw [he] at hw ⊢
    have w:=fun x hx=>hw x hx
    rw [if_neg (by decide)]
    iterate 9 rw [if_pos (by rfl)]
    rw [show atI [a,b,c,d,e,f,g,i,j] (0:Int)=a from rfl,show atI [a,b,c,d,e,f,g,i,j] (1:Int)=b from rfl,show atI [a,b,c,d,e,f,g,i,j] (2:Int)=c from rfl,show atI [a,b,c,d,e,f,g,i,j] (3:Int)=d from rfl,show atI [a,b,c,d,e,f,g,i,j] (4:Int)=e from rfl,show atI [a,b,c,d,e,f,g,i,j] (5:Int)=f from rfl,show atI [a,b,c,d,e,f,g,i,j] (6:Int)=g from rfl,show atI [a,b,c,d,e,f,g,i,j] (7:Int)=i from rfl,show atI [a,b,c,d,e,f,g,i,j] (8:Int)=j from rfl]
    rw [rnumber_m k (w a (by simp)),rnumber_m k (w b (by simp)),rnumber_m k (w c (by simp)),rnumber_m k (w d (by simp)),rplace_m k (w e (by simp)),rplace_m k (w f (by simp)),rplace_m k (w g (by simp)),rplace_m k (w i (by simp)),rplace_m k (w j (by simp))]
    rfl
  · rw [if_neg h,if_neg h,if_neg h]
    rfl
theorem rSudog_m {s:HSt} (ok:HOk s) (p:Int) {k:Nat} (hk:40≤k):ref11_Sudog.m k s p=some (if Is s.a p 3 7 then suOf (aWords s.a p) else su0,isE s p 3 7,s):=by
  unfold ref11_Sudog.m
  rw [rwords_m (n:=7) rfl (by omega) hk,bind3_some]
  unfold isW isE
  by_cases h:Is s.a p 3 7
  · rw [if_pos h,if_pos h,if_pos h]
    have hw:=aWords_wd ok.wd p
    obtain ⟨a,b,c,d,e,f,g,he⟩:=seven h.len
    rw [he] at hw ⊢
    have w:=fun x hx=>hw x hx
    rw [if_neg (by decide)]
    iterate 7 rw [if_pos (by rfl)]
    rw [show atI [a,b,c,d,e,f,g] (0:Int)=a from rfl,show atI [a,b,c,d,e,f,g] (1:Int)=b from rfl,show atI [a,b,c,d,e,f,g] (2:Int)=c from rfl,show atI [a,b,c,d,e,f,g] (3:Int)=d from rfl,show atI [a,b,c,d,e,f,g] (4:Int)=e from rfl,show atI [a,b,c,d,e,f,g] (5:Int)=f from rfl,show atI [a,b,c,d,e,f,g] (6:Int)=g from rfl]
    rw [rplace_m k (w a (by simp)),rplace_m k (w b (by simp)),rplace_m k (w d (by simp)),rnumber_m k (w e (by simp)),rnumber_m k (w f (by simp)),rplace_m k (w g (by simp))]
    rfl
  · rw [if_neg h,if_neg h,if_neg h]
    rfl
theorem rGor_m {s:HSt} (ok:HOk s) (p:Int) {k:Nat} (hk:40≤k):ref11_Gor.m k s p=some (if Is s.a p 4 10 then goOf (aWords s.a p) else go0,isE s p 4 10,s):=by
  unfold ref11_Gor.m
  rw [rwords_m (n:=10) rfl (by omega) hk,bind3_some]
  unfold isW isE
  by_cases h:Is s.a p 4 10
  · rw [if_pos h,if_pos h,if_pos h]
    have hw:=aWords_wd ok.wd p
    obtain ⟨a,b,c,d,e,f,g,i,j,l,he⟩:=ten h.len
    rw [he] at hw ⊢
    have w:=fun x hx=>hw x hx
    rw [if_neg (by decide)]
    iterate 4 rw [if_pos (by rfl)]
    rw [show atI [a,b,c,d,e,f,g,i,j,l] (0:Int)=a from rfl,show atI [a,b,c,d,e,f,g,i,j,l] (1:Int)=b from rfl,show atI [a,b,c,d,e,f,g,i,j,l] (2:Int)=c from rfl,show atI [a,b,c,d,e,f,g,i,j,l] (9:Int)=l from rfl]
    rw [rnumber_m k (w a (by simp)),rnumber_m k (w b (by simp)),rnumber_m k (w c (by simp)),rplace_m k (w l (by simp))]
    simp only [bind1_some]
    obtain ⟨k',rfl⟩:∃ k',k=k'+7:=⟨k - 7,by omega⟩
    rfl
  · rw [if_neg h,if_neg h,if_neg h]
    rfl
theorem pNum_w {x:Int} (h:Wd x):pNum x=some (vNum x):=by unfold pNum; rw [if_pos (wd_true h)]
theorem pAt_w {x:Int} (h:Wd x):pAt x=some (vAt x):=by unfold pAt; rw [if_pos (wd_true h)]
theorem vGor_m {s:HSt} (ok:HOk s) (p:Int) {k:Nat} (hk:40≤k):view_Gor.m k s p=some (if Is s.a p 4 10 then goOf (aWords s.a p) else go0,isE s p 4 10,s):=by
  unfold view_Gor.m pSeen4
  rw [bind2_some]
  unfold isE
  by_cases h:Is s.a p 4 10
  · simp only [if_pos h]
    have hw:=aWords_wd ok.wd p
    obtain ⟨a,b,c,d,e,f,g,i,j,l,he⟩:=ten h.len
    rw [he] at hw ⊢
    have w:=fun x hx=>hw x hx
    rw [if_neg (by decide)]
    iterate 3 rw [if_pos (by rfl)]
    rw [show atI [a,b,c,d,e,f,g,i,j,l] (0:Int)=a from rfl,show atI [a,b,c,d,e,f,g,i,j,l] (1:Int)=b from rfl,show atI [a,b,c,d,e,f,g,i,j,l] (2:Int)=c from rfl]
    rw [pNum_w (w a (by simp)),pNum_w (w b (by simp)),pNum_w (w c (by simp))]
    simp only [bind1_some]
    obtain ⟨k',rfl⟩:∃ k',k=k'+7:=⟨k - 7,by omega⟩
    have e2:view_Gor.j1 s (k'+7) [a,b,c,d,e,f,g,i,j,l] (vNum a) (vNum b) (vNum c)=bind1 (pAt l) fun x180=>some ((⟨vNum a,vNum b,vNum c,d,e,f,g,i,j,x180⟩:Gr),0,s):=by kernel_rfl
    rw [e2,pAt_w (w l (by simp)),bind1_some]
    rfl
  · simp only [if_neg h]
    rfl
theorem pChan_e (p:Int) (s:HSt):pChan p s=some (if Is s.a p 1 9 then chOf (aWords s.a p) else ch0,isE s p 1 9):=rfl
theorem pSudog_e (p:Int) (s:HSt):pSudog p s=some (if Is s.a p 3 7 then suOf (aWords s.a p) else su0,isE s p 3 7):=rfl
end Go.Proofs.YtffnjpapggidlaaGreat
