/- SfL Sf0 -/
import Derived.Test.YtgejcjcpchofiaaGreatKG15
import Derived.Test.YtgejcjcpchofiaaGreatKTw15
import Derived.Test.YtgejcjcpchofiaaGreatKPrimV
import Derived.KernelRfl
namespace Go.Proofs.YtgejcjcpchofiaaGreat
open Go.RowKit
set_option linter.unusedVariables false
namespace sf
def TQ (c n v k:Nat) (w:Nat→Int):HSt:=stQ c n v (
  (0,9,1,[2 * c,0,2 * (k - n:Nat),0,if c=0 then 0 else 65,if k<v then pt (sAt c n k) else 0,if k<v then pt (sAt c n (v - 1)) else 0,0,0]) ::
  (gq 0::((if c=0 then [] else [(32,c,2,(List.range c).map fun x=>if n+x<k then w (n+x) else 0)]) ++ (List.range (n - 1)).map (fun j=>gq (j+1)) ++
    (List.range v).map fun j=>(sAt c n j,7,3,[pt (gAt c j),1,0,if k≤j∧j+1<v then pt (sAt c n (j+1)) else 0,2 * (j:Int),0,0]))))
where gq (j:Nat):Nat×Nat×Int×List Int:=(gAt c j,10,4,if j<k∧j<v then [2 * (j:Int),0,2 * (j:Int),w j,0,0,0,0,0,0] else if j<v then [2 * (j:Int),2,0,0,0,0,0,0,0,pt (sAt c n j)] else [2 * (j:Int),0,0,0,0,0,0,0,0,0])
structure Fam (c n:Nat) (w:Nat→Int):Prop where
  hm:law15_made.m 100 [(c:Int)] ((n - 1:Nat):Int)=some (TQ c n 0 0 w,TQ c n 0 0 w,[0],gors c n)
  ht:∀ j,j<n→law15_waitI.m 100 (TQ c n j 0 w) (TQ c n j 0 w) [0] (gors c n) (atI (gors c n) (j:Int)) [0] [false] 0 (j:Int)=some (true,TQ c n (j+1) 0 w,TQ c n (j+1) 0 w)
  ha:∀ i,i<n→send_TryI.m 100 (TQ c n n i w) (IntKind.i64.wrap ((IntKind.i64.wrap (2 * 0))+1)) (w i)=some (atI (gors c n) (i:Int),1,TQ c n n (i+1) w)
  hv:∀ i,i<n→view_Gor.m 100 (TQ c n n (i+1) w) (atI (gors c n) (i:Int))=some (⟨i,0,i,w i,0,0,0,0,0,-1⟩,0,TQ c n n (i+1) w)
  hb:∀ i,i<c→send_TryI.m 100 (TQ c n n (n+i) w) (IntKind.i64.wrap ((IntKind.i64.wrap (2 * 0))+1)) (w (n+i))=some (-1,1,TQ c n n (n+i+1) w)
  hz:∀ x,send_TryI.m 100 (TQ c n n (n+c) w) (IntKind.i64.wrap ((IntKind.i64.wrap (2 * 0))+1)) x=some (-1,0,TQ c n n (n+c) w)
section
variable {K g19:List Int} {k f:Nat} {x5 i j gi g v:Int} {s u s' u':HSt} {q:Gr}
theorem ch15 (g19:List Int) (k:Nat) (s u:HSt):law15_ch.m k s u [0] g19 0=some (0,s,u):=by rfl
theorem l4_step (h1:decide (i<(g19.length:Int))=true) (h2:inR i g19.length=true) (h3:law15_wait.m k s u [0] g19 (atI g19 i) [0] [false] 0 i=some (true,s',u')) (hj:IntKind.i64.wrap (i+1)=j):SendFirst.l4 K k x5 [0] g19 (f+1) s u i=SendFirst.l4 K k x5 [0] g19 f s' u' j:=by
  show SendFirst.l4b K k x5 [0] g19 (SendFirst.l4 K k x5 [0] g19 f) s u i=_
  unfold SendFirst.l4b
  rw [if_pos h1,if_pos h2,ch15,bind3_some,h3,bind3_some]
  unfold SendFirst.j5
  rw [if_neg (by decide),hj]
theorem l4_end (h1:decide (i<(g19.length:Int))=false):SendFirst.l4 K k x5 [0] g19 (f+1) s u i=SendFirst.l20 K k x5 [0] g19 k s u 0:=by
  show SendFirst.l4b K k x5 [0] g19 (SendFirst.l4 K k x5 [0] g19 f) s u i=_
  unfold SendFirst.l4b
  rw [if_neg (by rw [h1]; decide)]
theorem done12 (h:decide (i<12)=false):SendFirst.l20 K k x5 [0] g19 (f+1) s u i=some true:=by
  show SendFirst.l20b K k x5 [0] g19 (SendFirst.l20 K k x5 [0] g19 f) s u i=_
  unfold SendFirst.l20b
  rw [h,ite_self]
  unfold SendFirst.j21
  rw [if_neg (by decide)]
theorem over (h:SendFirst.j21 K k x5 [0] g19 s u i (SendFirst.l20 K k x5 [0] g19 f) true=some true ∨ ¬ (decide (i<(K.length:Int))=true)) (h12:decide (i<12)=true):SendFirst.l20 K k x5 [0] g19 (f+1) s u i=some true:=by
  show SendFirst.l20b K k x5 [0] g19 (SendFirst.l20 K k x5 [0] g19 f) s u i=_
  unfold SendFirst.l20b
  by_cases hl:decide (i<(K.length:Int))=true
  · rw [if_pos hl,h12]; exact h.resolve_right (fun x=>x hl)
  · rw [if_neg hl]; unfold SendFirst.j21; rw [if_neg (by decide)]
theorem stepA (h12:decide (0≤i)=true∧decide (i<12)=true) (h1:decide (i<(g19.length:Int))=true) (h2:inR i g19.length=true) (hg:atI g19 i=gi) (h3:send_Try.m k s (IntKind.i64.wrap ((IntKind.i64.wrap (2 * 0))+1)) (atI K i)=some (gi,1,s')) (hv:view_Gor.m k s' gi=some (q,0,s')) (ha:q.a=atI K i) (hp:q.pc=i) (hs:q.status=0) (hj:IntKind.i64.wrap (i+1)=j) (hr:SendFirst.l20 K k x5 [0] g19 f s' u j=some true):SendFirst.l20 K k x5 [0] g19 (f+1) s u i=some true:=by
  refine over ?_ h12.2
  by_cases hl:decide (i<(K.length:Int))=true
  · refine .inl ?_
    have hin:inR i K.length=true:=by unfold inR; rw [h12.1,hl]; rfl
    unfold SendFirst.j21
    rw [if_pos rfl,if_pos hin,ch15,bind3_some,h3,bind3_some,if_pos h1,if_pos h2,hg,hv,bind3_some]
    unfold SendFirst.j23
    rw [if_pos h2,hg,if_neg (by simp),if_neg (by decide),if_neg (by simp [ha]),if_neg (by simp [hp])]
    unfold SendFirst.j24
    rw [if_neg (by simp [hs])]
    unfold SendFirst.j22
    rw [hj]; exact hr
  · exact .inr hl
theorem stepB (h12:decide (0≤i)=true∧decide (i<12)=true) (h1:decide (i<(g19.length:Int))=false) (h2:decide (i<IntKind.i64.wrap ((g19.length:Int)+x5))=true) (h3:send_Try.m k s (IntKind.i64.wrap ((IntKind.i64.wrap (2 * 0))+1)) (atI K i)=some (-1,1,s')) (hj:IntKind.i64.wrap (i+1)=j) (hr:SendFirst.l20 K k x5 [0] g19 f s' u j=some true):SendFirst.l20 K k x5 [0] g19 (f+1) s u i=some true:=by
  refine over ?_ h12.2
  by_cases hl:decide (i<(K.length:Int))=true
  · refine .inl ?_
    have hin:inR i K.length=true:=by unfold inR; rw [h12.1,hl]; rfl
    unfold SendFirst.j21
    rw [if_pos rfl,if_pos hin,ch15,bind3_some,h3,bind3_some,if_neg (by rw [h1]; decide),if_pos h2,if_neg (by decide)]
    unfold SendFirst.j26
    rw [if_neg (by decide)]
    unfold SendFirst.j25 SendFirst.j22
    rw [hj]; exact hr
  · exact .inr hl
theorem stepC (h12:decide (0≤i)=true∧decide (i<12)=true) (h1:decide (i<(g19.length:Int))=false) (h2:decide (i<IntKind.i64.wrap ((g19.length:Int)+x5))=false) (h3:send_Try.m k s (IntKind.i64.wrap ((IntKind.i64.wrap (2 * 0))+1)) (atI K i)=some (-1,0,s')) (hj:IntKind.i64.wrap (i+1)=j) (hr:SendFirst.l20 K k x5 [0] g19 f s' u j=some true):SendFirst.l20 K k x5 [0] g19 (f+1) s u i=some true:=by
  refine over ?_ h12.2
  by_cases hl:decide (i<(K.length:Int))=true
  · refine .inl ?_
    have hin:inR i K.length=true:=by unfold inR; rw [h12.1,hl]; rfl
    unfold SendFirst.j21
    rw [if_pos rfl,if_pos hin,ch15,bind3_some,h3,bind3_some,if_neg (by rw [h1]; decide),if_neg (by rw [h2]; decide),if_neg (by decide)]
    unfold SendFirst.j27
    rw [if_neg (by decide)]
    unfold SendFirst.j25 SendFirst.j22
    rw [hj]; exact hr
  · exact .inr hl
end
section
variable {K:List Int} {c n:Nat}
theorem gors_len:(gors c n).length=n:=by simp [gors]
theorem wr (a:Int) (h:-9223372036854775808≤a∧a<9223372036854775808):IntKind.i64.wrap a=a:=by rw [IntKind.wrap_i64]; omega
theorem loop2 (hK:AllW K) (hc:c≤3) (hn:n≤6) (F:Fam c n fun i=>atI K (i:Int)) {u:HSt}:∀ (d i f:Nat),i+d=12→d<f→InvH (TQ c n n (min i (n+c)) fun i=>atI K (i:Int))→SendFirst.l20 K 100 (c:Int) [0] (gors c n) f (TQ c n n (min i (n+c)) fun i=>atI K (i:Int)) u (i:Int)=some true
  | 0,i,f,hi,hf,hI=>by
    obtain ⟨f,rfl⟩:∃ g,f=g+1:=⟨f - 1,by omega⟩
    exact done12 (by simp; omega)
  | d+1,i,f,hi,hf,hI=>by
    obtain ⟨f,rfl⟩:∃ g,f=g+1:=⟨f - 1,by omega⟩
    have ih:=loop2 hK hc hn F (u:=u) d (i+1) f (by omega) (by omega)
    have hj:IntKind.i64.wrap ((i:Int)+1)=((i+1:Nat):Int):=by rw [wr _ (by omega)]; simp
    have h12:decide (0≤(i:Int))=true∧decide ((i:Int)<12)=true:=by simp; omega
    have a:=send_Try.m_ok (k:=100) (i1:=(IntKind.i64.wrap ((IntKind.i64.wrap (2 * 0))+1))) hI (hK.at (i:Int))
    by_cases h1:i<n
    · have e1:min i (n+c)=i:=by omega
      have e2:min (i+1) (n+c)=i+1:=by omega
      rw [e1] at a ⊢; rw [e2] at ih
      have e:=a.1.symm.trans (F.ha i h1)
      exact stepA h12 (by rw [gors_len]; simp; omega) (by rw [gors_len]; simp [inR]; omega) rfl e (F.hv i h1) rfl rfl rfl hj (ih (a.2 _ e))
    · by_cases h2:i<n+c
      · obtain ⟨m,rfl⟩:∃ m,i=n+m:=⟨i - n,by omega⟩
        have e1:min (n+m) (n+c)=n+m:=by omega
        have e2:min (n+m+1) (n+c)=n+m+1:=by omega
        rw [e1] at a ⊢; rw [e2] at ih
        have e:=a.1.symm.trans (F.hb m (by omega))
        exact stepB h12 (by rw [gors_len]; simp; omega) (by rw [gors_len,wr _ (by omega)]; simp; omega) e hj (ih (a.2 _ e))
      · have e1:min i (n+c)=n+c:=by omega
        have e2:min (i+1) (n+c)=n+c:=by omega
        rw [e1] at a ⊢; rw [e2] at ih
        have e:=a.1.symm.trans (F.hz _)
        exact stepC h12 (by rw [gors_len]; simp; omega) (by rw [gors_len,wr _ (by omega)]; simp; omega) e hj (ih (a.2 _ e))
theorem loop1 (hK:AllW K) (hc:c≤3) (hn:n≤6) (F:Fam c n fun i=>atI K (i:Int)):∀ (d j f:Nat),j+d=n→d<f→InvH (TQ c n j 0 fun i=>atI K (i:Int))→SendFirst.l4 K 100 (c:Int) [0] (gors c n) f (TQ c n j 0 fun i=>atI K (i:Int)) (TQ c n j 0 fun i=>atI K (i:Int)) (j:Int)=some true
  | 0,j,f,hj,hf,hI=>by
    obtain ⟨f,rfl⟩:∃ g,f=g+1:=⟨f - 1,by omega⟩
    have hj:j=n:=by omega
    subst hj
    rw [l4_end (by rw [gors_len]; simp)]
    have e:min 0 (j+c)=0:=by omega
    have:=loop2 hK hc hn F (u:=TQ c j j 0 fun i=>atI K (i:Int)) 12 0 100 (by omega) (by omega)
    rw [e] at this
    exact this hI
  | d+1,j,f,hj,hf,hI=>by
    obtain ⟨f,rfl⟩:∃ g,f=g+1:=⟨f - 1,by omega⟩
    have b:=law15_wait.m_ok (k:=100) (Lc0:=[0]) (Lg0:=gors c n) (i1:=atI (gors c n) (j:Int)) (L2:=[0]) (L3:=[false]) (i4:=0) (i5:=(j:Int)) hI hI
    have e:=b.1.symm.trans (F.ht j (by omega))
    obtain ⟨i1,i2⟩:=b.2 _ e
    have ih:=loop1 hK hc hn F d (j+1) f (by omega) (by omega) i1
    refine (l4_step (j:=((j+1:Nat):Int)) ?_ ?_ e ?_).trans ih
    · rw [gors_len]; simp; omega
    · rw [gors_len]; simp [inR]; omega
    · rw [wr _ (by omega)]; simp
theorem fin {i0 i1:Int} (hK:AllW K) (hc:c≤3) (hn:n<6) (F:Fam c (n+1) fun i=>atI K (i:Int)) (haw:law15_awake.m 100=some true) (h0:IntKind.i64.wrap (Int.tmod (IntKind.u64.wrap i0) 4)=c) (hm:∀ L,law15_made.m 100 L i1=law15_made.m 100 L (n:Int)):SendFirst.m 100 i0 i1 K=some true:=by
  have e:=F.hm
  obtain ⟨i,v⟩:=(law15_made.m_ok (k:=100)).2 _ e
  unfold SendFirst.m
  rw [h0,bind1_some,hm,show ((n:Nat):Int)=((n+1 - 1:Nat):Int) by simp,e,bind4_some,haw,bind1_some,if_neg (by decide)]
  unfold SendFirst.j1
  rw [if_neg (by decide)]
  exact loop1 hK hc (by omega) F (n+1) 0 100 (by omega) (by omega) i
end
end sf
end Go.Proofs.YtgejcjcpchofiaaGreat
namespace Go.Proofs.YtgejcjcpchofiaaGreat
open Go.RowKit
set_option linter.unusedVariables false
set_option maxRecDepth 100000
namespace sf
theorem F01 (w:Nat→Int):Fam 0 1 w where
  hm:=by kernel_rfl
  ht:=fun i hi=>match i,hi with
    | 0,_=>by kernel_rfl
  ha:=fun i hi=>match i,hi with
    | 0,_=>by kernel_rfl
  hv:=fun i hi=>match i,hi with
    | 0,_=>by kernel_rfl
  hb:=fun i hi=>absurd hi (Nat.not_lt_zero i)
  hz:=fun x=>by kernel_rfl
theorem F02 (w:Nat→Int):Fam 0 2 w where
  hm:=by kernel_rfl
  ht:=fun i hi=>match i,hi with
    | 0,_=>by kernel_rfl
    | 1,_=>by kernel_rfl
  ha:=fun i hi=>match i,hi with
    | 0,_=>by kernel_rfl
    | 1,_=>by kernel_rfl
  hv:=fun i hi=>match i,hi with
    | 0,_=>by kernel_rfl
    | 1,_=>by kernel_rfl
  hb:=fun i hi=>absurd hi (Nat.not_lt_zero i)
  hz:=fun x=>by kernel_rfl
theorem F03 (w:Nat→Int):Fam 0 3 w where
  hm:=by kernel_rfl
  ht:=fun i hi=>match i,hi with
    | 0,_=>by kernel_rfl
    | 1,_=>by kernel_rfl
    | 2,_=>by kernel_rfl
  ha:=fun i hi=>match i,hi with
    | 0,_=>by kernel_rfl
    | 1,_=>by kernel_rfl
    | 2,_=>by kernel_rfl
  hv:=fun i hi=>match i,hi with
    | 0,_=>by kernel_rfl
    | 1,_=>by kernel_rfl
    | 2,_=>by kernel_rfl
  hb:=fun i hi=>absurd hi (Nat.not_lt_zero i)
  hz:=fun x=>by kernel_rfl
theorem F04 (w:Nat→Int):Fam 0 4 w where
  hm:=by kernel_rfl
  ht:=fun i hi=>match i,hi with
    | 0,_=>by kernel_rfl
    | 1,_=>by kernel_rfl
    | 2,_=>by kernel_rfl
    | 3,_=>by kernel_rfl
  ha:=fun i hi=>match i,hi with
    | 0,_=>by kernel_rfl
    | 1,_=>by kernel_rfl
    | 2,_=>by kernel_rfl
    | 3,_=>by kernel_rfl
  hv:=fun i hi=>match i,hi with
    | 0,_=>by kernel_rfl
    | 1,_=>by kernel_rfl
    | 2,_=>by kernel_rfl
    | 3,_=>by kernel_rfl
  hb:=fun i hi=>absurd hi (Nat.not_lt_zero i)
  hz:=fun x=>by kernel_rfl
theorem F05 (w:Nat→Int):Fam 0 5 w where
  hm:=by kernel_rfl
  ht:=fun i hi=>match i,hi with
    | 0,_=>by kernel_rfl
    | 1,_=>by kernel_rfl
    | 2,_=>by kernel_rfl
    | 3,_=>by kernel_rfl
    | 4,_=>by kernel_rfl
  ha:=fun i hi=>match i,hi with
    | 0,_=>by kernel_rfl
    | 1,_=>by kernel_rfl
    | 2,_=>by kernel_rfl
    | 3,_=>by kernel_rfl
    | 4,_=>by kernel_rfl
  hv:=fun i hi=>match i,hi with
    | 0,_=>by kernel_rfl
    | 1,_=>by kernel_rfl
    | 2,_=>by kernel_rfl
    | 3,_=>by kernel_rfl
    | 4,_=>by kernel_rfl
  hb:=fun i hi=>absurd hi (Nat.not_lt_zero i)
  hz:=fun x=>by kernel_rfl
theorem F06 (w:Nat→Int):Fam 0 6 w where
  hm:=by kernel_rfl
  ht:=fun i hi=>match i,hi with
    | 0,_=>by kernel_rfl
    | 1,_=>by kernel_rfl
    | 2,_=>by kernel_rfl
    | 3,_=>by kernel_rfl
    | 4,_=>by kernel_rfl
    | 5,_=>by kernel_rfl
  ha:=fun i hi=>match i,hi with
    | 0,_=>by kernel_rfl
    | 1,_=>by kernel_rfl
    | 2,_=>by kernel_rfl
    | 3,_=>by kernel_rfl
    | 4,_=>by kernel_rfl
    | 5,_=>by kernel_rfl
  hv:=fun i hi=>match i,hi with
    | 0,_=>by kernel_rfl
    | 1,_=>by kernel_rfl
    | 2,_=>by kernel_rfl
    | 3,_=>by kernel_rfl
    | 4,_=>by kernel_rfl
    | 5,_=>by kernel_rfl
  hb:=fun i hi=>absurd hi (Nat.not_lt_zero i)
  hz:=fun x=>by kernel_rfl
end sf
end Go.Proofs.YtgejcjcpchofiaaGreat
