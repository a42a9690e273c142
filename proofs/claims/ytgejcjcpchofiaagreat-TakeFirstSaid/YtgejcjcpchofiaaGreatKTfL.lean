/- TfL Tf0 -/
import Derived.Test.YtgejcjcpchofiaaGreatKG16
import Derived.Test.YtgejcjcpchofiaaGreatKTw16
import Derived.Test.YtgejcjcpchofiaaGreatKPrimV
import Derived.KernelRfl
namespace Go.Proofs.YtgejcjcpchofiaaGreat
open Go.RowKit
set_option linter.unusedVariables false
section
variable {K g19:List Int} {k f:Nat} {x5 i j g v:Int} {s u s' u':HSt}
theorem ch16 (g19:List Int) (k:Nat) (s u:HSt):law16_ch.m k s u [0] g19 0 = some (0,s,u):=by rfl
theorem l2_step (h1:decide (i < x5) = true) (h2:inR i K.length = true) (h3:send_Try.m k s (IntKind.i64.wrap ((IntKind.i64.wrap (2 * 0)) + 1)) (atI K i) = some (-1,1,s')) (hj:IntKind.i64.wrap (i + 1) = j):TakeFirst.l2 K k x5 [0] g19 (f + 1) s u i = TakeFirst.l2 K k x5 [0] g19 f s' u j:=by
  show TakeFirst.l2b K k x5 [0] g19 (TakeFirst.l2 K k x5 [0] g19 f) s u i = _
  unfold TakeFirst.l2b
  rw [if_pos h1,if_pos h2,ch16,bind3_some,h3,bind3_some,if_neg (by decide),hj]
theorem l2_end (h1:decide (i < x5) = false):TakeFirst.l2 K k x5 [0] g19 (f + 1) s u i = TakeFirst.l5 K k x5 [0] g19 k s u 0:=by
  show TakeFirst.l2b K k x5 [0] g19 (TakeFirst.l2 K k x5 [0] g19 f) s u i = _
  unfold TakeFirst.l2b
  rw [if_neg (by rw [h1]; decide)]
theorem l5_step (h1:decide (i < (g19.length:Int)) = true) (h2:inR i g19.length = true) (hv:IntKind.i64.wrap (x5 + i) = v) (h4:inR v K.length = true) (h3:law16_wait.m k s u [0] g19 (atI g19 i) [0] [true] (atI K v) i = some (true,s',u')) (hj:IntKind.i64.wrap (i + 1) = j):TakeFirst.l5 K k x5 [0] g19 (f + 1) s u i = TakeFirst.l5 K k x5 [0] g19 f s' u' j:=by
  show TakeFirst.l5b K k x5 [0] g19 (TakeFirst.l5 K k x5 [0] g19 f) s u i = _
  unfold TakeFirst.l5b
  rw [if_pos h1,if_pos h2,hv,if_pos h4,ch16,bind3_some,h3,bind3_some]
  unfold TakeFirst.j6
  rw [if_neg (by decide),hj]
theorem l5_end (h1:decide (i < (g19.length:Int)) = false):TakeFirst.l5 K k x5 [0] g19 (f + 1) s u i = TakeFirst.l11 K k x5 [0] g19 k s u 0:=by
  show TakeFirst.l5b K k x5 [0] g19 (TakeFirst.l5 K k x5 [0] g19 f) s u i = _
  unfold TakeFirst.l5b
  rw [if_neg (by rw [h1]; decide)]
theorem l11_step (h1:decide (i < (IntKind.i64.wrap (x5 + (g19.length:Int)))) = true) (h5:inR i g19.length = decide (i < (g19.length:Int))) (h4:inR i K.length = true) (h3:take_Try.m k s (IntKind.i64.wrap ((IntKind.i64.wrap (2 * 0)) + 1)) = some (atI K i,if i < (g19.length:Int) then atI g19 i else -1,1,s')) (hj:IntKind.i64.wrap (i + 1) = j):TakeFirst.l11 K k x5 [0] g19 (f + 1) s u i = TakeFirst.l11 K k x5 [0] g19 f s' u j:=by
  show TakeFirst.l11b K k x5 [0] g19 (TakeFirst.l11 K k x5 [0] g19 f) s u i = _
  unfold TakeFirst.l11b
  rw [if_pos h1,ch16,bind3_some,h3,bind4_some]
  by_cases h2:i < (g19.length:Int)
  · rw [if_pos (by simpa using h2),if_pos (by rw [h5]; simpa using h2),if_pos h2]
    unfold TakeFirst.j12 TakeFirst.j13
    rw [if_pos h4,if_neg (by simp),if_neg (by simp),if_neg (by decide),hj]
  · rw [if_neg (by simpa using h2),if_neg h2]
    unfold TakeFirst.j12 TakeFirst.j13
    rw [if_pos h4,if_neg (by simp),if_neg (by decide),if_neg (by decide),hj]
theorem l11_end (h1:decide (i < (IntKind.i64.wrap (x5 + (g19.length:Int)))) = false) (h3:take_Try.m k s (IntKind.i64.wrap ((IntKind.i64.wrap (2 * 0)) + 1)) = some (0,-1,0,s')):TakeFirst.l11 K k x5 [0] g19 (f + 1) s u i = some true:=by
  show TakeFirst.l11b K k x5 [0] g19 (TakeFirst.l11 K k x5 [0] g19 f) s u i = _
  unfold TakeFirst.l11b
  rw [if_neg (by rw [h1]; decide),ch16,bind3_some,h3,bind4_some]
  rfl
end
structure Fam (c n:Nat) (w:Nat→Int):Prop where
  hm:law16_made.m 100 [(c:Int)] ((n - 1:Nat):Int) = some (SQ c n 0 0 0 w,SQ c n 0 0 0 w,[0],gors c n)
  hs:∀ i,i < c→send_TryI.m 100 (SQ c n i 0 0 w) (IntKind.i64.wrap ((IntKind.i64.wrap (2 * 0)) + 1)) (w i) = some (-1,1,SQ c n (i + 1) 0 0 w)
  ht:∀ j,j < n→law16_waitI.m 100 (SQ c n c j 0 w) (SQ c n 0 j 0 w) [0] (gors c n) (atI (gors c n) (j:Int)) [0] [true] (w (c + j)) (j:Int) = some (true,SQ c n c (j + 1) 0 (up w (c + j)),SQ c n 0 (j + 1) 0 (up w (c + j)))
  hk:∀ i,i < c + n→take_TryI.m 100 (SQ c n c n i w) (IntKind.i64.wrap ((IntKind.i64.wrap (2 * 0)) + 1)) = some (w i,if (i:Int) < (n:Int) then atI (gors c n) (i:Int) else -1,1,SQ c n c n (i + 1) w)
  hz:take_TryI.m 100 (SQ c n c n (c + n) w) (IntKind.i64.wrap ((IntKind.i64.wrap (2 * 0)) + 1)) = some (0,-1,0,SQ c n c n (c + n) w)
section
variable {K:List Int} {c n:Nat}
theorem gors_len:(gors c n).length = n:=by simp [gors]
theorem wr (a:Int) (h:-9223372036854775808 ≤ a∧a < 9223372036854775808):IntKind.i64.wrap a = a:=by rw [IntKind.wrap_i64]; omega
theorem loop3 (h10:10 ≤ K.length) (hc:c ≤ 3) (hn:n ≤ 6) (F:Fam c n fun i=>atI K (i:Int)) {u:HSt}:∀ (d i f:Nat),i + d = c + n→d < f→InvH (SQ c n c n i fun i=>atI K (i:Int))→TakeFirst.l11 K 100 (c:Int) [0] (gors c n) f (SQ c n c n i fun i=>atI K (i:Int)) u (i:Int) = some true
  | 0,i,f,hi,hf,hI=>by
    obtain ⟨f,rfl⟩:∃ g,f = g + 1:=⟨f - 1,by omega⟩
    have hi:i = c + n:=by omega
    subst hi
    refine l11_end ?_ ((take_Try.m_ok hI).1.symm.trans F.hz)
    rw [gors_len,wr _ (by omega)]; simp
  | d + 1,i,f,hi,hf,hI=>by
    obtain ⟨f,rfl⟩:∃ g,f = g + 1:=⟨f - 1,by omega⟩
    have a:=take_Try.m_ok (k:=100) (i1:=(IntKind.i64.wrap ((IntKind.i64.wrap (2 * 0)) + 1))) hI
    have e:=a.1.symm.trans (F.hk i (by omega))
    have ih:=loop3 h10 hc hn F (u:=u) d (i + 1) f (by omega) (by omega) (a.2 _ e)
    refine (l11_step (j:=((i + 1:Nat):Int)) ?_ ?_ (inR_of h10 _ (by omega) (by omega)) ?_ ?_).trans ih
    · rw [gors_len,wr _ (by omega)]; simp; omega
    · rw [gors_len]; simp [inR]
    · rw [gors_len]; exact e
    · rw [wr _ (by omega)]; simp
theorem loop2 (hK:AllW K) (h10:10 ≤ K.length) (hc:c ≤ 3) (hn:n ≤ 6) (F:Fam c n fun i=>atI K (i:Int)):∀ (d j f:Nat),j + d = n→d < f→InvH (SQ c n c j 0 fun i=>atI K (i:Int))→InvH (SQ c n 0 j 0 fun i=>atI K (i:Int))→TakeFirst.l5 K 100 (c:Int) [0] (gors c n) f (SQ c n c j 0 fun i=>atI K (i:Int)) (SQ c n 0 j 0 fun i=>atI K (i:Int)) (j:Int) = some true
  | 0,j,f,hj,hf,hI,hU=>by
    obtain ⟨f,rfl⟩:∃ g,f = g + 1:=⟨f - 1,by omega⟩
    have hj:j = n:=by omega
    subst hj
    rw [l5_end (by rw [gors_len]; simp)]
    exact loop3 h10 hc hn F (c + j) 0 100 (by omega) (by omega) hI
  | d + 1,j,f,hj,hf,hI,hU=>by
    obtain ⟨f,rfl⟩:∃ g,f = g + 1:=⟨f - 1,by omega⟩
    have b:=law16_wait.m_ok (k:=100) (Lc0:=[0]) (Lg0:=gors c n) (i1:=atI (gors c n) (j:Int)) (L2:=[0]) (L3:=[true]) (i4:=atI K ((c + j:Nat):Int)) (i5:=(j:Int)) hI hU
    have e:=b.1.symm.trans (F.ht j (by omega))
    rw [up_eq (hK.at _)] at e
    obtain ⟨i1,i2⟩:=b.2 _ e
    have ih:=loop2 hK h10 hc hn F d (j + 1) f (by omega) (by omega) i1 i2
    refine (l5_step (v:=((c + j:Nat):Int)) (j:=((j + 1:Nat):Int)) ?_ ?_ ?_ (inR_of h10 _ (by omega) (by omega)) e ?_).trans ih
    · rw [gors_len]; simp; omega
    · rw [gors_len]; simp [inR]; omega
    · rw [wr _ (by omega)]; simp
    · rw [wr _ (by omega)]; simp
theorem loop1 (hK:AllW K) (h10:10 ≤ K.length) (hc:c ≤ 3) (hn:n ≤ 6) (F:Fam c n fun i=>atI K (i:Int)) (hU:InvH (SQ c n 0 0 0 fun i=>atI K (i:Int))):∀ (d i f:Nat),i + d = c→d < f→InvH (SQ c n i 0 0 fun i=>atI K (i:Int))→TakeFirst.l2 K 100 (c:Int) [0] (gors c n) f (SQ c n i 0 0 fun i=>atI K (i:Int)) (SQ c n 0 0 0 fun i=>atI K (i:Int)) (i:Int) = some true
  | 0,i,f,hi,hf,hI=>by
    obtain ⟨f,rfl⟩:∃ g,f = g + 1:=⟨f - 1,by omega⟩
    have hi:i = c:=by omega
    subst hi
    rw [l2_end (by simp)]
    exact loop2 hK h10 hc hn F n 0 100 (by omega) (by omega) hI hU
  | d + 1,i,f,hi,hf,hI=>by
    obtain ⟨f,rfl⟩:∃ g,f = g + 1:=⟨f - 1,by omega⟩
    have a:=send_Try.m_ok (k:=100) (i1:=(IntKind.i64.wrap ((IntKind.i64.wrap (2 * 0)) + 1))) hI (hK.at (i:Int))
    have e:=a.1.symm.trans (F.hs i (by omega))
    have ih:=loop1 hK h10 hc hn F hU d (i + 1) f (by omega) (by omega) (a.2 _ e)
    refine (l2_step (j:=((i + 1:Nat):Int)) ?_ (inR_of h10 _ (by omega) (by omega)) e ?_).trans ih
    · simp; omega
    · rw [wr _ (by omega)]; simp
theorem fin {i0 i1:Int} (hK:AllW K) (hc:c ≤ 3) (hn:n < 6) (F:Fam c (n + 1) fun i=>atI K (i:Int)) (haw:law16_awake.m 100 = some true) (h0:IntKind.i64.wrap (Int.tmod (IntKind.u64.wrap i0) 4) = c) (hm:∀ L,law16_made.m 100 L i1 = law16_made.m 100 L (n:Int)):TakeFirst.m 100 i0 i1 K = some true:=by
  have e:=F.hm
  obtain ⟨i,v⟩:=(law16_made.m_ok (k:=100)).2 _ e
  unfold TakeFirst.m
  rw [h0,bind1_some,hm,show ((n:Nat):Int) = ((n + 1 - 1:Nat):Int) by simp,e,bind4_some,haw,bind1_some,if_neg (by decide)]
  unfold TakeFirst.j1
  by_cases h:(K.length:Int) < 10
  · rw [if_pos (by simpa using h),haw]; rfl
  · rw [if_neg (by simpa using h)]; exact loop1 hK (by omega) hc (by omega) F v c 0 100 (by omega) (by omega) i
end
end Go.Proofs.YtgejcjcpchofiaaGreat
namespace Go.Proofs.YtgejcjcpchofiaaGreat
open Go.RowKit
set_option linter.unusedVariables false
set_option maxRecDepth 100000
theorem F01 (w:Nat→Int):Fam 0 1 w where
  hm:=by kernel_rfl
  hs:=fun i hi=>absurd hi (Nat.not_lt_zero i)
  ht:=fun i hi=>match i,hi with
    | 0,_=>by kernel_rfl
  hk:=fun i hi=>match i,hi with
    | 0,_=>by kernel_rfl
  hz:=by kernel_rfl
theorem F02 (w:Nat→Int):Fam 0 2 w where
  hm:=by kernel_rfl
  hs:=fun i hi=>absurd hi (Nat.not_lt_zero i)
  ht:=fun i hi=>match i,hi with
    | 0,_=>by kernel_rfl
    | 1,_=>by kernel_rfl
  hk:=fun i hi=>match i,hi with
    | 0,_=>by kernel_rfl
    | 1,_=>by kernel_rfl
  hz:=by kernel_rfl
theorem F03 (w:Nat→Int):Fam 0 3 w where
  hm:=by kernel_rfl
  hs:=fun i hi=>absurd hi (Nat.not_lt_zero i)
  ht:=fun i hi=>match i,hi with
    | 0,_=>by kernel_rfl
    | 1,_=>by kernel_rfl
    | 2,_=>by kernel_rfl
  hk:=fun i hi=>match i,hi with
    | 0,_=>by kernel_rfl
    | 1,_=>by kernel_rfl
    | 2,_=>by kernel_rfl
  hz:=by kernel_rfl
theorem F04 (w:Nat→Int):Fam 0 4 w where
  hm:=by kernel_rfl
  hs:=fun i hi=>absurd hi (Nat.not_lt_zero i)
  ht:=fun i hi=>match i,hi with
    | 0,_=>by kernel_rfl
    | 1,_=>by kernel_rfl
    | 2,_=>by kernel_rfl
    | 3,_=>by kernel_rfl
  hk:=fun i hi=>match i,hi with
    | 0,_=>by kernel_rfl
    | 1,_=>by kernel_rfl
    | 2,_=>by kernel_rfl
    | 3,_=>by kernel_rfl
  hz:=by kernel_rfl
theorem F05 (w:Nat→Int):Fam 0 5 w where
  hm:=by kernel_rfl
  hs:=fun i hi=>absurd hi (Nat.not_lt_zero i)
  ht:=fun i hi=>match i,hi with
    | 0,_=>by kernel_rfl
    | 1,_=>by kernel_rfl
    | 2,_=>by kernel_rfl
    | 3,_=>by kernel_rfl
    | 4,_=>by kernel_rfl
  hk:=fun i hi=>match i,hi with
    | 0,_=>by kernel_rfl
    | 1,_=>by kernel_rfl
    | 2,_=>by kernel_rfl
    | 3,_=>by kernel_rfl
    | 4,_=>by kernel_rfl
  hz:=by kernel_rfl
theorem F06 (w:Nat→Int):Fam 0 6 w where
  hm:=by kernel_rfl
  hs:=fun i hi=>absurd hi (Nat.not_lt_zero i)
  ht:=fun i hi=>match i,hi with
    | 0,_=>by kernel_rfl
    | 1,_=>by kernel_rfl
    | 2,_=>by kernel_rfl
    | 3,_=>by kernel_rfl
    | 4,_=>by kernel_rfl
    | 5,_=>by kernel_rfl
  hk:=fun i hi=>match i,hi with
    | 0,_=>by kernel_rfl
    | 1,_=>by kernel_rfl
    | 2,_=>by kernel_rfl
    | 3,_=>by kernel_rfl
    | 4,_=>by kernel_rfl
    | 5,_=>by kernel_rfl
  hz:=by kernel_rfl
end Go.Proofs.YtgejcjcpchofiaaGreat
