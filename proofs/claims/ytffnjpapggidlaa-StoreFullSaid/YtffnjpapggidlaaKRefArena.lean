/- RefArena RefArena2 -/
import Derived.Test.YtffnjpapggidlaaKRefSpan4
import Derived.Test.YtffnjpapggidlaaKPureRefArena
import Derived.Test.YtffnjpapggidlaaKSpan5
import Derived.Deep.QuietTactic
import Derived.BigQuiet
import Derived.BigGuardPart
import Derived.Deep.RegionWith
namespace Go.Proofs.Ytffnjpapggidlaa
open Go.RowKit
set_option linter.unusedVariables false
def iA (W:List Int):Array Value:=(iV W).toArray
theorem iA_get (W:List Int) (i:Nat):(iA W)[i]?=W[i]?.map (Value.int .i64):=by simp [iA,iV]
theorem iA_at (W:List Int) (i:Nat) {x:Int} (h:W[i]?=some x):(iA W)[i]?=some (.int .i64 x):=by rw [iA_get,h]; rfl
theorem iA_set (W:List Int) (i:Nat) (x:Int):(iA W).setIfInBounds i (.int .i64 x)=iA (W.set i x):=by
  apply Array.ext_getElem?
  intro j
  rw [Array.getElem?_setIfInBounds,iA_get,iA_get,List.getElem?_set]
  simp [iA,iV]
  split <;> simp
def RArenaP (b sb g:Nat) (s:ASt):Piece :=
  ExP fun W:List Int=>WithP (RW s W∧AOk s) (SepP [BlkP b 57 #[.pointer (some ⟨sb,0,none⟩),.slice (some ⟨g,0,none⟩) s.c.length s.c.length],RSpanP sb s.l,BlkP g 3 (iA W)])
section
variable {w0 w:World} {F0:List Nat} {ps:List Piece} {b sb g:Nat} {s:ASt}
theorem St.openR (h:St w0 F0 (RArenaP b sb g s::ps) w):∃ W,RW s W∧AOk s∧s.c.length=32 * s.l.length∧s.l.length≤128∧St w0 F0 (BlkP b 57 #[.pointer (some ⟨sb,0,none⟩),.slice (some ⟨g,0,none⟩) s.c.length s.c.length]::RSpanP sb s.l::BlkP g 3 (iA W)::ps) w:=by
  obtain ⟨W,h⟩:=St.ex.1 h
  obtain ⟨⟨h1,h2⟩,h⟩:=St.with.1 h
  have h3:=St.sep.1 h
  exact ⟨W,h1,h2,h2.len,(St.rspan h3 1 rfl).2,h3⟩
theorem St.closeR {W:List Int} (h:St w0 F0 (BlkP b 57 #[.pointer (some ⟨sb,0,none⟩),.slice (some ⟨g,0,none⟩) s.c.length s.c.length]::RSpanP sb s.l::BlkP g 3 (iA W)::ps) w) (h1:RW s W) (h2:AOk s):St w0 F0 (RArenaP b sb g s::ps) w :=
  St.ex.2 ⟨W,St.with.2 ⟨⟨h1,h2⟩,St.sep.2 h⟩⟩
theorem St.rok (h:St w0 F0 (RArenaP b sb g s::ps) w):AOk s∧s.c.length=32 * s.l.length∧s.l.length≤128:=by
  obtain ⟨W,_,a,b,c,_⟩:=h.openR; exact ⟨a,b,c⟩
set_option maxRecDepth 100000 in
set_option maxHeartbeats 2000000 in
theorem ra_is (h:St w0 F0 (RArenaP b sb g s::ps) w) (a:Int) :
    Calls Try.prog 59 #[.pointer (some ⟨b,0,none⟩),.int .i64 a] w fun e w'=>e=.returned (.bool (aHead s.c a).isSome)∧St w0 F0 (RArenaP b sb g s::ps) w':=by
  obtain ⟨W,hW,hok,hlen,h128,h1⟩:=h.openR
  have c0:=h1.cell 0 rfl 0 rfl
  have c1:=h1.cell 0 rfl 1 rfl
  rcases int_cases a s.c.length with hl | ⟨h0,hl⟩ | ⟨p,rfl,hp⟩
  · have e:(aHead s.c a).isSome=false:=by unfold aHead; rw [if_neg (by omega)]; rfl
    rw [e]; clear e h1 hW hok hlen
    go_enter Try.func59,Try.ntmps59
    go_wp2
    go_ret
    exact ⟨rfl,h⟩
  · have e:(aHead s.c a).isSome=false:=by unfold aHead; rw [if_pos h0,List.getElem?_eq_none (by omega)]; rfl
    rw [e]; clear e h1 hW hok hlen
    go_enter Try.func59,Try.ntmps59
    go_wp2
    go_ret
    exact ⟨rfl,h⟩
  · have hat:=isObj_at hok p
    have hi:p / 32<s.l.length:=by omega
    obtain ⟨g1,cc,e0,d⟩:=h1.rclass 1 rfl
    have d0:=d (p / 32) hi
    have hro:=hok.rows _ (List.getElem_mem hi)
    have hcl:sClass s.l (p / 32:Nat)=s.l[p / 32].1:=sClass_at (List.getElem?_eq_getElem hi)
    have hnW:nW s.l (p / 32)=(cWords s.l[p / 32].1).toNat:=by unfold nW; rw [hcl]
    have hWW:cWords s.l[p / 32].1=(nW s.l (p / 32):Int)∧nW s.l (p / 32)≤32:=by
      obtain ⟨a,c⟩:=cWords_bd s.l[p / 32].1
      rw [hnW]; omega
    generalize s.l[p / 32].1=cl at *
    obtain ⟨n,hn⟩:∃ n,nW s.l (p / 32)=n:=⟨_,rfl⟩
    rw [hn] at hat hWW
    have p0:(0:Int)≤p:=by omega
    have p1:(p:Int)<s.c.length:=by omega
    have q1:(p:Int) / 32<s.l.length:=by omega
    have HW:=Lib.hid hWW.1
    have H:=Lib.hid h
    have n32:=hWW.2
    have hx:(p:Int)<4096:=by omega
    clear hW hok hlen hro hcl hnW hWW hn d h
    by_cases hz:n=0
    · subst hz
      have e:(aHead s.c p).isSome=false:=by rw [hat]; simp
      rw [e]; clear e hat
      go_enter Try.func59,Try.ntmps59
      go_wp2_with fail
      refine (refc_Words _ _).mono ?_
      rintro e w3 ⟨rfl,hb3⟩
      rw [HW.out]
      have h3:=H.out.below hb3
      clear hb3 h1 c0 c1 e0 d0
      go_wp2
      go_quiet (fail)
      go_wp2
      go_ret
      exact ⟨rfl,h3.drewN _⟩
    · have hn0:(0:Int)<(n:Int):=by omega
      by_cases hm:(p:Int) % 32 % (n:Int)=0
      · have hm':p % 32 % n=0:=by exact_mod_cast hm
        have e:(aHead s.c p).isSome=sUsed s.l ((p:Int) / 32) ((p:Int) % 32 / (n:Int)):=by
          rw [hat,decide_eq_true (by omega:0<n),decide_eq_true hm']
          simp
        rw [e]; clear e hat hm'
        go_enter Try.func59,Try.ntmps59
        go_wp2_with fail
        refine (refc_Words _ _).mono ?_
        rintro e w3 ⟨rfl,hb3⟩
        rw [HW.out]
        have h3:=H.out.below hb3
        have h4:=h1.below hb3
        have c0:=h4.cell 0 rfl 0 rfl
        clear hb3 h1 e0 d0 c1
        have t1:(p:Int).tmod 32=(p:Int) % 32:=Int.tmod_eq_emod_of_nonneg p0
        have r0:(0:Int)≤(p:Int) % 32:=by omega
        have t2:((p:Int) % 32).tmod (n:Int)=0:=by rw [Int.tmod_eq_emod_of_nonneg r0]; exact hm
        have t3:IntKind.i64.wrap (((p:Int) % 32).tdiv (n:Int))=(p:Int) % 32 / (n:Int):=by
          rw [Int.tdiv_eq_ediv_of_nonneg r0]
          have u0:0≤(p:Int) % 32 / (n:Int):=Int.ediv_nonneg r0 (by omega)
          have u1:(p:Int) % 32 / (n:Int)≤(p:Int) % 32:=Int.ediv_le_self _ r0
          exact IntWalk.i64_in _ (by omega)
        have hnd:decide (0<n)=true:=decide_eq_true (by omega)
        go_wp2
        go_quiet ((go_at_call 87; exact Calls.quiet_of_same ((rs_Used (h4.drewN _) 1 rfl _ _).mono fun _ _ ⟨x,y⟩=>⟨x,y.symm⟩)))
        go_wp2
        go_ret
        exact ⟨rfl,h3.drewN _⟩
      · have hm':¬ p % 32 % n=0:=fun e=>hm (by exact_mod_cast e)
        have e:(aHead s.c p).isSome=false:=by
          rw [hat,decide_eq_false hm']; simp
        have hmb:((p:Int) % 32 % (n:Int) == 0)=false:=by simpa using hm
        rw [e]; clear e hat hm' hm
        go_enter Try.func59,Try.ntmps59
        go_wp2_with fail
        refine (refc_Words _ _).mono ?_
        rintro e w3 ⟨rfl,hb3⟩
        rw [HW.out]
        have h3:=H.out.below hb3
        clear hb3 h1 c0 c1 e0 d0
        have t1:(p:Int).tmod 32=(p:Int) % 32:=Int.tmod_eq_emod_of_nonneg p0
        have r0:(0:Int)≤(p:Int) % 32:=by omega
        have t2:((p:Int) % 32).tmod (n:Int)=(p:Int) % 32 % (n:Int):=Int.tmod_eq_emod_of_nonneg r0
        have hnd:decide (0<n)=true:=decide_eq_true (by omega)
        go_wp2
        go_quiet (fail)
        go_wp2
        go_ret
        exact ⟨rfl,h3.drewN _⟩
theorem ra_Kind (h:St w0 F0 (RArenaP b sb g s::ps) w) (a:Int) :
    Calls Try.prog 31 #[.pointer (some ⟨b,0,none⟩),.int .i64 a] w fun e w'=>e=.returned (.int .i64 (aKind s.c a))∧St w0 F0 (RArenaP b sb g s::ps) w':=by
  cases hd:aHead s.c a with
  | none =>
    have e1:aKind s.c a=0:=by unfold aKind; rw [hd]
    have HD:=Lib.hid hd
    rw [e1]; clear e1 hd
    go_enter Try.func31,Try.ntmps31
    go_wp2_with fail
    refine (ra_is h _).mono ?_
    rintro e w3 ⟨rfl,h3⟩
    rw [HD.out]
    go_wp2
    go_ret
    exact ⟨rfl,h3⟩
  | some kn =>
    obtain ⟨k,n⟩:=kn
    obtain ⟨p,rfl,hp⟩:=aHead_some hd
    have e1:aKind s.c p=k:=by unfold aKind; rw [hd]
    obtain ⟨W,hW,hok,hlen,h128,-⟩:=h.openR
    obtain ⟨-,-,-,-,-,-,g7,g8,g9,g10,g11⟩:=head_geo hok hp
    have plt:p<s.c.length:=(List.getElem?_eq_some_iff.1 hp).1
    have hn32:n<32:=by have:=hok.head p k n hp; obtain ⟨i,u,_,hu,_,_,_,hx,_⟩:=this; have:=(used_geo hok.rows hu).2.1; omega
    have HP:=Lib.hid hp
    have HD:=Lib.hid hd
    have p0:(0:Int)≤p:=by omega
    have p1:(p:Int)<s.c.length:=by omega
    rw [e1]; clear e1 hd hp hW hok hlen g8 g9 W
    go_enter Try.func31,Try.ntmps31
    go_wp2_with fail
    refine (ra_is h _).mono ?_
    rintro e w3 ⟨rfl,h3⟩
    rw [HD.out]
    clear h
    obtain ⟨W,hW,hok,hlen,h128',h4⟩:=h3.openR
    have c1:=h4.cell 0 rfl 1 rfl
    have cw:=h4.cell 2 rfl p (iA_at W p (hW.2 p k n HP.out).1)
    have k0:(0:Int)≤k+16 * n:=by omega
    have k1:k+16 * n≤1000:=by omega
    have km:(k+16 * n) % 16=k:=by omega
    have KM:=Lib.hid km
    generalize k+16 * n=q at *
    clear h4 hW hok hlen h128' km
    go_wp2
    go_ret
    exact ⟨ret_i KM.out,h3⟩
theorem ra_Len (h:St w0 F0 (RArenaP b sb g s::ps) w) (a:Int) :
    Calls Try.prog 33 #[.pointer (some ⟨b,0,none⟩),.int .i64 a] w fun e w'=>e=.returned (.int .i64 (aLen s.c a))∧St w0 F0 (RArenaP b sb g s::ps) w':=by
  cases hd:aHead s.c a with
  | none =>
    have e1:aLen s.c a=0:=by unfold aLen; rw [hd]
    have HD:=Lib.hid hd
    rw [e1]; clear e1 hd
    go_enter Try.func33,Try.ntmps33
    go_wp2_with fail
    refine (ra_is h _).mono ?_
    rintro e w3 ⟨rfl,h3⟩
    rw [HD.out]
    go_wp2
    go_ret
    exact ⟨rfl,h3⟩
  | some kn =>
    obtain ⟨k,n⟩:=kn
    obtain ⟨p,rfl,hp⟩:=aHead_some hd
    have e1:aLen s.c p=n:=by unfold aLen; rw [hd]
    obtain ⟨W,hW,hok,hlen,h128,-⟩:=h.openR
    obtain ⟨-,-,-,-,-,-,g7,g8,g9,g10,g11⟩:=head_geo hok hp
    have plt:p<s.c.length:=(List.getElem?_eq_some_iff.1 hp).1
    have hn32:n<32:=by have:=hok.head p k n hp; obtain ⟨i,u,_,hu,_,_,_,hx,_⟩:=this; have:=(used_geo hok.rows hu).2.1; omega
    have HP:=Lib.hid hp
    have HD:=Lib.hid hd
    have p0:(0:Int)≤p:=by omega
    have p1:(p:Int)<s.c.length:=by omega
    rw [e1]; clear e1 hd hp hW hok hlen g8 g9 W
    go_enter Try.func33,Try.ntmps33
    go_wp2_with fail
    refine (ra_is h _).mono ?_
    rintro e w3 ⟨rfl,h3⟩
    rw [HD.out]
    clear h
    obtain ⟨W,hW,hok,hlen,h128',h4⟩:=h3.openR
    have c1:=h4.cell 0 rfl 1 rfl
    have cw:=h4.cell 2 rfl p (iA_at W p (hW.2 p k n HP.out).1)
    have k0:(0:Int)≤k+16 * n:=by omega
    have k1:k+16 * n≤1000:=by omega
    have km:(k+16 * n) / 16=n:=by omega
    have KM:=Lib.hid km
    generalize k+16 * n=q at *
    clear h4 hW hok hlen h128' km
    go_wp2
    go_ret
    exact ⟨ret_i KM.out,h3⟩
end
end Go.Proofs.Ytffnjpapggidlaa
namespace Go.Proofs.Ytffnjpapggidlaa
open Go.RowKit
set_option linter.unusedVariables false
section
variable {w0 w:World} {F0:List Nat} {ps:List Piece} {b sb g:Nat} {s:ASt}
set_option maxHeartbeats 1000000 in
theorem ra_Load (h:St w0 F0 (RArenaP b sb g s::ps) w) (a i:Int) :
    Calls Try.prog 35 #[.pointer (some ⟨b,0,none⟩),.int .i64 a,.int .i64 i] w fun e w'=>e=.returned (loadV s a i)∧St w0 F0 (RArenaP b sb g s::ps) w':=by
  cases hd:aHead s.c a with
  | none =>
    have e1:loadV s a i=.tuple #[.int .i64 0,.int .i64 8]:=by unfold loadV aWord aErr; rw [hd]; rfl
    have HD:=Lib.hid hd
    rw [e1]; clear e1 hd
    go_enter Try.func35,Try.ntmps35
    go_wp2_with fail
    refine (ra_is h _).mono ?_
    rintro e w3 ⟨rfl,h3⟩
    rw [HD.out]
    go_wp2
    go_ret2
    exact ⟨rfl,h3⟩
  | some kn =>
    obtain ⟨k,n⟩:=kn
    have hlen:aLen s.c a=n:=by unfold aLen; rw [hd]
    have HD:=Lib.hid hd
    have HL:=Lib.hid hlen
    by_cases h0:i<0
    · have e1:loadV s a i=.tuple #[.int .i64 0,.int .i64 1]:=by unfold loadV aWord aErr; rw [hd]; simp only [if_neg (show ¬ (0≤i∧i<n) by omega)]; rfl
      rw [e1]; clear e1 hd hlen
      go_enter Try.func35,Try.ntmps35
      go_wp2_with fail
      refine (ra_is h _).mono ?_
      rintro e w3 ⟨rfl,h3⟩
      rw [HD.out]
      go_wp2
      go_ret2
      exact ⟨rfl,h3⟩
    · by_cases h1:n≤i
      · have e1:loadV s a i=.tuple #[.int .i64 0,.int .i64 1]:=by unfold loadV aWord aErr; rw [hd]; simp only [if_neg (show ¬ (0≤i∧i<n) by omega)]; rfl
        rw [e1]; clear e1 hd hlen
        go_enter Try.func35,Try.ntmps35
        go_wp2_with fail
        refine (ra_is h _).mono ?_
        rintro e w3 ⟨rfl,h3⟩
        rw [HD.out]
        go_wp2_with fail
        refine (ra_Len h3 _).mono ?_
        rintro e w4 ⟨rfl,h4⟩
        rw [HL.out]
        go_wp2
        go_ret2
        exact ⟨rfl,h4⟩
      · obtain ⟨p,rfl,hp⟩:=aHead_some hd
        obtain ⟨j,rfl⟩:=Int.eq_ofNat_of_zero_le (show 0≤i by omega)
        obtain ⟨W,hW,hok,hcl,h128,-⟩:=h.openR
        have hx:=(hW.2 p k n hp).2 j (by omega)
        obtain ⟨x,hx1,hx2⟩:=hx
        have hlt:=(List.getElem?_eq_some_iff.1 hx1).1
        have e1:loadV s p j=.tuple #[.int .i64 x,.int .i64 0]:=by
          have he:aErr p j s=0:=by unfold aErr; rw [hd]; simp only [if_pos (show 0≤(j:Int)∧(j:Int)<n by omega)]
          unfold loadV aWord; rw [he,if_pos rfl]
          simp only [Int.toNat_natCast]
          rw [hx1]; rfl
        have HP:=Lib.hid hp
        have HX:=Lib.hid hx1
        have hjn:j<n.toNat:=by omega
        have z0:(0:Int)≤(p:Int)+1+j:=by omega
        have z1:(p:Int)+1+j<s.c.length:=by omega
        have z2:(p:Int)+1+j≤4096:=by omega
        obtain ⟨z,hz⟩:∃ z:Nat,p+1+j=z:=⟨_,rfl⟩
        have hzi:(p:Int)+1+(j:Int)=(z:Int):=by omega
        have HZ:=Lib.hid hz
        rw [e1]; clear e1 hd hlen hW hok hcl hx2 hx1 hp W hz
        go_enter Try.func35,Try.ntmps35
        go_wp2_with fail
        refine (ra_is h _).mono ?_
        rintro e w3 ⟨rfl,h3⟩
        rw [HD.out]
        go_wp2_with fail
        refine (ra_Len h3 _).mono ?_
        rintro e w4 ⟨rfl,h4⟩
        rw [HL.out]
        obtain ⟨W,hW,-,-,-,h5⟩:=h4.openR
        have c1:=h5.cell 0 rfl 1 rfl
        have cw:w4.cell? ⟨g,z,none⟩=some (.int .i64 x):=by
          obtain ⟨x',y1,y2⟩:=(hW.2 p k n HP.out).2 j hjn
          rw [HX.out] at y1; injection y1 with y1; injection y1 with y1; subst y1
          rw [HZ.out] at y2
          exact h5.cell 2 rfl z (iA_at W z y2)
        clear h3 h hW h5
        go_wp2
        go_ret2
        exact ⟨rfl,h4⟩
theorem loadV_form (s:ASt) (a i:Int):loadV s a i=.tuple #[.int .i64 (aWord a i s),.int .i64 (aErr a i s)]:=rfl
set_option maxHeartbeats 1000000 in
theorem ra_Store (h:St w0 F0 (RArenaP b sb g s::ps) w) (a i x:Int) :
    Calls Try.prog 22 #[.pointer (some ⟨b,0,none⟩),.int .i64 a,.int .i64 i,.int .i64 x] w fun e w'=>e=.returned (.int .i64 (aErr a i s))∧St w0 F0 (RArenaP b sb g (aStoreS a i x s)::ps) w':=by
  by_cases he:aErr a i s=0
  · obtain ⟨p,j,k,n,rfl,rfl,hp,hj⟩:=err_zero he
    obtain ⟨W,hW,hok,hcl,h128,-⟩:=h.openR
    obtain ⟨y,hx1,hx2⟩:=(hW.2 p k n hp).2 j hj
    have hlt:=(List.getElem?_eq_some_iff.1 hx1).1
    have hS:aStoreS p j x s=⟨s.l,s.c.set (p+1+j) (.word x)⟩:=by unfold aStoreS; rw [if_pos he]; rfl
    have hokS:=(store_ok hok p j x).1
    rw [hS] at hokS ⊢
    have HP:=Lib.hid (And.intro hp hj)
    have HE:=Lib.hid he
    have HO:=Lib.hid hokS
    have z0:(0:Int)≤(p:Int)+1+j:=by omega
    have z1:(p:Int)+1+j<s.c.length:=by omega
    have z2:(p:Int)+1+j≤4096:=by omega
    obtain ⟨z,hz⟩:∃ z:Nat,p+1+j=z:=⟨_,rfl⟩
    have hzi:(p:Int)+1+(j:Int)=(z:Int):=by omega
    have HZ:=Lib.hid hz
    rw [he,hz]
    rw [hz] at hlt
    clear he hS hW hcl hx1 hx2 hp hj W hokS hz
    go_enter Try.func22,Try.ntmps22
    go_wp2_with fail
    refine (ra_Load h _ _).mono ?_
    rintro e w3 ⟨rfl,h3⟩
    rw [loadV_form,HE.out]
    obtain ⟨W,hW,hok,-,-,h4⟩:=h3.openR
    have c1:=h4.cell 0 rfl 1 rfl
    have hWl:=hW.1
    obtain ⟨v,hv⟩:∃ v,W[z]?=some v:=⟨_,List.getElem?_eq_getElem (by omega)⟩
    have cw:=h4.cell 2 rfl z (iA_at W z hv)
    have fw:=h4.free 2 rfl z
    have HW:=Lib.hid hW
    clear h h3 hWl hv hW
    go_wp2
    go_ret
    refine ⟨rfl,St.closeR (W:=W.set z x) ?_ ?_ ?_⟩
    · have h6:=(h4.pick2.set z (.int .i64 x)).back2
      rw [iA_set] at h6
      simpa using h6
    · have h7:=RW.store hok HW.out HP.out.1 HP.out.2 x
      rw [HZ.out] at h7; exact h7
    · have:=HO.out; rw [HZ.out] at this; exact this
  · have hS:aStoreS a i x s=s:=by unfold aStoreS; rw [if_neg he]
    have he1:(aErr a i s == 0)=false:=by simpa using he
    rw [hS]; clear hS he
    go_enter Try.func22,Try.ntmps22
    go_wp2_with fail
    refine (ra_Load h _ _).mono ?_
    rintro e w3 ⟨rfl,h3⟩
    rw [loadV_form]
    go_wp2
    go_ret
    exact ⟨rfl,h3⟩
set_option maxRecDepth 100000 in
set_option maxHeartbeats 4000000 in
theorem ra_Free (h:St w0 F0 (RArenaP b sb g s::ps) w) (a:Int) :
    Calls Try.prog 20 #[.pointer (some ⟨b,0,none⟩),.int .i64 a] w fun e w'=>e=.returned (.int .i64 (aFreeE a s))∧St w0 F0 (RArenaP b sb g (aFreeS a s)::ps) w':=by
  cases hd:aHead s.c a with
  | none =>
    have e1:aFreeE a s=8:=by unfold aFreeE; rw [hd]; rfl
    have e2:aFreeS a s=s:=by unfold aFreeS; rw [hd]
    have HD:=Lib.hid hd
    rw [e1,e2]; clear e1 e2 hd
    go_enter Try.func20,Try.ntmps20
    go_wp2_with fail
    refine (ra_is h _).mono ?_
    rintro e w3 ⟨rfl,h3⟩
    rw [HD.out]
    go_wp2
    go_ret
    exact ⟨rfl,h3⟩
  | some kn =>
    obtain ⟨k,n⟩:=kn
    obtain ⟨p,rfl,hp⟩:=aHead_some hd
    have e1:aFreeE p s=0:=by unfold aFreeE; rw [hd]; rfl
    obtain ⟨hok,hcl,h128⟩:=h.rok
    obtain ⟨g1,g2,g3,g4,g5,g6,g7,g8,g9,g10,g11⟩:=head_geo hok hp
    obtain ⟨fok,fl,fr⟩:=free_ok hok (p:Int)
    have m:=free_more hok hp
    have hrows:=m.rows
    have hclass:sClass s.l (p / 32:Nat)=s.l[p / 32].1:=sClass_at (List.getElem?_eq_getElem g1)
    rw [hclass] at g4
    have HD:=Lib.hid hd
    have HF:=Lib.hid (And.intro fok (And.intro fl hrows))
    have HG:=Lib.hid g4
    obtain ⟨W,hWn⟩:∃ W,nW s.l (p / 32)=W:=⟨_,rfl⟩
    rw [hWn] at HF HG g5 g6
    have p0:(0:Int)≤p:=by omega
    have q1:(p:Int) / 32<s.l.length:=by omega
    have q0:(0:Int)≤(p:Int) / 32:=by omega
    have p4:(p:Int)<4096:=by have:=(List.getElem?_eq_some_iff.1 hp).1; omega
    have W0:(0:Int)<(W:Int):=by omega
    have W32:(W:Int)≤32:=by omega
    rw [e1]; clear e1 hd hp hcl g2 g3 g4 g7 g8 g9 g10 g11 fok fl fr m hrows hclass hWn g5 g6
    go_enter Try.func20,Try.ntmps20
    go_wp2_with fail
    refine (ra_is h _).mono ?_
    rintro e w3 ⟨rfl,h3⟩
    rw [HD.out]
    clear h
    obtain ⟨Wn,hW,-,-,-,h4⟩:=h3.openR
    have H5:=Lib.hid h4.drew
    have hWf:=RW.free hok hW p
    have HWF:=Lib.hid hWf
    have t1:(p:Int).tmod 32=(p:Int) % 32:=Int.tmod_eq_emod_of_nonneg p0
    have r0:(0:Int)≤(p:Int) % 32:=by omega
    have t3:IntKind.i64.wrap (((p:Int) % 32).tdiv (W:Int))=(p:Int) % 32 / (W:Int):=by
      rw [Int.tdiv_eq_ediv_of_nonneg r0]
      have u0:0≤(p:Int) % 32 / (W:Int):=Int.ediv_nonneg r0 (by omega)
      have u1:(p:Int) % 32 / (W:Int)≤(p:Int) % 32:=Int.ediv_le_self _ r0
      exact IntWalk.i64_in _ (by omega)
    clear hW hWf h3 h4 hok h128
    go_wp2
    have h5:=H5.out
    obtain ⟨gc,cc,e0,d⟩:=h5.rclass 1 rfl
    have d0:=d (p / 32) g1
    have c0:w3.drew.cell? ⟨b,0,none⟩=some (.pointer (some ⟨sb,0,none⟩)):=h5.cell 0 rfl 0 rfl
    have hg:=HG.out
    clear d HG
    generalize s.l[p / 32].1=cl at *
    have HG:=Lib.hid hg
    have d1:w3.drew.cell? ⟨gc,((p:Int) / 32).toNat,none⟩=some (.int .i64 cl):=by rw [show ((p:Int) / 32).toNat=p / 32 by omega]; exact d0
    clear hg
    go_region_with (first
      | (go_at_call 13; refine (refc_Words _ _).mono ?_; rintro e w4 ⟨rfl,hb4⟩; rw [HG.out]; have h6:=H5.out.below hb4; have x0:w4.cell? ⟨b,0,none⟩=some (.pointer (some ⟨sb,0,none⟩)):=h6.cell 0 rfl 0 rfl; have H6:=Lib.hid h6; clear h6)
      | (go_at_call 61; refine (rs_Free (show Hid (St w0 F0 (BlkP b _ _::RSpanP sb _::BlkP g _ _::ps) _) by assumption).out.pick1 _ _).mono ?_; rintro e w5 ⟨rfl,h7⟩))
    all_goals
      go_wp2
      go_ret
      obtain ⟨fok,fl,hrows⟩:=HF.out
      refine ⟨rfl,St.closeR (W:=Wn) ?_ HWF.out fok⟩
      have h8:=(show St w0 F0 (RSpanP sb _::BlkP b _ _::BlkP g _ _::ps) _ by assumption).pick1
      rw [fl,hrows]
      exact h8
end
end Go.Proofs.Ytffnjpapggidlaa
