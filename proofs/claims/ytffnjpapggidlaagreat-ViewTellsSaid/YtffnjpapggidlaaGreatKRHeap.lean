/- RHeap RHeap2 -/
import Derived.Test.YtffnjpapggidlaaGreatKRefArena3
import Derived.Test.YtffnjpapggidlaaGreatKPureArena
import Derived.Test.YtffnjpapggidlaaGreatKGrey
import Derived.Test.YtffnjpapggidlaaGreatKPlain
namespace Go.Proofs.YtffnjpapggidlaaGreat
open Go.RowKit
set_option linter.unusedVariables false
def RListP (b:Nat) (g:List Int) (ov:Bool):Piece where
  at' w F:=RListAt w b g ov F
  keep h k hd:=h.keep k hd
  lt h:=h.lt
def cols (f:Int→Int) (n:Nat):List Int:=(List.range n).map fun i:Nat=>f i
theorem cols_len (f:Int→Int) (n:Nat):(cols f n).length=n:=by simp [cols]
theorem cols_at (f:Int→Int) (n i:Nat) (h:i<n):(cols f n)[i]?=some (f i):=by simp [cols,h]
theorem cols_set (f:Int→Int) (n p:Nat) (v:Int):(cols f n).set p v=cols (upd f p v) n:=by
  apply List.ext_getElem
  · simp [cols]
  · intro i h1 h2
    rw [List.getElem_set]
    simp only [cols,List.getElem_map,List.getElem_range,upd]
    by_cases e:p=i
    · subst e; simp
    · rw [if_neg e,if_neg (by omega)]
def rheapB (b ab cb gl n:Nat) (h:HSt):Piece:=BlkP b 83 #[.pointer (some ⟨ab,0,none⟩),.slice (some ⟨cb,0,none⟩) n n,.pointer (some ⟨gl,0,none⟩),.int .i64 h.ph,.int .i64 h.sp,.int .i64 h.cy]
def RHeapP (b ab sb g cb:Nat) (h:HSt):Piece:=WithP (HOk h) (ExP fun gl:Nat=>SepP [rheapB b ab cb gl h.a.c.length h,RArenaP ab sb g h.a,BlkP cb 3 (iA (cols h.col h.a.c.length)),RListP gl h.g h.ov])
section
variable {w0 w:World} {F0:List Nat} {ps:List Piece} {b ab sb g cb gl n:Nat} {h:HSt}
theorem St.openRH (hs:St w0 F0 (RHeapP b ab sb g cb h::ps) w):HOk h∧∃ gl,St w0 F0 (rheapB b ab cb gl h.a.c.length h::RArenaP ab sb g h.a::BlkP cb 3 (iA (cols h.col h.a.c.length))::RListP gl h.g h.ov::ps) w:=by
  obtain ⟨ok,hs⟩:=St.with.1 hs
  obtain ⟨gl,hs⟩:=St.ex.1 hs
  exact ⟨ok,gl,St.sep.1 hs⟩
theorem St.closeRH (hs:St w0 F0 (rheapB b ab cb gl h.a.c.length h::RArenaP ab sb g h.a::BlkP cb 3 (iA (cols h.col h.a.c.length))::RListP gl h.g h.ov::ps) w) (ok:HOk h):St w0 F0 (RHeapP b ab sb g cb h::ps) w :=
  St.with.2 ⟨ok,St.ex.2 ⟨gl,St.sep.2 hs⟩⟩
theorem St.rheapOk (hs:St w0 F0 (RHeapP b ab sb g cb h::ps) w):HOk h:=(St.with.1 hs).1
theorem St.rhcell {k:Nat} (hs:St w0 F0 ps w) (hk:ps[k]?=some (rheapB b ab cb gl n h)):w.cell? ⟨b,0,none⟩=some (.pointer (some ⟨ab,0,none⟩))∧w.cell? ⟨b,1,none⟩=some (.slice (some ⟨cb,0,none⟩) n n)∧w.cell? ⟨b,2,none⟩=some (.pointer (some ⟨gl,0,none⟩))∧w.cell? ⟨b,3,none⟩=some (.int .i64 h.ph)∧w.cell? ⟨b,4,none⟩=some (.int .i64 h.sp)∧w.cell? ⟨b,5,none⟩=some (.int .i64 h.cy) :=
  ⟨hs.cell k hk 0 rfl,hs.cell k hk 1 rfl,hs.cell k hk 2 rfl,hs.cell k hk 3 rfl,hs.cell k hk 4 rfl,hs.cell k hk 5 rfl⟩
theorem St.rhsee {k:Nat} (hs:St w0 F0 ps w) (hk:ps[k]?=some (RHeapP b ab sb g cb h)):w.cell? ⟨b,0,none⟩=some (.pointer (some ⟨ab,0,none⟩))∧w.cell? ⟨b,1,none⟩=some (.slice (some ⟨cb,0,none⟩) h.a.c.length h.a.c.length)∧w.cell? ⟨b,3,none⟩=some (.int .i64 h.ph)∧w.cell? ⟨b,5,none⟩=some (.int .i64 h.cy)∧∀ p:Nat,p<h.a.c.length→w.cell? ⟨cb,p,none⟩=some (.int .i64 (h.col p)):=by
  obtain ⟨G,ok,gl,hsep⟩:=hs.get k hk
  obtain ⟨_,h0⟩:=hsep.get 0 rfl
  obtain ⟨_,h2⟩:=hsep.get 2 rfl
  exact ⟨(h0.1.cell 0).trans rfl,(h0.1.cell 1).trans rfl,(h0.1.cell 3).trans rfl,(h0.1.cell 5).trans rfl,fun p hp=>(h2.1.cell p).trans (iA_at _ p (cols_at _ _ p hp))⟩
theorem St.rhOk {k:Nat} (hs:St w0 F0 ps w) (hk:ps[k]?=some (RHeapP b ab sb g cb h)):HOk h:=by
  obtain ⟨G,ok,_⟩:=hs.get k hk; exact ok
theorem rl_Push (hs:St w0 F0 (RListP gl h.g h.ov::ps) w) (h8:h.g.length≤8) (p:Int) :
    Calls Tryz.prog 187 #[.pointer (some ⟨gl,0,none⟩),.int .i64 p] w fun e w'=>(∃ r:Bool,e=.returned (.bool r))∧St w0 F0 (RListP gl (hPush p h).g (hPush p h).ov::ps) w':=by
  unfold hPush
  by_cases hl:h.g.length<8
  · rw [if_pos hl]
    exact (hs.call (p':=RListP gl (h.g ++ [p]) h.ov) fun F h1=>rlist_Push _ _ _ _ _ _ h1 hl).mono fun e w' ⟨he,k⟩=>⟨⟨_,he⟩,k⟩
  · rw [if_neg hl]
    exact (hs.call (p':=RListP gl h.g true) fun F h1=>rlist_Push_full _ _ _ _ _ _ h1 (by omega)).mono fun e w' ⟨he,k⟩=>⟨⟨_,he⟩,k⟩
theorem push_formR (p:Int) (h:HSt):hPush p h={ h with g:=(hPush p h).g,ov:=(hPush p h).ov }:=by unfold hPush; split <;> rfl
theorem St.rhAsk {fn:FuncId} {args:Array Value} {r:Ending} (hs:St w0 F0 (RHeapP b ab sb g cb h::ps) w) (hc:∀ qs,St w0 F0 (RArenaP ab sb g h.a::qs) w→Calls Tryz.prog fn args w fun e w'=>e=r∧St w0 F0 (RArenaP ab sb g h.a::qs) w') :
    Calls Tryz.prog fn args w fun e w'=>e=r∧St w0 F0 (RHeapP b ab sb g cb h::ps) w':=by
  obtain ⟨ok,gl,hs⟩:=hs.openRH
  exact (hc _ hs.pick1).mono fun e w' ⟨he,k⟩=>⟨he,k.pick1.closeRH ok⟩
theorem rha_is (hs:St w0 F0 (RHeapP b ab sb g cb h::ps) w) (p:Int) :
    Calls Tryz.prog 132 #[.pointer (some ⟨ab,0,none⟩),.int .i64 p] w fun e w'=>e=.returned (.bool (aHead h.a.c p).isSome)∧St w0 F0 (RHeapP b ab sb g cb h::ps) w':=hs.rhAsk fun _ k=>ra_is k _
theorem rha_Kind (hs:St w0 F0 (RHeapP b ab sb g cb h::ps) w) (p:Int) :
    Calls Tryz.prog 104 #[.pointer (some ⟨ab,0,none⟩),.int .i64 p] w fun e w'=>e=.returned (.int .i64 (aKind h.a.c p))∧St w0 F0 (RHeapP b ab sb g cb h::ps) w':=hs.rhAsk fun _ k=>ra_Kind k _
theorem rha_Len (hs:St w0 F0 (RHeapP b ab sb g cb h::ps) w) (p:Int) :
    Calls Tryz.prog 116 #[.pointer (some ⟨ab,0,none⟩),.int .i64 p] w fun e w'=>e=.returned (.int .i64 (aLen h.a.c p))∧St w0 F0 (RHeapP b ab sb g cb h::ps) w':=hs.rhAsk fun _ k=>ra_Len k _
theorem rha_Load (hs:St w0 F0 (RHeapP b ab sb g cb h::ps) w) (p i:Int) :
    Calls Tryz.prog 117 #[.pointer (some ⟨ab,0,none⟩),.int .i64 p,.int .i64 i] w fun e w'=>e=.returned (loadV h.a p i)∧St w0 F0 (RHeapP b ab sb g cb h::ps) w':=hs.rhAsk fun _ k=>ra_Load k _ _
theorem rha_Objects (hs:St w0 F0 (RHeapP b ab sb g cb h::ps) w) :
    Calls Tryz.prog 103 #[.pointer (some ⟨ab,0,none⟩)] w fun e w'=>∃ v,e=.returned v∧St w0 F0 (RowP v (hObjs h.a)::RHeapP b ab sb g cb h::ps) w':=by
  obtain ⟨ok,gl,hs⟩:=hs.openRH
  refine (ra_Objects hs.pick1).mono fun e w' ⟨v,he,k⟩=>⟨v,he,?_⟩
  have k2:St w0 F0 (rheapB b ab cb gl h.a.c.length h::RArenaP ab sb g h.a::BlkP cb 3 (iA (cols h.col h.a.c.length))::RListP gl h.g h.ov::RowP v (hObjs h.a)::ps) w' :=
    k.perm ((((List.Perm.swap _ _ _).cons _).trans ((List.perm_middle (l₁:=[rheapB b ab cb gl h.a.c.length h,RArenaP ab sb g h.a,BlkP cb 3 (iA (cols h.col h.a.c.length)),RListP gl h.g h.ov])).symm)))
  exact (k2.closeRH ok).pick1
theorem rha_Store (hs:St w0 F0 (RHeapP b ab sb g cb h::ps) w) (p i x:Int) (hx:Wd x) :
    Calls Tryz.prog 47 #[.pointer (some ⟨ab,0,none⟩),.int .i64 p,.int .i64 i,.int .i64 x] w fun e w'=>e=.returned (.int .i64 (aErr p i h.a))∧St w0 F0 (RHeapP b ab sb g cb { h with a:=aStoreS p i x h.a }::ps) w':=by
  obtain ⟨ok,gl,hs⟩:=hs.openRH
  refine (ra_Store hs.pick1 p i x).mono fun e w' ⟨he,k⟩=>⟨he,?_⟩
  refine St.closeRH (gl:=gl) (h:={ h with a:=aStoreS p i x h.a }) ?_ (ok.storeA p i hx)
  have e:(aStoreS p i x h.a).c.length=h.a.c.length:=(store_ok ok.a p i x).2.1
  simp only
  rw [e]
  exact k.pick1
theorem rha_Free (hs:St w0 F0 (RHeapP b ab sb g cb h::ps) w) (p:Int) (hp:p ∉ h.g) :
    Calls Tryz.prog 199 #[.pointer (some ⟨ab,0,none⟩),.int .i64 p] w fun e w'=>e=.returned (.int .i64 (aFreeE p h.a))∧St w0 F0 (RHeapP b ab sb g cb { h with a:=aFreeS p h.a }::ps) w':=by
  obtain ⟨ok,gl,hs⟩:=hs.openRH
  refine (ra_Free hs.pick1 p).mono fun e w' ⟨he,k⟩=>⟨he,?_⟩
  refine St.closeRH (gl:=gl) (h:={ h with a:=aFreeS p h.a }) ?_ (ok.freeA hp)
  have e:(aFreeS p h.a).c.length=h.a.c.length:=(free_ok ok.a p).2.1
  simp only
  rw [e]
  exact k.pick1
theorem made_cols (m:Nat):madeCells #[Value.int .i64 0] m=iA (cols (fun _=>0) m):=by
  rw [made_zero]
  congr 1
  apply List.ext_getElem <;> simp [cols]
set_option maxHeartbeats 1000000 in
theorem rh_New {k:Nat} (hn2:2≤k) (hn:k≤128) (hs:St w0 F0 ps w) :
    Calls Tryz.prog 32 #[.int .i64 k] w fun e w'=>∃ b ab sb g cb,e=.returned (.tuple #[.pointer (some ⟨b,0,none⟩),.int .i64 0])∧St w0 F0 (RHeapP b ab sb g cb (hNew k)::ps) w':=by
  obtain ⟨i0,hi,hz0,hz1,hz2⟩:=info_parts info_iV
  obtain ⟨m,hm⟩:∃ m:Nat,32 * k=m:=⟨_,rfl⟩
  have hml:(aNew k).c.length=m:=by rw [← hm]; simp [aNew]
  have hmk:∀ W:World,(Instr.makeSlice 47 (.int .i64 (m:Int)) (.int .i64 (m:Int))).run Tryz.prog W=.ok (.slice (some ⟨W.heap.size,0,none⟩) m m) (W.alloc (.cells (iA (cols (fun _=>0) m)) 3)):=by
    intro W
    have hr:=run_make (P:=Tryz.prog) W 47 3 i0 (.int .i64 0) Tryz.underlying47 hi hz0 .i64 .i64 m m (by omega) (by omega) (by rw [hz2]; omega) (by omega)
    rw [hz1] at hr
    simp only [Int.toNat_natCast,Nat.mul_one] at hr
    rw [hr,← made_cols]
    rfl
  have HM:=Lib.hid hml
  clear hm hml
  go_enter Tryz.func32,Tryz.ntmps32
  go_wp2_with fail
  refine (ra_New hn2 hn hs).mono ?_
  rintro e w1 ⟨ab,sb,g,rfl,h1⟩
  obtain ⟨Wn,hx1,hx2,hx3,hx4,h2⟩:=h1.openR
  have c1:=h2.cell 0 rfl 1 rfl
  rw [HM.out] at c1
  clear h2 hx1 hx2 hx3 hx4 Wn
  go_wp2
  go_ret2
  refine ⟨_,ab,sb,g,w1.heap.size,rfl,?_⟩
  have h3:=h1.new (iA (cols (fun _=>0) m)) 3
  have h4:=h3.new #[.slice none 0 0,.bool false] 178
  have h5:=h4.new #[.pointer (some ⟨ab,0,none⟩),.slice (some ⟨w1.heap.size,0,none⟩) m m,.pointer (some ⟨w1.heap.size+1,0,none⟩),.int .i64 0,.int .i64 0,.int .i64 0] 83
  have hL:∀ {W:World} {qs:List Piece} {gl:Nat},St w0 F0 (BlkP gl 178 #[.slice none 0 0,.bool false]::qs) W→St w0 F0 (RListP gl [] false::qs) W:=by
    intro W qs gl hq
    refine hq.step1 ?_
    rintro F ⟨hb,rfl⟩
    exact ⟨[gl],⟨.slice none 0 0,hb,World.ownsRow_nil _ _ _ _,by simp,rfl⟩,Keeps.refl _ _,by simp⟩
  have h6:=hL h5.pick1
  refine St.closeRH (gl:=w1.heap.size+1) (h:=hNew k) ?_ (HOk.new k hn2 hn)
  rw [show (hNew k).a.c.length=m from HM.out]
  have h7:=h6.pick3.pick3.pick3.swap1
  simp only [World.alloc,Array.size_push] at h7 ⊢
  exact h7
set_option maxHeartbeats 1000000 in
theorem rh_Alloc (hs:St w0 F0 (RHeapP b ab sb g cb h::ps) w) (kind n:Int) :
    Calls Tryz.prog 102 #[.pointer (some ⟨b,0,none⟩),.int .i64 kind,.int .i64 n] w fun e w'=>e=.returned (aAllocV kind n h.a)∧St w0 F0 (RHeapP b ab sb g cb (hAlloc kind n h)::ps) w':=by
  obtain ⟨ok,gl,h2⟩:=hs.openRH
  have okE:=ok.alloc kind n
  have c0:=(h2.rhcell (k:=0) rfl).1
  clear hs
  by_cases hbad:∃ er:Int,aAllocV kind n h.a=.tuple #[.int .i64 0,.int .i64 er]∧¬ er=0
  · obtain ⟨er,hv,her⟩:=hbad
    have hst:aAllocS kind n h.a=h.a∧hAlloc kind n h=h:=by
      unfold aAllocV at hv
      unfold aAllocS hAlloc
      split
      · exact ⟨rfl,rfl⟩
      · rename_i hb
        rw [if_neg hb] at hv
        cases ha:aAlloc kind n h.a with
        | none=>exact ⟨rfl,rfl⟩
        | some x=>rw [ha] at hv; simp at hv; exact absurd hv.2.symm her
    rw [hst.2,hv]
    have he1:(er == 0)=false:=by simpa using her
    have he2:(er != 0)=true:=by simp [bne,he1]
    have HV:=Lib.hid (And.intro hv hst.1)
    clear hv hst her okE
    go_enter Tryz.func102,Tryz.ntmps102
    go_wp2_with fail
    refine (ra_Alloc h2.pick1 _ _).mono ?_
    rintro e w1 ⟨rfl,h3⟩
    rw [HV.out.1]
    rw [HV.out.2] at h3
    go_wp2
    go_ret2
    exact ⟨rfl,h3.pick1.closeRH ok⟩
  · have hgood:∃ (p:Nat) (s':ASt),aBad kind n=false∧aAlloc kind n h.a=some (p,s'):=by
      unfold aAllocV at hbad
      cases hb:aBad kind n with
      | true=>rw [hb] at hbad; exact absurd ⟨1,rfl,by omega⟩ hbad
      | false =>
        cases ha:aAlloc kind n h.a with
        | none=>rw [hb,ha] at hbad; exact absurd ⟨9,rfl,by omega⟩ hbad
        | some x=>exact ⟨x.1,x.2,rfl,rfl⟩
    obtain ⟨p,s',hb,ha⟩:=hgood
    have m:=alloc_more ok.a hb ha
    have hlt:=m.lt
    have hl4:h.a.c.length≤4096:=by have:=ok.len; have:=ok.a.len; omega
    have p4:(p:Int)<h.a.c.length:=by omega
    have p0:(0:Int)≤p:=by omega
    have hv:aAllocV kind n h.a=.tuple #[.int .i64 p,.int .i64 0]:=by unfold aAllocV; rw [hb,ha]; rfl
    have hS:aAllocS kind n h.a=s':=by unfold aAllocS; rw [hb,ha]; rfl
    have hH:hAlloc kind n h={ h with a:=s',col:=upd h.col p (if h.ph=0 then 0 else 2) }:=by unfold hAlloc; rw [hb,ha]; rfl
    rw [hH] at okE
    rw [hH,hv]
    obtain ⟨q,hq⟩:∃ q:Int,(if h.ph=0 then 0 else 2)=q:=⟨_,rfl⟩
    rw [hq] at okE ⊢
    have HQ:=Lib.hid hq
    clear hq
    have hlen:=m.len
    have HV:=Lib.hid (And.intro hv (And.intro hS hlen))
    have hc:(iA (cols h.col h.a.c.length))[p]?=some (.int .i64 (h.col p)):=iA_at _ p (cols_at _ _ p (by omega))
    have HC:=Lib.hid hc
    clear hv hS hH hb ha m hlt hbad ok hlen hc
    go_enter Tryz.func102,Tryz.ntmps102
    go_wp2_with fail
    refine (ra_Alloc h2.pick1 _ _).mono ?_
    rintro e w1 ⟨rfl,h3⟩
    rw [HV.out.1]
    rw [HV.out.2.1] at h3
    have c1:=(St.rhcell (k:=1) h3 rfl).2.1
    have cp:=h3.cell 2 rfl p HC.out
    have fp:=h3.free 2 rfl p
    have h4:=h3.pick2.set p (.int .i64 0)
    rw [iA_set,cols_set] at h4
    have c3:=(St.rhcell (k:=2) h4 rfl).2.2.2.1
    have c1':=(St.rhcell (k:=2) h4 rfl).2.1
    have cp':_=some (Value.int .i64 0):=h4.cell 0 rfl p (by rw [iA_get,cols_at _ _ p (by omega)]; simp [upd])
    have fp':=h4.free 0 rfl p
    clear h2 c0
    by_cases h0:h.ph=0
    · have hq0:0=q:=by rw [← HQ.out,if_pos h0]
      subst hq0
      rw [h0] at c3
      clear h0 h3
      go_wp2
      go_ret2
      refine ⟨rfl,St.closeRH (gl:=gl) (h:={ h with a:=s',col:=upd h.col p 0 }) ?_ okE⟩
      simp only
      rw [HV.out.2.2]
      exact h4.pick2.pick2.swap1.swap1.pick1
    · have hq0:2=q:=by rw [← HQ.out,if_neg h0]
      subst hq0
      have he1:(h.ph == 0)=false:=by simpa using h0
      have he2:(h.ph != 0)=true:=by simp [bne,he1]
      clear h0 h3
      go_wp2
      go_ret2
      have h5:=h4.set p (.int .i64 2)
      rw [iA_set,cols_set,show upd (upd h.col p 0) p 2=upd h.col p 2 by funext x; unfold upd; split <;> rfl] at h5
      refine ⟨rfl,St.closeRH (gl:=gl) (h:={ h with a:=s',col:=upd h.col p 2 }) ?_ okE⟩
      simp only
      rw [HV.out.2.2]
      exact h5.pick2.pick2.swap1.swap1.pick1
end
end Go.Proofs.YtffnjpapggidlaaGreat
namespace Go.Proofs.YtffnjpapggidlaaGreat
open Go.RowKit
set_option linter.unusedVariables false
section
variable {w0 w:World} {F0:List Nat} {ps:List Piece} {b ab sb g cb gl n:Nat} {h:HSt}
theorem rheapB_shade (p:Int):rheapB b ab cb gl n (hShade p h)=rheapB b ab cb gl n h:=by
  unfold rheapB; rw [shade_ph,shade_sp,shade_cy]
set_option maxHeartbeats 2000000 in
theorem rh_Shade (hs:St w0 F0 (RHeapP b ab sb g cb h::ps) w) (p:Int) :
    Calls Tryz.prog 115 #[.pointer (some ⟨b,0,none⟩),.int .i64 p] w fun e w'=>e=.returned (.tuple #[])∧St w0 F0 (RHeapP b ab sb g cb (hShade p h)::ps) w':=by
  obtain ⟨ok,gl,h2⟩:=hs.openRH
  have okE:=ok.shade p
  obtain ⟨c0,c1,c2,c3,-,-⟩:=h2.rhcell (k:=0) rfl
  clear hs
  by_cases h0:h.ph=1
  · rw [h0] at c3
    cases hO:isObj h.a p with
    | false =>
      have hE:hShade p h=h:=by unfold hShade hWhite; rw [hO]; simp
      rw [hE]
      have HO:=Lib.hid hO
      clear hO hE okE h0
      go_enter Tryz.func115,Tryz.ntmps115
      go_wp2_with fail
      refine (ra_is h2.pick1 _).mono ?_
      rintro e w1 ⟨rfl,h3⟩
      rw [show (aHead h.a.c p).isSome=false from HO.out]
      go_wp2
      go_end0
      exact ⟨rfl,h3.pick1.closeRH ok⟩
    | true =>
      obtain ⟨r0,r1⟩:=isObj_range hO
      obtain ⟨q,rfl⟩:∃ q:Nat,p=q:=⟨p.toNat,by omega⟩
      have hl4:h.a.c.length≤4096:=by have:=ok.len; have:=ok.a.len; omega
      have q4:(q:Int)<h.a.c.length:=by omega
      have q0:(0:Int)≤q:=by omega
      have hc:(iA (cols h.col h.a.c.length))[q]?=some (.int .i64 (h.col q)):=iA_at _ q (cols_at _ _ q (by omega))
      have HC:=Lib.hid hc
      have HO:=Lib.hid hO
      have HG:=Lib.hid ok.gl
      have OK:=Lib.hid ok
      by_cases hz:h.col q=0
      · have hW:hWhite q h=true:=by unfold hWhite; rw [h0,hO,hz]; rfl
        have HZ:=Lib.hid (And.intro hz (And.intro hW okE))
        clear hO okE h0 hc hz hW ok r1
        go_enter Tryz.func115,Tryz.ntmps115
        go_wp2_with fail
        refine (ra_is h2.pick1 _).mono ?_
        rintro e w1 ⟨rfl,h3⟩
        rw [show (aHead h.a.c q).isSome=true from HO.out]
        have c1:=(St.rhcell (k:=1) h3 rfl).2.1
        have cp:=h3.cell 2 rfl q HC.out
        rw [HZ.out.1] at cp
        have fp:=h3.free 2 rfl q
        have h4:=h3.pick2.set q (.int .i64 1)
        have d2:=(St.rhcell (k:=2) h4 rfl).2.2.1
        clear h2 c0 c2 c3
        go_wp2_with fail
        refine (rl_Push (h:=h) h4.pick3 HG.out _).mono ?_
        rintro e w2 ⟨⟨rr,rfl⟩,h5⟩
        clear h3 h4 c1 cp fp d2
        go_wp2
        go_end0
        refine ⟨rfl,St.closeRH (gl:=gl) (h:=hShade q h) ?_ HZ.out.2.2⟩
        rw [rheapB_shade,shade_a,shade_col,HZ.out.2.1,if_pos rfl]
        have eg:(hShade q h).g=(hPush q h).g∧(hShade q h).ov=(hPush q h).ov:=by
          unfold hShade; rw [HZ.out.2.1,if_pos rfl]; unfold hPush; split <;> exact ⟨rfl,rfl⟩
        rw [eg.1,eg.2]
        rw [iA_set,cols_set] at h5
        exact (h5.pick1.pick2.pick3)
      · have hW:hWhite q h=false:=by unfold hWhite; rw [h0,hO]; simp [hz]
        have hE:hShade q h=h:=by unfold hShade; rw [hW]; rfl
        rw [hE]
        have hb:(h.col q == 0)=false:=by simpa using hz
        clear hO okE h0 hc hz hW hE ok r1
        go_enter Tryz.func115,Tryz.ntmps115
        go_wp2_with fail
        refine (ra_is h2.pick1 _).mono ?_
        rintro e w1 ⟨rfl,h3⟩
        rw [show (aHead h.a.c q).isSome=true from HO.out]
        have c1:=(St.rhcell (k:=1) h3 rfl).2.1
        have cp:=h3.cell 2 rfl q HC.out
        clear h2 c0 c2 c3
        go_wp2
        go_end0
        exact ⟨rfl,h3.pick1.closeRH OK.out⟩
  · have hE:hShade p h=h:=by unfold hShade hWhite; simp [h0]
    rw [hE]
    have hb:(h.ph == 1)=false:=by simpa using h0
    clear hE okE h0
    go_enter Tryz.func115,Tryz.ntmps115
    go_wp2
    go_end0
    exact ⟨rfl,h2.closeRH ok⟩
set_option maxHeartbeats 1000000 in
theorem rh_Store (hs:St w0 F0 (RHeapP b ab sb g cb h::ps) w) (p i x:Int) (hx:Wd x) :
    Calls Tryz.prog 23 #[.pointer (some ⟨b,0,none⟩),.int .i64 p,.int .i64 i,.int .i64 x] w fun e w'=>e=.returned (.int .i64 (aErr p i h.a))∧St w0 F0 (RHeapP b ab sb g cb (hStore p i x h)::ps) w':=by
  unfold hStore
  obtain ⟨er,her⟩:∃ er,aErr p i h.a=er:=⟨_,rfl⟩
  rw [her]
  have c0:=(hs.rhsee (k:=0) rfl).1
  have HE:=Lib.hid her
  by_cases he:er=0
  · subst he
    rw [if_pos rfl]
    unfold hShadeW
    cases hv:vIsPtr x with
    | false =>
      simp only [Bool.false_eq_true,if_false]
      have HV:=Lib.hid hv
      clear her hv
      go_enter Tryz.func23,Tryz.ntmps23
      go_wp2_with fail
      refine (rha_Store hs p i x hx).mono ?_
      rintro e w1 ⟨rfl,h1⟩
      rw [HE.out]
      clear hs c0
      go_wp2_with fail
      refine (ref_IsPtr _ _).mono ?_
      rintro e w2 ⟨rfl,rfl⟩
      rw [HV.out]
      go_wp2
      go_ret
      exact ⟨rfl,h1⟩
    | true =>
      simp only [if_true]
      have HV:=Lib.hid hv
      clear her hv
      go_enter Tryz.func23,Tryz.ntmps23
      go_wp2_with fail
      refine (rha_Store hs p i x hx).mono ?_
      rintro e w1 ⟨rfl,h1⟩
      rw [HE.out]
      clear hs c0
      go_wp2_with fail
      refine (ref_IsPtr _ _).mono ?_
      rintro e w2 ⟨rfl,rfl⟩
      rw [HV.out]
      go_wp2_with fail
      refine (ref_At _ hx _).mono ?_
      rintro e w2 ⟨rfl,rfl⟩
      go_wp2_with fail
      refine (rh_Shade h1 _).mono ?_
      rintro e w3 ⟨rfl,h2⟩
      go_wp2
      go_ret
      exact ⟨rfl,h2⟩
  · rw [if_neg he]
    have hst:({ h with a:=aStoreS p i x h.a }:HSt)=h:=by
      have:aStoreS p i x h.a=h.a:=by unfold aStoreS; rw [her,if_neg he]
      rw [this]
    have HS:=Lib.hid hst
    have hb:(er == 0)=false:=by simpa using he
    clear her he hst
    go_enter Tryz.func23,Tryz.ntmps23
    go_wp2_with fail
    refine (rha_Store hs p i x hx).mono ?_
    rintro e w1 ⟨rfl,h1⟩
    rw [HE.out]
    rw [HS.out] at h1
    clear hs c0
    go_wp2
    go_ret
    exact ⟨rfl,h1⟩
end
end Go.Proofs.YtffnjpapggidlaaGreat
