/- SepHeap SepHeap2 SepHeap3 SepHeap4 SepHeap5 SepHeap6 SepHeap7 SepHeap8 -/
import Derived.Test.YtinagphkkegmnaaKSepArena
import Derived.Test.YtinagphkkegmnaaKSepMap
import Derived.Test.YtinagphkkegmnaaKPureArena
import Derived.Test.YtinagphkkegmnaaKGrey
import Derived.Test.YtinagphkkegmnaaKPlain
import Derived.Laws.ResultCell
import Derived.Deep.RegionHeld3
import Derived.Deep.QuietTactic
import Derived.BigQuiet
namespace Go.Proofs.Ytinagphkkegmnaa
open Go.RowKit
set_option linter.unusedVariables false
def GreyP (b:Nat) (g:List Int) (ov:Bool):Piece where
  at' w F:=GreyAt w b g ov F
  keep h k hd:=h.keep k hd
  lt h:=h.lt
def heapB (b ab mb lb:Nat) (h:HSt):Piece:=BlkP b 111 #[.pointer (some ⟨ab,0,none⟩),.map (some mb),.pointer (some ⟨lb,0,none⟩),.int .i64 h.ph,.int .i64 h.sp,.int .i64 h.cy]
def HeapP (b ab:Nat) (h:HSt):Piece:=WithP (HOk h) (ExP fun x:Nat×Nat=>SepP [heapB b ab x.1 x.2 h,ArenaP ab h.a,ColP x.1 h.col,GreyP x.2 h.g h.ov])
section
variable {w0 w:World} {F0:List Nat} {ps:List Piece} {b ab mb lb:Nat} {h:HSt}
theorem St.openH (hs:St w0 F0 (HeapP b ab h::ps) w):HOk h∧∃ mb lb,St w0 F0 (heapB b ab mb lb h::ArenaP ab h.a::ColP mb h.col::GreyP lb h.g h.ov::ps) w:=by
  obtain ⟨ok,hs⟩:=St.with.1 hs
  obtain ⟨⟨mb,lb⟩,hs⟩:=St.ex.1 hs
  exact ⟨ok,mb,lb,St.sep.1 hs⟩
theorem St.closeH (hs:St w0 F0 (heapB b ab mb lb h::ArenaP ab h.a::ColP mb h.col::GreyP lb h.g h.ov::ps) w) (ok:HOk h):St w0 F0 (HeapP b ab h::ps) w :=
  St.with.2 ⟨ok,St.ex.2 ⟨(mb,lb),St.sep.2 hs⟩⟩
theorem St.heapOk (hs:St w0 F0 (HeapP b ab h::ps) w):HOk h:=(St.with.1 hs).1
theorem St.hcell {k:Nat} (hs:St w0 F0 ps w) (hk:ps[k]?=some (heapB b ab mb lb h)):w.cell? ⟨b,0,none⟩=some (.pointer (some ⟨ab,0,none⟩))∧w.cell? ⟨b,1,none⟩=some (.map (some mb))∧w.cell? ⟨b,2,none⟩=some (.pointer (some ⟨lb,0,none⟩))∧w.cell? ⟨b,3,none⟩=some (.int .i64 h.ph)∧w.cell? ⟨b,4,none⟩=some (.int .i64 h.sp)∧w.cell? ⟨b,5,none⟩=some (.int .i64 h.cy) :=
  ⟨hs.cell k hk 0 rfl,hs.cell k hk 1 rfl,hs.cell k hk 2 rfl,hs.cell k hk 3 rfl,hs.cell k hk 4 rfl,hs.cell k hk 5 rfl⟩
theorem g_Push (hs:St w0 F0 (GreyP lb h.g h.ov::ps) w) (h8:h.g.length≤8) (p:Int) :
    Calls Try.prog 90 #[.pointer (some ⟨lb,0,none⟩),.int .i64 p] w fun e w'=>(∃ r:Bool,e=.returned (.bool r))∧St w0 F0 (GreyP lb (hPush p h).g (hPush p h).ov::ps) w':=by
  unfold hPush
  by_cases hl:h.g.length<8
  · rw [if_pos hl]
    exact (hs.call (p':=GreyP lb (h.g ++ [p]) h.ov) fun F h1=>grey_Push _ _ _ _ _ _ h1 hl).mono fun e w' ⟨he,k⟩=>⟨⟨_,he⟩,k⟩
  · rw [if_neg hl]
    exact (hs.call (p':=GreyP lb h.g true) fun F h1=>grey_Push_full _ _ _ _ _ _ h1 (by omega)).mono fun e w' ⟨he,k⟩=>⟨⟨_,he⟩,k⟩
theorem heap_Arena (b:Nat) (v:Value) (w:World) (hc:w.cell? ⟨b,0,none⟩=some v) :
    Calls Try.prog 55 #[.pointer (some ⟨b,0,none⟩)] w fun e w'=>e=.returned v∧w=w':=by
  go_enter Try.func55,Try.ntmps55
  go_wp2
  go_ret
  exact ⟨rfl,rfl⟩
theorem h_Arena (hs:St w0 F0 (HeapP b ab h::ps) w) :
    Calls Try.prog 55 #[.pointer (some ⟨b,0,none⟩)] w fun e w'=>e=.returned (.pointer (some ⟨ab,0,none⟩))∧w=w':=by
  obtain ⟨ok,mb,lb,hs⟩:=hs.openH
  exact heap_Arena _ _ _ (hs.hcell (k:=0) rfl).1
theorem St.hAsk {fn:FuncId} {args:Array Value} {r:Ending} (hs:St w0 F0 (HeapP b ab h::ps) w) (hc:∀ qs,St w0 F0 (ArenaP ab h.a::qs) w→Calls Try.prog fn args w fun e w'=>e=r∧St w0 F0 (ArenaP ab h.a::qs) w') :
    Calls Try.prog fn args w fun e w'=>e=r∧St w0 F0 (HeapP b ab h::ps) w':=by
  obtain ⟨ok,mb,lb,hs⟩:=hs.openH
  exact (hc _ hs.pick1).mono fun e w' ⟨he,k⟩=>⟨he,k.pick1.closeH ok⟩
theorem ha_Kind (hs:St w0 F0 (HeapP b ab h::ps) w) (p:Int) :
    Calls Try.prog 21 #[.pointer (some ⟨ab,0,none⟩),.int .i64 p] w fun e w'=>e=.returned (.int .i64 (aKind h.a.c p))∧St w0 F0 (HeapP b ab h::ps) w':=hs.hAsk fun _ k=>a_Kind k _
theorem ha_Len (hs:St w0 F0 (HeapP b ab h::ps) w) (p:Int) :
    Calls Try.prog 23 #[.pointer (some ⟨ab,0,none⟩),.int .i64 p] w fun e w'=>e=.returned (.int .i64 (aLen h.a.c p))∧St w0 F0 (HeapP b ab h::ps) w':=hs.hAsk fun _ k=>a_Len k _
theorem ha_Load (hs:St w0 F0 (HeapP b ab h::ps) w) (p i:Int) :
    Calls Try.prog 25 #[.pointer (some ⟨ab,0,none⟩),.int .i64 p,.int .i64 i] w fun e w'=>e=.returned (loadV h.a p i)∧St w0 F0 (HeapP b ab h::ps) w':=hs.hAsk fun _ k=>a_Load k _ _
theorem ha_Used (hs:St w0 F0 (HeapP b ab h::ps) w) :
    Calls Try.prog 18 #[.pointer (some ⟨ab,0,none⟩)] w fun e w'=>e=.returned (.int .i64 (sWords h.a.l))∧St w0 F0 (HeapP b ab h::ps) w':=hs.hAsk fun _ k=>a_Used k
theorem ha_Words (hs:St w0 F0 (HeapP b ab h::ps) w) :
    Calls Try.prog 20 #[.pointer (some ⟨ab,0,none⟩)] w fun e w'=>e=.returned (.int .i64 h.a.c.length)∧w=w':=by
  obtain ⟨ok,mb,lb,hs⟩:=hs.openH
  exact a_Words hs.pick1
theorem ha_Objects (hs:St w0 F0 (HeapP b ab h::ps) w) :
    Calls Try.prog 17 #[.pointer (some ⟨ab,0,none⟩)] w fun e w'=>∃ v,e=.returned v∧St w0 F0 (RowP v (hObjs h.a)::HeapP b ab h::ps) w':=by
  obtain ⟨ok,mb,lb,hs⟩:=hs.openH
  refine (a_Objects hs.pick1).mono fun e w' ⟨v,he,k⟩=>⟨v,he,?_⟩
  have k2:St w0 F0 (heapB b ab mb lb h::ArenaP ab h.a::ColP mb h.col::GreyP lb h.g h.ov::RowP v (oV h.a)::ps) w' :=
    k.perm ((((List.Perm.swap _ _ _).cons _).trans ((List.perm_middle (l₁:=[heapB b ab mb lb h,ArenaP ab h.a,ColP mb h.col,GreyP lb h.g h.ov])).symm)))
  exact (k2.closeH ok).pick1
theorem ha_Free (hs:St w0 F0 (HeapP b ab h::ps) w) (p:Int) (hp:p ∉ h.g) :
    Calls Try.prog 10 #[.pointer (some ⟨ab,0,none⟩),.int .i64 p] w fun e w'=>e=.returned (.int .i64 (aFreeE p h.a))∧St w0 F0 (HeapP b ab { h with a:=aFreeS p h.a }::ps) w':=by
  obtain ⟨ok,mb,lb,hs⟩:=hs.openH
  exact (a_Free hs.pick1 p).mono fun e w' ⟨he,k⟩=>⟨he,St.closeH (h:={ h with a:=aFreeS p h.a }) k.pick1 (ok.freeA hp)⟩
theorem h_Colour (hs:St w0 F0 (HeapP b ab h::ps) w) (p:Int) (hp:Wd p) :
    Calls Try.prog 89 #[.pointer (some ⟨b,0,none⟩),.int .i64 p] w fun e w'=>e=.returned (.int .i64 (hColour h p))∧St w0 F0 (HeapP b ab h::ps) w':=by
  have ho:=isObj_kind hs.heapOk.a p
  unfold hColour
  cases hO:isObj h.a p with
  | false =>
    rw [hO] at ho
    have hk:aKind h.a.c p=0:=by simpa using ho.symm
    clear ho hO
    simp only [Bool.false_eq_true,if_false]
    go_enter Try.func89,Try.ntmps89
    have HK:=Lib.hid hk
    clear hk
    go_wp2_with fail
    refine (h_Arena hs).mono ?_
    rintro e w1 ⟨rfl,rfl⟩
    go_wp2_with fail
    refine (ha_Kind hs _).mono ?_
    rintro e w1 ⟨rfl,h1⟩
    rw [HK.out]
    go_wp2
    go_ret
    exact ⟨rfl,h1⟩
  | true =>
    rw [hO] at ho
    have hk:(aKind h.a.c p == 0)=false:=by simpa using ho.symm
    clear ho hO
    simp only [if_true]
    go_enter Try.func89,Try.ntmps89
    have HK:=Lib.hid hk
    clear hk
    go_wp2_with fail
    refine (h_Arena hs).mono ?_
    rintro e w1 ⟨rfl,rfl⟩
    go_wp2_with fail
    refine (ha_Kind hs _).mono ?_
    rintro e w1 ⟨rfl,h1⟩
    have hk:=HK.out
    obtain ⟨ok,mb,lb,h2⟩:=h1.openH
    have c1:=(h2.hcell (k:=0) rfl).2.1
    go_wp2_with (at_lookup; refine wpList_colGet rfl _ _ rfl h2 2 rfl rfl _ hp rfl ?_)
    go_ret
    exact ⟨rfl,h1⟩
end
end Go.Proofs.Ytinagphkkegmnaa
namespace Go.Proofs.Ytinagphkkegmnaa
open Go.RowKit
set_option linter.unusedVariables false
section
variable {w0 w:World} {F0:List Nat} {ps:List Piece} {b ab mb lb:Nat} {h:HSt}
theorem push_form (p:Int) (h:HSt):hPush p h={ h with g:=(hPush p h).g,ov:=(hPush p h).ov }:=by unfold hPush; split <;> rfl
set_option maxHeartbeats 1000000 in
theorem h_Shade (hs:St w0 F0 (HeapP b ab h::ps) w) (p:Int) (hp:Wd p) :
    Calls Try.prog 78 #[.pointer (some ⟨b,0,none⟩),.int .i64 p] w fun e w'=>e=.returned (.tuple #[])∧St w0 F0 (HeapP b ab (hShade p h)::ps) w':=by
  have ok:=hs.heapOk
  have ho:=isObj_kind ok.a p
  by_cases h1:h.ph=1
  · cases hO:isObj h.a p with
    | false =>
      have hE:hShade p h=h:=by unfold hShade hWhite; rw [hO]; simp
      rw [hE]
      rw [hO] at ho
      have hk:aKind h.a.c p=0:=by simpa using ho.symm
      have HK:=Lib.hid (And.intro hk h1)
      clear ho hO hE ok h1 hk
      obtain ⟨ok,mb,lb,h2⟩:=hs.openH
      have c0:=(h2.hcell (k:=0) rfl).1
      have c3:=(h2.hcell (k:=0) rfl).2.2.2.1
      rw [HK.out.2] at c3
      clear h2 ok
      go_enter Try.func78,Try.ntmps78
      go_wp2_with fail
      refine (ha_Kind hs _).mono ?_
      rintro e w1 ⟨rfl,h1⟩
      rw [HK.out.1]
      go_wp2
      ((try simp only [Exit.inBlock,Exit.then]); refine bodyPost_ret (results_none rfl _ _ _) rfl ?_)
      exact ⟨rfl,h1⟩
    | true =>
      rw [hO] at ho
      have hk:(aKind h.a.c p == 0)=false:=by simpa using ho.symm
      have hcl:hColour h p=h.col p:=by unfold hColour; rw [hO]; rfl
      by_cases hc:h.col p=0
      · have hE:hShade p h=hPush p { h with col:=upd h.col p 1 }:=by unfold hShade hWhite; rw [hO,hc,h1]; rfl
        have okE:=ok.shade p
        rw [hE] at okE
        rw [hE]
        obtain ⟨r0,r1⟩:=isObj_range hO
        have r2:p<4096:=by have:=ok.len; have:=ok.a.len; omega
        have g8:=ok.gl
        have HK:=Lib.hid (And.intro hk (And.intro h1 (hcl.trans hc)))
        clear ho hO hE ok h1 hk hcl hc r1
        obtain ⟨ok,mb0,lb0,h2⟩:=hs.openH
        have c0:=(h2.hcell (k:=0) rfl).1
        have c3:=(h2.hcell (k:=0) rfl).2.2.2.1
        rw [HK.out.2.1] at c3
        clear h2
        go_enter Try.func78,Try.ntmps78
        go_wp2_with fail
        refine (ha_Kind hs _).mono ?_
        rintro e w1 ⟨rfl,h1⟩
        have hk:=HK.out.1
        go_wp2_with fail
        refine (h_Colour h1 _ hp).mono ?_
        rintro e w2 ⟨rfl,h2⟩
        rw [HK.out.2.2]
        clear hk c0 c3 hs h1
        obtain ⟨-,mb,lb,h3⟩:=h2.openH
        have c1:=(h3.hcell (k:=0) rfl).2.1
        go_wp2_with (at_mapUpdate; refine wpList_colSet rfl _ _ _ rfl h3.pick2 rfl p 1 r0 r2 (by unfold Wd; omega) rfl rfl ?_)
        intro w3 h4
        have c2:=h4.cell 1 rfl 2 rfl
        clear h2 h3 c1
        go_wp2_with fail
        refine (g_Push (h:={ h with col:=upd h.col p 1 }) h4.pick3 g8 _).mono ?_
        rintro e w4 ⟨⟨r,rfl⟩,h5⟩
        go_wp2
        go_end0
        refine ⟨rfl,St.closeH (mb:=mb) (lb:=lb) ?_ okE⟩
        rw [push_form]
        exact h5.pick3.pick3.swap2
      · have hE:hShade p h=h:=by unfold hShade hWhite; rw [decide_eq_false hc]; simp
        rw [hE]
        have hne:(h.col p == 0)=false:=by simpa using hc
        have HK:=Lib.hid (And.intro hk (And.intro h1 hcl))
        have HN:=Lib.hid hne
        clear ho hO hE ok h1 hk hcl hc hne
        obtain ⟨ok,mb0,lb0,h2⟩:=hs.openH
        have c0:=(h2.hcell (k:=0) rfl).1
        have c3:=(h2.hcell (k:=0) rfl).2.2.2.1
        rw [HK.out.2.1] at c3
        clear h2 ok
        go_enter Try.func78,Try.ntmps78
        go_wp2_with fail
        refine (ha_Kind hs _).mono ?_
        rintro e w1 ⟨rfl,h1⟩
        have hk:=HK.out.1
        go_wp2_with fail
        refine (h_Colour h1 _ hp).mono ?_
        rintro e w2 ⟨rfl,h2⟩
        rw [HK.out.2.2]
        have hn1:=HN.out
        have hn2:(h.col p != 0)=true:=by simp [bne,hn1]
        go_wp2
        ((try simp only [Exit.inBlock,Exit.then]); refine bodyPost_ret (results_none rfl _ _ _) rfl ?_)
        exact ⟨rfl,h2⟩
  · have hE:hShade p h=h:=by unfold hShade hWhite; rw [decide_eq_false h1]; simp
    rw [hE]
    obtain ⟨ok,mb,lb,h2⟩:=hs.openH
    have c3:=(h2.hcell (k:=0) rfl).2.2.2.1
    have hn1:(h.ph == 1)=false:=by simpa using h1
    have hn2:(h.ph != 1)=true:=by simp [bne,hn1]
    clear h2 ok ho hE h1
    generalize h.ph=ph at *
    go_enter Try.func78,Try.ntmps78
    go_wp2
    ((try simp only [Exit.inBlock,Exit.then]); refine bodyPost_ret (results_none rfl _ _ _) rfl ?_)
    exact ⟨rfl,hs⟩
theorem ha_Store (hs:St w0 F0 (HeapP b ab h::ps) w) (p i x:Int) (hx:Wd x) :
    Calls Try.prog 12 #[.pointer (some ⟨ab,0,none⟩),.int .i64 p,.int .i64 i,.int .i64 x] w fun e w'=>e=.returned (.int .i64 (aErr p i h.a))∧St w0 F0 (HeapP b ab { h with a:=aStoreS p i x h.a }::ps) w':=by
  obtain ⟨ok,mb,lb,hs⟩:=hs.openH
  exact (a_Store hs.pick1 p i x).mono fun e w' ⟨he,k⟩=>⟨he,St.closeH (h:={ h with a:=aStoreS p i x h.a }) k.pick1 (ok.storeA p i hx)⟩
theorem vAt_wd {x:Int} (hx:Wd x):Wd (vAt x):=by unfold Wd at *; unfold vAt; split <;> omega
theorem h_Store (hs:St w0 F0 (HeapP b ab h::ps) w) (p i x:Int) (hx:Wd x) :
    Calls Try.prog 56 #[.pointer (some ⟨b,0,none⟩),.int .i64 p,.int .i64 i,.int .i64 x] w fun e w'=>e=.returned (.int .i64 (aErr p i h.a))∧St w0 F0 (HeapP b ab (hStore p i x h)::ps) w':=by
  unfold hStore
  by_cases he:aErr p i h.a=0
  · rw [if_pos he,he]
    have HE:=Lib.hid he
    clear he
    unfold hShadeW
    cases hv:vIsPtr x with
    | false =>
      simp only [Bool.false_eq_true,if_false]
      have HV:=Lib.hid hv
      clear hv
      go_enter Try.func56,Try.ntmps56
      go_wp2_with fail
      refine (h_Arena hs).mono ?_
      rintro e w1 ⟨rfl,rfl⟩
      go_wp2_with fail
      refine (ha_Store hs _ _ _ hx).mono ?_
      rintro e w1 ⟨rfl,h1⟩
      rw [HE.out]
      go_wp2_with fail
      refine (value_IsPtr _ _).mono ?_
      rintro e w2 ⟨rfl,rfl⟩
      rw [HV.out]
      go_wp2
      go_ret
      exact ⟨rfl,h1⟩
    | true =>
      simp only [if_true]
      have HV:=Lib.hid hv
      clear hv
      go_enter Try.func56,Try.ntmps56
      go_wp2_with fail
      refine (h_Arena hs).mono ?_
      rintro e w1 ⟨rfl,rfl⟩
      go_wp2_with fail
      refine (ha_Store hs _ _ _ hx).mono ?_
      rintro e w1 ⟨rfl,h1⟩
      rw [HE.out]
      go_wp2_with fail
      refine (value_IsPtr _ _).mono ?_
      rintro e w2 ⟨rfl,rfl⟩
      rw [HV.out]
      go_wp2_with fail
      refine (value_At _ hx _).mono ?_
      rintro e w2 ⟨rfl,rfl⟩
      go_wp2_with fail
      refine (h_Shade h1 _ (vAt_wd hx)).mono ?_
      rintro e w2 ⟨rfl,h2⟩
      go_wp2
      go_ret
      exact ⟨rfl,h2⟩
  · rw [if_neg he]
    have he1:(aErr p i h.a == 0)=false:=by simpa using he
    have he2:(aErr p i h.a != 0)=true:=by simp [bne,he1]
    have HE:=Lib.hid (And.intro he1 he2)
    have hsn:aStoreS p i x h.a=h.a:=store_no he
    have HSN:=Lib.hid hsn
    clear he he1 he2 hsn
    go_enter Try.func56,Try.ntmps56
    go_wp2_with fail
    refine (h_Arena hs).mono ?_
    rintro e w1 ⟨rfl,rfl⟩
    go_wp2_with fail
    refine (ha_Store hs _ _ _ hx).mono ?_
    rintro e w1 ⟨rfl,h1⟩
    rw [HSN.out] at h1
    obtain ⟨he1,he2⟩:=HE.out
    go_wp2
    go_ret
    exact ⟨rfl,h1⟩
theorem upd_upd (f:Int→Int) (p a b:Int):upd (upd f p a) p b=upd f p b:=by funext x; unfold upd; split <;> rfl
set_option maxHeartbeats 1000000 in
theorem h_Alloc (hs:St w0 F0 (HeapP b ab h::ps) w) (kind n:Int) :
    Calls Try.prog 59 #[.pointer (some ⟨b,0,none⟩),.int .i64 kind,.int .i64 n] w fun e w'=>e=.returned (aAllocV kind n h.a)∧St w0 F0 (HeapP b ab (hAlloc kind n h)::ps) w':=by
  obtain ⟨ok,mb,lb,h2⟩:=hs.openH
  have okE:=ok.alloc kind n
  have c0:=(h2.hcell (k:=0) rfl).1
  clear hs
  by_cases hbad:∃ er:Int,aAllocV kind n h.a=.tuple #[.int .i64 0,.int .i64 er]∧¬ er=0
  · obtain ⟨er,hv,her⟩:=hbad
    have hst:aAllocS kind n h.a=h.a∧hAlloc kind n h=h:=by
      unfold aAllocV at hv
      unfold aAllocS hAlloc
      split
      · exact ⟨rfl,rfl⟩
      · rename_i hb
        rw [if_neg hb] at hv
        cases ha:aAlloc kind n h.a with
        | none=>exact ⟨rfl,rfl⟩
        | some x=>rw [ha] at hv; simp at hv; exact absurd hv.2.symm her
    rw [hst.2,hv]
    have he1:(er == 0)=false:=by simpa using her
    have he2:(er != 0)=true:=by simp [bne,he1]
    have HV:=Lib.hid (And.intro hv hst.1)
    clear hv hst her okE
    go_enter Try.func59,Try.ntmps59
    go_wp2_with fail
    refine (a_Alloc h2.pick1 _ _).mono ?_
    rintro e w1 ⟨rfl,h3⟩
    rw [HV.out.1]
    rw [HV.out.2] at h3
    go_wp2
    go_ret2
    exact ⟨rfl,h3.pick1.closeH ok⟩
  · have hgood:∃ (p:Nat) (s':ASt),aBad kind n=false∧aAlloc kind n h.a=some (p,s'):=by
      unfold aAllocV at hbad
      cases hb:aBad kind n with
      | true=>rw [hb] at hbad; exact absurd ⟨1,rfl,by omega⟩ hbad
      | false =>
        cases ha:aAlloc kind n h.a with
        | none=>rw [hb,ha] at hbad; exact absurd ⟨9,rfl,by omega⟩ hbad
        | some x=>exact ⟨x.1,x.2,rfl,rfl⟩
    obtain ⟨p,s',hb,ha⟩:=hgood
    have m:=alloc_more ok.a hb ha
    have hlt:=m.lt
    have p4:(p:Int)<4096:=by have:=ok.len; have:=ok.a.len; omega
    have p0:(0:Int)≤p:=by omega
    have hv:aAllocV kind n h.a=.tuple #[.int .i64 p,.int .i64 0]:=by unfold aAllocV; rw [hb,ha]; rfl
    have hS:aAllocS kind n h.a=s':=by unfold aAllocS; rw [hb,ha]; rfl
    have hH:hAlloc kind n h={ h with a:=s',col:=upd h.col p (if h.ph=0 then 0 else 2) }:=by unfold hAlloc; rw [hb,ha]; rfl
    rw [hH] at okE
    rw [hH,hv]
    have HV:=Lib.hid (And.intro hv hS)
    clear hv hS hH hb ha m hlt hbad ok
    by_cases h0:h.ph=0
    · rw [if_pos h0] at okE ⊢
      have H0:=Lib.hid h0
      clear h0
      go_enter Try.func59,Try.ntmps59
      go_wp2_with fail
      refine (a_Alloc h2.pick1 _ _).mono ?_
      rintro e w1 ⟨rfl,h3⟩
      rw [HV.out.1]
      rw [HV.out.2] at h3
      have c1:=h3.cell 1 rfl 1 rfl
      clear h2 c0
      go_wp2_with (at_mapUpdate; refine wpList_colSet rfl _ _ _ rfl h3.pick2 rfl p 2 p0 p4 (by unfold Wd; omega) rfl rfl ?_)
      intro w2 h4
      have c1:=h4.cell 2 rfl 1 rfl
      have c3:=h4.cell 2 rfl 3 rfl
      rw [H0.out] at c3
      clear h3
      go_wp2_with (at_mapUpdate; refine wpList_colSet rfl _ _ _ rfl h4 rfl p 0 p0 p4 (by unfold Wd; omega) rfl rfl ?_)
      intro w3 h5
      go_wp2
      go_ret2
      refine ⟨rfl,St.closeH (mb:=mb) (lb:=lb) (h:={ h with a:=s',col:=upd h.col p 0 }) ?_ okE⟩
      have h6:St w0 F0 (heapB b ab mb lb h::ColP mb (upd (upd h.col p 2) p 0)::ArenaP ab s'::GreyP lb h.g h.ov::ps) w3:=h5.pick2
      rw [upd_upd] at h6
      exact h6.swap1
    · rw [if_neg h0] at okE ⊢
      have he1:(h.ph == 0)=false:=by simpa using h0
      have H0:=Lib.hid he1
      clear h0 he1
      go_enter Try.func59,Try.ntmps59
      go_wp2_with fail
      refine (a_Alloc h2.pick1 _ _).mono ?_
      rintro e w1 ⟨rfl,h3⟩
      rw [HV.out.1]
      rw [HV.out.2] at h3
      have c1:=h3.cell 1 rfl 1 rfl
      clear h2 c0
      go_wp2_with (at_mapUpdate; refine wpList_colSet rfl _ _ _ rfl h3.pick2 rfl p 2 p0 p4 (by unfold Wd; omega) rfl rfl ?_)
      intro w2 h4
      have c3:=h4.cell 2 rfl 3 rfl
      have he1:=H0.out
      clear h3
      go_wp2
      go_ret2
      exact ⟨rfl,St.closeH (mb:=mb) (lb:=lb) (h:={ h with a:=s',col:=upd h.col p 2 }) (by
        have h6:St w0 F0 (heapB b ab mb lb h::ColP mb (upd h.col p 2)::ArenaP ab s'::GreyP lb h.g h.ov::ps) w2:=h4.pick2
        exact h6.swap1) okE⟩
end
end Go.Proofs.Ytinagphkkegmnaa
namespace Go.Proofs.Ytinagphkkegmnaa
open Go.RowKit
set_option linter.unusedVariables false
section
variable {w0 w:World} {F0:List Nat} {ps:List Piece} {b ab mb lb:Nat} {h:HSt}
theorem g_New {ps:List Piece} (hs:St w0 F0 ps w):Calls Try.prog 76 #[] w fun e w'=>∃ lb,e=.returned (.pointer (some ⟨lb,0,none⟩))∧St w0 F0 (GreyP lb [] false::ps) w' :=
  (grey_New w).mono fun e w' ⟨he,F,a,k,f⟩=>⟨_,he,hs.push (p:=GreyP w.heap.size [] false) (k.below) ⟨F,a,fun i hi=>(f i hi).elim (by simp) id⟩⟩
set_option maxHeartbeats 1000000 in
theorem h_New {n:Nat} (hn2:2≤n) (hn:n≤128) (hs:St w0 F0 ps w) :
    Calls Try.prog 53 #[.int .i64 n] w fun e w'=>∃ b ab,e=.returned (.tuple #[.pointer (some ⟨b,0,none⟩),.int .i64 0])∧St w0 F0 (HeapP b ab (hNew n)::ps) w':=by
  have hmm:=@run_makeMap Try.prog
  go_enter Try.func53,Try.ntmps53
  go_wp2_with fail
  refine (a_New hs n hn2 hn).mono ?_
  rintro e w1 ⟨ab,rfl,h1⟩
  go_wp2_with fail
  refine (g_New h1.newMap).mono ?_
  rintro e w2 ⟨lb,rfl,h2⟩
  go_wp2
  go_ret2
  refine ⟨_,ab,rfl,?_⟩
  have h3:=h2.new #[.pointer (some ⟨ab,0,none⟩),.map (some w1.heap.size),.pointer (some ⟨lb,0,none⟩),.int .i64 0,.int .i64 0,.int .i64 0] 111
  exact St.closeH (h:=hNew n) h3.pick3.pick3.pick2.swap1 (HOk.new n hn2 hn)
theorem h_New_no (n:Int) (hn:n<2 ∨ 128<n) (w:World) :
    Calls Try.prog 53 #[.int .i64 n] w fun e w'=>e=.returned (.tuple #[.pointer none,.int .i64 1])∧w=w':=by
  go_enter Try.func53,Try.ntmps53
  go_wp2_with fail
  refine (arena_New_no n hn _).mono ?_
  rintro e w1 ⟨rfl,rfl⟩
  go_wp2
  go_ret2
  exact ⟨rfl,rfl⟩
theorem shades_snoc (l:List Int) (p:Int) (h:HSt):hShades (l ++ [p]) h=hShade p (hShades l h):=by simp [hShades]
theorem shadesW_snoc (l:List Int) (p:Int) (h:HSt):hShadesW (l ++ [p]) h=hShadeW p (hShadesW l h):=by simp [hShadesW]
end
structure Sees (R:Piece) (v:Value) (L:List Int):Prop where
  row:∀ {w:World} {F:List Nat},R.at' w F→w.ownsRow 0 3 1 v L.length (iV L)
theorem Sees.shape {R:Piece} {v:Value} {L:List Int} (hR:Sees R v L) {w0 w:World} {F0:List Nat} {ps:List Piece} (h:St w0 F0 ps w) (k:Nat) (hk:ps[k]?=some R):L.length≤maxLen∧∃ p c,v=.slice p L.length c∧(L.length=0 ∨ ∃ g,p=some ⟨g,0,none⟩):=by
  obtain ⟨G,h1⟩:=h.get k hk; exact own_shape (hR.row h1)
theorem Sees.num {R:Piece} {L:List Int} {g n c:Nat} (hR:Sees R (.slice (some ⟨g,0,none⟩) n c) L) {w0 w:World} {F0:List Nat} {ps:List Piece} (h:St w0 F0 ps w) (k:Nat) (hk:ps[k]?=some R) (i:Nat) (hi:i<L.length):w.cell? ⟨g,i,none⟩=some (.int .i64 L[i]):=by
  obtain ⟨G,h1⟩:=h.get k hk; exact own_num (hR.row h1) i hi
theorem sees_row (v:Value) (L:List Int):Sees (RowP v L) v L:=⟨fun h=>h.1⟩
theorem sees_take {g n c:Nat} {L:List Int} (k:Nat) (hk:k≤L.length):Sees (RowP (.slice (some ⟨g,0,none⟩) n c) L) (.slice (some ⟨g,0,none⟩) k c) (L.take k):=⟨fun {w F} h=>by
  have h:=h.1
  have hl:(L.take k).length=k:=by simp; omega
  rw [hl]
  refine ⟨by simp [iV]; omega,?_⟩
  rcases h.2 with ⟨e,_⟩ | ⟨g',cap,cs,e,h2,h3,h4,h5,h6,h7⟩
  · cases e
  · injection e with e1 e2 e3
    injection e1 with e1
    injection e1 with e1
    subst e1; subst e3
    refine .inr ⟨g,c,cs,rfl,h2,h3,by omega,h5,h6,?_⟩
    have:=congrArg (List.take k) h7
    rw [List.take_take] at this
    simp only [Nat.mul_one] at this ⊢
    rw [Nat.min_eq_left hk] at this
    rw [this]; simp [iV,List.map_take]⟩
section
variable {w0 w:World} {F0:List Nat} {ps:List Piece} {b ab mb lb:Nat} {h:HSt}
end
def thingV (k p:Int) (v:Value):Value:=.agg #[.int .i64 k,.int .i64 p,v]
theorem word_at {s:ASt} {p:Int} {j:Nat} (hj:j<(aWords s p).length):aErr p j s=0∧aWord p j s=(aWords s p)[j]:=by
  rw [aWords_len] at hj
  have hn:∃ k n,aHead s.c p=some (k,n)∧(j:Int)<n:=by
    unfold aLen at hj
    cases e:aHead s.c p with
    | none=>rw [e] at hj; simp at hj
    | some kn=>rw [e] at hj; exact ⟨kn.1,kn.2,rfl,by simp only at hj; omega⟩
  obtain ⟨k,n,hk,hlt⟩:=hn
  have he:aErr p j s=0:=by unfold aErr; rw [hk]; simp only [if_pos (show 0≤(j:Int)∧(j:Int)<n by omega)]
  refine ⟨he,?_⟩
  unfold aWord; rw [he,if_pos rfl]
  simp [aWords]
theorem alen_bd {s:ASt} (hok:AOk s) (p:Int):0≤aLen s.c p∧aLen s.c p<32:=by
  unfold aLen
  cases e:aHead s.c p with
  | none=>simp
  | some kn =>
    obtain ⟨k,n⟩:=kn
    obtain ⟨q,rfl,hq⟩:=aHead_some e
    obtain ⟨i,u,_,hu,_,_,h0,hx,_⟩:=hok.head q k n hq
    have:=(used_geo hok.rows hu).2.1
    simp only
    omega
section
variable {w0 w:World} {F0:List Nat} {ps:List Piece} {b ab mb lb:Nat} {h:HSt}
end
end Go.Proofs.Ytinagphkkegmnaa
namespace Go.Proofs.Ytinagphkkegmnaa
open Go.RowKit
set_option linter.unusedVariables false
def objV (k p:Int) (v:Value):Value:=if k=0 then .tuple #[.agg #[.int .i64 0,.int .i64 0,.slice none 0 0],.bool false] else .tuple #[thingV k p v,.bool true]
section
variable {w0 w:World} {F0:List Nat} {ps:List Piece} {b ab mb lb:Nat} {h:HSt}
end
end Go.Proofs.Ytinagphkkegmnaa
namespace Go.Proofs.Ytinagphkkegmnaa
open Go.RowKit
set_option linter.unusedVariables false
theorem find_at {α:Type} {q:α→Bool} {l:List α} {k:Nat} (hk:k<l.length) (h:∀ x ∈ l.take k,q x=false) (hq:q l[k]=true):l.find? q=some l[k]:=by
  rw [List.find?_eq_some_iff_append]
  refine ⟨hq,l.take k,l.drop (k+1),?_,fun x hx=>by simp [h x hx]⟩
  have:=List.take_append_drop k l
  rw [List.drop_eq_getElem_cons hk] at this
  exact this.symm
theorem find_no {α:Type} {q:α→Bool} {l:List α} (h:∀ x ∈ l,q x=false):l.find? q=none:=by
  rw [List.find?_eq_none]; intro x hx; simp [h x hx]
theorem take_all {q:Int→Bool} {l:List Int} {k:Nat} (hk:k<l.length) (h:∀ x ∈ l.take k,q x=false) (hq:q l[k]=false):∀ x ∈ l.take (k+1),q x=false:=by
  intro x hx
  rw [List.take_succ_eq_append_getElem hk] at hx
  rcases List.mem_append.1 hx with hx | hx
  · exact h x hx
  · simp at hx; subst hx; exact hq
theorem hObjs_wd {s:ASt} (hok:AOk s) (hl:s.l.length≤128):∀ x ∈ hObjs s,0≤x∧x<4096:=by
  intro x hx
  obtain ⟨r0,r1⟩:=isObj_range (hObjs_mem hx)
  have:=hok.len
  omega
theorem hObjs_len {s:ASt}:(hObjs s).length≤s.c.length:=by
  unfold hObjs aObjects
  rw [List.length_map]
  exact Nat.le_trans (List.length_filter_le _ _) (by simp)
section
variable {w0 w:World} {F0:List Nat} {ps:List Piece} {b ab mb lb:Nat} {h:HSt}
def nextV (o:Option Int):Value:=match o with | some p=>.tuple #[.int .i64 p,.bool true] | none=>.tuple #[.int .i64 0,.bool false]
end
end Go.Proofs.Ytinagphkkegmnaa
namespace Go.Proofs.Ytinagphkkegmnaa
open Go.RowKit
set_option linter.unusedVariables false
def gnCells:List Value→List Gn→List Value
  | v::vs,g::l=>.int .i64 g.kind::.int .i64 g.at'::v::.bool g.kept::gnCells vs l
  | _,_=>[]
theorem gnCells_len:∀ (vs:List Value) (l:List Gn),vs.length=l.length→(gnCells vs l).length=l.length * 4
  | [],[],_=>rfl
  | v::vs,g::l,h=>by simp [gnCells,gnCells_len vs l (by simpa using h)]; omega
theorem gnCells_snoc:∀ (vs:List Value) (l:List Gn) (v:Value) (g:Gn),vs.length=l.length→gnCells (vs ++ [v]) (l ++ [g])=gnCells vs l ++ [.int .i64 g.kind,.int .i64 g.at',v,.bool g.kept]
  | [],[],v,g,_=>rfl
  | x::vs,y::l,v,g,h=>by
    simp only [List.cons_append,gnCells]
    rw [gnCells_snoc vs l v g (by simpa using h)]
theorem gnCells_get:∀ (vs:List Value) (l:List Gn) (h:vs.length=l.length) (i:Nat) (hi:i<l.length),
    (gnCells vs l)[i * 4]?=some (.int .i64 l[i].kind)∧(gnCells vs l)[i * 4+1]?=some (.int .i64 l[i].at')∧(gnCells vs l)[i * 4+2]?=some (vs[i]'(by omega))∧(gnCells vs l)[i * 4+3]?=some (.bool l[i].kept)
  | [],l,h,i,hi=>absurd hi (by simp at h; omega)
  | v::vs,[],h,i,hi=>absurd hi (by simp)
  | v::vs,g::l,h,0,_=>⟨rfl,rfl,rfl,rfl⟩
  | v::vs,g::l,h,i+1,hi=>by
    have:=gnCells_get vs l (by simpa using h) i (by simpa using hi)
    simp only [gnCells,List.getElem_cons_succ]
    rw [show (i+1) * 4=i * 4+4 by omega,show i * 4+4+1=i * 4+1+4 by omega,show i * 4+4+2=i * 4+2+4 by omega,show i * 4+4+3=i * 4+3+4 by omega]
    simpa using this
def rowsG (vs:List Value) (l:List Gn):List Piece:=List.zipWith (fun v g=>RowP v g.words) vs l
theorem rowsG_snoc (vs:List Value) (l:List Gn) (v:Value) (g:Gn) (h:vs.length=l.length):rowsG (vs ++ [v]) (l ++ [g])=rowsG vs l ++ [RowP v g.words]:=by
  unfold rowsG; rw [List.zipWith_append h]; rfl
section
variable {w0 w:World} {F0:List Nat} {ps:List Piece} {b ab mb lb:Nat} {h:HSt}
end
end Go.Proofs.Ytinagphkkegmnaa
namespace Go.Proofs.Ytinagphkkegmnaa
open Go.RowKit
set_option linter.unusedVariables false
section
variable {w0 w:World} {F0:List Nat} {ps:List Piece} {b ab mb lb:Nat} {h:HSt}
def zeroThing:Value:=.agg #[.int .i64 0,.int .i64 0,.slice none 0 0]
def LostPost (w0:World) (F0:List Nat) (b ab:Nat) (h:HSt) (ps:List Piece) (e:Ending) (w':World):Prop :=
  (∃ p v,hLost h=some p∧e=.returned (.tuple #[thingV 5 p v,.bool true])∧St w0 F0 (RowP v (aWords h.a p)::HeapP b ab h::ps) w') ∨
  (hLost h=none∧e=.returned (.tuple #[zeroThing,.bool false])∧St w0 F0 (HeapP b ab h::ps) w')
theorem isLost_false {h:HSt} {p:Int} (hh:¬ aKind h.a.c p=5 ∨ ¬ h.col p=0 ∨ ¬ 1<(aWords h.a p).length ∨ (aWords h.a p).getD 1 0=0):isLost h p=false:=by
  unfold isLost
  rcases hh with hh | hh | hh | hh
  · rw [decide_eq_false hh]; simp
  · rw [decide_eq_false hh]; simp
  · rw [decide_eq_false hh]; simp
  · rw [hh]; simp
end
end Go.Proofs.Ytinagphkkegmnaa
namespace Go.Proofs.Ytinagphkkegmnaa
open Go.RowKit
set_option linter.unusedVariables false
theorem hObjs_nodup (s:ASt):(hObjs s).Nodup:=by
  unfold hObjs aObjects
  rw [List.nodup_iff_pairwise_ne,List.pairwise_map]
  have:=List.Pairwise.filter (fun p:Nat=>(aHead s.c p).isSome) (List.nodup_iff_pairwise_ne.1 (List.nodup_range (n:=s.c.length)))
  exact this.imp (fun h e=>h (by omega))
theorem nodup_at {l:List Int} (h:l.Nodup) {k:Nat} (hk:k<l.length):l[k] ∉ l.take k:=by
  intro hm
  have e:=List.take_append_drop k l
  rw [List.drop_eq_getElem_cons hk] at e
  have h2:(l.take k ++ l[k]::l.drop (k+1)).Nodup:=by rw [e]; exact h
  rw [List.nodup_append] at h2
  exact h2.2.2 l[k] hm l[k] List.mem_cons_self rfl
theorem words_free {s:ASt} (hok:AOk s) {p q:Int} (hne:q≠p) (ho:isObj s q=true):aWords (aFreeS p s) q=aWords s q∧aKind (aFreeS p s).c q=aKind s.c q∧isObj (aFreeS p s) q=true:=by
  have hh:=head_free hok p q
  rw [if_neg hne] at hh
  refine ⟨?_,by unfold aKind; rw [hh],by unfold isObj; rw [hh]; exact ho⟩
  have hl:aLen (aFreeS p s).c q=aLen s.c q:=by unfold aLen; rw [hh]
  unfold aWords
  rw [hl]
  apply List.map_congr_left
  intro j hj
  rw [List.mem_range] at hj
  congr 1
  obtain ⟨q',k,n,rfl,hq⟩:=isObj_some ho
  have hln:aLen s.c (q':Int)=n:=by unfold aLen; rw [aHead_nat hq]
  rw [hln] at hj
  cases e:aHead s.c p with
  | none =>
    have:aFreeS p s=s:=by unfold aFreeS; rw [e]
    rw [this]
  | some kn =>
    obtain ⟨k',n'⟩:=kn
    obtain ⟨p',rfl,hp⟩:=aHead_some e
    have m:=free_more hok hp
    have:=m.apart q' (1+j) k n hq (fun e=>hne (by omega)) (by omega)
    have hn0:=m.n0
    simp only [Int.toNat_natCast]
    rw [m.get,if_neg (by omega)]
theorem words_frees {s:ASt} (hok:AOk s) (l:List Int) {q:Int} (hq:q ∉ l) (ho:isObj s q=true):aWords (l.foldl (fun s p=>aFreeS p s) s) q=aWords s q∧aKind (l.foldl (fun s p=>aFreeS p s) s).c q=aKind s.c q∧isObj (l.foldl (fun s p=>aFreeS p s) s) q=true:=by
  induction l generalizing s with
  | nil=>exact ⟨rfl,rfl,ho⟩
  | cons p l ih =>
    obtain ⟨a,b,c⟩:=words_free hok (p:=p) (fun e=>hq (by simp [e])) ho
    obtain ⟨a',b',c'⟩:=ih (free_ok hok p).1 (fun e=>hq (by simp [e])) c
    exact ⟨a'.trans a,b'.trans b,c'⟩
def goneB (h:HSt) (p:Int):Bool:=decide (p / 32=h.sp) && decide (h.col p=0)
def goneTo (h:HSt) (k:Nat):List Int:=((hObjs h.a).take k).filter (goneB h)
def sweptTo (h:HSt) (k:Nat):HSt:={ h with a:=(goneTo h k).foldl (fun s p=>aFreeS p s) h.a }
theorem goneTo_succ (h:HSt) {k:Nat} (hk:k<(hObjs h.a).length):goneTo h (k+1)=goneTo h k ++ if goneB h (hObjs h.a)[k] then [(hObjs h.a)[k]] else []:=by
  unfold goneTo
  rw [List.take_succ_eq_append_getElem hk,List.filter_append]
  congr 1
  cases hb:goneB h (hObjs h.a)[k] <;> simp [hb]
theorem updM_same {f:Int→Int} {p:Int} (h:f p=0):updM f p 0=f:=by
  funext x; unfold updM; split
  · rename_i e; rw [e,h]
  · rfl
section
variable {w0 w:World} {F0:List Nat} {ps:List Piece} {b ab mb lb:Nat} {h:HSt}
end
end Go.Proofs.Ytinagphkkegmnaa
