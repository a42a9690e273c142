/- SepHeap SepHeap2 SepHeap3 SepHeap4 SepHeap5 SepHeap6 SepHeap7 SepHeap8 -/
import Derived.Test.YtffnjpapggidlaaKSepArena
import Derived.Test.YtffnjpapggidlaaKSepMap
import Derived.Test.YtffnjpapggidlaaKPureArena
import Derived.Test.YtffnjpapggidlaaKGrey
import Derived.Test.YtffnjpapggidlaaKPlain
import Derived.Laws.ResultCell
import Derived.Deep.RegionHeld3
import Derived.Deep.QuietTactic
import Derived.BigQuiet
namespace Go.Proofs.Ytffnjpapggidlaa
open Go.RowKit
set_option linter.unusedVariables false
def GreyP (b:Nat) (g:List Int) (ov:Bool):Piece where
  at' w F:=GreyAt w b g ov F
  keep h k hd:=h.keep k hd
  lt h:=h.lt
def heapB (b ab mb lb:Nat) (h:HSt):Piece:=BlkP b 125 #[.pointer (some ⟨ab,0,none⟩),.map (some mb),.pointer (some ⟨lb,0,none⟩),.int .i64 h.ph,.int .i64 h.sp,.int .i64 h.cy]
def HeapP (b ab:Nat) (h:HSt):Piece:=WithP (HOk h) (ExP fun x:Nat×Nat=>SepP [heapB b ab x.1 x.2 h,ArenaP ab h.a,ColP x.1 h.col,GreyP x.2 h.g h.ov])
section
variable {w0 w:World} {F0:List Nat} {ps:List Piece} {b ab mb lb:Nat} {h:HSt}
theorem St.openH (hs:St w0 F0 (HeapP b ab h::ps) w):HOk h∧∃ mb lb,St w0 F0 (heapB b ab mb lb h::ArenaP ab h.a::ColP mb h.col::GreyP lb h.g h.ov::ps) w:=by
  obtain ⟨ok,hs⟩:=St.with.1 hs
  obtain ⟨⟨mb,lb⟩,hs⟩:=St.ex.1 hs
  exact ⟨ok,mb,lb,St.sep.1 hs⟩
theorem St.closeH (hs:St w0 F0 (heapB b ab mb lb h::ArenaP ab h.a::ColP mb h.col::GreyP lb h.g h.ov::ps) w) (ok:HOk h):St w0 F0 (HeapP b ab h::ps) w :=
  St.with.2 ⟨ok,St.ex.2 ⟨(mb,lb),St.sep.2 hs⟩⟩
theorem St.heapOk (hs:St w0 F0 (HeapP b ab h::ps) w):HOk h:=(St.with.1 hs).1
theorem St.hcell {k:Nat} (hs:St w0 F0 ps w) (hk:ps[k]?=some (heapB b ab mb lb h)):w.cell? ⟨b,0,none⟩=some (.pointer (some ⟨ab,0,none⟩))∧w.cell? ⟨b,1,none⟩=some (.map (some mb))∧w.cell? ⟨b,2,none⟩=some (.pointer (some ⟨lb,0,none⟩))∧w.cell? ⟨b,3,none⟩=some (.int .i64 h.ph)∧w.cell? ⟨b,4,none⟩=some (.int .i64 h.sp)∧w.cell? ⟨b,5,none⟩=some (.int .i64 h.cy) :=
  ⟨hs.cell k hk 0 rfl,hs.cell k hk 1 rfl,hs.cell k hk 2 rfl,hs.cell k hk 3 rfl,hs.cell k hk 4 rfl,hs.cell k hk 5 rfl⟩
theorem g_Push (hs:St w0 F0 (GreyP lb h.g h.ov::ps) w) (h8:h.g.length≤8) (p:Int) :
    Calls Try.prog 97 #[.pointer (some ⟨lb,0,none⟩),.int .i64 p] w fun e w'=>(∃ r:Bool,e=.returned (.bool r))∧St w0 F0 (GreyP lb (hPush p h).g (hPush p h).ov::ps) w':=by
  unfold hPush
  by_cases hl:h.g.length<8
  · rw [if_pos hl]
    exact (hs.call (p':=GreyP lb (h.g ++ [p]) h.ov) fun F h1=>grey_Push _ _ _ _ _ _ h1 hl).mono fun e w' ⟨he,k⟩=>⟨⟨_,he⟩,k⟩
  · rw [if_neg hl]
    exact (hs.call (p':=GreyP lb h.g true) fun F h1=>grey_Push_full _ _ _ _ _ _ h1 (by omega)).mono fun e w' ⟨he,k⟩=>⟨⟨_,he⟩,k⟩
theorem heap_Arena (b:Nat) (v:Value) (w:World) (hc:w.cell? ⟨b,0,none⟩=some v) :
    Calls Try.prog 45 #[.pointer (some ⟨b,0,none⟩)] w fun e w'=>e=.returned v∧w=w':=by
  go_enter Try.func45,Try.ntmps45
  go_wp2
  go_ret
  exact ⟨rfl,rfl⟩
theorem h_Arena (hs:St w0 F0 (HeapP b ab h::ps) w) :
    Calls Try.prog 45 #[.pointer (some ⟨b,0,none⟩)] w fun e w'=>e=.returned (.pointer (some ⟨ab,0,none⟩))∧w=w':=by
  obtain ⟨ok,mb,lb,hs⟩:=hs.openH
  exact heap_Arena _ _ _ (hs.hcell (k:=0) rfl).1
theorem h_Phase (hs:St w0 F0 (HeapP b ab h::ps) w) :
    Calls Try.prog 44 #[.pointer (some ⟨b,0,none⟩)] w fun e w'=>e=.returned (.int .i64 h.ph)∧w=w':=by
  obtain ⟨ok,mb,lb,hs⟩:=hs.openH
  have c3:=(hs.hcell (k:=0) rfl).2.2.2.1
  clear hs ok
  go_enter Try.func44,Try.ntmps44
  go_wp2
  go_ret
  exact ⟨rfl,rfl⟩
theorem St.hAsk {fn:FuncId} {args:Array Value} {r:Ending} (hs:St w0 F0 (HeapP b ab h::ps) w) (hc:∀ qs,St w0 F0 (ArenaP ab h.a::qs) w→Calls Try.prog fn args w fun e w'=>e=r∧St w0 F0 (ArenaP ab h.a::qs) w') :
    Calls Try.prog fn args w fun e w'=>e=r∧St w0 F0 (HeapP b ab h::ps) w':=by
  obtain ⟨ok,mb,lb,hs⟩:=hs.openH
  exact (hc _ hs.pick1).mono fun e w' ⟨he,k⟩=>⟨he,k.pick1.closeH ok⟩
theorem ha_Kind (hs:St w0 F0 (HeapP b ab h::ps) w) (p:Int) :
    Calls Try.prog 30 #[.pointer (some ⟨ab,0,none⟩),.int .i64 p] w fun e w'=>e=.returned (.int .i64 (aKind h.a.c p))∧St w0 F0 (HeapP b ab h::ps) w':=hs.hAsk fun _ k=>a_Kind k _
theorem ha_Len (hs:St w0 F0 (HeapP b ab h::ps) w) (p:Int) :
    Calls Try.prog 32 #[.pointer (some ⟨ab,0,none⟩),.int .i64 p] w fun e w'=>e=.returned (.int .i64 (aLen h.a.c p))∧St w0 F0 (HeapP b ab h::ps) w':=hs.hAsk fun _ k=>a_Len k _
theorem ha_Load (hs:St w0 F0 (HeapP b ab h::ps) w) (p i:Int) :
    Calls Try.prog 34 #[.pointer (some ⟨ab,0,none⟩),.int .i64 p,.int .i64 i] w fun e w'=>e=.returned (loadV h.a p i)∧St w0 F0 (HeapP b ab h::ps) w':=hs.hAsk fun _ k=>a_Load k _ _
theorem ha_Used (hs:St w0 F0 (HeapP b ab h::ps) w) :
    Calls Try.prog 27 #[.pointer (some ⟨ab,0,none⟩)] w fun e w'=>e=.returned (.int .i64 (sWords h.a.l))∧St w0 F0 (HeapP b ab h::ps) w':=hs.hAsk fun _ k=>a_Used k
theorem ha_Words (hs:St w0 F0 (HeapP b ab h::ps) w) :
    Calls Try.prog 29 #[.pointer (some ⟨ab,0,none⟩)] w fun e w'=>e=.returned (.int .i64 h.a.c.length)∧w=w':=by
  obtain ⟨ok,mb,lb,hs⟩:=hs.openH
  exact a_Words hs.pick1
theorem ha_Objects (hs:St w0 F0 (HeapP b ab h::ps) w) :
    Calls Try.prog 26 #[.pointer (some ⟨ab,0,none⟩)] w fun e w'=>∃ v,e=.returned v∧St w0 F0 (RowP v (hObjs h.a)::HeapP b ab h::ps) w':=by
  obtain ⟨ok,mb,lb,hs⟩:=hs.openH
  refine (a_Objects hs.pick1).mono fun e w' ⟨v,he,k⟩=>⟨v,he,?_⟩
  have k2:St w0 F0 (heapB b ab mb lb h::ArenaP ab h.a::ColP mb h.col::GreyP lb h.g h.ov::RowP v (oV h.a)::ps) w' :=
    k.perm ((((List.Perm.swap _ _ _).cons _).trans ((List.perm_middle (l₁:=[heapB b ab mb lb h,ArenaP ab h.a,ColP mb h.col,GreyP lb h.g h.ov])).symm)))
  exact (k2.closeH ok).pick1
theorem ha_Free (hs:St w0 F0 (HeapP b ab h::ps) w) (p:Int) (hp:p ∉ h.g) :
    Calls Try.prog 19 #[.pointer (some ⟨ab,0,none⟩),.int .i64 p] w fun e w'=>e=.returned (.int .i64 (aFreeE p h.a))∧St w0 F0 (HeapP b ab { h with a:=aFreeS p h.a }::ps) w':=by
  obtain ⟨ok,mb,lb,hs⟩:=hs.openH
  exact (a_Free hs.pick1 p).mono fun e w' ⟨he,k⟩=>⟨he,St.closeH (h:={ h with a:=aFreeS p h.a }) k.pick1 (ok.freeA hp)⟩
theorem h_Load (hs:St w0 F0 (HeapP b ab h::ps) w) (p i:Int) :
    Calls Try.prog 50 #[.pointer (some ⟨b,0,none⟩),.int .i64 p,.int .i64 i] w fun e w'=>e=.returned (loadV h.a p i)∧St w0 F0 (HeapP b ab h::ps) w':=by
  go_enter Try.func50,Try.ntmps50
  go_wp2_with fail
  refine (h_Arena hs).mono ?_
  rintro e w1 ⟨rfl,rfl⟩
  go_wp2_with fail
  refine (ha_Load hs _ _).mono ?_
  rintro e w1 ⟨rfl,h1⟩
  unfold loadV
  go_wp2
  go_ret2
  exact ⟨rfl,h1⟩
theorem h_Colour (hs:St w0 F0 (HeapP b ab h::ps) w) (p:Int) (hp:Wd p) :
    Calls Try.prog 96 #[.pointer (some ⟨b,0,none⟩),.int .i64 p] w fun e w'=>e=.returned (.int .i64 (hColour h p))∧St w0 F0 (HeapP b ab h::ps) w':=by
  have ho:=isObj_kind hs.heapOk.a p
  unfold hColour
  cases hO:isObj h.a p with
  | false =>
    rw [hO] at ho
    have hk:aKind h.a.c p=0:=by simpa using ho.symm
    clear ho hO
    simp only [Bool.false_eq_true,if_false]
    go_enter Try.func96,Try.ntmps96
    have HK:=Lib.hid hk
    clear hk
    go_wp2_with fail
    refine (h_Arena hs).mono ?_
    rintro e w1 ⟨rfl,rfl⟩
    go_wp2_with fail
    refine (ha_Kind hs _).mono ?_
    rintro e w1 ⟨rfl,h1⟩
    rw [HK.out]
    go_wp2
    go_ret
    exact ⟨rfl,h1⟩
  | true =>
    rw [hO] at ho
    have hk:(aKind h.a.c p == 0)=false:=by simpa using ho.symm
    clear ho hO
    simp only [if_true]
    go_enter Try.func96,Try.ntmps96
    have HK:=Lib.hid hk
    clear hk
    go_wp2_with fail
    refine (h_Arena hs).mono ?_
    rintro e w1 ⟨rfl,rfl⟩
    go_wp2_with fail
    refine (ha_Kind hs _).mono ?_
    rintro e w1 ⟨rfl,h1⟩
    have hk:=HK.out
    obtain ⟨ok,mb,lb,h2⟩:=h1.openH
    have c1:=(h2.hcell (k:=0) rfl).2.1
    go_wp2_with (at_lookup; refine wpList_colGet rfl _ _ rfl h2 2 rfl rfl _ hp rfl ?_)
    go_ret
    exact ⟨rfl,h1⟩
end
end Go.Proofs.Ytffnjpapggidlaa
namespace Go.Proofs.Ytffnjpapggidlaa
open Go.RowKit
set_option linter.unusedVariables false
section
variable {w0 w:World} {F0:List Nat} {ps:List Piece} {b ab mb lb:Nat} {h:HSt}
theorem push_form (p:Int) (h:HSt):hPush p h={ h with g:=(hPush p h).g,ov:=(hPush p h).ov }:=by unfold hPush; split <;> rfl
set_option maxHeartbeats 1000000 in
theorem h_Shade (hs:St w0 F0 (HeapP b ab h::ps) w) (p:Int) (hp:Wd p) :
    Calls Try.prog 79 #[.pointer (some ⟨b,0,none⟩),.int .i64 p] w fun e w'=>e=.returned (.tuple #[])∧St w0 F0 (HeapP b ab (hShade p h)::ps) w':=by
  have ok:=hs.heapOk
  have ho:=isObj_kind ok.a p
  by_cases h1:h.ph=1
  · cases hO:isObj h.a p with
    | false =>
      have hE:hShade p h=h:=by unfold hShade hWhite; rw [hO]; simp
      rw [hE]
      rw [hO] at ho
      have hk:aKind h.a.c p=0:=by simpa using ho.symm
      have HK:=Lib.hid (And.intro hk h1)
      clear ho hO hE ok h1 hk
      obtain ⟨ok,mb,lb,h2⟩:=hs.openH
      have c0:=(h2.hcell (k:=0) rfl).1
      have c3:=(h2.hcell (k:=0) rfl).2.2.2.1
      rw [HK.out.2] at c3
      clear h2 ok
      go_enter Try.func79,Try.ntmps79
      go_wp2_with fail
      refine (ha_Kind hs _).mono ?_
      rintro e w1 ⟨rfl,h1⟩
      rw [HK.out.1]
      go_wp2
      ((try simp only [Exit.inBlock,Exit.then]); refine bodyPost_ret (results_none rfl _ _ _) rfl ?_)
      exact ⟨rfl,h1⟩
    | true =>
      rw [hO] at ho
      have hk:(aKind h.a.c p == 0)=false:=by simpa using ho.symm
      have hcl:hColour h p=h.col p:=by unfold hColour; rw [hO]; rfl
      by_cases hc:h.col p=0
      · have hE:hShade p h=hPush p { h with col:=upd h.col p 1 }:=by unfold hShade hWhite; rw [hO,hc,h1]; rfl
        have okE:=ok.shade p
        rw [hE] at okE
        rw [hE]
        obtain ⟨r0,r1⟩:=isObj_range hO
        have r2:p<4096:=by have:=ok.len; have:=ok.a.len; omega
        have g8:=ok.gl
        have HK:=Lib.hid (And.intro hk (And.intro h1 (hcl.trans hc)))
        clear ho hO hE ok h1 hk hcl hc r1
        obtain ⟨ok,mb0,lb0,h2⟩:=hs.openH
        have c0:=(h2.hcell (k:=0) rfl).1
        have c3:=(h2.hcell (k:=0) rfl).2.2.2.1
        rw [HK.out.2.1] at c3
        clear h2
        go_enter Try.func79,Try.ntmps79
        go_wp2_with fail
        refine (ha_Kind hs _).mono ?_
        rintro e w1 ⟨rfl,h1⟩
        have hk:=HK.out.1
        go_wp2_with fail
        refine (h_Colour h1 _ hp).mono ?_
        rintro e w2 ⟨rfl,h2⟩
        rw [HK.out.2.2]
        clear hk c0 c3 hs h1
        obtain ⟨-,mb,lb,h3⟩:=h2.openH
        have c1:=(h3.hcell (k:=0) rfl).2.1
        go_wp2_with (at_mapUpdate; refine wpList_colSet rfl _ _ _ rfl h3.pick2 rfl p 1 r0 r2 (by unfold Wd; omega) rfl rfl ?_)
        intro w3 h4
        have c2:=h4.cell 1 rfl 2 rfl
        clear h2 h3 c1
        go_wp2_with fail
        refine (g_Push (h:={ h with col:=upd h.col p 1 }) h4.pick3 g8 _).mono ?_
        rintro e w4 ⟨⟨r,rfl⟩,h5⟩
        go_wp2
        go_end0
        refine ⟨rfl,St.closeH (mb:=mb) (lb:=lb) ?_ okE⟩
        rw [push_form]
        exact h5.pick3.pick3.swap2
      · have hE:hShade p h=h:=by unfold hShade hWhite; rw [decide_eq_false hc]; simp
        rw [hE]
        have hne:(h.col p == 0)=false:=by simpa using hc
        have HK:=Lib.hid (And.intro hk (And.intro h1 hcl))
        have HN:=Lib.hid hne
        clear ho hO hE ok h1 hk hcl hc hne
        obtain ⟨ok,mb0,lb0,h2⟩:=hs.openH
        have c0:=(h2.hcell (k:=0) rfl).1
        have c3:=(h2.hcell (k:=0) rfl).2.2.2.1
        rw [HK.out.2.1] at c3
        clear h2 ok
        go_enter Try.func79,Try.ntmps79
        go_wp2_with fail
        refine (ha_Kind hs _).mono ?_
        rintro e w1 ⟨rfl,h1⟩
        have hk:=HK.out.1
        go_wp2_with fail
        refine (h_Colour h1 _ hp).mono ?_
        rintro e w2 ⟨rfl,h2⟩
        rw [HK.out.2.2]
        have hn1:=HN.out
        have hn2:(h.col p != 0)=true:=by simp [bne,hn1]
        go_wp2
        ((try simp only [Exit.inBlock,Exit.then]); refine bodyPost_ret (results_none rfl _ _ _) rfl ?_)
        exact ⟨rfl,h2⟩
  · have hE:hShade p h=h:=by unfold hShade hWhite; rw [decide_eq_false h1]; simp
    rw [hE]
    obtain ⟨ok,mb,lb,h2⟩:=hs.openH
    have c3:=(h2.hcell (k:=0) rfl).2.2.2.1
    have hn1:(h.ph == 1)=false:=by simpa using h1
    have hn2:(h.ph != 1)=true:=by simp [bne,hn1]
    clear h2 ok ho hE h1
    generalize h.ph=ph at *
    go_enter Try.func79,Try.ntmps79
    go_wp2
    ((try simp only [Exit.inBlock,Exit.then]); refine bodyPost_ret (results_none rfl _ _ _) rfl ?_)
    exact ⟨rfl,hs⟩
theorem ha_Store (hs:St w0 F0 (HeapP b ab h::ps) w) (p i x:Int) (hx:Wd x) :
    Calls Try.prog 21 #[.pointer (some ⟨ab,0,none⟩),.int .i64 p,.int .i64 i,.int .i64 x] w fun e w'=>e=.returned (.int .i64 (aErr p i h.a))∧St w0 F0 (HeapP b ab { h with a:=aStoreS p i x h.a }::ps) w':=by
  obtain ⟨ok,mb,lb,hs⟩:=hs.openH
  exact (a_Store hs.pick1 p i x).mono fun e w' ⟨he,k⟩=>⟨he,St.closeH (h:={ h with a:=aStoreS p i x h.a }) k.pick1 (ok.storeA p i hx)⟩
theorem vAt_wd {x:Int} (hx:Wd x):Wd (vAt x):=by unfold Wd at *; unfold vAt; split <;> omega
theorem h_Store (hs:St w0 F0 (HeapP b ab h::ps) w) (p i x:Int) (hx:Wd x) :
    Calls Try.prog 48 #[.pointer (some ⟨b,0,none⟩),.int .i64 p,.int .i64 i,.int .i64 x] w fun e w'=>e=.returned (.int .i64 (aErr p i h.a))∧St w0 F0 (HeapP b ab (hStore p i x h)::ps) w':=by
  unfold hStore
  by_cases he:aErr p i h.a=0
  · rw [if_pos he,he]
    have HE:=Lib.hid he
    clear he
    unfold hShadeW
    cases hv:vIsPtr x with
    | false =>
      simp only [Bool.false_eq_true,if_false]
      have HV:=Lib.hid hv
      clear hv
      go_enter Try.func48,Try.ntmps48
      go_wp2_with fail
      refine (h_Arena hs).mono ?_
      rintro e w1 ⟨rfl,rfl⟩
      go_wp2_with fail
      refine (ha_Store hs _ _ _ hx).mono ?_
      rintro e w1 ⟨rfl,h1⟩
      rw [HE.out]
      go_wp2_with fail
      refine (value_IsPtr _ _).mono ?_
      rintro e w2 ⟨rfl,rfl⟩
      rw [HV.out]
      go_wp2
      go_ret
      exact ⟨rfl,h1⟩
    | true =>
      simp only [if_true]
      have HV:=Lib.hid hv
      clear hv
      go_enter Try.func48,Try.ntmps48
      go_wp2_with fail
      refine (h_Arena hs).mono ?_
      rintro e w1 ⟨rfl,rfl⟩
      go_wp2_with fail
      refine (ha_Store hs _ _ _ hx).mono ?_
      rintro e w1 ⟨rfl,h1⟩
      rw [HE.out]
      go_wp2_with fail
      refine (value_IsPtr _ _).mono ?_
      rintro e w2 ⟨rfl,rfl⟩
      rw [HV.out]
      go_wp2_with fail
      refine (value_At _ hx _).mono ?_
      rintro e w2 ⟨rfl,rfl⟩
      go_wp2_with fail
      refine (h_Shade h1 _ (vAt_wd hx)).mono ?_
      rintro e w2 ⟨rfl,h2⟩
      go_wp2
      go_ret
      exact ⟨rfl,h2⟩
  · rw [if_neg he]
    have he1:(aErr p i h.a == 0)=false:=by simpa using he
    have he2:(aErr p i h.a != 0)=true:=by simp [bne,he1]
    have HE:=Lib.hid (And.intro he1 he2)
    have hsn:aStoreS p i x h.a=h.a:=store_no he
    have HSN:=Lib.hid hsn
    clear he he1 he2 hsn
    go_enter Try.func48,Try.ntmps48
    go_wp2_with fail
    refine (h_Arena hs).mono ?_
    rintro e w1 ⟨rfl,rfl⟩
    go_wp2_with fail
    refine (ha_Store hs _ _ _ hx).mono ?_
    rintro e w1 ⟨rfl,h1⟩
    rw [HSN.out] at h1
    obtain ⟨he1,he2⟩:=HE.out
    go_wp2
    go_ret
    exact ⟨rfl,h1⟩
theorem upd_upd (f:Int→Int) (p a b:Int):upd (upd f p a) p b=upd f p b:=by funext x; unfold upd; split <;> rfl
set_option maxHeartbeats 1000000 in
theorem h_Alloc (hs:St w0 F0 (HeapP b ab h::ps) w) (kind n:Int) :
    Calls Try.prog 90 #[.pointer (some ⟨b,0,none⟩),.int .i64 kind,.int .i64 n] w fun e w'=>e=.returned (aAllocV kind n h.a)∧St w0 F0 (HeapP b ab (hAlloc kind n h)::ps) w':=by
  obtain ⟨ok,mb,lb,h2⟩:=hs.openH
  have okE:=ok.alloc kind n
  have c0:=(h2.hcell (k:=0) rfl).1
  clear hs
  by_cases hbad:∃ er:Int,aAllocV kind n h.a=.tuple #[.int .i64 0,.int .i64 er]∧¬ er=0
  · obtain ⟨er,hv,her⟩:=hbad
    have hst:aAllocS kind n h.a=h.a∧hAlloc kind n h=h:=by
      unfold aAllocV at hv
      unfold aAllocS hAlloc
      split
      · exact ⟨rfl,rfl⟩
      · rename_i hb
        rw [if_neg hb] at hv
        cases ha:aAlloc kind n h.a with
        | none=>exact ⟨rfl,rfl⟩
        | some x=>rw [ha] at hv; simp at hv; exact absurd hv.2.symm her
    rw [hst.2,hv]
    have he1:(er == 0)=false:=by simpa using her
    have he2:(er != 0)=true:=by simp [bne,he1]
    have HV:=Lib.hid (And.intro hv hst.1)
    clear hv hst her okE
    go_enter Try.func90,Try.ntmps90
    go_wp2_with fail
    refine (a_Alloc h2.pick1 _ _).mono ?_
    rintro e w1 ⟨rfl,h3⟩
    rw [HV.out.1]
    rw [HV.out.2] at h3
    go_wp2
    go_ret2
    exact ⟨rfl,h3.pick1.closeH ok⟩
  · have hgood:∃ (p:Nat) (s':ASt),aBad kind n=false∧aAlloc kind n h.a=some (p,s'):=by
      unfold aAllocV at hbad
      cases hb:aBad kind n with
      | true=>rw [hb] at hbad; exact absurd ⟨1,rfl,by omega⟩ hbad
      | false =>
        cases ha:aAlloc kind n h.a with
        | none=>rw [hb,ha] at hbad; exact absurd ⟨9,rfl,by omega⟩ hbad
        | some x=>exact ⟨x.1,x.2,rfl,rfl⟩
    obtain ⟨p,s',hb,ha⟩:=hgood
    have m:=alloc_more ok.a hb ha
    have hlt:=m.lt
    have p4:(p:Int)<4096:=by have:=ok.len; have:=ok.a.len; omega
    have p0:(0:Int)≤p:=by omega
    have hv:aAllocV kind n h.a=.tuple #[.int .i64 p,.int .i64 0]:=by unfold aAllocV; rw [hb,ha]; rfl
    have hS:aAllocS kind n h.a=s':=by unfold aAllocS; rw [hb,ha]; rfl
    have hH:hAlloc kind n h={ h with a:=s',col:=upd h.col p (if h.ph=0 then 0 else 2) }:=by unfold hAlloc; rw [hb,ha]; rfl
    rw [hH] at okE
    rw [hH,hv]
    have HV:=Lib.hid (And.intro hv hS)
    clear hv hS hH hb ha m hlt hbad ok
    by_cases h0:h.ph=0
    · rw [if_pos h0] at okE ⊢
      have H0:=Lib.hid h0
      clear h0
      go_enter Try.func90,Try.ntmps90
      go_wp2_with fail
      refine (a_Alloc h2.pick1 _ _).mono ?_
      rintro e w1 ⟨rfl,h3⟩
      rw [HV.out.1]
      rw [HV.out.2] at h3
      have c1:=h3.cell 1 rfl 1 rfl
      clear h2 c0
      go_wp2_with (at_mapUpdate; refine wpList_colSet rfl _ _ _ rfl h3.pick2 rfl p 2 p0 p4 (by unfold Wd; omega) rfl rfl ?_)
      intro w2 h4
      have c1:=h4.cell 2 rfl 1 rfl
      have c3:=h4.cell 2 rfl 3 rfl
      rw [H0.out] at c3
      clear h3
      go_wp2_with (at_mapUpdate; refine wpList_colSet rfl _ _ _ rfl h4 rfl p 0 p0 p4 (by unfold Wd; omega) rfl rfl ?_)
      intro w3 h5
      go_wp2
      go_ret2
      refine ⟨rfl,St.closeH (mb:=mb) (lb:=lb) (h:={ h with a:=s',col:=upd h.col p 0 }) ?_ okE⟩
      have h6:St w0 F0 (heapB b ab mb lb h::ColP mb (upd (upd h.col p 2) p 0)::ArenaP ab s'::GreyP lb h.g h.ov::ps) w3:=h5.pick2
      rw [upd_upd] at h6
      exact h6.swap1
    · rw [if_neg h0] at okE ⊢
      have he1:(h.ph == 0)=false:=by simpa using h0
      have H0:=Lib.hid he1
      clear h0 he1
      go_enter Try.func90,Try.ntmps90
      go_wp2_with fail
      refine (a_Alloc h2.pick1 _ _).mono ?_
      rintro e w1 ⟨rfl,h3⟩
      rw [HV.out.1]
      rw [HV.out.2] at h3
      have c1:=h3.cell 1 rfl 1 rfl
      clear h2 c0
      go_wp2_with (at_mapUpdate; refine wpList_colSet rfl _ _ _ rfl h3.pick2 rfl p 2 p0 p4 (by unfold Wd; omega) rfl rfl ?_)
      intro w2 h4
      have c3:=h4.cell 2 rfl 3 rfl
      have he1:=H0.out
      clear h3
      go_wp2
      go_ret2
      exact ⟨rfl,St.closeH (mb:=mb) (lb:=lb) (h:={ h with a:=s',col:=upd h.col p 2 }) (by
        have h6:St w0 F0 (heapB b ab mb lb h::ColP mb (upd h.col p 2)::ArenaP ab s'::GreyP lb h.g h.ov::ps) w2:=h4.pick2
        exact h6.swap1) okE⟩
end
end Go.Proofs.Ytffnjpapggidlaa
namespace Go.Proofs.Ytffnjpapggidlaa
open Go.RowKit
set_option linter.unusedVariables false
section
variable {w0 w:World} {F0:List Nat} {ps:List Piece} {b ab mb lb:Nat} {h:HSt}
theorem g_New {ps:List Piece} (hs:St w0 F0 ps w):Calls Try.prog 88 #[] w fun e w'=>∃ lb,e=.returned (.pointer (some ⟨lb,0,none⟩))∧St w0 F0 (GreyP lb [] false::ps) w' :=
  (grey_New w).mono fun e w' ⟨he,F,a,k,f⟩=>⟨_,he,hs.push (p:=GreyP w.heap.size [] false) (k.below) ⟨F,a,fun i hi=>(f i hi).elim (by simp) id⟩⟩
set_option maxHeartbeats 1000000 in
theorem h_New {n:Nat} (hn2:2≤n) (hn:n≤128) (hs:St w0 F0 ps w) :
    Calls Try.prog 68 #[.int .i64 n] w fun e w'=>∃ b ab,e=.returned (.tuple #[.pointer (some ⟨b,0,none⟩),.int .i64 0])∧St w0 F0 (HeapP b ab (hNew n)::ps) w':=by
  have hmm:=@run_makeMap Try.prog
  go_enter Try.func68,Try.ntmps68
  go_wp2_with fail
  refine (a_New hs n hn2 hn).mono ?_
  rintro e w1 ⟨ab,rfl,h1⟩
  go_wp2_with fail
  refine (g_New h1.newMap).mono ?_
  rintro e w2 ⟨lb,rfl,h2⟩
  go_wp2
  go_ret2
  refine ⟨_,ab,rfl,?_⟩
  have h3:=h2.new #[.pointer (some ⟨ab,0,none⟩),.map (some w1.heap.size),.pointer (some ⟨lb,0,none⟩),.int .i64 0,.int .i64 0,.int .i64 0] 125
  exact St.closeH (h:=hNew n) h3.pick3.pick3.pick2.swap1 (HOk.new n hn2 hn)
theorem h_New_no (n:Int) (hn:n<2 ∨ 128<n) (w:World) :
    Calls Try.prog 68 #[.int .i64 n] w fun e w'=>e=.returned (.tuple #[.pointer none,.int .i64 1])∧w=w':=by
  go_enter Try.func68,Try.ntmps68
  go_wp2_with fail
  refine (arena_New_no n hn _).mono ?_
  rintro e w1 ⟨rfl,rfl⟩
  go_wp2
  go_ret2
  exact ⟨rfl,rfl⟩
theorem shades_snoc (l:List Int) (p:Int) (h:HSt):hShades (l ++ [p]) h=hShade p (hShades l h):=by simp [hShades]
theorem shadesW_snoc (l:List Int) (p:Int) (h:HSt):hShadesW (l ++ [p]) h=hShadeW p (hShadesW l h):=by simp [hShadesW]
end
structure Sees (R:Piece) (v:Value) (L:List Int):Prop where
  row:∀ {w:World} {F:List Nat},R.at' w F→w.ownsRow 0 3 1 v L.length (iV L)
theorem Sees.shape {R:Piece} {v:Value} {L:List Int} (hR:Sees R v L) {w0 w:World} {F0:List Nat} {ps:List Piece} (h:St w0 F0 ps w) (k:Nat) (hk:ps[k]?=some R):L.length≤maxLen∧∃ p c,v=.slice p L.length c∧(L.length=0 ∨ ∃ g,p=some ⟨g,0,none⟩):=by
  obtain ⟨G,h1⟩:=h.get k hk; exact own_shape (hR.row h1)
theorem Sees.num {R:Piece} {L:List Int} {g n c:Nat} (hR:Sees R (.slice (some ⟨g,0,none⟩) n c) L) {w0 w:World} {F0:List Nat} {ps:List Piece} (h:St w0 F0 ps w) (k:Nat) (hk:ps[k]?=some R) (i:Nat) (hi:i<L.length):w.cell? ⟨g,i,none⟩=some (.int .i64 L[i]):=by
  obtain ⟨G,h1⟩:=h.get k hk; exact own_num (hR.row h1) i hi
theorem sees_row (v:Value) (L:List Int):Sees (RowP v L) v L:=⟨fun h=>h.1⟩
theorem sees_take {g n c:Nat} {L:List Int} (k:Nat) (hk:k≤L.length):Sees (RowP (.slice (some ⟨g,0,none⟩) n c) L) (.slice (some ⟨g,0,none⟩) k c) (L.take k):=⟨fun {w F} h=>by
  have h:=h.1
  have hl:(L.take k).length=k:=by simp; omega
  rw [hl]
  refine ⟨by simp [iV]; omega,?_⟩
  rcases h.2 with ⟨e,_⟩ | ⟨g',cap,cs,e,h2,h3,h4,h5,h6,h7⟩
  · cases e
  · injection e with e1 e2 e3
    injection e1 with e1
    injection e1 with e1
    subst e1; subst e3
    refine .inr ⟨g,c,cs,rfl,h2,h3,by omega,h5,h6,?_⟩
    have:=congrArg (List.take k) h7
    rw [List.take_take] at this
    simp only [Nat.mul_one] at this ⊢
    rw [Nat.min_eq_left hk] at this
    rw [this]; simp [iV,List.map_take]⟩
section
variable {w0 w:World} {F0:List Nat} {ps:List Piece} {b ab mb lb:Nat} {h:HSt}
set_option maxHeartbeats 2000000 in
theorem h_BeginR {R:Piece} {v:Value} {L:List Int} (hR:Sees R v L) (hs:St w0 F0 (HeapP b ab h::R::ps) w) (hL:∀ x ∈ L,Wd x) :
    Calls Try.prog 73 #[.pointer (some ⟨b,0,none⟩),v] w fun e w'=>e=.returned (.int .i64 (hBeginE h))∧St w0 F0 (HeapP b ab (hBegin L h)::R::ps) w':=by
  have hmm:=@run_makeMap Try.prog
  obtain ⟨hlm,p,c,rfl,hp⟩:=hR.shape hs 1 rfl
  unfold maxLen at hlm
  have HP:=Lib.hid hp
  have HR:=Lib.hid hR
  have HW:=Lib.hid hL
  obtain ⟨ok,mb,lb,h1⟩:=hs.openH
  have c3:=(h1.hcell (k:=0) rfl).2.2.2.1
  clear hp hL hR
  unfold hBegin hBeginE
  by_cases h0:h.ph=0
  · rw [if_pos h0,if_pos h0]
    rw [h0] at c3
    have okc:=ok.clear h0
    have f1:=h1.free 0 rfl 1
    clear h0 ok hs
    go_enter Try.func73,Try.ntmps73
    go_wp2_with fail
    refine (g_New h1.newMap).mono ?_
    rintro e w2 ⟨lb2,rfl,h2⟩
    have d1:=h2.cell 2 rfl 1 rfl
    have d2:=h2.cell 2 rfl 2 rfl
    have d3:=h2.cell 2 rfl 3 rfl
    have f1:=h2.free 2 rfl 1
    have f2:=h2.free 2 rfl 2
    have f3:=h2.free 2 rfl 3
    clear h1 c3
    go_wp2
    have h3:=((h2.pick2.set 1 (.map (some w.heap.size))).set 2 (.pointer (some ⟨lb2,0,none⟩))).set 3 (.int .i64 1)
    have h4:=h3.pick4.drop.pick4.drop.pick3.pick3.pick2.swap1
    have h5:St w0 F0 (HeapP b ab { h with col:=fun _=>0,g:=[],ov:=false,ph:=1 }::R::ps) _:=St.closeH (h:={ h with col:=fun _=>0,g:=[],ov:=false,ph:=1 }) h4 okc
    clear h2 h3 h4 d1 d2 d3 f1 f2 f3
    obtain ⟨hc,hhc⟩:∃ hc:HSt,({ h with col:=fun _=>0,g:=[],ov:=false,ph:=1 }:HSt)=hc:=⟨_,rfl⟩
    rw [hhc] at h5
    have HH:=Lib.hid hhc
    clear hhc
    go_loopw [29] (fun iv wr=>∃ k:Nat,k≤L.length∧iv=.int .i64 k∧St w0 F0 (HeapP b ab (hShades (L.take k) hc)::R::ps) wr) (fun iv _=>L.length - (intOf iv).toNat)
    case atStart=>exact ⟨0,by omega,rfl,h5⟩
    case round =>
      obtain ⟨k,hk,rfl,h6⟩:=hrel
      clear h5
      by_cases hlt:k<L.length
      · obtain ⟨g,rfl⟩:=HP.out.resolve_left (by omega)
        have cc:=HR.out.num h6 1 rfl k hlt
        have hw:=HW.out L[k] (List.getElem_mem hlt)
        have HS:=Lib.hid (show hShades (L.take (k+1)) hc=hShade L[k] (hShades (L.take k) hc) by rw [List.take_succ_eq_append_getElem hlt,shades_snoc])
        have i0:(0:Int)≤k:=by omega
        have i1:(k:Int)<L.length:=by omega
        generalize L[k]=x at *
        go_wp2_with fail
        refine (h_Shade h6 x hw).mono ?_
        rintro e w3 ⟨rfl,h7⟩
        clear h6 cc
        go_wp2
        go_roundw
        case rel=>exact ⟨k+1,by omega,by go_num,by rw [HS.out]; exact h7⟩
        case measure=>simp [intOf]; omega
      · have hkl:k=L.length:=by omega
        subst hkl
        go_wp2
        go_ret
        rw [List.take_length,← HH.out] at h6
        exact ⟨rfl,h6⟩
  · rw [if_neg h0,if_neg h0]
    have e1:(h.ph == 0)=false:=by simpa using h0
    have e2:(h.ph != 0)=true:=by simp [bne,e1]
    clear h0 h1 ok
    go_enter Try.func73,Try.ntmps73
    go_wp2
    go_ret
    exact ⟨rfl,hs⟩
theorem h_Begin {v:Value} {L:List Int} (hs:St w0 F0 (HeapP b ab h::RowP v L::ps) w) (hL:∀ x ∈ L,Wd x) :
    Calls Try.prog 73 #[.pointer (some ⟨b,0,none⟩),v] w fun e w'=>e=.returned (.int .i64 (hBeginE h))∧St w0 F0 (HeapP b ab (hBegin L h)::RowP v L::ps) w':=h_BeginR (sees_row v L) hs hL
end
@[go_sem] theorem as_bb (v:Value) (w:World):(Instr.typeAssert (.iface 172 v) 20 172 true).run Try.prog w=.ok (.tuple #[v,.bool true]) w:=by kernel_rfl
@[go_sem] theorem as_tb (v:Value) (w:World):(Instr.typeAssert (.iface 162 v) 20 172 true).run Try.prog w=.ok (.tuple #[.agg #[.int .i64 0,.int .i64 0,.slice none 0 0],.bool false]) w:=by kernel_rfl
@[go_sem] theorem as_nb (w:World):(Instr.typeAssert .nilIface 20 172 true).run Try.prog w=.ok (.tuple #[.agg #[.int .i64 0,.int .i64 0,.slice none 0 0],.bool false]) w:=by kernel_rfl
@[go_sem] theorem as_tt (v:Value) (w:World):(Instr.typeAssert (.iface 162 v) 20 162 true).run Try.prog w=.ok (.tuple #[v,.bool true]) w:=by kernel_rfl
@[go_sem] theorem as_bt (v:Value) (w:World):(Instr.typeAssert (.iface 172 v) 20 162 true).run Try.prog w=.ok (.tuple #[.agg #[.int .i64 0,.int .i64 0,.slice none 0 0],.bool false]) w:=by kernel_rfl
@[go_sem] theorem as_nt (w:World):(Instr.typeAssert .nilIface 20 162 true).run Try.prog w=.ok (.tuple #[.agg #[.int .i64 0,.int .i64 0,.slice none 0 0],.bool false]) w:=by kernel_rfl
def thingV (k p:Int) (v:Value):Value:=.agg #[.int .i64 k,.int .i64 p,v]
def lookV (k p:Int) (v:Value):Value:=if k=0 then .nilIface else if k=5 then .iface 172 (thingV k p v) else .iface 162 (thingV k p v)
theorem word_at {s:ASt} {p:Int} {j:Nat} (hj:j<(aWords s p).length):aErr p j s=0∧aWord p j s=(aWords s p)[j]:=by
  rw [aWords_len] at hj
  have hn:∃ k n,aHead s.c p=some (k,n)∧(j:Int)<n:=by
    unfold aLen at hj
    cases e:aHead s.c p with
    | none=>rw [e] at hj; simp at hj
    | some kn=>rw [e] at hj; exact ⟨kn.1,kn.2,rfl,by simp only at hj; omega⟩
  obtain ⟨k,n,hk,hlt⟩:=hn
  have he:aErr p j s=0:=by unfold aErr; rw [hk]; simp only [if_pos (show 0≤(j:Int)∧(j:Int)<n by omega)]
  refine ⟨he,?_⟩
  unfold aWord; rw [he,if_pos rfl]
  simp [aWords]
theorem alen_bd {s:ASt} (hok:AOk s) (p:Int):0≤aLen s.c p∧aLen s.c p<32:=by
  unfold aLen
  cases e:aHead s.c p with
  | none=>simp
  | some kn =>
    obtain ⟨k,n⟩:=kn
    obtain ⟨q,rfl,hq⟩:=aHead_some e
    obtain ⟨i,u,_,hu,_,_,h0,hx,_⟩:=hok.head q k n hq
    have:=(used_geo hok.rows hu).2.1
    simp only
    omega
section
variable {w0 w:World} {F0:List Nat} {ps:List Piece} {b ab mb lb:Nat} {h:HSt}
set_option maxRecDepth 100000 in
set_option maxHeartbeats 2000000 in
theorem h_look (hs:St w0 F0 (HeapP b ab h::ps) w) (p:Int) :
    Calls Try.prog 115 #[.pointer (some ⟨b,0,none⟩),.int .i64 p] w fun e w'=>∃ v,e=.returned (lookV (aKind h.a.c p) p v)∧St w0 F0 (RowP v (aWords h.a p)::HeapP b ab h::ps) w':=by
  have ok:=hs.heapOk
  obtain ⟨l0,l1⟩:=alen_bd ok.a p
  obtain ⟨n,hn⟩:=Int.eq_ofNat_of_zero_le l0
  have hwl:(aWords h.a p).length=n:=by rw [aWords_len,hn]; simp
  have HN:=Lib.hid hn
  have HL:=Lib.hid hwl
  have n32:n<32:=by omega
  clear hn hwl l0 l1 ok
  obtain ⟨ok,mb0,lb0,h1⟩:=hs.openH
  have c0:=(h1.hcell (k:=0) rfl).1
  clear h1 ok mb0 lb0
  go_enter Try.func115,Try.ntmps115
  go_wp2_with fail
  refine (ha_Kind hs _).mono ?_
  rintro e w1 ⟨rfl,h1⟩
  obtain ⟨k,hk⟩:∃ k,aKind h.a.c p=k:=⟨_,rfl⟩
  rw [hk]
  have HK0:=Lib.hid hk
  clear hk
  obtain ⟨tb,htb⟩:∃ tb,w1.heap.size=tb:=⟨_,rfl⟩
  have h2:=h1.new #[.int .i64 k,.int .i64 p,.slice none 0 0] 162
  rw [htb] at h2
  obtain ⟨ok,mb0,lb0,h3⟩:=(h2.pick1).openH
  have c0:=(h3.hcell (k:=0) rfl).1
  clear hs h1 h3 ok mb0 lb0
  go_wp2_with fail
  refine (ha_Len h2.pick1 _).mono ?_
  rintro e w2 ⟨rfl,h3⟩
  rw [HN.out]
  clear h2 c0
  have h4:=h3.nil
  clear h3 htb
  go_wp2
  go_loopw [23] (fun iv wr=>∃ (j:Nat) (v:Value),j≤n∧iv=.int .i64 j∧St w0 F0 (RowP v ((aWords h.a p).take j)::HeapP b ab h::BlkP tb 162 #[.int .i64 k,.int .i64 p,v]::ps) wr) (fun iv _=>n - (intOf iv).toNat)
  case atStart=>exact ⟨0,_,by omega,rfl,h4⟩
  case round =>
    obtain ⟨j,v,hj,rfl,h5⟩:=hrel
    clear h4
    by_cases hlt:j<n
    · obtain ⟨e0,e1⟩:=word_at (s:=h.a) (p:=p) (j:=j) (by rw [HL.out]; exact hlt)
      have HE:=Lib.hid (And.intro e0 e1)
      have hT:(aWords h.a p).take (j+1)=(aWords h.a p).take j ++ [(aWords h.a p)[j]'(by rw [HL.out]; exact hlt)]:=List.take_succ_eq_append_getElem _
      have HT:=Lib.hid hT
      generalize (aWords h.a p)[j]'(by rw [HL.out]; exact hlt)=x at *
      obtain ⟨ok,mb0,lb0,h6⟩:=(h5.pick1).openH
      have c0:=(h6.hcell (k:=0) rfl).1
      clear e0 e1 hT h6 ok mb0 lb0
      go_wp2_with fail
      refine (ha_Load h5.pick1 _ _).mono ?_
      rintro e w3 ⟨rfl,h6⟩
      have hx:=HE.out.2
      unfold loadV
      rw [HE.out.1,hx]
      have h7:=h6.pick1
      have d2:=h7.cell 2 rfl 2 rfl
      clear h5 h6 c0 hx
      have hlt2:((aWords h.a p).take j).length=j:=by rw [List.length_take,HL.out]; omega
      have HLT:=Lib.hid hlt2
      clear hlt2
      go_wp2_with (at_builtin; refine wpList_growN j HLT.out (by omega) rfl _ _ rfl h7 rfl rfl rfl ?_)
      · intro gv cv w4 h8
        rw [← HT.out] at h8
        have d2':=h8.cell 2 rfl 2 rfl
        have f2:=h8.free 2 rfl 2
        clear h7 d2
        go_wp2
        go_roundw
        case rel=>exact ⟨j+1,_,by omega,by go_num,(h8.pick2.set 2 (.slice (some ⟨gv,0,none⟩) (j+1) cv)).back2⟩
        case measure=>simp [intOf]; omega
    · have hjn:j=n:=by omega
      subst hjn
      rw [List.take_of_length_le (by rw [HL.out]; omega)] at h5
      have d0:=h5.cell 2 rfl 0 rfl
      have d1:=h5.cell 2 rfl 1 rfl
      have d2:=h5.cell 2 rfl 2 rfl
      obtain ⟨_,pv,cv,rfl,-⟩:=h5.shape 0 rfl
      have h6:=h5.pick2.drop
      by_cases k0:k=0
      · subst k0
        go_wp2
        go_ret
        exact ⟨_,by rw [HK0.out]; rfl,h6⟩
      · by_cases k5:k=5
        · subst k5
          go_wp2
          go_ret
          exact ⟨_,by rw [HK0.out]; rfl,h6⟩
        · have b0:(k == 0)=false:=by simpa using k0
          have b5:(k == 5)=false:=by simpa using k5
          have HK:=Lib.hid (And.intro k0 k5)
          clear k0 k5
          go_wp2
          go_ret
          exact ⟨_,by rw [HK0.out]; unfold lookV; rw [if_neg HK.out.1,if_neg HK.out.2]; rfl,h6⟩
end
end Go.Proofs.Ytffnjpapggidlaa
namespace Go.Proofs.Ytffnjpapggidlaa
open Go.RowKit
set_option linter.unusedVariables false
def objV (k p:Int) (v:Value):Value:=if k=0 then .tuple #[.agg #[.int .i64 0,.int .i64 0,.slice none 0 0],.bool false] else .tuple #[thingV k p v,.bool true]
section
variable {w0 w:World} {F0:List Nat} {ps:List Piece} {b ab mb lb:Nat} {h:HSt}
set_option maxHeartbeats 2000000 in
theorem h_object (hs:St w0 F0 (HeapP b ab h::ps) w) (p:Int) :
    Calls Try.prog 107 #[.pointer (some ⟨b,0,none⟩),.int .i64 p] w fun e w'=>∃ v,e=.returned (objV (aKind h.a.c p) p v)∧St w0 F0 (RowP v (aWords h.a p)::HeapP b ab h::ps) w':=by
  obtain ⟨rb,hrb⟩:∃ rb,w.heap.size=rb:=⟨_,rfl⟩
  have h1:=(hs.new #[.int .i64 0,.int .i64 0,.slice none 0 0] 162).pick1
  rw [hrb] at h1
  obtain ⟨k,hk⟩:∃ k,aKind h.a.c p=k:=⟨_,rfl⟩
  have HK:=Lib.hid hk
  clear hk hs
  go_enter Try.func107,Try.ntmps107
  go_wp2_with fail
  refine (h_look h1 _).mono ?_
  rintro e w1 ⟨v,rfl,h2⟩
  rw [HK.out]
  obtain ⟨_,pv,cv,rfl,-⟩:=h2.shape 0 rfl
  have d0:=h2.cell 2 rfl 0 rfl
  have d1:=h2.cell 2 rfl 1 rfl
  have d2:=h2.cell 2 rfl 2 rfl
  have f0:=h2.free 2 rfl 0
  have f1:=h2.free 2 rfl 1
  have f2:=h2.free 2 rfl 2
  have hbl:=(St.blk h2.pick2).lt
  clear h1 hrb
  by_cases k0:k=0
  · subst k0
    have hlv:lookV 0 p (.slice pv (aWords h.a p).length cv)=.nilIface:=rfl
    rw [hlv]
    clear hlv
    go_wp2
    (try simp only [Exit.inBlock,Exit.then])
    refine bodyPost_ret (v:=.tuple #[.agg #[.int .i64 0,.int .i64 0,.slice none 0 0],.bool false]) (by rw [results_cell_tmp rfl]; go_simp) rfl ?_
    refine ⟨.slice pv (aWords h.a p).length cv,by rw [HK.out]; rfl,?_⟩
    exact ((((h2.pick2.set 0 _).set 1 _).set 2 _).drop.alloc _).alloc _
  · by_cases k5:k=5
    · subst k5
      have hlv:lookV 5 p (.slice pv (aWords h.a p).length cv)=.iface 172 (.agg #[.int .i64 5,.int .i64 p,.slice pv (aWords h.a p).length cv]):=rfl
      rw [hlv]
      clear hlv
      go_wp2
      (try simp only [Exit.inBlock,Exit.then])
      refine bodyPost_ret (v:=.tuple #[.agg #[.int .i64 5,.int .i64 p,.slice pv (aWords h.a p).length cv],.bool true]) (by rw [results_cell_tmp rfl]; go_simp) rfl ?_
      refine ⟨_,by rw [HK.out]; rfl,?_⟩
      exact (((h2.pick2.set 0 _).set 1 _).set 2 _).drop.alloc _
    · have hlv:lookV k p (.slice pv (aWords h.a p).length cv)=.iface 162 (.agg #[.int .i64 k,.int .i64 p,.slice pv (aWords h.a p).length cv]):=by unfold lookV; rw [if_neg k0,if_neg k5]; rfl
      rw [hlv]
      have hov:objV k p (.slice pv (aWords h.a p).length cv)=.tuple #[.agg #[.int .i64 k,.int .i64 p,.slice pv (aWords h.a p).length cv],.bool true]:=by unfold objV; rw [if_neg k0]; rfl
      have HO:=Lib.hid hov
      clear hlv hov k0 k5
      go_wp2
      (try simp only [Exit.inBlock,Exit.then])
      refine bodyPost_ret (v:=.tuple #[.agg #[.int .i64 k,.int .i64 p,.slice pv (aWords h.a p).length cv],.bool true]) (by rw [results_cell_tmp rfl]; go_simp) rfl ?_
      refine ⟨_,by rw [HK.out,HO.out],?_⟩
      exact ((((h2.pick2.set 0 _).set 1 _).set 2 _).drop.alloc _).alloc _
end
end Go.Proofs.Ytffnjpapggidlaa
namespace Go.Proofs.Ytffnjpapggidlaa
open Go.RowKit
set_option linter.unusedVariables false
theorem find_at {α:Type} {q:α→Bool} {l:List α} {k:Nat} (hk:k<l.length) (h:∀ x ∈ l.take k,q x=false) (hq:q l[k]=true):l.find? q=some l[k]:=by
  rw [List.find?_eq_some_iff_append]
  refine ⟨hq,l.take k,l.drop (k+1),?_,fun x hx=>by simp [h x hx]⟩
  have:=List.take_append_drop k l
  rw [List.drop_eq_getElem_cons hk] at this
  exact this.symm
theorem find_no {α:Type} {q:α→Bool} {l:List α} (h:∀ x ∈ l,q x=false):l.find? q=none:=by
  rw [List.find?_eq_none]; intro x hx; simp [h x hx]
theorem take_all {q:Int→Bool} {l:List Int} {k:Nat} (hk:k<l.length) (h:∀ x ∈ l.take k,q x=false) (hq:q l[k]=false):∀ x ∈ l.take (k+1),q x=false:=by
  intro x hx
  rw [List.take_succ_eq_append_getElem hk] at hx
  rcases List.mem_append.1 hx with hx | hx
  · exact h x hx
  · simp at hx; subst hx; exact hq
theorem hObjs_wd {s:ASt} (hok:AOk s) (hl:s.l.length≤128):∀ x ∈ hObjs s,0≤x∧x<4096:=by
  intro x hx
  obtain ⟨r0,r1⟩:=isObj_range (hObjs_mem hx)
  have:=hok.len
  omega
theorem hObjs_len {s:ASt}:(hObjs s).length≤s.c.length:=by
  unfold hObjs aObjects
  rw [List.length_map]
  exact Nat.le_trans (List.length_filter_le _ _) (by simp)
section
variable {w0 w:World} {F0:List Nat} {ps:List Piece} {b ab mb lb:Nat} {h:HSt}
theorem g_Pop_none {ov:Bool} (hs:St w0 F0 (GreyP lb [] ov::ps) w) :
    Calls Try.prog 112 #[.pointer (some ⟨lb,0,none⟩)] w fun e w'=>e=.returned (.tuple #[.int .i64 0,.bool false])∧St w0 F0 (GreyP lb [] ov::ps) w' :=
  hs.call (p':=GreyP lb [] ov) fun F h1=>grey_Pop_none _ _ _ _ h1
theorem g_Pop {L:List Int} {x:Int} {ov:Bool} (hs:St w0 F0 (GreyP lb (L ++ [x]) ov::ps) w) :
    Calls Try.prog 112 #[.pointer (some ⟨lb,0,none⟩)] w fun e w'=>e=.returned (.tuple #[.int .i64 x,.bool true])∧St w0 F0 (GreyP lb L ov::ps) w' :=
  hs.call (p':=GreyP lb L ov) fun F h1=>grey_Pop _ _ _ _ _ _ h1
theorem g_Over {L:List Int} {ov:Bool} (hs:St w0 F0 (GreyP lb L ov::ps) w) :
    Calls Try.prog 113 #[.pointer (some ⟨lb,0,none⟩)] w fun e w'=>e=.returned (.bool ov)∧w=w':=by
  obtain ⟨F,h1⟩:=hs.head; exact grey_Over _ _ _ _ _ h1
theorem g_Settle {L:List Int} {ov:Bool} (hs:St w0 F0 (GreyP lb L ov::ps) w) :
    Calls Try.prog 114 #[.pointer (some ⟨lb,0,none⟩)] w fun e w'=>e=.returned (.tuple #[])∧St w0 F0 (GreyP lb L false::ps) w' :=
  hs.call (p':=GreyP lb L false) fun F h1=>grey_Settle _ _ _ _ _ h1
def nextV (o:Option Int):Value:=match o with | some p=>.tuple #[.int .i64 p,.bool true] | none=>.tuple #[.int .i64 0,.bool false]
set_option maxHeartbeats 2000000 in
theorem h_next (hs:St w0 F0 (HeapP b ab h::ps) w) :
    Calls Try.prog 104 #[.pointer (some ⟨b,0,none⟩)] w fun e w'=>e=.returned (nextV (hNext h).1)∧St w0 F0 (HeapP b ab (hNext h).2::ps) w':=by
  obtain ⟨okn,-,-,-,-⟩:=hs.heapOk.next
  obtain ⟨ok,mb,lb,h1⟩:=hs.openH
  have c2:=(h1.hcell (k:=0) rfl).2.2.1
  rcases List.eq_nil_or_concat h.g with hg | ⟨L,x,hg⟩
  · cases hov:h.ov with
    | false =>
      have hn:hNext h=(none,h):=by unfold hNext; rw [hg]; simp only [List.getLast?_nil]; rw [hov]; rfl
      rw [hn]
      rw [hg,hov] at h1
      have HG:=Lib.hid (And.intro hg hov)
      clear hs hn okn hg hov
      go_enter Try.func104,Try.ntmps104
      go_wp2_with fail
      refine (g_Pop_none h1.pick3).mono ?_
      rintro e w1 ⟨rfl,h2⟩
      have c2:=(St.hcell (k:=1) h2 rfl).2.2.1
      clear h1
      go_wp2_with fail
      refine (g_Over h2).mono ?_
      rintro e w1 ⟨rfl,rfl⟩
      go_wp2
      go_ret2
      refine ⟨rfl,St.closeH (mb:=mb) (lb:=lb) ?_ ok⟩
      rw [HG.out.1,HG.out.2]
      exact h2.back3
    | true =>
      rw [hg,hov] at h1
      obtain ⟨n,hnl⟩:∃ n,(hObjs h.a).length=n:=⟨_,rfl⟩
      have hn4:n≤4096:=by have:=hObjs_len (s:=h.a); have:=ok.len; have:=ok.a.len; omega
      have HO:=Lib.hid (hObjs_wd ok.a ok.len.2)
      have HN:=Lib.hid hnl
      have HG:=Lib.hid (And.intro hg hov)
      have OK:=Lib.hid (And.intro ok okn)
      clear hs okn hg hov hnl ok
      go_enter Try.func104,Try.ntmps104
      go_wp2_with fail
      refine (g_Pop_none h1.pick3).mono ?_
      rintro e w1 ⟨rfl,h2⟩
      have c2:=(St.hcell (k:=1) h2 rfl).2.2.1
      have c0:=(St.hcell (k:=1) h2 rfl).1
      clear h1
      go_wp2_with fail
      refine (g_Over h2).mono ?_
      rintro e w1 ⟨rfl,rfl⟩
      have h3:St w0 F0 (HeapP b ab h::ps) w1:=St.closeH (mb:=mb) (lb:=lb) (by rw [HG.out.1,HG.out.2]; exact h2.back3) OK.out.1
      clear h2 c2
      go_wp2_with fail
      refine (ha_Objects h3).mono ?_
      rintro e w2 ⟨v,rfl,h4⟩
      obtain ⟨_,pv,cv,rfl,hp⟩:=h4.shape 0 rfl
      rw [HN.out] at h4 hp
      rw [HN.out]
      have HP:=Lib.hid hp
      clear h3 c0 hp
      go_wp2
      go_loopw [30] (fun iv wr=>∃ k:Nat,k≤n∧iv=.int .i64 k∧St w0 F0 (RowP (.slice pv n cv) (hObjs h.a)::HeapP b ab h::ps) wr∧Hid (∀ x ∈ (hObjs h.a).take k,decide (h.col x=1)=false)) (fun iv _=>n - (intOf iv).toNat)
      case atStart=>exact ⟨0,by omega,rfl,h4,by intro x hx; simp at hx⟩
      case round =>
        obtain ⟨k,hk,rfl,h5,hall⟩:=hrel
        clear h4
        by_cases hlt:k<n
        · obtain ⟨g,rfl⟩:=HP.out.resolve_left (by omega)
          have hkl:k<(hObjs h.a).length:=by rw [HN.out]; exact hlt
          have cc:=h5.num 0 rfl k hkl
          obtain ⟨x0,x1⟩:=HO.out _ (List.getElem_mem hkl)
          have hob:=hObjs_mem (List.getElem_mem hkl)
          have hcol:hColour h (hObjs h.a)[k]=h.col (hObjs h.a)[k]:=by unfold hColour; rw [hob]; rfl
          have HC:=Lib.hid hcol
          obtain ⟨x,hx⟩:∃ x,(hObjs h.a)[k]=x:=⟨_,rfl⟩
          rw [hx] at cc x0 x1 HC
          have HX:=Lib.hid hx
          have i0:(0:Int)≤k:=by omega
          have i1:(k:Int)<n:=by omega
          clear hob hcol hx
          by_cases h1c:h.col x=1
          · have H1:=Lib.hid h1c
            clear h1c
            go_wp2_with fail
            refine (h_Colour h5.pick1 x (by unfold Wd; omega)).mono ?_
            rintro e w3 ⟨rfl,h6⟩
            rw [HC.out,H1.out]
            go_wp2
            go_ret2
            have hf:hNext h=(some x,h):=by
              unfold hNext; rw [HG.out.1]; simp only [List.getLast?_nil]; rw [HG.out.2]
              have:=find_at (q:=fun p=>decide (h.col p=1)) hkl hall.out (by rw [HX.out]; simpa using H1.out)
              rw [HX.out] at this
              rw [this]; rfl
            rw [hf]
            exact ⟨rfl,h6.pick1.drop⟩
          · have hb1:(h.col x == 1)=false:=by simpa using h1c
            have H1:=Lib.hid hb1
            have HT:=Lib.hid (take_all (q:=fun p=>decide (h.col p=1)) hkl hall.out (by rw [HX.out]; simpa using h1c))
            clear h1c hb1 hall
            go_wp2_with fail
            refine (h_Colour h5.pick1 x (by unfold Wd; omega)).mono ?_
            rintro e w3 ⟨rfl,h6⟩
            rw [HC.out]
            have hb1:=H1.out
            clear h5 cc
            go_wp2
            go_roundw
            case rel=>exact ⟨k+1,by omega,by go_num,h6.pick1,HT⟩
            case measure=>simp [intOf]; omega
        · have hkn:k=n:=by omega
          subst hkn
          obtain ⟨mb2,lb2,h6⟩:=(h5.pick1.openH).2
          have c2:=(h6.hcell (k:=0) rfl).2.2.1
          rw [HG.out.1,HG.out.2] at h6
          go_wp2_with fail
          refine (g_Settle h6.pick3).mono ?_
          rintro e w3 ⟨rfl,h7⟩
          clear h5 h6 c2
          go_wp2
          go_ret2
          have hf:hNext h=(none,{ h with ov:=false }):=by
            unfold hNext; rw [HG.out.1]; simp only [List.getLast?_nil]; rw [HG.out.2]
            have:=find_no (q:=fun p=>decide (h.col p=1)) (l:=hObjs h.a) (by have:=hall.out; rw [List.take_of_length_le (by rw [HN.out]; omega)] at this; exact this)
            rw [this]; rfl
          have okn:=OK.out.2
          rw [hf] at okn ⊢
          refine ⟨rfl,St.closeH (mb:=mb2) (lb:=lb2) (h:={ h with ov:=false }) ?_ okn⟩
          rw [show ({ h with ov:=false }:HSt).g=[] from HG.out.1]
          exact (h7.back3.pick4.drop)
  · rw [List.concat_eq_append] at hg
    have hn:hNext h=(some x,{ h with g:=L }):=by
      unfold hNext; rw [hg,List.getLast?_append]; simp
    rw [hn] at okn ⊢
    rw [hg] at h1
    clear hs hn hg
    go_enter Try.func104,Try.ntmps104
    go_wp2_with fail
    refine (g_Pop h1.pick3).mono ?_
    rintro e w1 ⟨rfl,h2⟩
    go_wp2
    go_ret2
    exact ⟨rfl,St.closeH (mb:=mb) (lb:=lb) (h:={ h with g:=L }) h2.back3 okn⟩
set_option maxHeartbeats 2000000 in
theorem h_scan (hs:St w0 F0 (HeapP b ab h::ps) w) (p:Int) :
    Calls Try.prog 105 #[.pointer (some ⟨b,0,none⟩),.int .i64 p] w fun e w'=>e=.returned (.tuple #[])∧St w0 F0 (HeapP b ab (hScan p h)::ps) w':=by
  have ok:=hs.heapOk
  have hko:=isObj_kind ok.a p
  cases hO:isObj h.a p with
  | false =>
    have hsc:hScan p h=h:=by unfold hScan; rw [hO]; rfl
    rw [hO] at hko
    have hk:aKind h.a.c p=0:=by simpa using hko.symm
    rw [hsc]
    have HK:=Lib.hid hk
    clear hsc hk hko hO ok
    go_enter Try.func105,Try.ntmps105
    go_wp2_with fail
    refine (h_object hs _).mono ?_
    rintro e w1 ⟨v,rfl,h1⟩
    rw [HK.out,show objV 0 p v=.tuple #[.agg #[.int .i64 0,.int .i64 0,.slice none 0 0],.bool false] from rfl]
    go_wp2
    ((try simp only [Exit.inBlock,Exit.then]); refine bodyPost_ret (results_none rfl _ _ _) rfl ?_)
    exact ⟨rfl,h1.drop.alloc _⟩
  | true =>
    have hsc:hScan p h=hBlack p (hShadesW (aWords h.a p) h):=by unfold hScan; rw [hO]; rfl
    rw [hO] at hko
    have hk:¬ aKind h.a.c p=0:=by simpa using hko.symm
    obtain ⟨r0,r1⟩:=isObj_range hO
    have r4:p<4096:=by have:=ok.len; have:=ok.a.len; omega
    have okE:=ok.scan p
    rw [hsc] at okE ⊢
    have hwd:=aWords_wd ok.wd p
    obtain ⟨n,hn⟩:∃ n,(aWords h.a p).length=n:=⟨_,rfl⟩
    have hn32:n<32:=by have:=alen_bd ok.a p; rw [aWords_len] at hn; omega
    have HK:=Lib.hid hk
    have HN:=Lib.hid hn
    have HW:=Lib.hid hwd
    have OKE:=Lib.hid okE
    clear hsc hk hko hO ok okE hn hwd r1
    go_enter Try.func105,Try.ntmps105
    go_wp2_with fail
    refine (h_object hs _).mono ?_
    rintro e w1 ⟨v,rfl,h1⟩
    obtain ⟨_,pv,cv,rfl,hp⟩:=h1.shape 0 rfl
    rw [HN.out] at h1 hp
    rw [HN.out,show objV (aKind h.a.c p) p (.slice pv n cv)=.tuple #[.agg #[.int .i64 (aKind h.a.c p),.int .i64 p,.slice pv n cv],.bool true] by unfold objV; rw [if_neg HK.out]; rfl]
    have HP:=Lib.hid hp
    have h2:=(h1.alloc (.cells #[.int .i64 (aKind h.a.c p),.int .i64 p,.slice pv n cv] 162))
    clear h1 hp hs
    go_wp2
    go_loopw [19] (fun iv wr=>∃ k:Nat,k≤n∧iv=.int .i64 k∧St w0 F0 (RowP (.slice pv n cv) (aWords h.a p)::HeapP b ab (hShadesW ((aWords h.a p).take k) h)::ps) wr) (fun iv _=>n - (intOf iv).toNat)
    case atStart=>exact ⟨0,by omega,rfl,h2⟩
    case round =>
      obtain ⟨k,hk,rfl,h3⟩:=hrel
      clear h2
      by_cases hlt:k<n
      · obtain ⟨g,rfl⟩:=HP.out.resolve_left (by omega)
        have hkl:k<(aWords h.a p).length:=by rw [HN.out]; exact hlt
        have cc:=h3.num 0 rfl k hkl
        have hw:=HW.out _ (List.getElem_mem hkl)
        have HS:=Lib.hid (show hShadesW ((aWords h.a p).take (k+1)) h=hShadeW (aWords h.a p)[k] (hShadesW ((aWords h.a p).take k) h) by rw [List.take_succ_eq_append_getElem hkl,shadesW_snoc])
        have i0:(0:Int)≤k:=by omega
        have i1:(k:Int)<n:=by omega
        generalize (aWords h.a p)[k]=x at *
        cases hv:vIsPtr x with
        | false =>
          have HV:=Lib.hid hv
          clear hv
          go_wp2_with fail
          refine (value_IsPtr _ _).mono ?_
          rintro e w3 ⟨rfl,rfl⟩
          rw [HV.out]
          go_wp2
          go_roundw
          case rel=>exact ⟨k+1,by omega,by go_num,by rw [HS.out]; unfold hShadeW; rw [HV.out]; exact h3⟩
          case measure=>simp [intOf]; omega
        | true =>
          have HV:=Lib.hid hv
          clear hv
          go_wp2_with fail
          refine (value_IsPtr _ _).mono ?_
          rintro e w3 ⟨rfl,rfl⟩
          rw [HV.out]
          go_wp2_with fail
          refine (value_At _ hw _).mono ?_
          rintro e w3 ⟨rfl,rfl⟩
          go_wp2_with fail
          refine (h_Shade h3.pick1 _ (vAt_wd hw)).mono ?_
          rintro e w4 ⟨rfl,h4⟩
          clear h3 cc
          go_wp2
          go_roundw
          case rel=>exact ⟨k+1,by omega,by go_num,by rw [HS.out]; unfold hShadeW; rw [HV.out]; exact h4.pick1⟩
          case measure=>simp [intOf]; omega
      · have hkn:k=n:=by omega
        subst hkn
        rw [List.take_of_length_le (by rw [HN.out]; omega)] at h3
        obtain ⟨-,mb,lb,h4⟩:=h3.pick1.openH
        have c1:=(h4.hcell (k:=0) rfl).2.1
        clear h3
        go_wp2_with (at_mapUpdate; refine wpList_colSet rfl _ _ _ rfl h4.pick2 rfl p 2 r0 r4 (by unfold Wd; omega) rfl rfl ?_)
        intro w5 h5
        go_wp2
        go_end0
        refine ⟨rfl,St.closeH (mb:=mb) (lb:=lb) (h:=hBlack p (hShadesW (aWords h.a p) h)) ?_ OKE.out⟩
        exact h5.back2.pick4.drop
end
end Go.Proofs.Ytffnjpapggidlaa
namespace Go.Proofs.Ytffnjpapggidlaa
open Go.RowKit
set_option linter.unusedVariables false
theorem info_gone:(Try.prog.info? 141).map (fun i=>(i.zero,i.size,i.bytes))=some (some (.agg #[.int .i64 0,.int .i64 0,.slice none 0 0,.bool false]),4,48):=by kernel_rfl
def gnCells:List Value→List Gn→List Value
  | v::vs,g::l=>.int .i64 g.kind::.int .i64 g.at'::v::.bool g.kept::gnCells vs l
  | _,_=>[]
theorem gnCells_len:∀ (vs:List Value) (l:List Gn),vs.length=l.length→(gnCells vs l).length=l.length * 4
  | [],[],_=>rfl
  | v::vs,g::l,h=>by simp [gnCells,gnCells_len vs l (by simpa using h)]; omega
theorem gnCells_snoc:∀ (vs:List Value) (l:List Gn) (v:Value) (g:Gn),vs.length=l.length→gnCells (vs ++ [v]) (l ++ [g])=gnCells vs l ++ [.int .i64 g.kind,.int .i64 g.at',v,.bool g.kept]
  | [],[],v,g,_=>rfl
  | x::vs,y::l,v,g,h=>by
    simp only [List.cons_append,gnCells]
    rw [gnCells_snoc vs l v g (by simpa using h)]
theorem gnCells_get:∀ (vs:List Value) (l:List Gn) (h:vs.length=l.length) (i:Nat) (hi:i<l.length),
    (gnCells vs l)[i * 4]?=some (.int .i64 l[i].kind)∧(gnCells vs l)[i * 4+1]?=some (.int .i64 l[i].at')∧(gnCells vs l)[i * 4+2]?=some (vs[i]'(by omega))∧(gnCells vs l)[i * 4+3]?=some (.bool l[i].kept)
  | [],l,h,i,hi=>absurd hi (by simp at h; omega)
  | v::vs,[],h,i,hi=>absurd hi (by simp)
  | v::vs,g::l,h,0,_=>⟨rfl,rfl,rfl,rfl⟩
  | v::vs,g::l,h,i+1,hi=>by
    have:=gnCells_get vs l (by simpa using h) i (by simpa using hi)
    simp only [gnCells,List.getElem_cons_succ]
    rw [show (i+1) * 4=i * 4+4 by omega,show i * 4+4+1=i * 4+1+4 by omega,show i * 4+4+2=i * 4+2+4 by omega,show i * 4+4+3=i * 4+3+4 by omega]
    simpa using this
def RowG (v:Value) (vs:List Value) (l:List Gn):Piece where
  at' w F:=w.ownsRow 0 141 4 v l.length (gnCells vs l)∧F=v.ownBlock.toList
  keep:=by rintro w w' F G ⟨h,rfl⟩ k hd; exact ⟨k.own h (fun g hg=>hd _ (by simp [hg])),rfl⟩
  lt:=by rintro w F ⟨h,rfl⟩ i hi; simp at hi; exact own_lt h i hi
def rowsG (vs:List Value) (l:List Gn):List Piece:=List.zipWith (fun v g=>RowP v g.words) vs l
theorem rowsG_snoc (vs:List Value) (l:List Gn) (v:Value) (g:Gn) (h:vs.length=l.length):rowsG (vs ++ [v]) (l ++ [g])=rowsG vs l ++ [RowP v g.words]:=by
  unfold rowsG; rw [List.zipWith_append h]; rfl
def GonesP (v:Value) (l:List Gn):Piece:=ExP fun vs:List Value=>WithP (vs.length=l.length) (SepP (RowG v vs l::rowsG vs l))
section
variable {w0 w:World} {F0:List Nat} {ps:List Piece} {b ab mb lb:Nat} {h:HSt}
theorem St.openG {v:Value} {l:List Gn}:St w0 F0 (GonesP v l::ps) w ↔ ∃ vs,vs.length=l.length∧St w0 F0 (RowG v vs l::(rowsG vs l ++ ps)) w:=by
  constructor
  · intro hs
    obtain ⟨vs,hs⟩:=St.ex.1 hs
    obtain ⟨e,hs⟩:=St.with.1 hs
    exact ⟨vs,e,St.sep.1 hs⟩
  · rintro ⟨vs,e,hs⟩
    exact St.ex.2 ⟨vs,St.with.2 ⟨e,St.sep.2 hs⟩⟩
theorem St.nilG (hs:St w0 F0 ps w):St w0 F0 (GonesP (.slice none 0 0) []::ps) w :=
  St.openG.2 ⟨[],rfl,hs.push (p:=RowG (.slice none 0 0) [] []) (Below.refl _ _) ⟨[],⟨World.ownsRow_nil _ _ _ _,rfl⟩,by simp⟩⟩
theorem St.oneG {v:Value} (g:Gn) (hs:St w0 F0 (RowP v g.words::ps) w) :
    St w0 F0 (GonesP (.slice (some ⟨w.heap.size,0,none⟩) 1 1) [g]::ps) (w.alloc (.cells #[.int .i64 g.kind,.int .i64 g.at',v,.bool g.kept] 141)):=by
  refine St.openG.2 ⟨[v],rfl,?_⟩
  refine St.push (p:=RowG _ [v] [g]) hs ((Below.refl _ _).alloc (Nat.le_refl _) _) ⟨_,⟨⟨rfl,.inr ⟨w.heap.size,1,_,rfl,Nat.zero_le _,Blk.new _ _ _,Nat.le_refl _,by unfold maxLen; omega,rfl,rfl⟩⟩,rfl⟩,by simp [Value.ownBlock]⟩
theorem St.shapeG {k:Nat} {v:Value} {l:List Gn} (hs:St w0 F0 ps w) (hk:ps[k]?=some (GonesP v l)):l.length≤maxLen∧∃ p c,v=.slice p l.length c∧(l.length=0 ∨ ∃ g,p=some ⟨g,0,none⟩):=by
  obtain ⟨G,vs,e,F1,F2,_,h1,_⟩:=hs.get k hk
  exact own_shape h1.1
theorem St.cellG {k g n c:Nat} {l:List Gn} (hs:St w0 F0 ps w) (hk:ps[k]?=some (GonesP (.slice (some ⟨g,0,none⟩) n c) l)) (i:Nat) (hi:i<l.length) :
    w.cell? ⟨g,i * 4,none⟩=some (.int .i64 l[i].kind)∧w.cell? ⟨g,i * 4+1,none⟩=some (.int .i64 l[i].at')∧w.cell? ⟨g,i * 4+3,none⟩=some (.bool l[i].kept):=by
  obtain ⟨G,vs,e,F1,F2,_,h1,_⟩:=hs.get k hk
  have hc:=h1.1.cells (g:=g) rfl
  obtain ⟨a0,a1,a2,a3⟩:=gnCells_get vs l e i hi
  have add:∀ j,(⟨g,0,none⟩:Addr).add j=⟨g,j,none⟩:=by
    intro j; have:=Go.WideShapes.add_plain g 0 j; simpa using this
  have b0:=hc _ _ a0
  have b1:=hc _ _ a1
  have b3:=hc _ _ a3
  rw [add] at b0 b1 b3
  exact ⟨b0,b1,b3⟩
theorem wpList_growG {ops:Array Oper} {rest:List Oper} {o:Oper} {a:Act} {Q:Exit→Act→World→Prop} {W:World} {v vw:Value} {l:List Gn} {y:Gn} {ob:Obj} (n:Nat) (hn:l.length=n) (hl:n<1000000)
    (hgd:o.guard=none) (s x:Operand) (ho:o.op=.call { callee:=.builtin .append,args:=#[s,x],argTypes:=#[70,70] })
    (hs:St w0 F0 (GonesP v l::RowP vw y.words::ps) W) (hob:ob=.cells #[.int .i64 y.kind,.int .i64 y.at',vw,.bool y.kept] 141) (hone:vw.oneCell'=true) (hev:a.eval s=v) (hx:a.eval x=.slice (some ⟨W.heap.size,0,none⟩) 1 1)
    (hK:∀ g c w',St w0 F0 (GonesP (.slice (some ⟨g,0,none⟩) (n+1) c) (l ++ [y])::ps) w'→wpList Try.prog ops Q rest (a.put o.dst (.slice (some ⟨g,0,none⟩) (n+1) c)) w') :
    wpList Try.prog ops Q (o::rest) a (W.alloc ob):=by
  subst hob hn
  obtain ⟨i0,hi,hz0,hz1,hz2⟩:=info_parts info_gone
  obtain ⟨vs,e,h1⟩:=St.openG.1 hs
  have hown:W.ownsRow 0 141 4 v l.length (gnCells vs l):=by obtain ⟨G,h2⟩:=h1.head; exact h2.1
  refine wpList_append_own_at _ hgd s x 70 ho 0 141 i0 (.agg #[.int .i64 0,.int .i64 0,.slice none 0 0,.bool false]) 4 48 Try.underlying70 hi hz0 hz1 hz2 rfl (by decide) v l.length (gnCells vs l) hev (hown.alloc _) ⟨W.heap.size,0,none⟩ 1 1 [.int .i64 y.kind,.int .i64 y.at',vw,.bool y.kept] hx rfl ?_ ?_ (by unfold maxLen; omega) (by omega) (Nat.zero_le _) ?_
  · intro j u hj
    have hb:=Blk.new W 141 #[.int .i64 y.kind,.int .i64 y.at',vw,.bool y.kept]
    have e1:(⟨W.heap.size,0,none⟩:Addr).add j=⟨W.heap.size,j,none⟩:=by
      have:=Go.WideShapes.add_plain W.heap.size 0 j; simpa using this
    rw [e1,hb.cell]
    simpa using hj
  · intro u hu
    simp at hu
    rcases hu with rfl | rfl | rfl | rfl
    · rfl
    · rfl
    · exact hone
    · rfl
  · intro v' w' ho' hg' hn' hat'
    rw [← gnCells_snoc vs l vw y e] at ho'
    obtain ⟨hm,p,c,rfl,hp⟩:=own_shape ho'
    obtain ⟨g,rfl⟩:=hp.resolve_left (by omega)
    refine hK g c w' (St.openG.2 ⟨vs ++ [vw],by simp [e],?_⟩)
    rw [rowsG_snoc vs l vw y e]
    have h2:St w0 F0 (RowG (.slice (some ⟨g,0,none⟩) (l.length+1) c) (vs ++ [vw]) (l ++ [y])::(rowsG vs l ++ RowP vw y.words::ps)) w':=by
      refine h1.step1 ?_
      rintro F ⟨h3,rfl⟩
      refine ⟨_,⟨by simpa using ho',rfl⟩,((Keeps.refl _ _).alloc _).grown hg' (fun k hk=>.inl (by simp [hk])),?_⟩
      intro i hi
      simp [Value.ownBlock] at hi
      rcases hat' with e2 | e2
      · left; rw [← e2]; simp [Value.ownBlock,hi]
      · right
        simp only [Value.ownBlock,Option.some.injEq] at e2
        have:(W.alloc (Obj.cells #[.int .i64 y.kind,.int .i64 y.at',vw,.bool y.kept] 141)).heap.size=W.heap.size+1:=by simp
        omega
    simpa using h2
end
end Go.Proofs.Ytffnjpapggidlaa
namespace Go.Proofs.Ytffnjpapggidlaa
open Go.RowKit
set_option linter.unusedVariables false
section
variable {w0 w:World} {F0:List Nat} {ps:List Piece} {b ab mb lb:Nat} {h:HSt}
def zeroThing:Value:=.agg #[.int .i64 0,.int .i64 0,.slice none 0 0]
def LostPost (w0:World) (F0:List Nat) (b ab:Nat) (h:HSt) (ps:List Piece) (e:Ending) (w':World):Prop :=
  (∃ p v,hLost h=some p∧e=.returned (.tuple #[thingV 5 p v,.bool true])∧St w0 F0 (RowP v (aWords h.a p)::HeapP b ab h::ps) w') ∨
  (hLost h=none∧e=.returned (.tuple #[zeroThing,.bool false])∧St w0 F0 (HeapP b ab h::ps) w')
theorem isLost_false {h:HSt} {p:Int} (hh:¬ aKind h.a.c p=5 ∨ ¬ h.col p=0 ∨ ¬ 1<(aWords h.a p).length ∨ (aWords h.a p).getD 1 0=0):isLost h p=false:=by
  unfold isLost
  rcases hh with hh | hh | hh | hh
  · rw [decide_eq_false hh]; simp
  · rw [decide_eq_false hh]; simp
  · rw [decide_eq_false hh]; simp
  · rw [hh]; simp
set_option maxRecDepth 100000 in
set_option maxHeartbeats 8000000 in
theorem h_lost (hs:St w0 F0 (HeapP b ab h::ps) w) :
    Calls Try.prog 106 #[.pointer (some ⟨b,0,none⟩)] w (LostPost w0 F0 b ab h ps):=by
  have ok:=hs.heapOk
  obtain ⟨n,hnl⟩:∃ n,(hObjs h.a).length=n:=⟨_,rfl⟩
  have hn4:n≤4096:=by have:=hObjs_len (s:=h.a); have:=ok.len; have:=ok.a.len; omega
  have HO:=Lib.hid (hObjs_wd ok.a ok.len.2)
  have HN:=Lib.hid hnl
  have OK:=Lib.hid ok
  obtain ⟨rb,hrb⟩:∃ rb,w.heap.size=rb:=⟨_,rfl⟩
  have h1:=(hs.new #[.int .i64 0,.int .i64 0,.slice none 0 0] 162).pick1
  rw [hrb] at h1
  obtain ⟨mb0,lb0,h2⟩:=h1.openH.2
  have c0:=(h2.hcell (k:=0) rfl).1
  clear hs hnl ok h2
  go_enter Try.func106,Try.ntmps106
  go_wp2_with fail
  refine (ha_Objects h1).mono ?_
  rintro e w2 ⟨v,rfl,h4⟩
  obtain ⟨_,pv,cv,rfl,hp⟩:=h4.shape 0 rfl
  rw [HN.out] at h4 hp
  rw [HN.out]
  have HP:=Lib.hid hp
  clear h1 c0 hp hrb
  go_wp2
  go_loopw [14] (fun iv wr=>∃ k:Nat,k≤n∧iv=.int .i64 k∧St w0 F0 (RowP (.slice pv n cv) (hObjs h.a)::HeapP b ab h::BlkP rb 162 #[.int .i64 0,.int .i64 0,.slice none 0 0]::ps) wr∧Hid (∀ x ∈ (hObjs h.a).take k,isLost h x=false)) (fun iv _=>n - (intOf iv).toNat)
  case atStart=>exact ⟨0,by omega,rfl,h4,by intro x hx; simp at hx⟩
  case round =>
    obtain ⟨k,hk,rfl,h5,hall⟩:=hrel
    clear h4
    by_cases hlt:k<n
    · obtain ⟨g,rfl⟩:=HP.out.resolve_left (by omega)
      have hkl:k<(hObjs h.a).length:=by rw [HN.out]; exact hlt
      have cc:=h5.num 0 rfl k hkl
      obtain ⟨x0,x1⟩:=HO.out _ (List.getElem_mem hkl)
      have hob:=hObjs_mem (List.getElem_mem hkl)
      have hko:=isObj_kind OK.out.a (hObjs h.a)[k]
      have hcol:hColour h (hObjs h.a)[k]=h.col (hObjs h.a)[k]:=by unfold hColour; rw [hob]; rfl
      have hk0:¬ aKind h.a.c (hObjs h.a)[k]=0:=by rw [hob] at hko; simpa using hko.symm
      obtain ⟨x,hx⟩:∃ x,(hObjs h.a)[k]=x:=⟨_,rfl⟩
      have HT:=Lib.hid (fun (hq:isLost h x=false)=>take_all (q:=isLost h) hkl hall.out (by rw [hx]; exact hq))
      have HF:=Lib.hid (fun (hq:isLost h x=true)=>(show hLost h=some x by unfold hLost; have:=find_at (q:=isLost h) hkl hall.out (by rw [hx]; exact hq); rw [hx] at this; exact this))
      have hwx:Wd x:=by unfold Wd; rw [← hx]; omega
      rw [hx] at cc hcol hk0 x0 x1
      have HC:=Lib.hid hcol
      have HK0:=Lib.hid hk0
      have i0:(0:Int)≤k:=by omega
      have i1:(k:Int)<n:=by omega
      clear hob hko hcol hx hk0 hall hkl
      by_cases k5:aKind h.a.c x=5
      · have K5:=Lib.hid k5
        clear k5
        go_wp2_with fail
        refine (h_look h5.pick1 x).mono ?_
        rintro e w3 ⟨vw,rfl,h6⟩
        obtain ⟨_,pw,cw,rfl,hpw⟩:=h6.shape 0 rfl
        obtain ⟨m,hm⟩:∃ m,(aWords h.a x).length=m:=⟨_,rfl⟩
        have hm32:m<32:=by have:=alen_bd OK.out.a x; rw [aWords_len] at hm; omega
        rw [hm] at h6 hpw
        rw [K5.out,hm,show lookV 5 x (.slice pw m cw)=.iface 172 (.agg #[.int .i64 5,.int .i64 x,.slice pw m cw]) from rfl]
        have HM:=Lib.hid hm
        have HPW:=Lib.hid hpw
        obtain ⟨bb,hbb⟩:∃ bb,w3.heap.size=bb:=⟨_,rfl⟩
        have h7:=h6.new #[.int .i64 5,.int .i64 x,.slice pw m cw] 172
        rw [hbb] at h7
        clear h5 h6 cc hm hpw
        by_cases c0:h.col x=0
        · have C0:=Lib.hid c0
          by_cases hm1:1<m
          · obtain ⟨gw,rfl⟩:=HPW.out.resolve_left (by omega)
            have hml:1<(aWords h.a x).length:=by rw [HM.out]; exact hm1
            obtain ⟨y,hy⟩:∃ y,(aWords h.a x)[1]=y:=⟨_,rfl⟩
            have hyd:(aWords h.a x).getD 1 0=y:=by rw [List.getD_eq_getElem?_getD,List.getElem?_eq_getElem hml,hy]; rfl
            have HY:=Lib.hid (And.intro hy (And.intro hyd hml))
            have mi:(1:Int)<(m:Int):=by omega
            clear c0 hy hyd
            go_wp2_with fail
            refine (h_Colour (h7.pick2) x hwx).mono ?_
            rintro e w4 ⟨rfl,h8⟩
            rw [HC.out,C0.out]
            have e2:w4.cell? ⟨bb,2,none⟩=some (.slice (some ⟨gw,0,none⟩) m cw):=h8.cell 1 rfl 2 rfl
            have e3:=h8.num 2 rfl 1 HY.out.2.2
            rw [HY.out.1] at e3
            clear h7
            by_cases y0:y=0
            · subst y0
              go_wp2
              go_roundw
              case rel=>exact ⟨k+1,by omega,by go_num,h8.pick1.drop.pick1.drop.pick1,HT.out (isLost_false (.inr (.inr (.inr HY.out.2.1))))⟩
              case measure=>simp [intOf]; omega
            · have yb:(y == 0)=false:=by simpa using y0
              have yb2:(y != 0)=true:=by simp [bne,yb]
              have hlost:=HF.out (by unfold isLost; rw [K5.out,C0.out,HY.out.2.1,HM.out,decide_eq_true hm1]; simp [y0])
              have HL:=Lib.hid hlost
              have a0:w4.cell? ⟨bb,0,none⟩=some (.int .i64 5):=h8.cell 1 rfl 0 rfl
              have a1:w4.cell? ⟨bb,1,none⟩=some (.int .i64 x):=h8.cell 1 rfl 1 rfl
              have r0:w4.cell? ⟨rb,0,none⟩=some (.int .i64 0):=h8.cell 4 rfl 0 rfl
              have r1:w4.cell? ⟨rb,1,none⟩=some (.int .i64 0):=h8.cell 4 rfl 1 rfl
              have r2:w4.cell? ⟨rb,2,none⟩=some (.slice none 0 0):=h8.cell 4 rfl 2 rfl
              have f0:=h8.free 4 rfl 0
              have f1:=h8.free 4 rfl 1
              have f2:=h8.free 4 rfl 2
              clear y0 hlost
              go_wp2
              (try simp only [Exit.inBlock,Exit.then])
              refine bodyPost_ret (v:=.tuple #[.agg #[.int .i64 5,.int .i64 x,.slice (some ⟨gw,0,none⟩) m cw],.bool true]) (by rw [results_cell_tmp rfl]; go_simp) rfl ?_
              refine .inl ⟨x,_,HL.out,rfl,?_⟩
              exact (((h8.pick4.set 0 _).set 1 _).set 2 _).drop.pick1.drop.pick1.pick2.drop
          · have hmi:¬ (1:Int)<(m:Int):=by omega
            clear c0
            go_wp2_with fail
            refine (h_Colour (h7.pick2) x hwx).mono ?_
            rintro e w4 ⟨rfl,h8⟩
            rw [HC.out,C0.out]
            have e2:w4.cell? ⟨bb,2,none⟩=some (.slice pw m cw):=h8.cell 1 rfl 2 rfl
            clear h7
            go_wp2
            go_roundw
            case rel=>exact ⟨k+1,by omega,by go_num,h8.pick1.drop.pick1.drop.pick1,HT.out (isLost_false (.inr (.inr (.inl (by rw [HM.out]; exact hm1)))))⟩
            case measure=>simp [intOf]; omega
        · have cb:(h.col x == 0)=false:=by simpa using c0
          have CB:=Lib.hid (And.intro c0 cb)
          clear c0 cb
          go_wp2_with fail
          refine (h_Colour (h7.pick2) x hwx).mono ?_
          rintro e w4 ⟨rfl,h8⟩
          rw [HC.out]
          have cb:=CB.out.2
          clear h7
          go_wp2
          go_roundw
          case rel=>exact ⟨k+1,by omega,by go_num,h8.pick1.drop.pick1.drop.pick1,HT.out (isLost_false (.inr (.inl CB.out.1)))⟩
          case measure=>simp [intOf]; omega
      · have K5:=Lib.hid k5
        clear k5
        go_wp2_with fail
        refine (h_look h5.pick1 x).mono ?_
        rintro e w3 ⟨vw,rfl,h6⟩
        rw [show lookV (aKind h.a.c x) x vw=.iface 162 (thingV (aKind h.a.c x) x vw) by unfold lookV; rw [if_neg HK0.out,if_neg K5.out]]
        have h7:=(h6.alloc (.cells #[.int .i64 0,.int .i64 0,.slice none 0 0] 172))
        clear h5 h6 cc
        go_wp2
        go_roundw
        case rel=>exact ⟨k+1,by omega,by go_num,h7.drop.pick1,HT.out (isLost_false (.inl K5.out))⟩
        case measure=>simp [intOf]; omega
    · have hkn:k=n:=by omega
      subst hkn
      have hlost:hLost h=none:=find_no (q:=isLost h) (l:=hObjs h.a) (by have:=hall.out; rw [List.take_of_length_le (by rw [HN.out]; omega)] at this; exact this)
      have HL:=Lib.hid hlost
      have r0:wr.cell? ⟨rb,0,none⟩=some (.int .i64 0):=h5.cell 2 rfl 0 rfl
      have r1:wr.cell? ⟨rb,1,none⟩=some (.int .i64 0):=h5.cell 2 rfl 1 rfl
      have r2:wr.cell? ⟨rb,2,none⟩=some (.slice none 0 0):=h5.cell 2 rfl 2 rfl
      have f0:=h5.free 2 rfl 0
      have f1:=h5.free 2 rfl 1
      have f2:=h5.free 2 rfl 2
      clear hlost
      go_wp2
      (try simp only [Exit.inBlock,Exit.then])
      refine bodyPost_ret (v:=.tuple #[.agg #[.int .i64 0,.int .i64 0,.slice none 0 0],.bool false]) (by rw [results_cell_tmp rfl]; go_simp) rfl ?_
      refine .inr ⟨HL.out,rfl,?_⟩
      exact (((h5.pick2.set 0 _).set 1 _).set 2 _).drop.drop
set_option maxRecDepth 100000 in
set_option maxHeartbeats 4000000 in
theorem h_mark (hs:St w0 F0 (HeapP b ab h::ps) w) :
    Calls Try.prog 93 #[.pointer (some ⟨b,0,none⟩)] w fun e w'=>∃ v,e=.returned v∧St w0 F0 (GonesP v (hMark h).1::HeapP b ab (hMark h).2::ps) w':=by
  have okE:=hs.heapOk.mark
  cases hn:hNext h with
  | mk o h1 =>
  cases o with
  | some p =>
    have hm:hMark h=([],hScan p h1):=by unfold hMark; rw [hn]
    have HN:=Lib.hid hn
    rw [hm]
    clear hn hm okE
    go_enter Try.func93,Try.ntmps93
    go_wp2_with fail
    refine (h_next hs).mono ?_
    rintro e w1 ⟨rfl,h2⟩
    rw [HN.out] at h2 ⊢
    simp only [nextV]
    go_wp2_with fail
    refine (h_scan h2 _).mono ?_
    rintro e w2 ⟨rfl,h3⟩
    go_wp2
    go_ret
    exact ⟨_,rfl,h3.nilG⟩
  | none =>
    have HN:=Lib.hid hn
    obtain ⟨okn,-,-,-,-⟩:=hs.heapOk.next
    rw [hn] at okn
    simp only at okn
    cases hl:hLost h1 with
    | some p =>
      have hm:hMark h=([gnOf h1 true p],hShade p { h1 with a:=aStoreS p 1 0 h1.a }):=by unfold hMark; rw [hn]; simp only; rw [hl]
      obtain ⟨l1,l2,-,-,-⟩:=lost_obj hl
      have hgn:gnOf h1 true p=⟨5,p,aWords h1.a p,true⟩:=by unfold gnOf; rw [l2]
      rw [hgn] at hm
      obtain ⟨r0,r1⟩:=isObj_range l1
      have hwp:Wd p:=by have:=okn.len; have:=okn.a.len; unfold Wd; omega
      have HL:=Lib.hid hl
      have HM:=Lib.hid hm
      rw [hm]
      clear hn hm hl okE l1 l2 r0 r1 hgn okn
      go_enter Try.func93,Try.ntmps93
      go_wp2_with fail
      refine (h_next hs).mono ?_
      rintro e w1 ⟨rfl,h2⟩
      rw [HN.out] at h2 ⊢
      simp only [nextV]
      go_wp2_with fail
      refine (h_lost h2).mono ?_
      rintro e w2 (⟨p',v,hp',rfl,h3⟩ | ⟨hno,rfl,h3⟩)
      · rw [HL.out] at hp'
        injection hp' with hp'
        subst hp'
        obtain ⟨_,pw,cw,rfl,-⟩:=h3.shape 0 rfl
        obtain ⟨m,hml⟩:∃ m,(aWords h1.a p).length=m:=⟨_,rfl⟩
        rw [hml] at h3 ⊢
        rw [show thingV 5 p (.slice pw m cw)=.agg #[.int .i64 5,.int .i64 p,.slice pw m cw] from rfl]
        obtain ⟨tb,htb⟩:∃ tb,w2.heap.size=tb:=⟨_,rfl⟩
        have h4:=h3.new #[.int .i64 5,.int .i64 p,.slice pw m cw] 162
        rw [htb] at h4
        clear hs h2 h3 hml
        go_wp2
        have h5:=h4.pick2.drew
        obtain ⟨mb2,lb2,h6⟩:=h5.openH.2
        have z0:=(h6.hcell (k:=0) rfl).1
        have z1:(w2.alloc (.cells #[.int .i64 5,.int .i64 p,.slice pw m cw] 162)).drew.cell? ⟨tb,1,none⟩=some (.int .i64 p):=h5.cell 1 rfl 1 rfl
        clear h6 mb2 lb2
        go_region_held3 (fun (w':World)=>w'.cell? ⟨b,0,none⟩=some (.pointer (some ⟨ab,0,none⟩))∧w'.cell? ⟨tb,1,none⟩=some (.int .i64 p)) (first | assumption | (refine ⟨?_,?_⟩ <;> assumption) | go_keep)
          (first
            | (go_at_call 21; refine (ha_Store h5 _ _ _ (by unfold Wd; omega)).mono ?_; rintro e w7 ⟨rfl,h7⟩; obtain ⟨mb3,lb3,h8⟩:=h7.openH.2; have y0:=(h8.hcell (k:=0) rfl).1; have y1:w7.cell? ⟨tb,1,none⟩=some (.int .i64 p):=h7.cell 1 rfl 1 rfl))
        go_wp2_with fail
        refine (h_Shade (show St w0 F0 (HeapP b ab _::BlkP tb _ _::RowP _ _::ps) _ by assumption) p hwp).mono ?_
        rintro e w8 ⟨rfl,h9⟩
        have a0:w8.cell? ⟨tb,0,none⟩=some (.int .i64 5):=h9.cell 1 rfl 0 rfl
        have a1:w8.cell? ⟨tb,1,none⟩=some (.int .i64 p):=h9.cell 1 rfl 1 rfl
        have a2:w8.cell? ⟨tb,2,none⟩=some (.slice pw m cw):=h9.cell 1 rfl 2 rfl
        go_wp2
        go_ret
        refine ⟨_,rfl,?_⟩
        exact (St.oneG ⟨5,p,aWords h1.a p,true⟩ (h9.pick2)).pick2.drop
      · rw [HL.out] at hno; cases hno
    | none =>
      have hm:hMark h=([],{ h1 with ph:=2,sp:=0 }):=by unfold hMark; rw [hn]; simp only; rw [hl]
      rw [hm] at okE ⊢
      have HL:=Lib.hid hl
      have OK:=Lib.hid okE
      clear hn hm hl okE okn
      go_enter Try.func93,Try.ntmps93
      go_wp2_with fail
      refine (h_next hs).mono ?_
      rintro e w1 ⟨rfl,h2⟩
      rw [HN.out] at h2 ⊢
      simp only [nextV]
      go_wp2_with fail
      refine (h_lost h2).mono ?_
      rintro e w2 (⟨p',v,hp',rfl,h3⟩ | ⟨hno,rfl,h3⟩)
      · rw [HL.out] at hp'; cases hp'
      · simp only [zeroThing]
        have h4:=h3.alloc (.cells #[.int .i64 0,.int .i64 0,.slice none 0 0] 162)
        obtain ⟨mb2,lb2,h6⟩:=h4.openH.2
        have c3:=(h6.hcell (k:=0) rfl).2.2.2.1
        have c4:=(h6.hcell (k:=0) rfl).2.2.2.2.1
        have f3:=h6.free 0 rfl 3
        have f4:=h6.free 0 rfl 4
        clear hs h2 h3 h4 hno
        go_wp2
        go_ret
        refine ⟨_,rfl,St.nilG (St.closeH (mb:=mb2) (lb:=lb2) (h:={ h1 with ph:=2,sp:=0 }) ?_ OK.out)⟩
        exact (h6.set 3 (.int .i64 2)).set 4 (.int .i64 0)
end
end Go.Proofs.Ytffnjpapggidlaa
namespace Go.Proofs.Ytffnjpapggidlaa
open Go.RowKit
set_option linter.unusedVariables false
theorem hObjs_nodup (s:ASt):(hObjs s).Nodup:=by
  unfold hObjs aObjects
  rw [List.nodup_iff_pairwise_ne,List.pairwise_map]
  have:=List.Pairwise.filter (fun p:Nat=>(aHead s.c p).isSome) (List.nodup_iff_pairwise_ne.1 (List.nodup_range (n:=s.c.length)))
  exact this.imp (fun h e=>h (by omega))
theorem nodup_at {l:List Int} (h:l.Nodup) {k:Nat} (hk:k<l.length):l[k] ∉ l.take k:=by
  intro hm
  have e:=List.take_append_drop k l
  rw [List.drop_eq_getElem_cons hk] at e
  have h2:(l.take k ++ l[k]::l.drop (k+1)).Nodup:=by rw [e]; exact h
  rw [List.nodup_append] at h2
  exact h2.2.2 l[k] hm l[k] List.mem_cons_self rfl
theorem words_free {s:ASt} (hok:AOk s) {p q:Int} (hne:q≠p) (ho:isObj s q=true):aWords (aFreeS p s) q=aWords s q∧aKind (aFreeS p s).c q=aKind s.c q∧isObj (aFreeS p s) q=true:=by
  have hh:=head_free hok p q
  rw [if_neg hne] at hh
  refine ⟨?_,by unfold aKind; rw [hh],by unfold isObj; rw [hh]; exact ho⟩
  have hl:aLen (aFreeS p s).c q=aLen s.c q:=by unfold aLen; rw [hh]
  unfold aWords
  rw [hl]
  apply List.map_congr_left
  intro j hj
  rw [List.mem_range] at hj
  congr 1
  obtain ⟨q',k,n,rfl,hq⟩:=isObj_some ho
  have hln:aLen s.c (q':Int)=n:=by unfold aLen; rw [aHead_nat hq]
  rw [hln] at hj
  cases e:aHead s.c p with
  | none =>
    have:aFreeS p s=s:=by unfold aFreeS; rw [e]
    rw [this]
  | some kn =>
    obtain ⟨k',n'⟩:=kn
    obtain ⟨p',rfl,hp⟩:=aHead_some e
    have m:=free_more hok hp
    have:=m.apart q' (1+j) k n hq (fun e=>hne (by omega)) (by omega)
    have hn0:=m.n0
    simp only [Int.toNat_natCast]
    rw [m.get,if_neg (by omega)]
theorem words_frees {s:ASt} (hok:AOk s) (l:List Int) {q:Int} (hq:q ∉ l) (ho:isObj s q=true):aWords (l.foldl (fun s p=>aFreeS p s) s) q=aWords s q∧aKind (l.foldl (fun s p=>aFreeS p s) s).c q=aKind s.c q∧isObj (l.foldl (fun s p=>aFreeS p s) s) q=true:=by
  induction l generalizing s with
  | nil=>exact ⟨rfl,rfl,ho⟩
  | cons p l ih =>
    obtain ⟨a,b,c⟩:=words_free hok (p:=p) (fun e=>hq (by simp [e])) ho
    obtain ⟨a',b',c'⟩:=ih (free_ok hok p).1 (fun e=>hq (by simp [e])) c
    exact ⟨a'.trans a,b'.trans b,c'⟩
def goneB (h:HSt) (p:Int):Bool:=decide (p / 32=h.sp) && decide (h.col p=0)
def goneTo (h:HSt) (k:Nat):List Int:=((hObjs h.a).take k).filter (goneB h)
def sweptTo (h:HSt) (k:Nat):HSt:={ h with a:=(goneTo h k).foldl (fun s p=>aFreeS p s) h.a }
theorem goneTo_succ (h:HSt) {k:Nat} (hk:k<(hObjs h.a).length):goneTo h (k+1)=goneTo h k ++ if goneB h (hObjs h.a)[k] then [(hObjs h.a)[k]] else []:=by
  unfold goneTo
  rw [List.take_succ_eq_append_getElem hk,List.filter_append]
  congr 1
  cases hb:goneB h (hObjs h.a)[k] <;> simp [hb]
theorem updM_same {f:Int→Int} {p:Int} (h:f p=0):updM f p 0=f:=by
  funext x; unfold updM; split
  · rename_i e; rw [e,h]
  · rfl
section
variable {w0 w:World} {F0:List Nat} {ps:List Piece} {b ab mb lb:Nat} {h:HSt}
set_option maxRecDepth 100000 in
set_option maxHeartbeats 8000000 in
theorem h_sweep (hs:St w0 F0 (HeapP b ab h::ps) w) (h2:h.ph=2) :
    Calls Try.prog 94 #[.pointer (some ⟨b,0,none⟩)] w fun e w'=>∃ v,e=.returned v∧St w0 F0 (GonesP v (hSweep h).1::HeapP b ab (hSweep h).2::ps) w':=by
  have ok:=hs.heapOk
  have okE:=ok.sweep h2
  have hg:h.g=[]:=ok.gnil (by omega)
  obtain ⟨n,hnl⟩:∃ n,(hObjs h.a).length=n:=⟨_,rfl⟩
  have hn4:n≤4096:=by have:=hObjs_len (s:=h.a); have:=ok.len; have:=ok.a.len; omega
  have HO:=Lib.hid (hObjs_wd ok.a ok.len.2)
  have HN:=Lib.hid hnl
  have OK:=Lib.hid ok
  have OKE:=Lib.hid okE
  have HG:=Lib.hid hg
  have HP2:=Lib.hid h2
  have sp0:=ok.sp0
  have spn:=ok.spn h2
  have hm128:=ok.len.2
  have hcl:=ok.a.len
  obtain ⟨mb0,lb0,h1⟩:=hs.openH.2
  have c0:=(h1.hcell (k:=0) rfl).1
  clear hnl okE ok h1 h2 hg
  go_enter Try.func94,Try.ntmps94
  go_wp2_with fail
  refine (ha_Objects hs).mono ?_
  rintro e w2 ⟨v,rfl,h4⟩
  obtain ⟨_,pv,cv,rfl,hp⟩:=h4.shape 0 rfl
  rw [HN.out] at h4 hp
  rw [HN.out]
  have HP:=Lib.hid hp
  have h5:=h4.nilG
  clear hs c0 hp h4
  go_wp2
  go_loopw [3,14] (fun v3 iv wr=>∃ (k:Nat) (v':Value),k≤n∧iv=.int .i64 k∧v3=v'∧St w0 F0 (GonesP v' ((goneTo h k).map (gnOf h false))::RowP (.slice pv n cv) (hObjs h.a)::HeapP b ab (sweptTo h k)::ps) wr) (fun _ iv _=>n - (intOf iv).toNat)
  case atStart=>exact ⟨0,_,by omega,rfl,rfl,h5⟩
  case round =>
    obtain ⟨k,v3,hk,rfl,hv3,h6⟩:=hrel
    subst hv3
    obtain ⟨hm3,p3,c3,hv3,-⟩:=h6.shapeG (k:=0) rfl
    obtain ⟨n3,hn3⟩:∃ n3,((goneTo h k).map (gnOf h false)).length=n3:=⟨_,rfl⟩
    rw [hn3] at hv3
    subst hv3
    clear hm3 hn3
    clear h5
    by_cases hlt:k<n
    · obtain ⟨g,rfl⟩:=HP.out.resolve_left (by omega)
      have hkl:k<(hObjs h.a).length:=by rw [HN.out]; exact hlt
      have cc:=h6.num 1 rfl k hkl
      obtain ⟨x0,x1⟩:=HO.out _ (List.getElem_mem hkl)
      have hob:=hObjs_mem (List.getElem_mem hkl)
      have hnt:(hObjs h.a)[k] ∉ goneTo h k:=fun hm=>nodup_at (hObjs_nodup h.a) hkl (List.mem_filter.1 hm).1
      obtain ⟨ew,ek,eo⟩:=words_frees OK.out.a (goneTo h k) hnt hob
      have hsucc:=goneTo_succ h hkl
      obtain ⟨x,hx⟩:∃ x,(hObjs h.a)[k]=x:=⟨_,rfl⟩
      rw [hx] at cc x0 x1 hob ew ek eo hsucc
      have hwx:Wd x:=by unfold Wd; omega
      have okS:=h6.pick2.heapOk
      have hk0:¬ aKind (sweptTo h k).a.c x=0:=by
        have:=isObj_kind okS.a x
        rw [show isObj (sweptTo h k).a x=true from eo] at this
        simpa using this.symm
      have hcol:hColour (sweptTo h k) x=h.col x:=by unfold hColour; rw [show isObj (sweptTo h k).a x=true from eo]; rfl
      have HK0:=Lib.hid hk0
      have HC:=Lib.hid hcol
      have HS:=Lib.hid hsucc
      have HE:=Lib.hid (And.intro ew (And.intro ek eo))
      have OKS:=Lib.hid okS
      have i0:(0:Int)≤k:=by omega
      have i1:(k:Int)<n:=by omega
      clear hob hnt ew ek eo hsucc hx hk0 hcol okS hkl
      go_wp2_with fail
      refine (h_object h6.pick2 x).mono ?_
      rintro e w3 ⟨vw,rfl,h7⟩
      obtain ⟨_,pw,cw,rfl,-⟩:=h7.shape 0 rfl
      obtain ⟨kd,hkd⟩:∃ kd,aKind (sweptTo h k).a.c x=kd:=⟨_,rfl⟩
      obtain ⟨m,hm⟩:∃ m,(aWords (sweptTo h k).a x).length=m:=⟨_,rfl⟩
      rw [show objV (aKind (sweptTo h k).a.c x) x (.slice pw (aWords (sweptTo h k).a x).length cw)=.tuple #[.agg #[.int .i64 kd,.int .i64 x,.slice pw m cw],.bool true] by unfold objV; rw [if_neg HK0.out,hkd,hm]; rfl]
      rw [hm] at h7
      have HKD:=Lib.hid hkd
      obtain ⟨tb,htb⟩:∃ tb,w3.heap.size=tb:=⟨_,rfl⟩
      have h8:=h7.new #[.int .i64 kd,.int .i64 x,.slice pw m cw] 162
      rw [htb] at h8
      obtain ⟨mb1,lb1,h9⟩:=h8.pick2.openH.2
      have c4:_=some (Value.int .i64 h.sp):=(h9.hcell (k:=0) rfl).2.2.2.2.1
      clear h6 h7 h9 cc hm hkd
      by_cases hq:x / 32=h.sp
      · have HQ:=Lib.hid hq
        by_cases hc0:h.col x=0
        · have HC0:=Lib.hid hc0
          have hgb:goneB h x=true:=by unfold goneB; rw [hq,hc0]; simp
          have HGB:=Lib.hid hgb
          have hs1:goneTo h (k+1)=goneTo h k ++ [x]:=by rw [HS.out,hgb]; rfl
          have HS1:=Lib.hid hs1
          clear hc0 hgb hs1
          go_wp2_with fail
          refine (h_Colour h8.pick2 x hwx).mono ?_
          rintro e w4 ⟨rfl,h10⟩
          rw [HC.out,HC0.out]
          have t0:w4.cell? ⟨tb,0,none⟩=some (.int .i64 kd):=h10.cell 1 rfl 0 rfl
          have t2:w4.cell? ⟨tb,2,none⟩=some (.slice pw m cw):=h10.cell 1 rfl 2 rfl
          have h11:St w0 F0 (GonesP (.slice p3 n3 c3) ((goneTo h k).map (gnOf h false))::RowP (.slice pw m cw) (gnOf h false x).words::BlkP tb 162 #[.int .i64 kd,.int .i64 x,.slice pw m cw]::HeapP b ab (sweptTo h k)::RowP (.slice (some ⟨g,0,none⟩) n cv) (hObjs h.a)::ps) w4:=by
            rw [show (gnOf h false x).words=aWords (sweptTo h k).a x from HE.out.1.symm]
            exact h10.pick2.pick3.swap2
          have hgl:((goneTo h k).map (gnOf h false)).length≤k:=by
            rw [List.length_map]; unfold goneTo; exact Nat.le_trans (List.length_filter_le _ _) (by simp; omega)
          obtain ⟨gl,hgll⟩:∃ gl,((goneTo h k).map (gnOf h false)).length=gl:=⟨_,rfl⟩
          have hgl4:gl<1000000:=by omega
          have HGL:=Lib.hid hgll
          have hkx:(gnOf h false x).kind=kd:=by show aKind h.a.c x=kd; rw [← HKD.out]; exact HE.out.2.1.symm
          have HKX:=Lib.hid hkx
          clear h8 h10 c4 hgl hgll hkx
          go_wp2_with (at_builtin; refine wpList_growG (y:=gnOf h false x) gl HGL.out hgl4 rfl _ _ rfl h11 ?_ rfl rfl rfl ?_)
          · rw [HKX.out]; rfl
          · intro gg cg w5 h12
            obtain ⟨mb2,lb2,h13⟩:=h12.pick2.openH.2
            have c0:=(h13.hcell (k:=0) rfl).1
            clear h11 h13 t0 t2
            go_wp2_with fail
            refine (ha_Free h12.pick2 x (by rw [show (sweptTo h k).g=[] from HG.out]; simp)).mono ?_
            rintro e w6 ⟨rfl,h14⟩
            have okF:=h14.heapOk
            obtain ⟨mb3,lb3,h15⟩:=h14.openH.2
            have c1:=(h15.hcell (k:=0) rfl).2.1
            clear h12 c0
            go_wp2_with (at_delete; refine wpList_colDel rfl _ _ rfl h15.pick2 rfl x hwx rfl ?_)
            intro w7 h16
            have h17:St w0 F0 (HeapP b ab (sweptTo h (k+1))::GonesP (.slice (some ⟨gg,0,none⟩) (gl+1) cg) ((goneTo h k).map (gnOf h false) ++ [gnOf h false x])::BlkP tb 162 #[.int .i64 kd,.int .i64 x,.slice pw m cw]::RowP (.slice (some ⟨g,0,none⟩) n cv) (hObjs h.a)::ps) w7:=by
              have e:sweptTo h (k+1)={ sweptTo h k with a:=aFreeS x (sweptTo h k).a }:=by unfold sweptTo; rw [HS1.out,List.foldl_append]; rfl
              rw [e]
              refine St.closeH (mb:=mb3) (lb:=lb3) (h:={ sweptTo h k with a:=aFreeS x (sweptTo h k).a }) ?_ okF
              have h18:=h16.back2
              rw [updM_same (show ({ sweptTo h k with a:=aFreeS x (sweptTo h k).a }:HSt).col x=0 from HC0.out)] at h18
              exact h18
            clear h14 h15 h16 c1
            go_wp2
            go_roundw
            case rel =>
              refine ⟨k+1,_,by omega,by go_num,rfl,?_⟩
              rw [HS1.out,List.map_append]
              exact h17.pick2.drop.pick2.pick2
            case measure=>simp [intOf]; omega
        · have cb:(h.col x == 0)=false:=by simpa using hc0
          have cb2:(h.col x != 0)=true:=by simp [bne,cb]
          have CB:=Lib.hid (And.intro cb cb2)
          have hs1:goneTo h (k+1)=goneTo h k:=by rw [HS.out]; unfold goneB; rw [decide_eq_false hc0]; simp
          have HS1:=Lib.hid (show goneTo h (k+1)=goneTo h k∧sweptTo h (k+1)=sweptTo h k from ⟨hs1,by unfold sweptTo; rw [hs1]⟩)
          clear cb cb2 hc0 hs1
          go_wp2_with fail
          refine (h_Colour h8.pick2 x hwx).mono ?_
          rintro e w4 ⟨rfl,h10⟩
          rw [HC.out]
          obtain ⟨cb,cb2⟩:=CB.out
          clear h8 c4
          go_wp2
          go_roundw
          case rel =>
            refine ⟨k+1,_,by omega,by go_num,rfl,?_⟩
            rw [HS1.out.1,HS1.out.2]
            exact h10.pick1.drop.pick1.drop.back2
          case measure=>simp [intOf]; omega
      · have qb:(x / 32 == h.sp)=false:=by simpa using hq
        have qb2:(x / 32 != h.sp)=true:=by simp [bne,qb]
        have hs1:goneTo h (k+1)=goneTo h k:=by rw [HS.out]; unfold goneB; rw [decide_eq_false hq]; simp
        have HS1:=Lib.hid (show goneTo h (k+1)=goneTo h k∧sweptTo h (k+1)=sweptTo h k from ⟨hs1,by unfold sweptTo; rw [hs1]⟩)
        clear hs1 hq
        go_wp2
        go_roundw
        case rel =>
          refine ⟨k+1,_,by omega,by go_num,rfl,?_⟩
          rw [HS1.out.1,HS1.out.2]
          exact h8.drop.drop.back2
        case measure=>simp [intOf]; omega
    · have hkn:k=n:=by omega
      subst hkn
      have hgt:goneTo h k=hGone h:=by unfold goneTo hGone; rw [List.take_of_length_le (by rw [HN.out]; omega)]; rfl
      have HGT:=Lib.hid hgt
      obtain ⟨mb1,lb1,h7⟩:=h6.pick2.openH.2
      have c4:wr.cell? ⟨b,4,none⟩=some (.int .i64 h.sp):=(h7.hcell (k:=0) rfl).2.2.2.2.1
      have f4:=h7.free 0 rfl 4
      have h8:=h7.set 4 (.int .i64 (h.sp+1))
      have e0:(wr.setCell ⟨b,4,none⟩ (.int .i64 (h.sp+1))).cell? ⟨b,0,none⟩=some (.pointer (some ⟨ab,0,none⟩)):=h8.cell 0 rfl 0 rfl
      have e4:(wr.setCell ⟨b,4,none⟩ (.int .i64 (h.sp+1))).cell? ⟨b,4,none⟩=some (.int .i64 (h.sp+1)):=h8.cell 0 rfl 4 rfl
      have e5:(wr.setCell ⟨b,4,none⟩ (.int .i64 (h.sp+1))).cell? ⟨b,5,none⟩=some (.int .i64 h.cy):=h8.cell 0 rfl 5 rfl
      have hlen:(sweptTo h k).a.c.length=32 * h.a.l.length:=by
        have:=(frees_len OK.out.a (goneTo h k)).2.1
        rw [show (sweptTo h k).a=(goneTo h k).foldl (fun s p=>aFreeS p s) h.a from rfl,this]; exact hcl
      obtain ⟨L,hL⟩:∃ L:Nat,h.a.l.length=L:=⟨_,rfl⟩
      have HL:=Lib.hid hL
      rw [hL] at spn hm128 hlen
      have hlc:((sweptTo h k).a.c.length:Int)=32 * (L:Int):=by rw [hlen]; simp
      obtain ⟨N,hN⟩:∃ N:Nat,(sweptTo h k).a.c.length=N:=⟨_,rfl⟩
      rw [hN] at hlc
      have HNN:=Lib.hid hN
      clear hgt h6 h7 hcl hL hN
      go_wp2
      have t3:IntKind.i64.wrap ((N:Int).tdiv 32)=(L:Int):=by
        rw [hlc,show (32 * (L:Int)).tdiv 32=(L:Int) from Int.mul_tdiv_cancel_left _ (by decide)]
        exact IntWalk.i64_in _ (by omega)
      go_quiet ((go_at_call 29; exact Calls.quiet_of_same ((a_Words (h8.drewN _).pick1).mono fun _ _ ⟨x,y⟩=>⟨by rw [x,HNN.out],y.symm⟩)))
      have h9:=h8.drewN nq
      have f3:=h9.free 0 rfl 3
      have d3:=h9.cell 0 rfl 3 rfl
      have f5:=h9.free 0 rfl 5
      have d5:=h9.cell 0 rfl 5 rfl
      by_cases hlast:L≤h.sp+1
      · have hsw:hSweep h=((hGone h).map (gnOf h false),{ sweptTo h k with sp:=h.sp+1,ph:=0,cy:=wrap64 (h.cy+1) }):=by
          unfold hSweep sweptTo; simp only; rw [if_pos (by rw [HL.out]; omega),HGT.out]
        have HSW:=Lib.hid hsw
        clear hsw
        go_wp2
        go_ret
        refine ⟨_,rfl,?_⟩
        have okE:=OKE.out
        rw [HSW.out] at okE ⊢
        rw [← HGT.out]
        have h10:=(h9.set 3 (.int .i64 0)).set 5 (.int .i64 (wrap64 (h.cy+1)))
        have h11:St w0 F0 (HeapP b ab { sweptTo h k with sp:=h.sp+1,ph:=0,cy:=wrap64 (h.cy+1) }::GonesP (.slice p3 n3 c3) ((goneTo h k).map (gnOf h false))::RowP (.slice pv k cv) (hObjs h.a)::ps) _:=St.closeH (mb:=mb1) (lb:=lb1) (h:={ sweptTo h k with sp:=h.sp+1,ph:=0,cy:=wrap64 (h.cy+1) }) h10 okE
        exact (h11.pick2.drop.pick1)
      · have hsw:hSweep h=((hGone h).map (gnOf h false),{ sweptTo h k with sp:=h.sp+1 }):=by
          unfold hSweep sweptTo; simp only; rw [if_neg (by rw [HL.out]; omega),HGT.out]
        have HSW:=Lib.hid hsw
        clear hsw
        go_wp2
        go_ret
        refine ⟨_,rfl,?_⟩
        have okE:=OKE.out
        rw [HSW.out] at okE ⊢
        rw [← HGT.out]
        have h11:St w0 F0 (HeapP b ab { sweptTo h k with sp:=h.sp+1 }::GonesP (.slice p3 n3 c3) ((goneTo h k).map (gnOf h false))::RowP (.slice pv k cv) (hObjs h.a)::ps) _:=St.closeH (mb:=mb1) (lb:=lb1) (h:={ sweptTo h k with sp:=h.sp+1 }) h9 okE
        exact (h11.pick2.drop.pick1)
theorem h_Step (hs:St w0 F0 (HeapP b ab h::ps) w) :
    Calls Try.prog 77 #[.pointer (some ⟨b,0,none⟩)] w fun e w'=>∃ v,e=.returned v∧St w0 F0 (GonesP v (hStep h).1::HeapP b ab (hStep h).2::ps) w':=by
  rcases hs.heapOk.phs with h0 | h1 | h2
  · have e:hStep h=([],h):=by unfold hStep; rw [h0]; rfl
    rw [e]
    have H0:=Lib.hid h0
    clear e h0
    go_enter Try.func77,Try.ntmps77
    go_wp2_with fail
    refine (h_Phase hs).mono ?_
    rintro e w1 ⟨rfl,rfl⟩
    rw [H0.out]
    go_wp2
    go_ret
    exact ⟨_,rfl,hs.nilG⟩
  · have e:hStep h=hMark h:=by unfold hStep; rw [h1]; rfl
    rw [e]
    have H0:=Lib.hid h1
    clear e h1
    go_enter Try.func77,Try.ntmps77
    go_wp2_with fail
    refine (h_Phase hs).mono ?_
    rintro e w1 ⟨rfl,rfl⟩
    rw [H0.out]
    go_wp2_with fail
    refine (h_mark hs).mono ?_
    rintro e w1 ⟨v,rfl,h3⟩
    go_wp2
    go_ret
    exact ⟨_,rfl,h3⟩
  · have e:hStep h=hSweep h:=by unfold hStep; rw [h2]; rfl
    rw [e]
    have H0:=Lib.hid h2
    clear e h2
    go_enter Try.func77,Try.ntmps77
    go_wp2_with fail
    refine (h_Phase hs).mono ?_
    rintro e w1 ⟨rfl,rfl⟩
    rw [H0.out]
    go_wp2_with fail
    refine (h_sweep hs H0.out).mono ?_
    rintro e w1 ⟨v,rfl,h3⟩
    go_wp2
    go_ret
    exact ⟨_,rfl,h3⟩
end
end Go.Proofs.Ytffnjpapggidlaa
