/- View ViewV View2 -/
import Derived.Test.YtffnjpapggidlaaGreatKSepHeap
import Derived.Test.YtffnjpapggidlaaGreatKSepLit
import Derived.Test.YtffnjpapggidlaaGreatKRecord
import Derived.Test.YtffnjpapggidlaaGreatKPureView
import Derived.Laws.ResultCell
import Derived.Deep.RegionHeld3
namespace Go.Proofs.YtffnjpapggidlaaGreat
open Go.RowKit
set_option linter.unusedVariables false
@[go_sem] theorem as_vww (v:Value) (w:World):(Instr.typeAssert (.iface 158 v) 20 158 true).run Tryz.prog w=.ok (.tuple #[v,.bool true]) w:=by kernel_rfl
@[go_sem] theorem as_vnw (w:World):(Instr.typeAssert .nilIface 20 158 true).run Tryz.prog w=.ok (.tuple #[.slice none 0 0,.bool false]) w:=by kernel_rfl
theorem wpList_growW {ops:Array Oper} {rest:List Oper} {o:Oper} {a:Act} {Q:Exit→Act→World→Prop} {w0:World} {F0:List Nat} {ps:List Piece} {W:World} {v:Value} {L:List Int} {y:Int} {ob:Obj} (n:Nat) (hn:L.length=n) (hl:n<1000000)
    (hgd:o.guard=none) (s x:Operand) (ho:o.op=.call { callee:=.builtin .append,args:=#[s,x],argTypes:=#[158,158] })
    (h:St w0 F0 (RowP v L::ps) W) (hob:ob=.cells #[.int .i64 y] 3) (hs:a.eval s=v) (hx:a.eval x=.slice (some ⟨W.heap.size,0,none⟩) 1 1)
    (hK:∀ g c w',St w0 F0 (RowP (.slice (some ⟨g,0,none⟩) (n+1) c) (L ++ [y])::ps) w'→wpList Tryz.prog ops Q rest (a.put o.dst (.slice (some ⟨g,0,none⟩) (n+1) c)) w') :
    wpList Tryz.prog ops Q (o::rest) a (W.alloc ob):=by
  subst hob
  subst hn
  obtain ⟨i0,hi,hz0,hz1,hz2⟩:=info_parts info_iV
  refine wpList_append_own_at _ hgd s x 158 ho 0 3 i0 (.int .i64 0) 1 8 Tryz.underlying158 hi hz0 hz1 hz2 rfl (by decide) v L.length (iV L) hs ((h.row 0 rfl).alloc _) ⟨W.heap.size,0,none⟩ 1 1 [.int .i64 y] hx rfl (cell_one_new _ _ _) ?_ (by unfold maxLen; omega) (by omega) (Nat.zero_le _) ?_
  · intro u hu; simp at hu; subst hu; rfl
  · intro v' w' ho' hg' hn' hat'
    have h':=h.grow ho' hg' hat'
    obtain ⟨_,p,c,rfl,hp⟩:=h'.shape 0 rfl
    simp only [List.length_append,List.length_cons,List.length_nil] at h' hp ⊢
    obtain ⟨g,rfl⟩:=hp.resolve_left (by omega)
    exact hK g c w' h'
section
variable {w0 w:World} {F0:List Nat} {ps:List Piece} {b ab:Nat} {h:HSt}
set_option maxRecDepth 100000 in
set_option maxHeartbeats 2000000 in
theorem v_look {kind:Int} {n:Nat} (hn:rNeed kind 0=n) (n10:n≤10) (hs:St w0 F0 (HeapP b ab h::ps) w) {p:Int} (hp:Is h.a p kind n) :
    Calls Tryz.prog 188 #[.pointer (some ⟨b,0,none⟩),.int .i64 p,.int .i64 kind] w fun e w'=>∃ v,e=.returned (.iface 158 v)∧St w0 F0 (RowP v (aWords h.a p)::HeapP b ab h::ps) w':=by
  have HI:=Lib.hid hp
  have HL:=Lib.hid hp.len
  have HN:=Lib.hid hn
  clear hp hn
  go_enter Tryz.func188,Tryz.ntmps188
  go_wp2_with fail
  refine (rec_need _ _ _).mono ?_
  rintro e w1 ⟨rfl,hb⟩
  rw [HN.out]
  have h1:=hs.below hb
  clear hs hb
  go_wp2_with fail
  refine (h_Arena h1).mono ?_
  rintro e w2 ⟨rfl,rfl⟩
  go_wp2_with fail
  refine (ha_Kind h1 _).mono ?_
  rintro e w2 ⟨rfl,h2⟩
  rw [HI.out.1]
  clear h1
  go_wp2_with fail
  refine (ha_Len h2 _).mono ?_
  rintro e w3 ⟨rfl,h3⟩
  rw [HI.out.2]
  have h4:=h3.nil
  clear h2 h3
  go_wp2
  go_loopw [10,34] (fun vv iv wr=>∃ (j:Nat) (v:Value),j≤n∧vv=v∧iv=.int .i64 j∧St w0 F0 (RowP v ((aWords h.a p).take j)::HeapP b ab h::ps) wr) (fun _ iv _=>n - (intOf iv).toNat)
  case atStart=>exact ⟨0,_,by omega,rfl,rfl,h4⟩
  case round =>
    obtain ⟨j,v,hj,rfl,rfl,h5⟩:=hrel
    clear h4
    by_cases hlt:j<n
    · obtain ⟨e0,e1⟩:=word_at (s:=h.a) (p:=p) (j:=j) (by rw [HL.out]; exact hlt)
      have HE:=Lib.hid (And.intro e0 e1)
      have hT:(aWords h.a p).take (j+1)=(aWords h.a p).take j ++ [(aWords h.a p)[j]'(by rw [HL.out]; exact hlt)]:=List.take_succ_eq_append_getElem _
      have HT:=Lib.hid hT
      generalize (aWords h.a p)[j]'(by rw [HL.out]; exact hlt)=x at *
      clear e0 e1 hT
      go_wp2_with fail
      refine (ha_Load h5.pick1 _ _).mono ?_
      rintro e w3 ⟨rfl,h6⟩
      have hx:=HE.out.2
      unfold loadV
      rw [HE.out.1,hx]
      have h7:=h6.pick1
      clear h5 h6 hx
      have hlt2:((aWords h.a p).take j).length=j:=by rw [List.length_take,HL.out]; omega
      have HLT:=Lib.hid hlt2
      clear hlt2
      go_wp2_with (at_builtin; refine wpList_growW j HLT.out (by omega) rfl _ _ rfl h7 rfl rfl rfl ?_)
      · intro gv cv w4 h8
        rw [← HT.out] at h8
        clear h7
        go_wp2
        go_roundw
        case rel=>exact ⟨j+1,_,by omega,rfl,by go_num,h8⟩
        case measure=>simp [intOf]; omega
    · have hjn:j=n:=by omega
      subst hjn
      rw [List.take_of_length_le (by rw [HL.out]; omega)] at h5
      obtain ⟨_,pv,cv,rfl,-⟩:=h5.shape 0 rfl
      go_wp2
      go_ret
      exact ⟨_,rfl,h5⟩
theorem v_look_no {kind:Int} {n:Nat} (hn:rNeed kind 0=n) (hs:St w0 F0 (HeapP b ab h::ps) w) {p:Int} (hp:¬ Is h.a p kind n) :
    Calls Tryz.prog 188 #[.pointer (some ⟨b,0,none⟩),.int .i64 p,.int .i64 kind] w fun e w'=>e=.returned .nilIface∧St w0 F0 (HeapP b ab h::ps) w':=by
  have HN:=Lib.hid hn
  clear hn
  by_cases hk:aKind h.a.c p=kind
  · have hl:¬ aLen h.a.c p=n:=fun e=>hp ⟨hk,e⟩
    have HK:=Lib.hid hk
    obtain ⟨m,hm⟩:∃ m,aLen h.a.c p=m:=⟨_,rfl⟩
    rw [hm] at hl
    have HM:=Lib.hid hm
    have e1:(m == (n:Int))=false:=by simpa using hl
    have e2:(m != (n:Int))=true:=by simp [bne,e1]
    clear hk hl hm hp
    go_enter Tryz.func188,Tryz.ntmps188
    go_wp2_with fail
    refine (rec_need _ _ _).mono ?_
    rintro e w1 ⟨rfl,hb⟩
    rw [HN.out]
    have h1:=hs.below hb
    clear hs hb
    go_wp2_with fail
    refine (h_Arena h1).mono ?_
    rintro e w2 ⟨rfl,rfl⟩
    go_wp2_with fail
    refine (ha_Kind h1 _).mono ?_
    rintro e w2 ⟨rfl,h2⟩
    rw [HK.out]
    clear h1
    go_wp2_with fail
    refine (ha_Len h2 _).mono ?_
    rintro e w3 ⟨rfl,h3⟩
    rw [HM.out]
    clear h2
    go_wp2
    go_ret
    exact ⟨rfl,h3⟩
  · obtain ⟨m,hm⟩:∃ m,aKind h.a.c p=m:=⟨_,rfl⟩
    rw [hm] at hk
    have HM:=Lib.hid hm
    have e1:(m == kind)=false:=by simpa using hk
    have e2:(m != kind)=true:=by simp [bne,e1]
    clear hk hm hp
    go_enter Tryz.func188,Tryz.ntmps188
    go_wp2_with fail
    refine (rec_need _ _ _).mono ?_
    rintro e w1 ⟨rfl,hb⟩
    rw [HN.out]
    have h1:=hs.below hb
    clear hs hb
    go_wp2_with fail
    refine (h_Arena h1).mono ?_
    rintro e w2 ⟨rfl,rfl⟩
    go_wp2_with fail
    refine (ha_Kind h1 _).mono ?_
    rintro e w2 ⟨rfl,h2⟩
    rw [HM.out]
    clear h1
    go_wp2
    go_ret
    exact ⟨rfl,h2⟩
theorem v_seen {kind:Int} {n:Nat} (hn:rNeed kind 0=n) (n10:n≤10) (hs:St w0 F0 (HeapP b ab h::ps) w) {p:Int} (hp:Is h.a p kind n) :
    Calls Tryz.prog 118 #[.pointer (some ⟨b,0,none⟩),.int .i64 p,.int .i64 kind] w fun e w'=>∃ v,e=.returned (.tuple #[v,.int .i64 0])∧St w0 F0 (RowP v (aWords h.a p)::HeapP b ab h::ps) w':=by
  go_enter Tryz.func118,Tryz.ntmps118
  go_wp2_with fail
  refine (v_look hn n10 hs hp).mono ?_
  rintro e w1 ⟨v,rfl,h1⟩
  obtain ⟨_,pv,cv,rfl,-⟩:=h1.shape 0 rfl
  clear hn hs hp
  go_wp2
  go_ret2
  exact ⟨_,rfl,h1⟩
theorem v_seen_no {kind:Int} {n:Nat} (hn:rNeed kind 0=n) (hs:St w0 F0 (HeapP b ab h::ps) w) {p:Int} (hp:¬ Is h.a p kind n) :
    Calls Tryz.prog 118 #[.pointer (some ⟨b,0,none⟩),.int .i64 p,.int .i64 kind] w fun e w'=>e=.returned (.tuple #[.slice none 0 0,.int .i64 10])∧St w0 F0 (HeapP b ab h::ps) w':=by
  go_enter Tryz.func118,Tryz.ntmps118
  go_wp2_with fail
  refine (v_look_no hn hs hp).mono ?_
  rintro e w1 ⟨rfl,h1⟩
  clear hn hs hp
  go_wp2
  go_ret2
  exact ⟨rfl,h1⟩
theorem v_seen_nil (p kind:Int) (w:World) :
    Calls Tryz.prog 118 #[.pointer none,.int .i64 p,.int .i64 kind] w fun e w'=>e=.returned (.tuple #[.slice none 0 0,.int .i64 2])∧w=w':=by
  go_enter Tryz.func118,Tryz.ntmps118
  go_wp2
  go_ret2
  exact ⟨rfl,rfl⟩
theorem getD_at {L:List Int} {k:Nat} (hk:k<L.length):L.getD k 0=L[k]:=by rw [List.getD_eq_getElem?_getD,List.getElem?_eq_getElem hk]; rfl
set_option maxRecDepth 100000 in
set_option maxHeartbeats 2000000 in
theorem v_put {kind:Int} {n:Nat} (hn:rNeed kind 0=n) (n0:0<n) (n10:n≤10) {l:List Int} (hl:l.length=n) (hw:∀ x ∈ l,Wd x) {v:Value} (hs:St w0 F0 (RowP v l::HeapP b ab h::ps) w) {p:Int} (hp:Is h.a p kind n) :
    Calls Tryz.prog 105 #[.pointer (some ⟨b,0,none⟩),.int .i64 p,.int .i64 kind,v] w fun e w'=>e=.returned (.int .i64 0)∧St w0 F0 (HeapP b ab (hPut p kind n l h)::ps) w':=by
  unfold hPut
  rw [if_pos hp]
  obtain ⟨_,pv,cv,rfl,hpv⟩:=hs.shape 0 rfl
  obtain ⟨gv,rfl⟩:=hpv.resolve_left (by omega)
  have HI:=Lib.hid hp
  have HO:=Lib.hid hs.pick1.heapOk
  have HW:=Lib.hid hw
  have HL:=Lib.hid hl
  have hol:=hp.len
  obtain ⟨old,hold⟩:∃ old,aWords h.a p=old:=⟨_,rfl⟩
  rw [hold] at hol ⊢
  have HOL:=Lib.hid hol
  rw [hl] at hs ⊢
  go_enter Tryz.func105,Tryz.ntmps105
  go_wp2_with fail
  refine (v_seen hn n10 hs.pick1 hp).mono ?_
  rintro e w1 ⟨vo,rfl,h1⟩
  rw [hold] at h1
  obtain ⟨_,po,co,rfl,hpo⟩:=h1.shape 0 rfl
  obtain ⟨go,rfl⟩:=hpo.resolve_left (by omega)
  rw [hol] at h1 ⊢
  clear hn hs hp hw hl hol hold hpo hpv
  go_wp2
  go_loopw [25] (fun iv wr=>∃ k:Nat,k≤n∧iv=.int .i64 k∧St w0 F0 (HeapP b ab (hPutTo p old l k h)::RowP (.slice (some ⟨gv,0,none⟩) n cv) l::RowP (.slice (some ⟨go,0,none⟩) n co) old::ps) wr) (fun iv _=>n - (intOf iv).toNat)
  case atStart=>exact ⟨0,by omega,rfl,h1.pick1.swap1⟩
  case round =>
    obtain ⟨k,hk,rfl,h2⟩:=hrel
    clear h1
    by_cases hlt:k<n
    · have d1:=h2.num 1 rfl k (by rw [HL.out]; exact hlt)
      have d2:=h2.num 2 rfl k (by rw [HOL.out]; exact hlt)
      have g1:=getD_at (L:=l) (k:=k) (by rw [HL.out]; exact hlt)
      have g2:=getD_at (L:=old) (k:=k) (by rw [HOL.out]; exact hlt)
      have hx:=HW.out _ (List.getElem_mem (l:=l) (n:=k) (by rw [HL.out]; exact hlt))
      generalize l[k]'(by rw [HL.out]; exact hlt)=x at *
      generalize old[k]'(by rw [HOL.out]; exact hlt)=y at *
      have hS:hPutTo p old l (k+1) h=if x=y then hPutTo p old l k h else hStore p k x (hPutTo p old l k h):=by
        show (if l.getD k 0=old.getD k 0 then _ else _)=_
        rw [g1,g2]
      have HS:=Lib.hid hS
      have hE:aErr p k (hPutTo p old l k h).a=0:=by rw [err_of_head ((HO.out.putTo p old HW.out k).2 p)]; exact HI.out.err hlt
      have HE:=Lib.hid hE
      clear g1 g2 hS hE
      by_cases hxy:x=y
      · subst hxy
        rw [if_pos rfl] at HS
        go_wp2
        go_roundw
        case rel=>exact ⟨k+1,by omega,by go_num,by rw [HS.out]; exact h2⟩
        case measure=>simp [intOf]; omega
      · rw [if_neg hxy] at HS
        have e1:(x == y)=false:=by simpa using hxy
        clear hxy
        go_wp2_with fail
        refine (h_Store h2 p k x hx).mono ?_
        rintro e w3 ⟨rfl,h3⟩
        rw [HE.out]
        rw [← HS.out] at h3
        clear h2 d1 d2 hx e1
        go_wp2
        go_roundw
        case rel=>exact ⟨k+1,by omega,by go_num,h3⟩
        case measure=>simp [intOf]; omega
    · have hkn:k=n:=by omega
      subst hkn
      go_wp2
      go_ret
      exact ⟨rfl,h2.pick1.drop.pick1.drop⟩
theorem v_put_no {kind:Int} {n:Nat} (hn:rNeed kind 0=n) {l:List Int} {v:Value} (hs:St w0 F0 (RowP v l::HeapP b ab h::ps) w) {p:Int} (hp:¬ Is h.a p kind n) :
    Calls Tryz.prog 105 #[.pointer (some ⟨b,0,none⟩),.int .i64 p,.int .i64 kind,v] w fun e w'=>e=.returned (.int .i64 10)∧St w0 F0 (HeapP b ab (hPut p kind n l h)::ps) w':=by
  unfold hPut
  rw [if_neg hp]
  have h1:=hs.drop
  obtain ⟨_,pv,cv,rfl,-⟩:=hs.shape 0 rfl
  clear hs
  go_enter Tryz.func105,Tryz.ntmps105
  go_wp2_with fail
  refine (v_seen_no hn h1 hp).mono ?_
  rintro e w1 ⟨rfl,h2⟩
  clear hn h1 hp
  go_wp2
  go_ret
  exact ⟨rfl,h2⟩
theorem v_put_nil (p kind:Int) (v:Value) (w:World) :
    Calls Tryz.prog 105 #[.pointer none,.int .i64 p,.int .i64 kind,v] w fun e w'=>e=.returned (.int .i64 2)∧w=w':=by
  go_enter Tryz.func105,Tryz.ntmps105
  go_wp2_with fail
  refine (v_seen_nil _ _ _).mono ?_
  rintro e w1 ⟨rfl,rfl⟩
  go_wp2
  go_ret
  exact ⟨rfl,rfl⟩
theorem v_ptr (a:Int) (w:World):Calls Tryz.prog 107 #[.int .i64 a] w fun e w'=>e=.returned (.int .i64 (vP a))∧w=w':=by
  unfold vP
  by_cases h0:a<0
  · rw [if_pos h0]
    go_enter Tryz.func107,Tryz.ntmps107
    go_wp2_with fail
    refine (value_Int _ _).mono ?_
    rintro e w1 ⟨rfl,rfl⟩
    rw [show wrap64 (2 * 0)=0 from by unfold wrap64; omega]
    go_wp2
    go_ret
    exact ⟨rfl,rfl⟩
  · rw [if_neg h0]
    have e1:0≤a:=by omega
    clear h0
    go_enter Tryz.func107,Tryz.ntmps107
    go_wp2_with fail
    refine (value_Ptr _ _).mono ?_
    rintro e w1 ⟨rfl,rfl⟩
    go_wp2
    go_ret
    exact ⟨rfl,rfl⟩
end
end Go.Proofs.YtffnjpapggidlaaGreat
namespace Go.Proofs.YtffnjpapggidlaaGreat
open Go.RowKit
set_option linter.unusedVariables false
set_option linter.unusedSimpArgs false
def chV (c:Ch):Value:=.agg #[.int .i64 c.cap,.int .i64 c.closed,.int .i64 c.count,.int .i64 c.start,.int .i64 c.buf,.int .i64 c.th,.int .i64 c.tt,.int .i64 c.sh,.int .i64 c.st]
def suV (s:Su):Value:=.agg #[.int .i64 s.gor,.int .i64 s.chan,.int .i64 s.value,.int .i64 s.next,.int .i64 s.to,.int .i64 s.reg,.int .i64 s.more]
def goV (g:Gr):Value:=.agg #[.int .i64 g.id,.int .i64 g.status,.int .i64 g.pc,.int .i64 g.a,.int .i64 g.b,.int .i64 g.c,.int .i64 g.d,.int .i64 g.e,.int .i64 g.f,.int .i64 g.sudogs]
theorem need_ch:rNeed 1 0=((9:Nat):Int):=rfl
theorem need_su:rNeed 3 0=((7:Nat):Int):=rfl
theorem need_go:rNeed 4 0=((10:Nat):Int):=rfl
theorem St.rowNe {w0:World} {F0:List Nat} {g n c g':Nat} {t':TypeId} {L:List Int} {cs':Array Value} {qs:List Piece} {wr:World} (h:St w0 F0 (RowP (.slice (some ⟨g,0,none⟩) n c) L::BlkP g' t' cs'::qs) wr):g≠g':=by
  obtain ⟨F,⟨F1,F2,rfl,⟨h1,rfl⟩,⟨F3,F4,rfl,⟨h3,rfl⟩,h4,hd4⟩,hd⟩,k,h3⟩:=h
  intro e; subst e; exact hd g (by simp [Value.ownBlock]) (by simp)
theorem far_set {w:World} {tb gv i j:Nat} {v a:Value} (hne:gv≠tb) (h:w.cell? ⟨gv,i,none⟩=some v):(w.setCell ⟨tb,j,none⟩ a).cell? ⟨gv,i,none⟩=some v:=by
  rw [World.cell?_setCell_other _ _ _ _ (fun e=>hne (by injection e with e1; exact e1.symm))]; exact h
theorem far_drew {w:World} {x:Addr} {v:Value} (h:w.cell? x=some v):w.drew.cell? x=some v:=h
theorem keep9 {w:World} {tb gv i:Nat} {v a0 a1 a2 a3 a4 a5 a6 a7 a8:Value} (hne:gv≠tb) (h:w.cell? ⟨gv,i,none⟩=some v) :
    (((((((((w.setCell ⟨tb,0,none⟩ a0).setCell ⟨tb,1,none⟩ a1).setCell ⟨tb,2,none⟩ a2).setCell ⟨tb,3,none⟩ a3).setCell ⟨tb,4,none⟩ a4).setCell ⟨tb,5,none⟩ a5).setCell ⟨tb,6,none⟩ a6).setCell ⟨tb,7,none⟩ a7).setCell ⟨tb,8,none⟩ a8).drew.cell? ⟨gv,i,none⟩=some v :=
  far_drew (far_set hne (far_set hne (far_set hne (far_set hne (far_set hne (far_set hne (far_set hne (far_set hne (far_set hne h)))))))))
theorem keep7 {w:World} {tb gv i:Nat} {v a0 a1 a2 a3 a4 a5 a6:Value} (hne:gv≠tb) (h:w.cell? ⟨gv,i,none⟩=some v) :
    (((((((w.setCell ⟨tb,0,none⟩ a0).setCell ⟨tb,1,none⟩ a1).setCell ⟨tb,2,none⟩ a2).setCell ⟨tb,3,none⟩ a3).setCell ⟨tb,4,none⟩ a4).setCell ⟨tb,5,none⟩ a5).setCell ⟨tb,6,none⟩ a6).drew.cell? ⟨gv,i,none⟩=some v :=
  far_drew (far_set hne (far_set hne (far_set hne (far_set hne (far_set hne (far_set hne (far_set hne h)))))))
end Go.Proofs.YtffnjpapggidlaaGreat
namespace Go.Proofs.YtffnjpapggidlaaGreat
open Go.RowKit
set_option linter.unusedVariables false
set_option linter.unusedSimpArgs false
section
variable {w0 w:World} {F0:List Nat} {ps:List Piece} {b ab:Nat} {h:HSt}
set_option maxRecDepth 100000 in
set_option maxHeartbeats 4000000 in
theorem v_Chan (hs:St w0 F0 (HeapP b ab h::ps) w) {p:Int} (hp:Is h.a p 1 9) :
    Calls Tryz.prog 25 #[.pointer (some ⟨b,0,none⟩),.int .i64 p] w fun e w'=>e=.returned (.tuple #[chV (chOf (aWords h.a p)),.int .i64 0])∧St w0 F0 (HeapP b ab h::ps) w':=by
  have hwd:=aWords_wd hs.heapOk.wd p
  obtain ⟨x0,x1,x2,x3,x4,x5,x6,x7,x8,hx⟩:=nine hp.len
  have HP:=Lib.hid hp
  have HX:=Lib.hid hx
  rw [hx] at hwd
  have u0:Wd x0:=hwd _ (by simp)
  have u1:Wd x1:=hwd _ (by simp)
  have u2:Wd x2:=hwd _ (by simp)
  have u3:Wd x3:=hwd _ (by simp)
  have u4:Wd x4:=hwd _ (by simp)
  have u5:Wd x5:=hwd _ (by simp)
  have u6:Wd x6:=hwd _ (by simp)
  have u7:Wd x7:=hwd _ (by simp)
  have u8:Wd x8:=hwd _ (by simp)
  have HU:=Lib.hid (And.intro u0 (And.intro u1 (And.intro u2 (And.intro u3 (And.intro u4 (And.intro u5 (And.intro u6 (And.intro u7 u8))))))))
  obtain ⟨tb,htb⟩:∃ tb,w.heap.size=tb:=⟨_,rfl⟩
  have h0:=hs.new #[.int .i64 0,.int .i64 0,.int .i64 0,.int .i64 0,.int .i64 0,.int .i64 0,.int .i64 0,.int .i64 0,.int .i64 0] 23
  rw [htb] at h0
  clear hwd hp u0 u1 u2 u3 u4 u5 u6 u7 u8
  go_enter Tryz.func25,Tryz.ntmps25
  go_wp2_with fail
  refine (v_seen need_ch (by omega) h0.pick1 HP.out).mono ?_
  rintro e w1 ⟨v,rfl,h1⟩
  rw [hx] at h1
  obtain ⟨_,pv,cv,rfl,hpv⟩:=h1.shape 0 rfl
  obtain ⟨gv,rfl⟩:=hpv.resolve_left (by simp)
  have hlen:[x0,x1,x2,x3,x4,x5,x6,x7,x8].length=9:=rfl
  rw [hlen] at h1 ⊢
  clear h0 hs hx hpv htb hlen
  go_wp2
  have h2:=h1.drew
  have d0:w1.cell? ⟨gv,0,none⟩=some (Value.int .i64 x0):=h1.num 0 rfl 0 (by simp)
  have d1:w1.cell? ⟨gv,1,none⟩=some (Value.int .i64 x1):=h1.num 0 rfl 1 (by simp)
  have d2:w1.cell? ⟨gv,2,none⟩=some (Value.int .i64 x2):=h1.num 0 rfl 2 (by simp)
  have d3:w1.cell? ⟨gv,3,none⟩=some (Value.int .i64 x3):=h1.num 0 rfl 3 (by simp)
  have d4:w1.cell? ⟨gv,4,none⟩=some (Value.int .i64 x4):=h1.num 0 rfl 4 (by simp)
  have d5:w1.cell? ⟨gv,5,none⟩=some (Value.int .i64 x5):=h1.num 0 rfl 5 (by simp)
  have d6:w1.cell? ⟨gv,6,none⟩=some (Value.int .i64 x6):=h1.num 0 rfl 6 (by simp)
  have d7:w1.cell? ⟨gv,7,none⟩=some (Value.int .i64 x7):=h1.num 0 rfl 7 (by simp)
  have d8:w1.cell? ⟨gv,8,none⟩=some (Value.int .i64 x8):=h1.num 0 rfl 8 (by simp)
  have hne:gv≠tb:=h2.swap1.rowNe
  have e0:=h1.cell 2 rfl 0 rfl
  have f0:=h1.free 2 rfl 0
  have e1:=h1.cell 2 rfl 1 rfl
  have f1:=h1.free 2 rfl 1
  have e2:=h1.cell 2 rfl 2 rfl
  have f2:=h1.free 2 rfl 2
  have e3:=h1.cell 2 rfl 3 rfl
  have f3:=h1.free 2 rfl 3
  have e4:=h1.cell 2 rfl 4 rfl
  have f4:=h1.free 2 rfl 4
  have e5:=h1.cell 2 rfl 5 rfl
  have f5:=h1.free 2 rfl 5
  have e6:=h1.cell 2 rfl 6 rfl
  have f6:=h1.free 2 rfl 6
  have e7:=h1.cell 2 rfl 7 rfl
  have f7:=h1.free 2 rfl 7
  have e8:=h1.cell 2 rfl 8 rfl
  have f8:=h1.free 2 rfl 8
  go_region_held3 (fun (w':World)=>w'.cell? ⟨gv,0,none⟩=some (.int .i64 x0)∧w'.cell? ⟨gv,1,none⟩=some (.int .i64 x1)∧w'.cell? ⟨gv,2,none⟩=some (.int .i64 x2)∧w'.cell? ⟨gv,3,none⟩=some (.int .i64 x3)∧w'.cell? ⟨gv,4,none⟩=some (.int .i64 x4)∧w'.cell? ⟨gv,5,none⟩=some (.int .i64 x5)∧w'.cell? ⟨gv,6,none⟩=some (.int .i64 x6)∧w'.cell? ⟨gv,7,none⟩=some (.int .i64 x7)∧w'.cell? ⟨gv,8,none⟩=some (.int .i64 x8))
    (first | (with_reducible assumption) | (with_reducible exact ⟨d0,d1,d2,d3,d4,d5,d6,d7,d8⟩) | (with_reducible exact ⟨far_drew d0,far_drew d1,far_drew d2,far_drew d3,far_drew d4,far_drew d5,far_drew d6,far_drew d7,far_drew d8⟩) | (with_reducible exact ⟨keep9 hne d0,keep9 hne d1,keep9 hne d2,keep9 hne d3,keep9 hne d4,keep9 hne d5,keep9 hne d6,keep9 hne d7,keep9 hne d8⟩))
    (first
      | (go_at_call 119; refine (value_Num _ (by first | exact HU.out.1 | exact HU.out.2.1 | exact HU.out.2.2.1 | exact HU.out.2.2.2.1) _).mono ?_; rintro e w' ⟨rfl,rfl⟩)
      | (go_at_call 114; refine (value_At _ (by first | exact HU.out.2.2.2.2.1 | exact HU.out.2.2.2.2.2.1 | exact HU.out.2.2.2.2.2.2.1 | exact HU.out.2.2.2.2.2.2.2.1 | exact HU.out.2.2.2.2.2.2.2.2) _).mono ?_; rintro e w' ⟨rfl,rfl⟩))
  rename_i hH
  have hf:=(((((((((h1.pick2.set 0 (.int .i64 (vNum x0))).set 1 (.int .i64 (vNum x1))).set 2 (.int .i64 (vNum x2))).set 3 (.int .i64 (vNum x3))).set 4 (.int .i64 (vAt x4))).set 5 (.int .i64 (vAt x5))).set 6 (.int .i64 (vAt x6))).set 7 (.int .i64 (vAt x7))).set 8 (.int .i64 (vAt x8))).drop.drop.drew
  clear hH h2 d0 d1 d2 d3 d4 d5 d6 d7 d8 hne
  go_wp2
  (try simp only [Exit.inBlock,Exit.then])
  refine bodyPost_ret (v:=.tuple #[chV ⟨vNum x0,vNum x1,vNum x2,vNum x3,vAt x4,vAt x5,vAt x6,vAt x7,vAt x8⟩,.int .i64 0]) (by rw [results_cell_tmp rfl]; go_simp; rfl) rfl ?_
  refine ⟨by rw [HX.out]; rfl,?_⟩
  exact hf
set_option maxRecDepth 100000 in
set_option maxHeartbeats 4000000 in
theorem v_Chan_no (hs:St w0 F0 (HeapP b ab h::ps) w) {p:Int} (hp:¬ Is h.a p 1 9) :
    Calls Tryz.prog 25 #[.pointer (some ⟨b,0,none⟩),.int .i64 p] w fun e w'=>e=.returned (.tuple #[chV ch0,.int .i64 10])∧St w0 F0 (HeapP b ab h::ps) w':=by
  obtain ⟨tb,htb⟩:∃ tb,w.heap.size=tb:=⟨_,rfl⟩
  have h0:=hs.new #[.int .i64 0,.int .i64 0,.int .i64 0,.int .i64 0,.int .i64 0,.int .i64 0,.int .i64 0,.int .i64 0,.int .i64 0] 23
  rw [htb] at h0
  go_enter Tryz.func25,Tryz.ntmps25
  go_wp2_with fail
  refine (v_seen_no need_ch h0.pick1 hp).mono ?_
  rintro e w1 ⟨rfl,h2⟩
  have e0:=h2.cell 1 rfl 0 rfl
  have f0:=h2.free 1 rfl 0
  have e1:=h2.cell 1 rfl 1 rfl
  have f1:=h2.free 1 rfl 1
  have e2:=h2.cell 1 rfl 2 rfl
  have f2:=h2.free 1 rfl 2
  have e3:=h2.cell 1 rfl 3 rfl
  have f3:=h2.free 1 rfl 3
  have e4:=h2.cell 1 rfl 4 rfl
  have f4:=h2.free 1 rfl 4
  have e5:=h2.cell 1 rfl 5 rfl
  have f5:=h2.free 1 rfl 5
  have e6:=h2.cell 1 rfl 6 rfl
  have f6:=h2.free 1 rfl 6
  have e7:=h2.cell 1 rfl 7 rfl
  have f7:=h2.free 1 rfl 7
  have e8:=h2.cell 1 rfl 8 rfl
  have f8:=h2.free 1 rfl 8
  have hf:=(((((((((h2.pick1.set 0 (.int .i64 0)).set 1 (.int .i64 0)).set 2 (.int .i64 0)).set 3 (.int .i64 0)).set 4 (.int .i64 0)).set 5 (.int .i64 0)).set 6 (.int .i64 0)).set 7 (.int .i64 0)).set 8 (.int .i64 0)).drop
  clear h0 hs hp htb
  go_wp2
  (try simp only [Exit.inBlock,Exit.then])
  refine bodyPost_ret (v:=.tuple #[chV ch0,.int .i64 10]) (by rw [results_cell_tmp rfl]; go_simp; rfl) rfl ?_
  exact ⟨rfl,hf⟩
set_option maxRecDepth 100000 in
set_option maxHeartbeats 4000000 in
theorem v_Sudog (hs:St w0 F0 (HeapP b ab h::ps) w) {p:Int} (hp:Is h.a p 3 7) :
    Calls Tryz.prog 27 #[.pointer (some ⟨b,0,none⟩),.int .i64 p] w fun e w'=>e=.returned (.tuple #[suV (suOf (aWords h.a p)),.int .i64 0])∧St w0 F0 (HeapP b ab h::ps) w':=by
  have hwd:=aWords_wd hs.heapOk.wd p
  obtain ⟨x0,x1,x2,x3,x4,x5,x6,hx⟩:=seven hp.len
  have HP:=Lib.hid hp
  have HX:=Lib.hid hx
  rw [hx] at hwd
  have u0:Wd x0:=hwd _ (by simp)
  have u1:Wd x1:=hwd _ (by simp)
  have u2:Wd x2:=hwd _ (by simp)
  have u3:Wd x3:=hwd _ (by simp)
  have u4:Wd x4:=hwd _ (by simp)
  have u5:Wd x5:=hwd _ (by simp)
  have u6:Wd x6:=hwd _ (by simp)
  have HU:=Lib.hid (And.intro u0 (And.intro u1 (And.intro u2 (And.intro u3 (And.intro u4 (And.intro u5 u6))))))
  obtain ⟨tb,htb⟩:∃ tb,w.heap.size=tb:=⟨_,rfl⟩
  have h0:=hs.new #[.int .i64 0,.int .i64 0,.int .i64 0,.int .i64 0,.int .i64 0,.int .i64 0,.int .i64 0] 25
  rw [htb] at h0
  clear hwd hp u0 u1 u2 u3 u4 u5 u6
  go_enter Tryz.func27,Tryz.ntmps27
  go_wp2_with fail
  refine (v_seen need_su (by omega) h0.pick1 HP.out).mono ?_
  rintro e w1 ⟨v,rfl,h1⟩
  rw [hx] at h1
  obtain ⟨_,pv,cv,rfl,hpv⟩:=h1.shape 0 rfl
  obtain ⟨gv,rfl⟩:=hpv.resolve_left (by simp)
  have hlen:[x0,x1,x2,x3,x4,x5,x6].length=7:=rfl
  rw [hlen] at h1 ⊢
  clear h0 hs hx hpv htb hlen
  go_wp2
  have h2:=h1.drew
  have d0:w1.cell? ⟨gv,0,none⟩=some (Value.int .i64 x0):=h1.num 0 rfl 0 (by simp)
  have d1:w1.cell? ⟨gv,1,none⟩=some (Value.int .i64 x1):=h1.num 0 rfl 1 (by simp)
  have d2:w1.cell? ⟨gv,2,none⟩=some (Value.int .i64 x2):=h1.num 0 rfl 2 (by simp)
  have d3:w1.cell? ⟨gv,3,none⟩=some (Value.int .i64 x3):=h1.num 0 rfl 3 (by simp)
  have d4:w1.cell? ⟨gv,4,none⟩=some (Value.int .i64 x4):=h1.num 0 rfl 4 (by simp)
  have d5:w1.cell? ⟨gv,5,none⟩=some (Value.int .i64 x5):=h1.num 0 rfl 5 (by simp)
  have d6:w1.cell? ⟨gv,6,none⟩=some (Value.int .i64 x6):=h1.num 0 rfl 6 (by simp)
  have hne:gv≠tb:=h2.swap1.rowNe
  have e0:=h1.cell 2 rfl 0 rfl
  have f0:=h1.free 2 rfl 0
  have e1:=h1.cell 2 rfl 1 rfl
  have f1:=h1.free 2 rfl 1
  have e2:=h1.cell 2 rfl 2 rfl
  have f2:=h1.free 2 rfl 2
  have e3:=h1.cell 2 rfl 3 rfl
  have f3:=h1.free 2 rfl 3
  have e4:=h1.cell 2 rfl 4 rfl
  have f4:=h1.free 2 rfl 4
  have e5:=h1.cell 2 rfl 5 rfl
  have f5:=h1.free 2 rfl 5
  have e6:=h1.cell 2 rfl 6 rfl
  have f6:=h1.free 2 rfl 6
  go_region_held3 (fun (w':World)=>w'.cell? ⟨gv,0,none⟩=some (.int .i64 x0)∧w'.cell? ⟨gv,1,none⟩=some (.int .i64 x1)∧w'.cell? ⟨gv,2,none⟩=some (.int .i64 x2)∧w'.cell? ⟨gv,3,none⟩=some (.int .i64 x3)∧w'.cell? ⟨gv,4,none⟩=some (.int .i64 x4)∧w'.cell? ⟨gv,5,none⟩=some (.int .i64 x5)∧w'.cell? ⟨gv,6,none⟩=some (.int .i64 x6))
    (first | (with_reducible assumption) | (with_reducible exact ⟨d0,d1,d2,d3,d4,d5,d6⟩) | (with_reducible exact ⟨far_drew d0,far_drew d1,far_drew d2,far_drew d3,far_drew d4,far_drew d5,far_drew d6⟩) | (with_reducible exact ⟨keep7 hne d0,keep7 hne d1,keep7 hne d2,keep7 hne d3,keep7 hne d4,keep7 hne d5,keep7 hne d6⟩))
    (first
      | (go_at_call 119; refine (value_Num _ (by first | exact HU.out.2.2.2.2.1 | exact HU.out.2.2.2.2.2.1) _).mono ?_; rintro e w' ⟨rfl,rfl⟩)
      | (go_at_call 114; refine (value_At _ (by first | exact HU.out.1 | exact HU.out.2.1 | exact HU.out.2.2.2.1 | exact HU.out.2.2.2.2.2.2) _).mono ?_; rintro e w' ⟨rfl,rfl⟩))
  rename_i hH
  have hf:=(((((((h1.pick2.set 0 (.int .i64 (vAt x0))).set 1 (.int .i64 (vAt x1))).set 2 (.int .i64 (x2))).set 3 (.int .i64 (vAt x3))).set 4 (.int .i64 (vNum x4))).set 5 (.int .i64 (vNum x5))).set 6 (.int .i64 (vAt x6))).drop.drop.drew
  clear hH h2 d0 d1 d2 d3 d4 d5 d6 hne
  go_wp2
  (try simp only [Exit.inBlock,Exit.then])
  refine bodyPost_ret (v:=.tuple #[suV ⟨vAt x0,vAt x1,x2,vAt x3,vNum x4,vNum x5,vAt x6⟩,.int .i64 0]) (by rw [results_cell_tmp rfl]; go_simp; rfl) rfl ?_
  refine ⟨by rw [HX.out]; rfl,?_⟩
  exact hf
set_option maxRecDepth 100000 in
set_option maxHeartbeats 4000000 in
theorem v_Sudog_no (hs:St w0 F0 (HeapP b ab h::ps) w) {p:Int} (hp:¬ Is h.a p 3 7) :
    Calls Tryz.prog 27 #[.pointer (some ⟨b,0,none⟩),.int .i64 p] w fun e w'=>e=.returned (.tuple #[suV su0,.int .i64 10])∧St w0 F0 (HeapP b ab h::ps) w':=by
  obtain ⟨tb,htb⟩:∃ tb,w.heap.size=tb:=⟨_,rfl⟩
  have h0:=hs.new #[.int .i64 0,.int .i64 0,.int .i64 0,.int .i64 0,.int .i64 0,.int .i64 0,.int .i64 0] 25
  rw [htb] at h0
  go_enter Tryz.func27,Tryz.ntmps27
  go_wp2_with fail
  refine (v_seen_no need_su h0.pick1 hp).mono ?_
  rintro e w1 ⟨rfl,h2⟩
  have e0:=h2.cell 1 rfl 0 rfl
  have f0:=h2.free 1 rfl 0
  have e1:=h2.cell 1 rfl 1 rfl
  have f1:=h2.free 1 rfl 1
  have e2:=h2.cell 1 rfl 2 rfl
  have f2:=h2.free 1 rfl 2
  have e3:=h2.cell 1 rfl 3 rfl
  have f3:=h2.free 1 rfl 3
  have e4:=h2.cell 1 rfl 4 rfl
  have f4:=h2.free 1 rfl 4
  have e5:=h2.cell 1 rfl 5 rfl
  have f5:=h2.free 1 rfl 5
  have e6:=h2.cell 1 rfl 6 rfl
  have f6:=h2.free 1 rfl 6
  have hf:=(((((((h2.pick1.set 0 (.int .i64 0)).set 1 (.int .i64 0)).set 2 (.int .i64 0)).set 3 (.int .i64 0)).set 4 (.int .i64 0)).set 5 (.int .i64 0)).set 6 (.int .i64 0)).drop
  clear h0 hs hp htb
  go_wp2
  (try simp only [Exit.inBlock,Exit.then])
  refine bodyPost_ret (v:=.tuple #[suV su0,.int .i64 10]) (by rw [results_cell_tmp rfl]; go_simp; rfl) rfl ?_
  exact ⟨rfl,hf⟩
end
end Go.Proofs.YtffnjpapggidlaaGreat
