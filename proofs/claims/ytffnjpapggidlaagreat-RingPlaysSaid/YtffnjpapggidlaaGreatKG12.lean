/- G12 OrdL2 Row12 Idle Same11 -/
import Derived.Test.YtffnjpapggidlaaGreatKG12b
import Derived.Test.YtffnjpapggidlaaGreatKGView
import Derived.Test.YtffnjpapggidlaaGreatKOrdersL
import Derived.Test.YtffnjpapggidlaaGreatKAppM
import Derived.Test.YtffnjpapggidlaaGreatKEv2
import Derived.Test.YtffnjpapggidlaaGreatKPrimV
import Derived.Test.YtffnjpapggidlaaGreatKGRef11
import Derived.Deep.LoopGhost
import Derived.KernelRfl
namespace Go.Proofs.YtffnjpapggidlaaGreat
open Go.RowKit
set_option linter.unusedVariables false
def law12_awake.j1 (y120:Bool):Option (Bool):=some (y120)
def law12_awake.m (k:Nat):Option (Bool):=bind4 (law12_made.m k [1] 1) fun s7 s8 L9 L10=>bind3 (law12_ch.m k s7 s8 L9 L10 0) fun x50 s51 s52=>bind2 (ring_Put.m k s51 x50 7) fun x60 s61=>bind3 (law12_ch.m k s61 s52 L9 L10 0) fun x74 s75 s76=>bind2 (ring_Put.m k s75 x74 8) fun x84 s85=>bind3 (law12_ch.m k s85 s76 L9 L10 0) fun x98 s99 s100=>bind3 (ring_Take.m k s99 x98) fun x108 x109 s110=>(if (x60 == 0) then (if (x84 == 9) then (if (x109 == 0) then law12_awake.j1 (x108 == 7) else law12_awake.j1 false) else law12_awake.j1 false) else law12_awake.j1 false)
set_option maxRecDepth 100000 in
set_option maxHeartbeats 1500000 in
theorem law12_awake.ok {w0 w:World} {F0:List Nat} {ps:List Piece} {k:Nat}  {r0:Bool} (hS:St w0 F0 (ps) w) (hm:law12_awake.m k=some r0) :
    Calls Tryz.prog 54 #[] w fun e w'=>e=.returned (.bool r0)∧St w0 F0 (ps) w':=by
 refine ev_enterL 48 [] Tryz.func54 rfl rfl (by simp) ?_
 intro a hF
 have hF0:Fr 48 a []:=hF; clear hF
 unfold law12_awake.m at hm
 refine wp_seq (wp_region_lit ?_)
 refine ev_runK 1 hF0 [] (l':=[]) (w':=w) (by kernel_rfl) ?_
 intro a2 hF1; clear hF0
 refine wpList_nil (thenN (wp_seq (wp_region_lit ?_)))
 refine ev_runs 1 hF1 (l':=[(6,.slice (some ⟨w.heap.size,0,none⟩) 1 1)]) (w':=w.alloc (.cells #[nI 1] 3)) (by kernel_rfl) ?_
 intro a4 hF3; clear hF1
 have hS6:St w0 F0 (RowP (.slice (some ⟨w.heap.size,0,none⟩) 1 1) [1]::ps) (w.alloc (.cells #[nI 1] 3)):=St.lit hS [1] (by unfold maxLen; simp)
 refine ev_call 53 #[.slice (some ⟨w.heap.size,0,none⟩) 1 1,nI 1] hF3 rfl rfl (by kernel_rfl) rfl (by kernel_rfl) (fun w=>by kernel_rfl) ?_
 obtain ⟨s7,s8,L9,L10,hx11,hm12⟩:=bind4E hm; clear hm
 refine (law12_made.ok hS6 hx11).mono ?_
 rintro _ w13 ⟨z17,z18,z19,z20,z21,z22,z23,z24,z25,z26,rfl,hS15⟩ a14 hF16; clear hF3 hS6
 have hS32:St w0 F0 (RowP (.slice (some ⟨w.heap.size,0,none⟩) 1 1) [1]::BlkP z17 95 #[nP z18 0,nP z20 0,z25,z26]::HeapP z18 z19 s7::RHeapP z20 z21 z22 z23 z24 s8::RowP (z25) L9::RowP (z26) L10::ps) w13:=hS15
 clear hS15
 obtain ⟨hl36,p33,c34,rfl,hp35⟩:=St.shape hS32 4 rfl
 obtain ⟨hl40,p37,c38,rfl,hp39⟩:=St.shape hS32 5 rfl
 refine ev_runK 1 hF16 [1] (l':=[(1,nP z17 0)]) (w':=w13) (by kernel_rfl) ?_
 intro a42 hF41; clear hF16
 refine wpList_nil ?_
 have hS43:=hS32.drop
 clear hS32
 refine thenN (wp_seq (wp_seq (wp_region_lit ?_)))
 refine ev_runK 2 hF41 [1,9] (l':=[(9,.bool false),(1,nP z17 0)]) (w':=w13) (by kernel_rfl) ?_
 intro a45 hF44; clear hF41
 refine wpList_nil (thenN ?_)
 refine ev_condF hF44 rfl rfl ?_
 refine wp_skip ?_
 have hF46:=hF44.keep [1]
 clear hF44
 refine thenN (wp_seq ?_)
 have hS47:=hS43.drew; clear hS43
 refine any_start (fun wS=>∃ qs,St w0 F0 (BlkP z17 95 #[nP z18 0,nP z20 0,.slice p33 L9.length c34,.slice p37 L10.length c38]::qs) wS) 8 #[false,false,false,false,false,false,false,false] (by kernel_rfl) (by kernel_rfl) (by kernel_rfl) ?_
 refine any_many 5 [(0,some (nP z17 0)),(1,some (nP z17 0)),(2,some (nP z17 0)),(3,some (nP z18 0)),(4,some (nP z17 0))] [1,2,13,14,15,16] #[true,true,true,true,true,false,false,false] (by rfl) hF46 (by kernel_rfl) (by kernel_rfl) (by exact ⟨fun wS hw=>by kernel_rfl,fun wS hw=>by kernel_rfl,fun wS hw=>by kernel_rfl,fun wS hw=>hw.elim fun qs hw=>run_loadV rfl rfl (run_loadS rfl rfl (hw.cell 0 rfl 0 rfl)),fun wS hw=>by kernel_rfl,trivial⟩) (fun _ _ _ _ _ h=>h) ⟨_,hS47⟩ (l':=[(14,nP z17 0),(13,nP z18 0),(1,nP z17 0)]) (by kernel_rfl) ?_
 intro a49 hF48; clear hF46
 refine any_call 5 #[true,true,true,true,true,true,false,false] 55 #[nP z17 0,nI 0] hF48 rfl (by kernel_rfl) rfl rfl (by kernel_rfl) rfl (by kernel_rfl) (fun w=>by kernel_rfl) (by kernel_rfl) ?_
 obtain ⟨x50,s51,s52,hx53,hm54⟩:=bind3E hm12; clear hm12
 refine (law12_ch.ok hS47 hx53).mono ?_
 rintro _ w55 ⟨rfl,hS57⟩; clear hS47
 refine ⟨⟨_,hS57⟩,?_⟩
 intro a56 hF58; clear hF48
 have hS59:=hS57.pick1
 clear hS57
 refine any_call 6 #[true,true,true,true,true,true,true,false] 61 #[nP z18 0,nI x50,nI 7] hF58 rfl (by kernel_rfl) rfl rfl (by kernel_rfl) rfl (by kernel_rfl) (fun w=>by kernel_rfl) (by kernel_rfl) ?_
 obtain ⟨x60,s61,hx62,hm63⟩:=bind2E hm54; clear hm54
 refine (ring_Put.ok hS59 hx62).mono ?_
 rintro _ w64 ⟨rfl,hS66⟩; clear hS59
 refine ⟨⟨_,hS66.pick1⟩,?_⟩
 intro a65 hF67; clear hF58
 refine any_many 1 [(7,some (nI x60))] [1,2] #[true,true,true,true,true,true,true,true] (by rfl) hF67 (by kernel_rfl) (by kernel_rfl) (by exact ⟨fun wS hw=>by kernel_rfl,trivial⟩) (fun _ _ _ _ _ h=>h) ⟨_,hS66.pick1⟩ (l':=[(2,nI x60),(1,nP z17 0)]) (by kernel_rfl) ?_
 intro a69 hF68; clear hF67
 refine any_done (by kernel_rfl) ?_
 refine thenN (wp_seq ?_)
 have hS70:=hS66.pick1
 clear hS66
 have hS71:=hS70.drew; clear hS70
 refine any_start (fun wS=>∃ qs,St w0 F0 (BlkP z17 95 #[nP z18 0,nP z20 0,.slice p33 L9.length c34,.slice p37 L10.length c38]::qs) wS) 8 #[false,false,false,false,false,false,false,false] (by kernel_rfl) (by kernel_rfl) (by kernel_rfl) ?_
 refine any_many 5 [(0,some (nP z17 0)),(1,some (nP z17 0)),(2,some (nP z17 0)),(3,some (nP z18 0)),(4,some (nP z17 0))] [1,2,3,20,21,22,23] #[true,true,true,true,true,false,false,false] (by rfl) hF68 (by kernel_rfl) (by kernel_rfl) (by exact ⟨fun wS hw=>by kernel_rfl,fun wS hw=>by kernel_rfl,fun wS hw=>by kernel_rfl,fun wS hw=>hw.elim fun qs hw=>run_loadV rfl rfl (run_loadS rfl rfl (hw.cell 0 rfl 0 rfl)),fun wS hw=>by kernel_rfl,trivial⟩) (fun _ _ _ _ _ h=>h) ⟨_,hS71⟩ (l':=[(21,nP z17 0),(20,nP z18 0),(2,nI x60),(1,nP z17 0)]) (by kernel_rfl) ?_
 intro a73 hF72; clear hF68
 refine any_call 5 #[true,true,true,true,true,true,false,false] 55 #[nP z17 0,nI 0] hF72 rfl (by kernel_rfl) rfl rfl (by kernel_rfl) rfl (by kernel_rfl) (fun w=>by kernel_rfl) (by kernel_rfl) ?_
 obtain ⟨x74,s75,s76,hx77,hm78⟩:=bind3E hm63; clear hm63
 refine (law12_ch.ok hS71 hx77).mono ?_
 rintro _ w79 ⟨rfl,hS81⟩; clear hS71
 refine ⟨⟨_,hS81⟩,?_⟩
 intro a80 hF82; clear hF72
 have hS83:=hS81.pick1
 clear hS81
 refine any_call 6 #[true,true,true,true,true,true,true,false] 61 #[nP z18 0,nI x74,nI 8] hF82 rfl (by kernel_rfl) rfl rfl (by kernel_rfl) rfl (by kernel_rfl) (fun w=>by kernel_rfl) (by kernel_rfl) ?_
 obtain ⟨x84,s85,hx86,hm87⟩:=bind2E hm78; clear hm78
 refine (ring_Put.ok hS83 hx86).mono ?_
 rintro _ w88 ⟨rfl,hS90⟩; clear hS83
 refine ⟨⟨_,hS90.pick1⟩,?_⟩
 intro a89 hF91; clear hF82
 refine any_many 1 [(7,some (nI x84))] [1,2,3] #[true,true,true,true,true,true,true,true] (by rfl) hF91 (by kernel_rfl) (by kernel_rfl) (by exact ⟨fun wS hw=>by kernel_rfl,trivial⟩) (fun _ _ _ _ _ h=>h) ⟨_,hS90.pick1⟩ (l':=[(3,nI x84),(2,nI x60),(1,nP z17 0)]) (by kernel_rfl) ?_
 intro a93 hF92; clear hF91
 refine any_done (by kernel_rfl) ?_
 refine thenN (wp_seq ?_)
 have hS94:=hS90.pick1
 clear hS90
 have hS95:=hS94.drew; clear hS94
 refine any_start (fun wS=>∃ qs,St w0 F0 (BlkP z17 95 #[nP z18 0,nP z20 0,.slice p33 L9.length c34,.slice p37 L10.length c38]::qs) wS) 12 #[false,false,false,false,false,false,false,false,false,false,false,false] (by kernel_rfl) (by kernel_rfl) (by kernel_rfl) ?_
 refine any_many 5 [(0,some (nP z17 0)),(1,some (nP z17 0)),(2,some (nP z17 0)),(3,some (nP z18 0)),(4,some (nP z17 0))] [2,3,4,5,24,28,29,30,31,32,33] #[true,true,true,true,true,false,false,false,false,false,false,false] (by rfl) hF92 (by kernel_rfl) (by kernel_rfl) (by exact ⟨fun wS hw=>by kernel_rfl,fun wS hw=>by kernel_rfl,fun wS hw=>by kernel_rfl,fun wS hw=>hw.elim fun qs hw=>run_loadV rfl rfl (run_loadS rfl rfl (hw.cell 0 rfl 0 rfl)),fun wS hw=>by kernel_rfl,trivial⟩) (fun _ _ _ _ _ h=>h) ⟨_,hS95⟩ (l':=[(29,nP z17 0),(28,nP z18 0),(3,nI x84),(2,nI x60)]) (by kernel_rfl) ?_
 intro a97 hF96; clear hF92
 refine any_call 5 #[true,true,true,true,true,true,false,false,false,false,false,false] 55 #[nP z17 0,nI 0] hF96 rfl (by kernel_rfl) rfl rfl (by kernel_rfl) rfl (by kernel_rfl) (fun w=>by kernel_rfl) (by kernel_rfl) ?_
 obtain ⟨x98,s99,s100,hx101,hm102⟩:=bind3E hm87; clear hm87
 refine (law12_ch.ok hS95 hx101).mono ?_
 rintro _ w103 ⟨rfl,hS105⟩; clear hS95
 refine ⟨⟨_,hS105⟩,?_⟩
 intro a104 hF106; clear hF96
 have hS107:=hS105.pick1
 clear hS105
 refine any_call 6 #[true,true,true,true,true,true,true,false,false,false,false,false] 56 #[nP z18 0,nI x98] hF106 rfl (by kernel_rfl) rfl rfl (by kernel_rfl) rfl (by kernel_rfl) (fun w=>by kernel_rfl) (by kernel_rfl) ?_
 obtain ⟨x108,x109,s110,hx111,hm112⟩:=bind3E hm102; clear hm102
 refine (ring_Take.ok hS107 hx111).mono ?_
 rintro _ w113 ⟨rfl,hS115⟩; clear hS107
 refine ⟨⟨_,hS115.pick1⟩,?_⟩
 intro a114 hF116; clear hF106
 refine any_many 5 [(7,some (.tuple #[nI x108,nI x109])),(8,some (nI x108)),(9,some (nI x109)),(10,some (nI x108)),(11,some (nI x109))] [2,3,4,5] #[true,true,true,true,true,true,true,true,true,true,true,true] (by rfl) hF116 (by kernel_rfl) (by kernel_rfl) (by exact ⟨fun wS hw=>by kernel_rfl,fun wS hw=>by kernel_rfl,fun wS hw=>by kernel_rfl,fun wS hw=>by kernel_rfl,fun wS hw=>by kernel_rfl,trivial⟩) (fun _ _ _ _ _ h=>h) ⟨_,hS115.pick1⟩ (l':=[(5,nI x109),(4,nI x108),(3,nI x84),(2,nI x60)]) (by kernel_rfl) ?_
 intro a118 hF117; clear hF116
 refine any_done (by kernel_rfl) ?_
 have hS119:=hS115.drop.drop.drop.drop.drop
 clear hS115
 refine thenN (wp_seq ?_)
 refine joinQ (fun aI wI=>∃ (y120:Bool),Fr 48 aI [(0,.bool (y120))]∧St w0 F0 (ps) wI∧law12_awake.j1 y120=some r0) ?_ ?_
 rotate_left
 · rintro a122 w123 ⟨y120,hF124,hS125,hm126⟩
   clear hF117 hS119 hm112
   unfold law12_awake.j1 at hm126
   refine thenN ?_
   refine wp_ret ?_
   obtain rfl:=Option.some.inj hm126
   refine ev_ret hF124 [0] (.bool (y120)) rfl rfl rfl ?_
   exact ⟨rfl,hS125⟩
 · skip
   refine wp_region_lit ?_
   refine ev_runs 3 hF117 (l':=[(36,.bool (x60 == 0)),(35,.bool (x60 == 0)),(34,nI x60),(5,nI x109),(4,nI x108),(3,nI x84),(2,nI x60)]) (w':=w113) (by kernel_rfl) ?_
   intro a130 hF129; clear hF117
   cases hc131:(x60 == 0)
   case true =>
    rw [hc131] at hF129
    have hm132:=ifYes hc131 hm112; clear hm112
    refine ev_runs 4 hF129 (l':=[(40,.bool (x84 == 9)),(39,.bool (x84 == 9)),(38,.bool (x84 == 9)),(37,nI x84),(36,.bool true),(35,.bool true),(34,nI x60),(5,nI x109),(4,nI x108),(3,nI x84),(2,nI x60)]) (w':=w113) (by kernel_rfl) ?_
    intro a134 hF133; clear hF129
    cases hc135:(x84 == 9)
    case true =>
     rw [hc135] at hF133
     have hm136:=ifYes hc135 hm132; clear hm132
     refine ev_runs 4 hF133 (l':=[(44,.bool (x109 == 0)),(43,.bool (x109 == 0)),(42,.bool (x109 == 0)),(41,nI x109),(40,.bool true),(39,.bool true),(38,.bool true),(37,nI x84),(36,.bool true),(35,.bool true),(34,nI x60),(5,nI x109),(4,nI x108),(3,nI x84),(2,nI x60)]) (w':=w113) (by kernel_rfl) ?_
     intro a138 hF137; clear hF133
     cases hc139:(x109 == 0)
     case true =>
      rw [hc139] at hF137
      have hm140:=ifYes hc139 hm136; clear hm136
      refine ev_runK 4 hF137 [0] (l':=[(0,.bool (x108 == 7))]) (w':=w113) (by kernel_rfl) ?_
      intro a142 hF141; clear hF137
      refine wpList_nil ?_
      exact thenN ⟨x108 == 7,hF141,hS119,hm140⟩
     rw [hc139] at hF137
     have hm143:=ifNot hc139 hm136; clear hm136
     refine ev_runK 4 hF137 [0] (l':=[(0,.bool false)]) (w':=w113) (by kernel_rfl) ?_
     intro a145 hF144; clear hF137
     refine wpList_nil ?_
     exact thenN ⟨false,hF144,hS119,hm143⟩
    rw [hc135] at hF133
    have hm146:=ifNot hc135 hm132; clear hm132
    refine ev_runK 8 hF133 [0] (l':=[(0,.bool false)]) (w':=w113) (by kernel_rfl) ?_
    intro a148 hF147; clear hF133
    refine wpList_nil ?_
    exact thenN ⟨false,hF147,hS119,hm146⟩
   rw [hc131] at hF129
   have hm149:=ifNot hc131 hm112; clear hm112
   refine ev_runK 12 hF129 [0] (l':=[(0,.bool false)]) (w':=w113) (by kernel_rfl) ?_
   intro a151 hF150; clear hF129
   refine wpList_nil ?_
   exact thenN ⟨false,hF150,hS119,hm149⟩
end Go.Proofs.YtffnjpapggidlaaGreat
namespace Go.Proofs.YtffnjpapggidlaaGreat
open Go.RowKit
set_option linter.unusedVariables false
set_option linter.unusedSimpArgs false
def SL (t:Nat) (S0:World→Prop):Array Bool→World→Prop:=fun L w=>L.getD t false=false→S0 w
section
variable {P:Program} {ops:Array Oper} {Q:Exit→Act→World→Prop} {n:Nat} {a:Act} {l l':Asc} {w w':World} {S0:World→Prop} {listed:Array Bool} {fuel:Nat}
theorem anyL_start {id:Nat} {os:List Oper} (t:Nat) (S0:World→Prop) (sz:Nat) (ls:Array Bool) (hsz:os.toArray.size=sz) (hl:Array.replicate os.toArray.size false=ls) (hm:P.follows .mixedOrders=true) (h:wpAnyL P .any os.toArray Q (SL t S0) sz ls a w.drew):(Code.region id os.toArray true).wp P Q a w :=
  wp_region_L (SL t S0) hm (by rw [hl,hsz]; exact h)
theorem sl_set {i t:Nat} (hit:Nat.beq i t=false) (L:Array Bool) (w:World):SL t S0 (L.setIfInBounds i true) w ↔ SL t S0 L w:=by
  have hne:i≠t:=fun e=>by rw [e,Nat.beq_refl] at hit; cases hit
  unfold SL
  rw [show (L.setIfInBounds i true).getD t false=L.getD t false by rw [Array.getD_eq_getD_getElem?,Array.getD_eq_getD_getElem?,Array.getElem?_setIfInBounds_ne hne]]
theorem anyL_take (t i:Nat) (ls:Array Bool) {o:Oper} (v:Value) (hF:Fr n a l) (hi:ops[i]?=some o) (h1:gdO ops o l=some true) (h2:notSel o.op=true) (h3:o.op.operands.toList.all (hasO l)=true)
    (h4:∀ w,S0 w→(execOp (lk l) o).run P w=.ok (.value v) w) (hp:putO n o v l=some l')
    (hs:Region.noSelect ops=true) (hf:Region.free .any ops listed i=true) (hr:(Region.ready .any ops listed).contains i=true) (hw:((waiters .any ops i).all fun j=>!listed.getD j false)=true) (hk:(waiters .any ops i).contains t=true) (hit:Nat.beq i t=false)
    (hQ:∀ c a w,Q (.panic c) (a.put o.dst v) w→Q (.panic c) a w) (hS:S0 w) (hl:listed.setIfInBounds i true=ls)
    (hK:∀ a',Fr n a' l'→wpAnyL P .any ops Q (SL t S0) fuel ls a' w):wpAnyL P .any ops Q (SL t S0) (fuel+1) listed a w :=
  wpAnyL_load v S0 t hi hs hf hr hw hk hQ (fun L w h hS=>hS h) (fun L w=>sl_set hit L w) (fun _=>hS) (gdO_wanted hF h1) (fun w hw=>by rw [exec_same hF h2 h3]; exact h4 w hw) (by rw [hl]; exact hK _ (putO_fr hF hp))
theorem anyL_done {S:Array Bool→World→Prop} (hr:Region.ready .any ops listed=[]) (h:Q .normal a w):wpAnyL P .any ops Q S fuel listed a w:=wpAnyL_done hr h fuel
theorem anyL_pure (t i:Nat) (ls:Array Bool) {o:Oper} (v:Value) (hF:Fr n a l) (hi:ops[i]?=some o) (h1:gdO ops o l=some true) (h2:notSel o.op=true) (h3:o.op.operands.toList.all (hasO l)=true)
    (h4:∀ w,(execOp (lk l) o).run P w=.ok (.value v) w) (hp:putO n o v l=some l')
    (hs:Region.noSelect ops=true) (hf:Region.free .any ops listed i=true) (hr:(Region.ready .any ops listed).contains i=true) (hw:((waiters .any ops i).all fun j=>!listed.getD j false)=true) (hit:Nat.beq i t=false)
    (hQ:∀ c a w,Q (.panic c) (a.put o.dst v) w→Q (.panic c) a w) (hS:S0 w) (hl:listed.setIfInBounds i true=ls)
    (hK:∀ a',Fr n a' l'→wpAnyL P .any ops Q (SL t S0) fuel ls a' w):wpAnyL P .any ops Q (SL t S0) (fuel+1) listed a w :=
  wpAnyL_pure v hi hs hf hr hw hQ (fun L w=>sl_set hit L w) (fun _=>hS) (gdO_wanted hF h1) (fun w=>by rw [exec_same hF h2 h3]; exact h4 w) (by rw [hl]; exact hK _ (putO_fr hF hp))
theorem anyL_after (t i:Nat) (ls:Array Bool) {o:Oper} (v:Value) (hF:Fr n a l) (hi:ops[i]?=some o) (h1:gdO ops o l=some true) (h2:notSel o.op=true) (h3:o.op.operands.toList.all (hasO l)=true)
    (h4:∀ w,(execOp (lk l) o).run P w=.ok (.value v) w) (hp:putO n o v l=some l')
    (hs:Region.noSelect ops=true) (hf:Region.free .any ops listed i=true) (hr:(Region.ready .any ops listed).contains i=true) (hw:((waiters .any ops i).all fun j=>!listed.getD j false)=true) (hit:Nat.beq i t=false)
    (hQ:∀ c a w,Q (.panic c) (a.put o.dst v) w→Q (.panic c) a w) (ht:listed.getD t false=true) (hl:listed.setIfInBounds i true=ls)
    (hK:∀ a',Fr n a' l'→wpAnyL P .any ops Q (SL t S0) fuel ls a' w):wpAnyL P .any ops Q (SL t S0) (fuel+1) listed a w :=
  wpAnyL_pure v hi hs hf hr hw hQ (fun L w=>sl_set hit L w) (fun h=>by rw [ht] at h; cases h) (gdO_wanted hF h1) (fun w=>by rw [exec_same hF h2 h3]; exact h4 w) (by rw [hl]; exact hK _ (putO_fr hF hp))
theorem anyL_store {w0:World} {F0:List Nat} {ps:List Piece} {g off:Nat} {T:TypeId} {cs:Array Value} {o:Oper} {tt:TypeId} {x y:Operand} (t i:Nat) (ls:Array Bool) (v:Value) (cs':Array Value) (h:Fr n a l) (hi:ops[i]?=some o) (hr:Region.ready .any ops listed=[i]) (h1:gdO ops o l=some true) (h2:o.op=.store tt x y) (h3:(hasO l x && hasO l y)=true)
    (hx:lk l x=.pointer (some ⟨g,off,none⟩)) (hy:lk l y=v) (hs:(P.info? tt).map (·.size)=some v.cells.size) (hS:St w0 F0 (BlkP g T cs::ps) w) (hb:Nat.ble (off+v.cells.size) cs.size=true) (hf:v.cells.toList.all flatV=true) (he:setL cs off v.cells.toList=cs') (hp:putO n o undef l=some l') (hl:listed.setIfInBounds i true=ls) (ht:ls.getD t false=true)
    (hK:∀ w' a',St w0 F0 (BlkP g T cs'::ps) w'→Fr n a' l'→wpAnyL P .any ops Q (SL t S0) fuel ls a' w'):wpAnyL P .any ops Q (SL t S0) (fuel+1) listed a w:=by
  subst hl
  refine wpAnyL_all hr (by simp) ?_
  intro j hj
  simp only [List.mem_singleton] at hj
  subst hj
  refine wpOp_of_list hi (ev_store v cs' h h1 h2 h3 hx hy hs hS hb hf he hp fun w' a' h4 h5=>?_)
  refine ⟨fun h6=>?_,hK w' a' h4 h5⟩
  rw [ht] at h6; cases h6
end
end Go.Proofs.YtffnjpapggidlaaGreat
namespace Go.Proofs.YtffnjpapggidlaaGreat
open Go.RowKit
structure Op12 where
  kind:Int
  ch:Int
  w:Int
def kOp12:RowK Op12 where
  T:=92
  m:=3
  bt:=24
  z:=.agg #[.int .i64 0,.int .i64 0,.int .i64 0]
  cl x:=[.int .i64 x.kind,.int .i64 x.ch,.int .i64 x.w]
  d:=⟨0,0,0⟩
  len _:=rfl
  one x u hu:=by simp at hu; rcases hu with rfl | rfl | rfl <;> rfl
  flat _:=rfl
  info:=by kernel_rfl
  zc:=rfl
  pos:=by decide
  sm:=by decide
end Go.Proofs.YtffnjpapggidlaaGreat
namespace Go.Proofs.YtffnjpapggidlaaGreat
open Go.RowKit
theorem bind1_some {α R:Type} (x:α) (f:α→Option R):bind1 (some x) f=f x:=rfl
theorem bind2_some {α β R:Type} (x:α) (y:β) (f:α→β→Option R):bind2 (some (x,y)) f=f x y:=rfl
theorem bind3_some {α β γ R:Type} (x:α) (y:β) (z:γ) (f:α→β→γ→Option R):bind3 (some (x,y,z)) f=f x y z:=rfl
end Go.Proofs.YtffnjpapggidlaaGreat
namespace Go.Proofs.YtffnjpapggidlaaGreat
open Go.RowKit
set_option linter.unusedVariables false
set_option linter.unusedSimpArgs false
theorem wr_s (x:Int) (h:0≤x) (h2:x<1000000):IntKind.i64.wrap x=x:=by rw [IntKind.wrap_i64]; omega
theorem wd_true {x:Int} (h:Wd x):wdB x=true:=by unfold wdB; unfold Wd at h; simp; omega
theorem dbl (a:Int):wrap64 (a * 2)=vI a:=by unfold vI; rw [Int.mul_comm]
theorem rptr_m (k:Nat) (a:Int):ref11_ptr.m k a=some (vP a):=by
  unfold ref11_ptr.m vP
  by_cases h:a<0
  · rw [if_pos (by simpa using h),if_pos h,show wrap64 (0 * 2)=0 by unfold wrap64; omega]
  · rw [if_neg (by simpa using h),if_neg h,Int.mul_comm]
theorem rnumber_m (k:Nat) {x:Int} (h:Wd x):ref11_number.m k x=some (vNum x):=by
  unfold ref11_number.m pNum; rw [if_pos (wd_true h)]; rfl
theorem rplace_m (k:Nat) {x:Int} (h:Wd x):ref11_place.m k x=some (vAt x):=by
  unfold ref11_place.m pAt; rw [if_pos (wd_true h)]; rfl
theorem rwords_l1 {s:HSt} {p kind:Int} {n:Nat} (hn:rNeed kind 0=n) (hl:(aWords s.a p).length=n) (h31:n≤31):∀ m j:Nat,j≤n→n - j<m→ref11_words.l2 s p kind m ((aWords s.a p).take j) (j:Int)=some (aWords s.a p,0,s):=by
  intro m
  induction m with
  | zero=>intro j _ h; omega
  | succ m ih =>
    intro j hj hm
    show ref11_words.l2b s p kind (ref11_words.l2 s p kind m) _ _=_
    unfold ref11_words.l2b
    rw [hn]
    by_cases hlt:j<n
    · rw [if_pos (by rw [decide_eq_true_eq]; omega)]
      obtain ⟨_,e2⟩:=word_at (s:=s.a) (p:=p) (j:=j) (by omega)
      unfold bind2 pLoad
      simp only [Option.bind_some]
      rw [e2]
      unfold bind1 pushM
      rw [if_pos (by rw [List.length_take]; omega)]
      simp only [Option.bind_some]
      rw [← List.take_succ_eq_append_getElem (by omega),wr_s _ (by omega) (by omega)]
      exact ih (j+1) (by omega) (by omega)
    · rw [if_neg (by rw [decide_eq_true_eq]; omega),show j=n by omega,List.take_of_length_le (by omega)]
def isW (s:HSt) (p kind:Int) (n:Nat):List Int:=if Is s.a p kind n then aWords s.a p else []
def isE (s:HSt) (p kind:Int) (n:Nat):Int:=if Is s.a p kind n then 0 else 10
theorem rwords_m {s:HSt} {p kind:Int} {n:Nat} (hn:rNeed kind 0=n) (h31:n≤31) {k:Nat} (hk:40≤k):ref11_words.m k s p kind=some (isW s p kind n,isE s p kind n,s):=by
  unfold ref11_words.m isW isE
  by_cases h1:aKind s.a.c p=kind
  · rw [if_neg (by simpa using h1),hn]
    unfold ref11_words.j1
    by_cases h2:aLen s.a.c p=n
    · have hi:Is s.a p kind n:=⟨h1,h2⟩
      rw [if_neg (by simpa using h2),if_pos hi,if_pos hi]
      have:=rwords_l1 hn hi.len h31 k 0 (by omega) (by omega)
      simpa using this
    · rw [if_pos (by simpa using h2),if_neg (fun h=>h2 h.2),if_neg (fun h=>h2 h.2)]
  · rw [if_pos (by simpa using h1),if_neg (fun h=>h1 h.1),if_neg (fun h=>h1 h.1)]
    rfl
theorem atI_nat {L:List Int} {j:Nat} (h:j<L.length):atI L (j:Int)=L[j]:=by unfold atI; rw [List.getD_eq_getElem?_getD,Int.toNat_natCast,List.getElem?_eq_getElem h]; rfl
theorem inR_nat {j n:Nat} (h:j<n):inR (j:Int) n=true:=by simp [inR]; omega
theorem rput_l1 {s:HSt} (ok:HOk s) {p kind:Int} {n:Nat} {L:List Int} (hi:Is s.a p kind n) (hL:L.length=n) (hw:∀ x ∈ L,Wd x) (h31:n≤31):∀ m j:Nat,j≤n→n - j<m→ref11_put.l5 p L (aWords s.a p) m (hPutTo p (aWords s.a p) L j s) (j:Int) 0=some (0,hPutTo p (aWords s.a p) L n s):=by
  have hl:=hi.len
  intro m
  induction m with
  | zero=>intro j _ h; omega
  | succ m ih =>
    intro j hj hm
    show ref11_put.l5b p L (aWords s.a p) (ref11_put.l5 p L (aWords s.a p) m) _ _ _=_
    unfold ref11_put.l5b
    by_cases hlt:j<n
    · have next:=ih (j+1) (by omega) (by omega)
      rw [if_pos (by rw [decide_eq_true_eq]; omega)]
      unfold ref11_put.j6 ref11_put.j7
      rw [if_pos (by rfl),if_pos (inR_nat (by omega)),if_pos (inR_nat (by omega)),atI_nat (by omega),atI_nat (by omega)]
      have e1:(aWords s.a p).getD j 0=(aWords s.a p)[j]'(by omega):=by rw [List.getD_eq_getElem?_getD,List.getElem?_eq_getElem (by omega)]; rfl
      have e2:L.getD j 0=L[j]'(by omega):=by rw [List.getD_eq_getElem?_getD,List.getElem?_eq_getElem (by omega)]; rfl
      have hs:hPutTo p (aWords s.a p) L (j+1) s=if L[j]'(by omega)=(aWords s.a p)[j]'(by omega) then hPutTo p (aWords s.a p) L j s else hStore p j (L[j]'(by omega)) (hPutTo p (aWords s.a p) L j s):=by
        rw [← e1,← e2]; rfl
      rw [hs] at next
      by_cases he:L[j]'(by omega)=(aWords s.a p)[j]'(by omega)
      · rw [if_pos he] at next
        rw [if_neg (by simpa using he.symm),wr_s _ (by omega) (by omega)]
        exact next
      · rw [if_neg he] at next
        rw [if_pos (by simpa using fun e=>he e.symm)]
        obtain ⟨ok2,hd⟩:=ok.putTo p (aWords s.a p) hw j
        have er:aErr p (j:Int) (hPutTo p (aWords s.a p) L j s).a=0:=by rw [err_of_head (hd p)]; exact hi.err hlt
        unfold pStore
        rw [if_pos (wd_true (hw _ (List.getElem_mem (by omega)))),er]
        simp only [bind2,Option.bind_some]
        rw [wr_s _ (by omega) (by omega)]
        exact next
    · rw [if_neg (by rw [decide_eq_true_eq]; omega),show j=n by omega]
      rfl
theorem rput_m {s:HSt} (ok:HOk s) {p kind:Int} {n:Nat} {L:List Int} (hn:rNeed kind 0=n) (hL:L.length=n) (hw:∀ x ∈ L,Wd x) (h31:n≤31) {k:Nat} (hk:40≤k):ref11_put.m k s p kind L=some (putE s.a p kind n,hPut p kind n L s):=by
  unfold ref11_put.m
  rw [rwords_m hn h31 hk,bind3_some]
  unfold isW isE putE hPut
  by_cases h:Is s.a p kind n
  · simp only [if_pos h]
    exact rput_l1 ok h hL hw h31 k 0 (by omega) (by omega)
  · simp only [if_neg h]
    obtain ⟨k',rfl⟩:∃ k',k=k'+1:=⟨k - 1,by omega⟩
    rfl
theorem rPutChan_m {s:HSt} (ok:HOk s) (p:Int) (c:Ch) {k:Nat} (hk:40≤k):ref11_PutChan.m k s p c=pPutChan p c s:=by
  unfold ref11_PutChan.m
  simp only [rptr_m,bind1_some,dbl]
  show bind2 (ref11_put.m k s p 1 (chW c)) _=_
  rw [rput_m ok (n:=9) rfl rfl (chW_wd c) (by omega) hk,bind2_some]
  rfl
theorem rPutGor_m {s:HSt} (ok:HOk s) (p:Int) (c:Gr) (hc:GoWd c) {k:Nat} (hk:40≤k):ref11_PutGor.m k s p c=pPutGor p c s:=by
  obtain ⟨k',rfl⟩:∃ k',k=k'+7:=⟨k - 7,by omega⟩
  have e:ref11_PutGor.m (k'+7) s p c=bind1 (ref11_ptr.m (k'+7) c.sudogs) fun x187=>bind1 (pushM [wrap64 (c.id * 2),wrap64 (c.status * 2),wrap64 (c.pc * 2),c.a,c.b,c.c,c.d,c.e,c.f] x187) fun L196=>bind2 (ref11_put.m (k'+7) s p 4 L196) fun x206 s207=>some (x206,s207):=by kernel_rfl
  rw [e,rptr_m,bind1_some]
  unfold pushM
  rw [if_pos (by simp),bind1_some]
  simp only [dbl]
  show bind2 (ref11_put.m (k'+7) s p 4 (goW c)) _=_
  rw [rput_m ok (n:=10) rfl rfl (goW_wd c hc) (by omega) hk,bind2_some]
  unfold pPutGor
  obtain ⟨h1,h2,h3,h4,h5,h6⟩:=hc
  rw [wd_true h1,wd_true h2,wd_true h3,wd_true h4,wd_true h5,wd_true h6]
  rfl
theorem rChan_m {s:HSt} (ok:HOk s) (p:Int) {k:Nat} (hk:40≤k):ref11_Chan.m k s p=some (if Is s.a p 1 9 then chOf (aWords s.a p) else ch0,isE s p 1 9,s):=by
  unfold ref11_Chan.m
  rw [rwords_m (n:=9) rfl (by omega) hk,bind3_some]
  unfold isW isE
  by_cases h:Is s.a p 1 9
  · rw [if_pos h,if_pos h,if_pos h]
    have hw:=aWords_wd ok.wd p
    obtain ⟨a,b,c,d,e,f,g,i,j,he⟩:=nine h.len
    rw [he] at hw ⊢
    have w:=fun x hx=>hw x hx
    rw [if_neg (by decide)]
    iterate 9 rw [if_pos (by rfl)]
    rw [show atI [a,b,c,d,e,f,g,i,j] (0:Int)=a from rfl,show atI [a,b,c,d,e,f,g,i,j] (1:Int)=b from rfl,show atI [a,b,c,d,e,f,g,i,j] (2:Int)=c from rfl,show atI [a,b,c,d,e,f,g,i,j] (3:Int)=d from rfl,show atI [a,b,c,d,e,f,g,i,j] (4:Int)=e from rfl,show atI [a,b,c,d,e,f,g,i,j] (5:Int)=f from rfl,show atI [a,b,c,d,e,f,g,i,j] (6:Int)=g from rfl,show atI [a,b,c,d,e,f,g,i,j] (7:Int)=i from rfl,show atI [a,b,c,d,e,f,g,i,j] (8:Int)=j from rfl]
    rw [rnumber_m k (w a (by simp)),rnumber_m k (w b (by simp)),rnumber_m k (w c (by simp)),rnumber_m k (w d (by simp)),rplace_m k (w e (by simp)),rplace_m k (w f (by simp)),rplace_m k (w g (by simp)),rplace_m k (w i (by simp)),rplace_m k (w j (by simp))]
    rfl
  · rw [if_neg h,if_neg h,if_neg h]
    rfl
theorem pChan_e (p:Int) (s:HSt):pChan p s=some (if Is s.a p 1 9 then chOf (aWords s.a p) else ch0,isE s p 1 9):=rfl
end Go.Proofs.YtffnjpapggidlaaGreat
