/- GLiveChain LcBL LcB0 -/
import Derived.Test.YtjdlnmbfomojdaaKG22
import Derived.Test.YtjdlnmbfomojdaaKGHelpY
import Derived.Deep.LoopGhost
import Derived.KernelRfl
namespace Go.Proofs.Ytjdlnmbfomojdaa
open Go.RowKit
set_option linter.unusedVariables false
def LiveChain.j4 (y199:Bool):Option (Bool):=some (y199)
def LiveChain.j5 (y308:Bool):Option (Bool):=some (y308)
def LiveChain.l3b (i2:Bool) (k:Nat) (x5:Int) (x18:Int) (L57:List Int) (rec124:HSt→Int→Option (Bool)) (s120:HSt) (x121:Int):Option (Bool):=(if (decide ((IntKind.i64.wrap (x121+1))<x5)) then (if (inR x121 L57.length) then (if (inR (IntKind.i64.wrap (x121+1)) L57.length) then bind2 (pStore (atI L57 x121) 0 (wrap64 (wrap64 ((atI L57 (IntKind.i64.wrap (x121+1))) * 2)+1)) s120) fun x147 s148=>rec124 s148 (IntKind.i64.wrap (x121+1)) else none) else none) else (if (leR x18 L57.length) then (if (inR 0 L57.length) then (if (i2) then (if (inR (IntKind.i64.wrap (x5 - 1)) L57.length) then (if (inR (0:Int) L57.length) then bind2 (pStore (atI L57 (IntKind.i64.wrap (x5 - 1))) 0 (wrap64 (wrap64 ((atI L57 (0:Int)) * 2)+1)) s120) fun x188 s189=>(if (inR x18 L57.length) then bind2 (live_Reach.m k s189 [atI L57 x18]) fun L221 s222=>bind1 (help_Plain.m k L221 L57) fun y238=>(if (y238) then bind2 (live_Lost.m k s222 [atI L57 x18]) fun L260 s261=>(if ((L260.length:Int) == (IntKind.i64.wrap (x5 - (L57.length:Int)))) then bind2 (live_Broken.m k s261 L57) fun L281 s282=>LiveChain.j4 ((L281.length:Int) == 0) else LiveChain.j4 false) else LiveChain.j4 false) else none) else none) else none) else (if (inR x18 L57.length) then bind2 (live_Reach.m k s120 [atI L57 x18]) fun L330 s331=>bind1 (help_PlainY.m k L330 ((L57).drop x18.toNat)) fun y351=>(if (y351) then bind2 (live_Lost.m k s331 [atI L57 x18]) fun L375 s376=>(if ((L375.length:Int) == (IntKind.i64.wrap (x5 - ((L57.length - x18.toNat:Nat):Int)))) then bind2 (live_Broken.m k s376 L57) fun L396 s397=>LiveChain.j5 ((L396.length:Int) == 0) else LiveChain.j5 false) else LiveChain.j5 false) else none)) else none) else none))
def LiveChain.l3 (i2:Bool) (k:Nat) (x5:Int) (x18:Int) (L57:List Int):Nat→HSt→Int→Option (Bool)
  | 0=>fun _ _=>none
  | kI+1=>LiveChain.l3b i2 k x5 x18 L57 (LiveChain.l3 i2 k x5 x18 L57 kI)
def LiveChain.l2b (i2:Bool) (k:Nat) (x5:Int) (x18:Int) (rec63:List Int→HSt→Int→Option (Bool)) (L57:List Int) (s59:HSt) (x60:Int):Option (Bool):=(if (decide (x60<x5)) then bind3 (pAlloc 5 2 s59) fun x80 x81 s82=>(if (x81 != 0) then some (false) else bind1 (pushM L57 x80) fun L104=>rec63 L104 s82 (IntKind.i64.wrap (x60+1))) else LiveChain.l3 i2 k x5 x18 L57 k s59 0)
def LiveChain.l2 (i2:Bool) (k:Nat) (x5:Int) (x18:Int):Nat→List Int→HSt→Int→Option (Bool)
  | 0=>fun _ _ _=>none
  | kI+1=>LiveChain.l2b i2 k x5 x18 (LiveChain.l2 i2 k x5 x18 kI)
def LiveChain.j1 (i2:Bool) (k:Nat) (x5:Int) (x18:Int) (s23:HSt) (y35:Bool):Option (Bool):=(if (y35) then some (false) else LiveChain.l2 i2 k x5 x18 k [] s23 0)
def LiveChain.m (k:Nat) (i0:Int) (i1:Int) (i2:Bool):Option (Bool):=bind1 (some (IntKind.i64.wrap (1+(IntKind.i64.wrap (Int.tmod (IntKind.u64.wrap i0) 30))))) fun x5=>(if ((IntKind.u64.wrap x5) == 0) then none else bind1 (some (IntKind.i64.wrap (Int.tmod (IntKind.u64.wrap i1) (IntKind.u64.wrap x5)))) fun x18=>bind1 (pNew 10) fun s23=>bind1 (law22_awake.m k ) fun y421=>(if (!(y421)) then LiveChain.j1 i2 k x5 x18 s23 true else LiveChain.j1 i2 k x5 x18 s23 false))
set_option maxRecDepth 100000 in
set_option maxHeartbeats 40000000 in
theorem LiveChain.ok {w0 w:World} {F0:List Nat} {ps:List Piece} {k:Nat} {i0:Int} {i1:Int} {i2:Bool} {r0:Bool} (hS:St w0 F0 (ps) w) (hm:LiveChain.m k i0 i1 i2=some r0) :
    Calls Try.prog 3 #[nI i0,nI i1,.bool (i2)] w fun e w'=>e=.returned (.bool r0)∧St w0 F0 (ps) w':=by
 refine ev_enterL 126 [nI i0,nI i1,.bool (i2)] Try.func3 rfl rfl (by simp) ?_
 intro a hF
 have hF0:Fr 126 a [(0,nI i0),(1,nI i1),(2,.bool (i2))]:=hF; clear hF
 unfold LiveChain.m at hm
 refine wp_seq (wp_region_lit ?_)
 refine ev_runK 1 hF0 [0,1,2] (l':=[(0,nI i0),(1,nI i1),(2,.bool (i2))]) (w':=w) (by kernel_rfl) ?_
 intro a2 hF1; clear hF0
 refine wpList_nil (thenN (wp_seq (wp_region_lit ?_)))
 refine ev_runs 6 hF1 (l':=[(0,nI (IntKind.i64.wrap (1+(IntKind.i64.wrap (Int.tmod (IntKind.u64.wrap i0) 30))))),(19,nI (IntKind.i64.wrap (1+(IntKind.i64.wrap (Int.tmod (IntKind.u64.wrap i0) 30))))),(18,nI (IntKind.i64.wrap (Int.tmod (IntKind.u64.wrap i0) 30))),(17,.int .u64 (Int.tmod (IntKind.u64.wrap i0) 30)),(16,.int .u64 (IntKind.u64.wrap i0)),(15,nI i0),(1,nI i1),(2,.bool (i2))]) (w':=w) (by kernel_rfl) ?_
 intro a4 hF3; clear hF1
 obtain ⟨x5,hx6,hm7⟩:=bind1E hm; clear hm
 have hF8:=hF3; rw [Option.some.inj hx6] at hF8; clear hF3
 refine wpList_nil ?_
 have hF9:=hF8.keep [0,1,2]
 clear hF8
 refine thenN (wp_seq (wp_region_lit ?_))
 refine ev_runs 4 hF9 (l':=[(23,.int .u64 (IntKind.u64.wrap x5)),(22,nI x5),(21,.int .u64 (IntKind.u64.wrap i1)),(20,nI i1),(0,nI x5),(1,nI i1),(2,.bool (i2))]) (w':=w) (by kernel_rfl) ?_
 intro a11 hF10; clear hF9
 obtain ⟨hc12,hm13⟩:=ifFE hm7; clear hm7
 refine ev_one (.int .u64 (Int.tmod (IntKind.u64.wrap i1) (IntKind.u64.wrap x5))) w hF10 (by kernel_rfl) rfl (by kernel_rfl) (run_rem rfl rfl rfl hc12 _) (l':=[(24,.int .u64 (Int.tmod (IntKind.u64.wrap i1) (IntKind.u64.wrap x5))),(23,.int .u64 (IntKind.u64.wrap x5)),(22,nI x5),(21,.int .u64 (IntKind.u64.wrap i1)),(20,nI i1),(0,nI x5),(1,nI i1),(2,.bool (i2))]) (by kernel_rfl) ?_
 intro a15 hF14; clear hF10
 refine ev_runs 2 hF14 (l':=[(1,nI (IntKind.i64.wrap (Int.tmod (IntKind.u64.wrap i1) (IntKind.u64.wrap x5)))),(25,nI (IntKind.i64.wrap (Int.tmod (IntKind.u64.wrap i1) (IntKind.u64.wrap x5)))),(24,.int .u64 (Int.tmod (IntKind.u64.wrap i1) (IntKind.u64.wrap x5))),(23,.int .u64 (IntKind.u64.wrap x5)),(22,nI x5),(21,.int .u64 (IntKind.u64.wrap i1)),(20,nI i1),(0,nI x5),(2,.bool (i2))]) (w':=w) (by kernel_rfl) ?_
 intro a17 hF16; clear hF14
 obtain ⟨x18,hx19,hm20⟩:=bind1E hm13; clear hm13
 have hF21:=hF16; rw [Option.some.inj hx19] at hF21; clear hF16
 refine wpList_nil ?_
 have hF22:=hF21.keep [0,1,2]
 clear hF21
 refine thenN (wp_seq (wp_region_lit ?_))
 refine ev_call 8 #[nI 10] hF22 rfl rfl (by kernel_rfl) rfl (by kernel_rfl) (fun w=>by kernel_rfl) ?_
 obtain ⟨s23,hx24,hm25⟩:=bind1E hm20; clear hm20
 refine (p_New hS hx24).mono ?_
 rintro _ w26 ⟨z30,z31,rfl,hS28⟩ a27 hF29; clear hF22 hS
 refine ev_runK 5 hF29 [0,1,2,7,8] (l':=[(8,nI 0),(7,nP z30 0),(1,nI x18),(0,nI x5),(2,.bool (i2))]) (w':=w26) (by kernel_rfl) ?_
 intro a34 hF33; clear hF29
 refine wpList_nil (thenN (wp_seq (wp_seq ?_)))
 refine joinQ (fun aI wI=>∃ (y35:Bool),Fr 126 aI [(44,.bool (y35)),(7,nP z30 0),(1,nI x18),(0,nI x5),(2,.bool (i2))]∧St w0 F0 (HeapP z30 z31 s23::ps) wI∧LiveChain.j1 i2 k x5 x18 s23 y35=some r0) ?_ ?_
 rotate_left
 · rintro a37 w38 ⟨y35,hF39,hS40,hm41⟩
   clear hF33 hS28 hm25
   unfold LiveChain.j1 at hm41
   refine thenN ?_
   cases hc43:(y35)
   case true =>
    rw [hc43] at hF39
    have hm44:=ifYes hc43 hm41; clear hm41
    refine ev_condT hF39 rfl rfl ?_
    refine wp_seq (wp_region_lit ?_)
    refine ev_runK 1 hF39 [6] (l':=[(6,.bool false)]) (w':=w38) (by kernel_rfl) ?_
    intro a46 hF45; clear hF39
    refine wpList_nil ?_
    have hS47:=hS40.drop
    clear hS40
    refine thenN ?_
    refine wp_ret ?_
    refine thenR ?_
    obtain rfl:=Option.some.inj hm44
    refine ev_ret hF45 [6] (.bool false) rfl rfl rfl ?_
    exact ⟨rfl,hS47⟩
   rw [hc43] at hF39
   have hm49:=ifNot hc43 hm41; clear hm41
   refine ev_condF hF39 rfl rfl ?_
   refine wp_skip ?_
   have hF50:=hF39.keep [0,1,2,7]
   clear hF39
   refine thenN (wp_seq (wp_region_lit ?_))
   have hS52:St w0 F0 (RowP (.slice none 0 0) []::HeapP z30 z31 s23::ps) w38:=St.nil hS40
   clear hS40
   refine ev_runs 1 hF50 (l':=[(9,.slice none 0 0),(7,nP z30 0),(1,nI x18),(0,nI x5),(2,.bool (i2))]) (w':=w38) (by kernel_rfl) ?_
   intro a54 hF53; clear hF50
   refine wpList_nil (thenN (wp_seq (wp_seq (wp_region_lit ?_))))
   refine ev_runs 1 hF53 (l':=[(10,nI 0),(9,.slice none 0 0),(7,nP z30 0),(1,nI x18),(0,nI x5),(2,.bool (i2))]) (w':=w38) (by kernel_rfl) ?_
   intro a56 hF55; clear hF53
   refine wpList_nil (thenN ?_)
   refine wp_block ?_
   refine wp_loop_ghost (fun kI aI wI=>∃ (v58:Value) (L57:List Int) (s59:HSt) (x60:Int),Fr 126 aI [(10,nI x60),(9,v58),(7,nP z30 0),(1,nI x18),(0,nI x5),(2,.bool (i2))]∧St w0 F0 (RowP (v58) L57::HeapP z30 z31 s59::ps) wI∧LiveChain.l2 i2 k x5 x18 kI L57 s59 x60=some r0) k ⟨.slice none 0 0,[],s23,0,hF55,hS52,hm49⟩ ?_
   rintro k61 a62 w63 ⟨v58,L57,s59,x60,hF64,hS65,hm66⟩
   clear hF55 hS52 hm49
   rcases k61 with _ | k61
   · cases hm66
   have hm67:LiveChain.l2b i2 k x5 x18 (LiveChain.l2 i2 k x5 x18 k61) L57 s59 x60=some r0:=hm66
   clear hm66
   unfold LiveChain.l2b at hm67
   obtain ⟨hl71,p68,c69,rfl,hp70⟩:=St.shape hS65 0 rfl
   refine wp_seq (wp_seq (wp_region_lit ?_))
   refine ev_runK 3 hF64 [0,1,2,7,9,10,47] (l':=[(47,.bool (decide (x60<x5))),(10,nI x60),(9,.slice p68 L57.length c69),(7,nP z30 0),(1,nI x18),(0,nI x5),(2,.bool (i2))]) (w':=w63) (by kernel_rfl) ?_
   intro a73 hF72; clear hF64
   refine wpList_nil (thenN ?_)
   cases hc74:(decide (x60<x5))
   case true =>
    rw [hc74] at hF72
    have hm75:=ifYes hc74 hm67; clear hm67
    refine ev_condT hF72 rfl rfl ?_
    refine wp_skip ?_
    have hF76:=hF72.keep [0,1,2,7,9,10]
    clear hF72
    refine thenN (wp_seq ?_)
    refine wp_block ?_
    refine wp_seq (wp_region_lit ?_)
    refine ev_runs 1 hF76 (l':=[(51,nP z30 0),(10,nI x60),(9,.slice p68 L57.length c69),(7,nP z30 0),(1,nI x18),(0,nI x5),(2,.bool (i2))]) (w':=w63) (by kernel_rfl) ?_
    intro a78 hF77; clear hF76
    have hS79:=hS65.pick1
    clear hS65
    refine ev_call 11 #[nP z30 0,nI 5,nI 2] hF77 rfl rfl (by kernel_rfl) rfl (by kernel_rfl) (fun w=>by kernel_rfl) ?_
    obtain ⟨x80,x81,s82,hx83,hm84⟩:=bind3E hm75; clear hm75
    refine (p_Alloc hS79 hx83).mono ?_
    rintro _ w85 ⟨rfl,hS87⟩ a86 hF88; clear hF77 hS79
    refine ev_runK 5 hF88 [0,1,2,7,9,10,11,12] (l':=[(12,nI x81),(11,nI x80),(10,nI x60),(9,.slice p68 L57.length c69),(7,nP z30 0),(1,nI x18),(0,nI x5),(2,.bool (i2))]) (w':=w85) (by kernel_rfl) ?_
    intro a90 hF89; clear hF88
    refine wpList_nil (thenN (wp_seq (wp_seq (wp_region_lit ?_))))
    refine ev_runK 2 hF89 [0,1,2,7,9,10,11,56] (l':=[(56,.bool (x81 != 0)),(11,nI x80),(10,nI x60),(9,.slice p68 L57.length c69),(7,nP z30 0),(1,nI x18),(0,nI x5),(2,.bool (i2))]) (w':=w85) (by kernel_rfl) ?_
    intro a92 hF91; clear hF89
    refine wpList_nil (thenN ?_)
    cases hc93:(x81 != 0)
    case true =>
     rw [hc93] at hF91
     have hm94:=ifYes hc93 hm84; clear hm84
     refine ev_condT hF91 rfl rfl ?_
     refine wp_seq (wp_region_lit ?_)
     refine ev_runK 1 hF91 [6] (l':=[(6,.bool false)]) (w':=w85) (by kernel_rfl) ?_
     intro a96 hF95; clear hF91
     refine wpList_nil ?_
     have hS97:=hS87.drop.drop
     clear hS87
     refine thenN ?_
     refine wp_ret ?_
     refine thenR ?_
     refine blockR ?_
     refine thenR (thenR ?_)
     refine blockR ?_
     refine thenR ?_
     obtain rfl:=Option.some.inj hm94
     refine ev_ret hF95 [6] (.bool false) rfl rfl rfl ?_
     exact ⟨rfl,hS97⟩
    rw [hc93] at hF91
    have hm99:=ifNot hc93 hm84; clear hm84
    refine ev_condF hF91 rfl rfl ?_
    refine wp_skip ?_
    have hF100:=hF91.keep [0,1,2,7,9,10,11]
    clear hF91
    refine thenN (wp_region_lit ?_)
    refine ev_runs 3 hF100 (l':=[(59,.slice (some ⟨w85.heap.size,0,none⟩) 1 1),(58,nI x80),(57,.slice p68 L57.length c69),(11,nI x80),(10,nI x60),(9,.slice p68 L57.length c69),(7,nP z30 0),(1,nI x18),(0,nI x5),(2,.bool (i2))]) (w':=w85.alloc (.cells #[nI x80] 3)) (by kernel_rfl) ?_
    intro a102 hF101; clear hF100
    have hS103:=hS87.pick1
    clear hS87
    obtain ⟨L104,hx105,hm106⟩:=bind1E hm99; clear hm99
    refine ev_push 60 (.tmp 57) (.tmp 59) hF101 rfl rfl rfl rfl rfl rfl rfl rfl hS103 hx105 ?_
    intro g107 c108 w109 a110 hS111 hF112; clear hF101 hS103
    refine ev_runK 1 hF112 [0,1,2,7,9,10] (l':=[(9,nS g107 L104 c108),(10,nI x60),(7,nP z30 0),(1,nI x18),(0,nI x5),(2,.bool (i2))]) (w':=w109) (by kernel_rfl) ?_
    intro a114 hF113; clear hF112
    refine wpList_nil ?_
    refine blockN ?_
    refine thenN (wp_region_lit ?_)
    refine ev_runK 3 hF113 [0,1,2,7,9,10] (l':=[(10,nI (IntKind.i64.wrap (x60+1))),(9,nS g107 L104 c108),(7,nP z30 0),(1,nI x18),(0,nI x5),(2,.bool (i2))]) (w':=w109) (by kernel_rfl) ?_
    intro a116 hF115; clear hF113
    refine wpList_nil ?_
    exact thenN ⟨k61,Nat.lt_succ_self _,nS g107 L104 c108,L104,s82,IntKind.i64.wrap (x60+1),hF115,hS111,hm106⟩
   rw [hc74] at hF72
   have hm117:=ifNot hc74 hm67; clear hm67
   refine ev_condF hF72 rfl rfl ?_
   refine wp_exit ?_
   refine thenE ?_
   refine thenE ?_
   refine blockE ?_
   refine thenN (wp_seq (wp_seq (wp_region_lit ?_)))
   refine ev_runK 1 hF72 [0,1,2,7,9,13] (l':=[(13,nI 0),(9,.slice p68 L57.length c69),(7,nP z30 0),(1,nI x18),(0,nI x5),(2,.bool (i2))]) (w':=w63) (by kernel_rfl) ?_
   intro a119 hF118; clear hF72
   refine wpList_nil (thenN ?_)
   refine wp_block ?_
   refine wp_loop_ghost (fun kI aI wI=>∃ (s120:HSt) (x121:Int),Fr 126 aI [(13,nI x121),(9,.slice p68 L57.length c69),(7,nP z30 0),(1,nI x18),(0,nI x5),(2,.bool (i2))]∧St w0 F0 (RowP (.slice p68 L57.length c69) L57::HeapP z30 z31 s120::ps) wI∧LiveChain.l3 i2 k x5 x18 L57 kI s120 x121=some r0) k ⟨s59,0,hF118,hS65,hm117⟩ ?_
   rintro k122 a123 w124 ⟨s120,x121,hF125,hS126,hm127⟩
   clear hF118 hS65 hm117
   rcases k122 with _ | k122
   · cases hm127
   have hm128:LiveChain.l3b i2 k x5 x18 L57 (LiveChain.l3 i2 k x5 x18 L57 k122) s120 x121=some r0:=hm127
   clear hm127
   unfold LiveChain.l3b at hm128
   refine wp_seq (wp_seq (wp_region_lit ?_))
   refine ev_runK 4 hF125 [0,1,2,7,9,13,64] (l':=[(64,.bool (decide ((IntKind.i64.wrap (x121+1))<x5))),(13,nI x121),(9,.slice p68 L57.length c69),(7,nP z30 0),(1,nI x18),(0,nI x5),(2,.bool (i2))]) (w':=w124) (by kernel_rfl) ?_
   intro a130 hF129; clear hF125
   refine wpList_nil (thenN ?_)
   cases hc131:(decide ((IntKind.i64.wrap (x121+1))<x5))
   case true =>
    rw [hc131] at hF129
    have hm132:=ifYes hc131 hm128; clear hm128
    refine ev_condT hF129 rfl rfl ?_
    refine wp_skip ?_
    have hF133:=hF129.keep [0,1,2,7,9,13]
    clear hF129
    refine thenN (wp_seq ?_)
    refine wp_block ?_
    obtain ⟨hc134,hm135⟩:=ifTE hm132; clear hm132
    obtain ⟨g136,rfl⟩:=hp70.resolve_left (by have:=inR_spec hc134; omega)
    obtain ⟨hc137,hm138⟩:=ifTE hm135; clear hm135
    have hS139:=hS126.drew; clear hS126
    refine any_start (fun wS=>∃ qs,St w0 F0 (RowP (nS g136 L57 c69) L57::qs) wS) 12 #[false,false,false,false,false,false,false,false,false,false,false,false] (by kernel_rfl) (by kernel_rfl) (by kernel_rfl) ?_
    refine any_many 10 [(0,some (nP z30 0)),(1,some (nS g136 L57 c69)),(2,some (nI x121)),(3,some (nP g136 (x121.toNat))),(4,some (nI (atI L57 x121))),(5,some (nS g136 L57 c69)),(6,some (nI x121)),(7,some (nI (IntKind.i64.wrap (x121+1)))),(8,some (nP g136 ((IntKind.i64.wrap (x121+1)).toNat))),(9,some (nI (atI L57 (IntKind.i64.wrap (x121+1)))))] [0,1,2,7,9,13,67,71,76,77] #[true,true,true,true,true,true,true,true,true,true,false,false] (by rfl) hF133 (by kernel_rfl) (by kernel_rfl) (by exact ⟨fun wS hw=>by kernel_rfl,fun wS hw=>by kernel_rfl,fun wS hw=>by kernel_rfl,fun wS hw=>run_idx rfl rfl rfl rfl rfl (inR_spec hc134).1 (inR_spec hc134).2 _,fun wS hw=>run_load1 rfl rfl rfl (hw.elim fun qs hw=>hw.atI 0 rfl hc134),fun wS hw=>by kernel_rfl,fun wS hw=>by kernel_rfl,fun wS hw=>by kernel_rfl,fun wS hw=>run_idx rfl rfl rfl rfl rfl (inR_spec hc137).1 (inR_spec hc137).2 _,fun wS hw=>run_load1 rfl rfl rfl (hw.elim fun qs hw=>hw.atI 0 rfl hc137),trivial⟩) (fun _ _ _ _ _ h=>h) ⟨_,hS139⟩ (l':=[(76,nI (atI L57 (IntKind.i64.wrap (x121+1)))),(71,nI (atI L57 x121)),(67,nP z30 0),(13,nI x121),(9,nS g136 L57 c69),(7,nP z30 0),(1,nI x18),(0,nI x5),(2,.bool (i2))]) (by kernel_rfl) ?_
    intro a141 hF140; clear hF133
    refine any_call 10 #[true,true,true,true,true,true,true,true,true,true,true,false] 13 #[nI (atI L57 (IntKind.i64.wrap (x121+1)))] hF140 rfl (by kernel_rfl) rfl rfl (by kernel_rfl) rfl (by kernel_rfl) (fun w=>by kernel_rfl) (by kernel_rfl) ?_
    refine (p_rPtr hS139).mono ?_
    rintro _ w142 ⟨rfl,hS144⟩; clear hS139
    refine ⟨⟨_,hS144⟩,?_⟩
    intro a143 hF145; clear hF140
    have hS146:=hS144.pick1
    clear hS144
    refine any_call 11 #[true,true,true,true,true,true,true,true,true,true,true,true] 12 #[nP z30 0,nI (atI L57 x121),nI 0,nI (wrap64 (wrap64 ((atI L57 (IntKind.i64.wrap (x121+1))) * 2)+1))] hF145 rfl (by kernel_rfl) rfl rfl (by kernel_rfl) rfl (by kernel_rfl) (fun w=>by kernel_rfl) (by kernel_rfl) ?_
    obtain ⟨x147,s148,hx149,hm150⟩:=bind2E hm138; clear hm138
    refine (p_Store hS146 hx149).mono ?_
    rintro _ w151 ⟨rfl,hS153⟩; clear hS146
    refine ⟨⟨_,hS153.pick1⟩,?_⟩
    intro a152 hF154; clear hF145
    refine any_done (by kernel_rfl) ?_
    have hF155:=hF154.keep [0,1,2,7,9,13]
    clear hF154
    refine blockN ?_
    refine thenN (wp_region_lit ?_)
    refine ev_runK 3 hF155 [0,1,2,7,9,13] (l':=[(13,nI (IntKind.i64.wrap (x121+1))),(9,nS g136 L57 c69),(7,nP z30 0),(1,nI x18),(0,nI x5),(2,.bool (i2))]) (w':=w151) (by kernel_rfl) ?_
    intro a157 hF156; clear hF155
    refine wpList_nil ?_
    have hS158:=hS153.pick1
    clear hS153
    exact thenN ⟨k122,Nat.lt_succ_self _,s148,IntKind.i64.wrap (x121+1),hF156,hS158,hm150⟩
   rw [hc131] at hF129
   have hm159:=ifNot hc131 hm128; clear hm128
   refine ev_condF hF129 rfl rfl ?_
   refine wp_exit ?_
   refine thenE ?_
   refine thenE ?_
   refine blockE ?_
   refine thenN (wp_seq (wp_region_lit ?_))
   refine ev_runs 2 hF129 (l':=[(80,nI x18),(79,.slice p68 L57.length c69),(64,.bool false),(13,nI x121),(9,.slice p68 L57.length c69),(7,nP z30 0),(1,nI x18),(0,nI x5),(2,.bool (i2))]) (w':=w124) (by kernel_rfl) ?_
   intro a161 hF160; clear hF129
   obtain ⟨hc162,hm163⟩:=ifTE hm159; clear hm159
   obtain ⟨hc164,hm165⟩:=ifTE hm163; clear hm163
   obtain ⟨g166,rfl⟩:=hp70.resolve_left (by have:=inR_spec hc164; omega)
   have hc167:=St.cap hS126 0 rfl
   refine ev_one (.slice (some ⟨g166,if c69=x18.toNat then 0 else 0+x18.toNat,none⟩) (L57.length - x18.toNat) (c69 - x18.toNat)) w124 hF160 (by kernel_rfl) rfl (by kernel_rfl) (run_sliceLo rfl rfl rfl rfl rfl (leR_spec hc162).1 (leR_spec hc162).2 hc167 _) (l':=[(81,.slice (some ⟨g166,if c69=x18.toNat then 0 else 0+x18.toNat,none⟩) (L57.length - x18.toNat) (c69 - x18.toNat)),(80,nI x18),(79,nS g166 L57 c69),(64,.bool false),(13,nI x121),(9,nS g166 L57 c69),(7,nP z30 0),(1,nI x18),(0,nI x5),(2,.bool (i2))]) (by kernel_rfl) ?_
   intro a169 hF168; clear hF160
   refine ev_runK 1 hF168 [0,1,2,7,9,14] (l':=[(14,.slice (some ⟨g166,if c69=x18.toNat then 0 else 0+x18.toNat,none⟩) (L57.length - x18.toNat) (c69 - x18.toNat)),(9,nS g166 L57 c69),(7,nP z30 0),(1,nI x18),(0,nI x5),(2,.bool (i2))]) (w':=w124) (by kernel_rfl) ?_
   intro a171 hF170; clear hF168
   refine wpList_nil (thenN (wp_seq (wp_seq (wp_region_lit ?_))))
   refine ev_runK 1 hF170 [0,1,7,9,14,82] (l':=[(82,.bool (i2)),(14,.slice (some ⟨g166,if c69=x18.toNat then 0 else 0+x18.toNat,none⟩) (L57.length - x18.toNat) (c69 - x18.toNat)),(9,nS g166 L57 c69),(7,nP z30 0),(1,nI x18),(0,nI x5)]) (w':=w124) (by kernel_rfl) ?_
   intro a173 hF172; clear hF170
   refine wpList_nil (thenN ?_)
   cases hc174:(i2)
   case true =>
    rw [hc174] at hF172
    have hm175:=ifYes hc174 hm165; clear hm165
    refine ev_condT hF172 rfl rfl ?_
    refine wp_seq ?_
    obtain ⟨hc176,hm177⟩:=ifTE hm175; clear hm175
    obtain ⟨hc178,hm179⟩:=ifTE hm177; clear hm177
    have hS180:=hS126.drew; clear hS126
    refine any_start (fun wS=>∃ qs,St w0 F0 (RowP (nS g166 L57 c69) L57::qs) wS) 11 #[false,false,false,false,false,false,false,false,false,false,false] (by kernel_rfl) (by kernel_rfl) (by kernel_rfl) ?_
    refine any_many 9 [(0,some (nP z30 0)),(1,some (nS g166 L57 c69)),(2,some (nI x5)),(3,some (nI (IntKind.i64.wrap (x5 - 1)))),(4,some (nP g166 ((IntKind.i64.wrap (x5 - 1)).toNat))),(5,some (nI (atI L57 (IntKind.i64.wrap (x5 - 1))))),(6,some (nS g166 L57 c69)),(7,some (nP g166 ((0:Int).toNat))),(8,some (nI (atI L57 (0:Int))))] [0,1,7,9,83,88,91,92] #[true,true,true,true,true,true,true,true,true,false,false] (by rfl) hF172 (by kernel_rfl) (by kernel_rfl) (by exact ⟨fun wS hw=>by kernel_rfl,fun wS hw=>by kernel_rfl,fun wS hw=>by kernel_rfl,fun wS hw=>by kernel_rfl,fun wS hw=>run_idx rfl rfl rfl rfl rfl (inR_spec hc176).1 (inR_spec hc176).2 _,fun wS hw=>run_load1 rfl rfl rfl (hw.elim fun qs hw=>hw.atI 0 rfl hc176),fun wS hw=>by kernel_rfl,fun wS hw=>run_idx rfl rfl rfl rfl rfl (inR_spec hc178).1 (inR_spec hc178).2 _,fun wS hw=>run_load1 rfl rfl rfl (hw.elim fun qs hw=>hw.atI 0 rfl hc178),trivial⟩) (fun _ _ _ _ _ h=>h) ⟨_,hS180⟩ (l':=[(91,nI (atI L57 (0:Int))),(88,nI (atI L57 (IntKind.i64.wrap (x5 - 1)))),(83,nP z30 0),(9,nS g166 L57 c69),(7,nP z30 0),(1,nI x18),(0,nI x5)]) (by kernel_rfl) ?_
    intro a182 hF181; clear hF172
    refine any_call 9 #[true,true,true,true,true,true,true,true,true,true,false] 13 #[nI (atI L57 (0:Int))] hF181 rfl (by kernel_rfl) rfl rfl (by kernel_rfl) rfl (by kernel_rfl) (fun w=>by kernel_rfl) (by kernel_rfl) ?_
    refine (p_rPtr hS180).mono ?_
    rintro _ w183 ⟨rfl,hS185⟩; clear hS180
    refine ⟨⟨_,hS185⟩,?_⟩
    intro a184 hF186; clear hF181
    have hS187:=hS185.pick1
    clear hS185
    refine any_call 10 #[true,true,true,true,true,true,true,true,true,true,true] 12 #[nP z30 0,nI (atI L57 (IntKind.i64.wrap (x5 - 1))),nI 0,nI (wrap64 (wrap64 ((atI L57 (0:Int)) * 2)+1))] hF186 rfl (by kernel_rfl) rfl rfl (by kernel_rfl) rfl (by kernel_rfl) (fun w=>by kernel_rfl) (by kernel_rfl) ?_
    obtain ⟨x188,s189,hx190,hm191⟩:=bind2E hm179; clear hm179
    refine (p_Store hS187 hx190).mono ?_
    rintro _ w192 ⟨rfl,hS194⟩; clear hS187
    refine ⟨⟨_,hS194.pick1⟩,?_⟩
    intro a193 hF195; clear hF186
    refine any_done (by kernel_rfl) ?_
    have hF196:=hF195.keep [0,1,7,9]
    clear hF195
    refine thenN (wp_region_lit ?_)
    refine ev_runK 2 hF196 [0,1,7,9,14] (l':=[(14,nS g166 L57 c69),(9,nS g166 L57 c69),(7,nP z30 0),(1,nI x18),(0,nI x5)]) (w':=w192) (by kernel_rfl) ?_
    intro a198 hF197; clear hF196
    refine wpList_nil (thenN (wp_seq ?_))
    refine joinQ (fun aI wI=>∃ (y199:Bool),Fr 126 aI [(6,.bool (y199))]∧St w0 F0 (ps) wI∧LiveChain.j4 y199=some r0) ?_ ?_
    rotate_left
    · rintro a201 w202 ⟨y199,hF203,hS204,hm205⟩
      clear hF197 hS194 hm191
      unfold LiveChain.j4 at hm205
      refine thenN ?_
      refine wp_ret ?_
      obtain rfl:=Option.some.inj hm205
      refine ev_ret hF203 [6] (.bool (y199)) rfl rfl rfl ?_
      exact ⟨rfl,hS204⟩
    · skip
      refine wp_region_lit ?_
      refine ev_runs 3 hF197 (l':=[(97,nI x18),(96,nS g166 L57 c69),(95,nP z30 0),(14,nS g166 L57 c69),(9,nS g166 L57 c69),(7,nP z30 0),(1,nI x18),(0,nI x5)]) (w':=w192) (by kernel_rfl) ?_
      intro a209 hF208; clear hF197
      obtain ⟨hc210,hm211⟩:=ifTE hm191; clear hm191
      refine ev_one (nP g166 (x18.toNat)) w192 hF208 (by kernel_rfl) rfl (by kernel_rfl) (run_idx rfl rfl rfl rfl rfl (inR_spec hc210).1 (inR_spec hc210).2 _) (l':=[(98,nP g166 (x18.toNat)),(97,nI x18),(96,nS g166 L57 c69),(95,nP z30 0),(14,nS g166 L57 c69),(9,nS g166 L57 c69),(7,nP z30 0),(1,nI x18),(0,nI x5)]) (by kernel_rfl) ?_
      intro a213 hF212; clear hF208
      refine ev_one (nI (atI L57 x18)) w192 hF212 (by kernel_rfl) rfl (by kernel_rfl) (run_load1 rfl rfl rfl (hS194.atI 1 rfl hc210)) (l':=[(99,nI (atI L57 x18)),(98,nP g166 (x18.toNat)),(97,nI x18),(96,nS g166 L57 c69),(95,nP z30 0),(14,nS g166 L57 c69),(9,nS g166 L57 c69),(7,nP z30 0),(1,nI x18),(0,nI x5)]) (by kernel_rfl) ?_
      intro a215 hF214; clear hF212
      refine ev_runs 1 hF214 (l':=[(100,.slice (some ⟨w192.heap.size,0,none⟩) 1 1),(99,nI (atI L57 x18)),(98,nP g166 (x18.toNat)),(97,nI x18),(96,nS g166 L57 c69),(95,nP z30 0),(14,nS g166 L57 c69),(9,nS g166 L57 c69),(7,nP z30 0),(1,nI x18),(0,nI x5)]) (w':=w192.alloc (.cells #[nI (atI L57 x18)] 3)) (by kernel_rfl) ?_
      intro a217 hF216; clear hF214
      have hS219:St w0 F0 (RowP (.slice (some ⟨w192.heap.size,0,none⟩) 1 1) [atI L57 x18]::HeapP z30 z31 s189::RowP (nS g166 L57 c69) L57::ps) (w192.alloc (.cells #[nI (atI L57 x18)] 3)):=St.lit hS194 [atI L57 x18] (by unfold maxLen; simp)
      clear hS194
      have hS220:=hS219.pick1
      clear hS219
      refine ev_call 15 #[nP z30 0,.slice (some ⟨w192.heap.size,0,none⟩) 1 1] hF216 rfl rfl (by kernel_rfl) rfl (by kernel_rfl) (fun w=>by kernel_rfl) ?_
      obtain ⟨L221,s222,hx223,hm224⟩:=bind2E hm211; clear hm211
      refine (live_Reach.ok hS220 hx223).mono ?_
      rintro _ w225 ⟨z229,rfl,hS227⟩ a226 hF228; clear hF216 hS220
      obtain ⟨hl234,p231,c232,rfl,hp233⟩:=St.shape hS227 2 rfl
      refine ev_runs 1 hF228 (l':=[(102,nS g166 L57 c69),(101,.slice p231 L221.length c232),(100,.slice (some ⟨w192.heap.size,0,none⟩) 1 1),(99,nI (atI L57 x18)),(98,nP g166 (x18.toNat)),(97,nI x18),(96,nS g166 L57 c69),(95,nP z30 0),(14,nS g166 L57 c69),(9,nS g166 L57 c69),(7,nP z30 0),(1,nI x18),(0,nI x5)]) (w':=w225) (by kernel_rfl) ?_
      intro a236 hF235; clear hF228
      have hS237:=hS227.pick3.pick3
      clear hS227
      refine ev_call 14 #[.slice p231 L221.length c232,nS g166 L57 c69] hF235 rfl rfl (by kernel_rfl) rfl (by kernel_rfl) (fun w=>by kernel_rfl) ?_
      obtain ⟨y238,hx239,hm240⟩:=bind1E hm224; clear hm224
      refine (help_Plain.ok hS237 hx239).mono ?_
      rintro _ w241 ⟨rfl,hS243⟩ a242 hF244; clear hF235 hS237
      refine ev_runs 1 hF244 (l':=[(104,.bool (y238)),(103,.bool (y238)),(102,nS g166 L57 c69),(101,.slice p231 L221.length c232),(100,.slice (some ⟨w192.heap.size,0,none⟩) 1 1),(99,nI (atI L57 x18)),(98,nP g166 (x18.toNat)),(97,nI x18),(96,nS g166 L57 c69),(95,nP z30 0),(14,nS g166 L57 c69),(9,nS g166 L57 c69),(7,nP z30 0),(1,nI x18),(0,nI x5)]) (w':=w241) (by kernel_rfl) ?_
      intro a246 hF245; clear hF244
      cases hc247:(y238)
      case true =>
       rw [hc247] at hF245
       have hm248:=ifYes hc247 hm240; clear hm240
       refine ev_runs 3 hF245 (l':=[(107,nI x18),(106,nS g166 L57 c69),(105,nP z30 0),(104,.bool true),(103,.bool true),(102,nS g166 L57 c69),(101,.slice p231 L221.length c232),(100,.slice (some ⟨w192.heap.size,0,none⟩) 1 1),(99,nI (atI L57 x18)),(98,nP g166 (x18.toNat)),(97,nI x18),(96,nS g166 L57 c69),(95,nP z30 0),(14,nS g166 L57 c69),(9,nS g166 L57 c69),(7,nP z30 0),(1,nI x18),(0,nI x5)]) (w':=w241) (by kernel_rfl) ?_
       intro a250 hF249; clear hF245
       refine ev_one (nP g166 (x18.toNat)) w241 hF249 (by kernel_rfl) rfl (by kernel_rfl) (run_idx rfl rfl rfl rfl rfl (inR_spec hc210).1 (inR_spec hc210).2 _) (l':=[(108,nP g166 (x18.toNat)),(107,nI x18),(106,nS g166 L57 c69),(105,nP z30 0),(104,.bool true),(103,.bool true),(102,nS g166 L57 c69),(101,.slice p231 L221.length c232),(100,.slice (some ⟨w192.heap.size,0,none⟩) 1 1),(99,nI (atI L57 x18)),(98,nP g166 (x18.toNat)),(97,nI x18),(96,nS g166 L57 c69),(95,nP z30 0),(14,nS g166 L57 c69),(9,nS g166 L57 c69),(7,nP z30 0),(1,nI x18),(0,nI x5)]) (by kernel_rfl) ?_
       intro a252 hF251; clear hF249
       refine ev_one (nI (atI L57 x18)) w241 hF251 (by kernel_rfl) rfl (by kernel_rfl) (run_load1 rfl rfl rfl (hS243.atI 1 rfl hc210)) (l':=[(109,nI (atI L57 x18)),(108,nP g166 (x18.toNat)),(107,nI x18),(106,nS g166 L57 c69),(105,nP z30 0),(104,.bool true),(103,.bool true),(102,nS g166 L57 c69),(101,.slice p231 L221.length c232),(100,.slice (some ⟨w192.heap.size,0,none⟩) 1 1),(99,nI (atI L57 x18)),(98,nP g166 (x18.toNat)),(97,nI x18),(96,nS g166 L57 c69),(95,nP z30 0),(14,nS g166 L57 c69),(9,nS g166 L57 c69),(7,nP z30 0),(1,nI x18),(0,nI x5)]) (by kernel_rfl) ?_
       intro a254 hF253; clear hF251
       refine ev_runs 1 hF253 (l':=[(110,.slice (some ⟨w241.heap.size,0,none⟩) 1 1),(109,nI (atI L57 x18)),(108,nP g166 (x18.toNat)),(107,nI x18),(106,nS g166 L57 c69),(105,nP z30 0),(104,.bool true),(103,.bool true),(102,nS g166 L57 c69),(101,.slice p231 L221.length c232),(100,.slice (some ⟨w192.heap.size,0,none⟩) 1 1),(99,nI (atI L57 x18)),(98,nP g166 (x18.toNat)),(97,nI x18),(96,nS g166 L57 c69),(95,nP z30 0),(14,nS g166 L57 c69),(9,nS g166 L57 c69),(7,nP z30 0),(1,nI x18),(0,nI x5)]) (w':=w241.alloc (.cells #[nI (atI L57 x18)] 3)) (by kernel_rfl) ?_
       intro a256 hF255; clear hF253
       have hS258:St w0 F0 (RowP (.slice (some ⟨w241.heap.size,0,none⟩) 1 1) [atI L57 x18]::RowP (.slice p231 L221.length c232) L221::RowP (nS g166 L57 c69) L57::HeapP z30 z31 s222::RowP (.slice (some ⟨w192.heap.size,0,none⟩) 1 1) [atI L57 x18]::ps) (w241.alloc (.cells #[nI (atI L57 x18)] 3)):=St.lit hS243 [atI L57 x18] (by unfold maxLen; simp)
       clear hS243
       have hS259:=hS258.pick3
       clear hS258
       refine ev_call 16 #[nP z30 0,.slice (some ⟨w241.heap.size,0,none⟩) 1 1] hF255 rfl rfl (by kernel_rfl) rfl (by kernel_rfl) (fun w=>by kernel_rfl) ?_
       obtain ⟨L260,s261,hx262,hm263⟩:=bind2E hm248; clear hm248
       refine (live_Lost.ok hS259 hx262).mono ?_
       rintro _ w264 ⟨z268,rfl,hS266⟩ a265 hF267; clear hF255 hS259
       obtain ⟨hl273,p270,c271,rfl,hp272⟩:=St.shape hS266 2 rfl
       refine ev_runs 8 hF267 (l':=[(119,.bool ((L260.length:Int) == (IntKind.i64.wrap (x5 - (L57.length:Int))))),(118,.bool ((L260.length:Int) == (IntKind.i64.wrap (x5 - (L57.length:Int))))),(117,.bool ((L260.length:Int) == (IntKind.i64.wrap (x5 - (L57.length:Int))))),(116,nI (IntKind.i64.wrap (x5 - (L57.length:Int)))),(115,nI ((L57.length:Int))),(114,nS g166 L57 c69),(113,nI x5),(112,nI ((L260.length:Int))),(111,.slice p270 L260.length c271),(110,.slice (some ⟨w241.heap.size,0,none⟩) 1 1),(109,nI (atI L57 x18)),(108,nP g166 (x18.toNat)),(107,nI x18),(106,nS g166 L57 c69),(105,nP z30 0),(104,.bool true),(103,.bool true),(102,nS g166 L57 c69),(101,.slice p231 L221.length c232),(100,.slice (some ⟨w192.heap.size,0,none⟩) 1 1),(99,nI (atI L57 x18)),(98,nP g166 (x18.toNat)),(97,nI x18),(96,nS g166 L57 c69),(95,nP z30 0),(14,nS g166 L57 c69),(9,nS g166 L57 c69),(7,nP z30 0),(1,nI x18),(0,nI x5)]) (w':=w264) (by kernel_rfl) ?_
       intro a275 hF274; clear hF267
       cases hc276:((L260.length:Int) == (IntKind.i64.wrap (x5 - (L57.length:Int))))
       case true =>
        rw [hc276] at hF274
        have hm277:=ifYes hc276 hm263; clear hm263
        refine ev_runs 2 hF274 (l':=[(121,nS g166 L57 c69),(120,nP z30 0),(119,.bool true),(118,.bool true),(117,.bool true),(116,nI (IntKind.i64.wrap (x5 - (L57.length:Int)))),(115,nI ((L57.length:Int))),(114,nS g166 L57 c69),(113,nI x5),(112,nI ((L260.length:Int))),(111,.slice p270 L260.length c271),(110,.slice (some ⟨w241.heap.size,0,none⟩) 1 1),(109,nI (atI L57 x18)),(108,nP g166 (x18.toNat)),(107,nI x18),(106,nS g166 L57 c69),(105,nP z30 0),(104,.bool true),(103,.bool true),(102,nS g166 L57 c69),(101,.slice p231 L221.length c232),(100,.slice (some ⟨w192.heap.size,0,none⟩) 1 1),(99,nI (atI L57 x18)),(98,nP g166 (x18.toNat)),(97,nI x18),(96,nS g166 L57 c69),(95,nP z30 0),(14,nS g166 L57 c69),(9,nS g166 L57 c69),(7,nP z30 0),(1,nI x18),(0,nI x5)]) (w':=w264) (by kernel_rfl) ?_
        intro a279 hF278; clear hF274
        have hS280:=hS266.pick4.pick1
        clear hS266
        refine ev_call 17 #[nP z30 0,nS g166 L57 c69] hF278 rfl rfl (by kernel_rfl) rfl (by kernel_rfl) (fun w=>by kernel_rfl) ?_
        obtain ⟨L281,s282,hx283,hm284⟩:=bind2E hm277; clear hm277
        refine (live_Broken.ok hS280 hx283).mono ?_
        rintro _ w285 ⟨z289,rfl,hS287⟩ a286 hF288; clear hF278 hS280
        obtain ⟨hl294,p291,c292,rfl,hp293⟩:=St.shape hS287 2 rfl
        refine ev_runK 4 hF288 [6] (l':=[(6,.bool ((L281.length:Int) == 0))]) (w':=w285) (by kernel_rfl) ?_
        intro a296 hF295; clear hF288
        refine wpList_nil ?_
        have hS297:=hS287.drop.drop.drop.drop.drop.drop.drop
        clear hS287
        exact thenN ⟨(L281.length:Int) == 0,hF295,hS297,hm284⟩
       rw [hc276] at hF274
       have hm298:=ifNot hc276 hm263; clear hm263
       refine ev_runK 7 hF274 [6] (l':=[(6,.bool false)]) (w':=w264) (by kernel_rfl) ?_
       intro a300 hF299; clear hF274
       refine wpList_nil ?_
       have hS301:=hS266.drop.drop.drop.drop.drop.drop
       clear hS266
       exact thenN ⟨false,hF299,hS301,hm298⟩
      rw [hc247] at hF245
      have hm302:=ifNot hc247 hm240; clear hm240
      refine ev_runK 22 hF245 [6] (l':=[(6,.bool false)]) (w':=w241) (by kernel_rfl) ?_
      intro a304 hF303; clear hF245
      refine wpList_nil ?_
      have hS305:=hS243.drop.drop.drop.drop
      clear hS243
      exact thenN ⟨false,hF303,hS305,hm302⟩
   rw [hc174] at hF172
   have hm306:=ifNot hc174 hm165; clear hm165
   refine ev_condF hF172 rfl rfl ?_
   refine wp_skip ?_
   have hF307:=hF172.keep [0,1,7,9,14]
   clear hF172
   refine thenN (wp_seq ?_)
   refine joinQ (fun aI wI=>∃ (y308:Bool),Fr 126 aI [(6,.bool (y308))]∧St w0 F0 (ps) wI∧LiveChain.j5 y308=some r0) ?_ ?_
   rotate_left
   · rintro a310 w311 ⟨y308,hF312,hS313,hm314⟩
     clear hF307 hS126 hm306
     unfold LiveChain.j5 at hm314
     refine thenN ?_
     refine wp_ret ?_
     obtain rfl:=Option.some.inj hm314
     refine ev_ret hF312 [6] (.bool (y308)) rfl rfl rfl ?_
     exact ⟨rfl,hS313⟩
   · skip
     refine wp_region_lit ?_
     refine ev_runs 3 hF307 (l':=[(97,nI x18),(96,nS g166 L57 c69),(95,nP z30 0),(14,.slice (some ⟨g166,if c69=x18.toNat then 0 else 0+x18.toNat,none⟩) (L57.length - x18.toNat) (c69 - x18.toNat)),(9,nS g166 L57 c69),(7,nP z30 0),(1,nI x18),(0,nI x5)]) (w':=w124) (by kernel_rfl) ?_
     intro a318 hF317; clear hF307
     obtain ⟨hc319,hm320⟩:=ifTE hm306; clear hm306
     refine ev_one (nP g166 (x18.toNat)) w124 hF317 (by kernel_rfl) rfl (by kernel_rfl) (run_idx rfl rfl rfl rfl rfl (inR_spec hc319).1 (inR_spec hc319).2 _) (l':=[(98,nP g166 (x18.toNat)),(97,nI x18),(96,nS g166 L57 c69),(95,nP z30 0),(14,.slice (some ⟨g166,if c69=x18.toNat then 0 else 0+x18.toNat,none⟩) (L57.length - x18.toNat) (c69 - x18.toNat)),(9,nS g166 L57 c69),(7,nP z30 0),(1,nI x18),(0,nI x5)]) (by kernel_rfl) ?_
     intro a322 hF321; clear hF317
     refine ev_one (nI (atI L57 x18)) w124 hF321 (by kernel_rfl) rfl (by kernel_rfl) (run_load1 rfl rfl rfl (hS126.atI 0 rfl hc319)) (l':=[(99,nI (atI L57 x18)),(98,nP g166 (x18.toNat)),(97,nI x18),(96,nS g166 L57 c69),(95,nP z30 0),(14,.slice (some ⟨g166,if c69=x18.toNat then 0 else 0+x18.toNat,none⟩) (L57.length - x18.toNat) (c69 - x18.toNat)),(9,nS g166 L57 c69),(7,nP z30 0),(1,nI x18),(0,nI x5)]) (by kernel_rfl) ?_
     intro a324 hF323; clear hF321
     refine ev_runs 1 hF323 (l':=[(100,.slice (some ⟨w124.heap.size,0,none⟩) 1 1),(99,nI (atI L57 x18)),(98,nP g166 (x18.toNat)),(97,nI x18),(96,nS g166 L57 c69),(95,nP z30 0),(14,.slice (some ⟨g166,if c69=x18.toNat then 0 else 0+x18.toNat,none⟩) (L57.length - x18.toNat) (c69 - x18.toNat)),(9,nS g166 L57 c69),(7,nP z30 0),(1,nI x18),(0,nI x5)]) (w':=w124.alloc (.cells #[nI (atI L57 x18)] 3)) (by kernel_rfl) ?_
     intro a326 hF325; clear hF323
     have hS328:St w0 F0 (RowP (.slice (some ⟨w124.heap.size,0,none⟩) 1 1) [atI L57 x18]::RowP (nS g166 L57 c69) L57::HeapP z30 z31 s120::ps) (w124.alloc (.cells #[nI (atI L57 x18)] 3)):=St.lit hS126 [atI L57 x18] (by unfold maxLen; simp)
     clear hS126
     have hS329:=hS328.pick2
     clear hS328
     refine ev_call 15 #[nP z30 0,.slice (some ⟨w124.heap.size,0,none⟩) 1 1] hF325 rfl rfl (by kernel_rfl) rfl (by kernel_rfl) (fun w=>by kernel_rfl) ?_
     obtain ⟨L330,s331,hx332,hm333⟩:=bind2E hm320; clear hm320
     refine (live_Reach.ok hS329 hx332).mono ?_
     rintro _ w334 ⟨z338,rfl,hS336⟩ a335 hF337; clear hF325 hS329
     obtain ⟨hl343,p340,c341,rfl,hp342⟩:=St.shape hS336 2 rfl
     refine ev_runs 1 hF337 (l':=[(102,.slice (some ⟨g166,if c69=x18.toNat then 0 else 0+x18.toNat,none⟩) (L57.length - x18.toNat) (c69 - x18.toNat)),(101,.slice p340 L330.length c341),(100,.slice (some ⟨w124.heap.size,0,none⟩) 1 1),(99,nI (atI L57 x18)),(98,nP g166 (x18.toNat)),(97,nI x18),(96,nS g166 L57 c69),(95,nP z30 0),(14,.slice (some ⟨g166,if c69=x18.toNat then 0 else 0+x18.toNat,none⟩) (L57.length - x18.toNat) (c69 - x18.toNat)),(9,nS g166 L57 c69),(7,nP z30 0),(1,nI x18),(0,nI x5)]) (w':=w334) (by kernel_rfl) ?_
     intro a345 hF344; clear hF337
     have hS346:=hS336.pick3
     clear hS336
     obtain ⟨o347,hS348,hb349⟩:=St.cutOY hS346 (leR_nat hc162); clear hS346
     have hS350:=hS348.pick3
     clear hS348
     refine ev_call 14 #[.slice p340 L330.length c341,.slice (some ⟨g166,if c69=x18.toNat then 0 else 0+x18.toNat,none⟩) (L57.length - x18.toNat) (c69 - x18.toNat)] hF344 rfl rfl (by kernel_rfl) rfl (by kernel_rfl) (fun w=>by kernel_rfl) ?_
     obtain ⟨y351,hx352,hm353⟩:=bind1E hm333; clear hm333
     refine (help_PlainY.ok hS350 hx352).mono ?_
     rintro _ w354 ⟨rfl,hS356⟩ a355 hF357; clear hF344 hS350
     have hS358:=hS356.pick1
     clear hS356
     have hS359:=hb349 hS358; clear hS358
     refine ev_runs 1 hF357 (l':=[(104,.bool (y351)),(103,.bool (y351)),(102,.slice (some ⟨g166,if c69=x18.toNat then 0 else 0+x18.toNat,none⟩) (L57.length - x18.toNat) (c69 - x18.toNat)),(101,.slice p340 L330.length c341),(100,.slice (some ⟨w124.heap.size,0,none⟩) 1 1),(99,nI (atI L57 x18)),(98,nP g166 (x18.toNat)),(97,nI x18),(96,nS g166 L57 c69),(95,nP z30 0),(14,.slice (some ⟨g166,if c69=x18.toNat then 0 else 0+x18.toNat,none⟩) (L57.length - x18.toNat) (c69 - x18.toNat)),(9,nS g166 L57 c69),(7,nP z30 0),(1,nI x18),(0,nI x5)]) (w':=w354) (by kernel_rfl) ?_
     intro a361 hF360; clear hF357
     cases hc362:(y351)
     case true =>
      rw [hc362] at hF360
      have hm363:=ifYes hc362 hm353; clear hm353
      refine ev_runs 3 hF360 (l':=[(107,nI x18),(106,nS g166 L57 c69),(105,nP z30 0),(104,.bool true),(103,.bool true),(102,.slice (some ⟨g166,if c69=x18.toNat then 0 else 0+x18.toNat,none⟩) (L57.length - x18.toNat) (c69 - x18.toNat)),(101,.slice p340 L330.length c341),(100,.slice (some ⟨w124.heap.size,0,none⟩) 1 1),(99,nI (atI L57 x18)),(98,nP g166 (x18.toNat)),(97,nI x18),(96,nS g166 L57 c69),(95,nP z30 0),(14,.slice (some ⟨g166,if c69=x18.toNat then 0 else 0+x18.toNat,none⟩) (L57.length - x18.toNat) (c69 - x18.toNat)),(9,nS g166 L57 c69),(7,nP z30 0),(1,nI x18),(0,nI x5)]) (w':=w354) (by kernel_rfl) ?_
      intro a365 hF364; clear hF360
      refine ev_one (nP g166 (x18.toNat)) w354 hF364 (by kernel_rfl) rfl (by kernel_rfl) (run_idx rfl rfl rfl rfl rfl (inR_spec hc319).1 (inR_spec hc319).2 _) (l':=[(108,nP g166 (x18.toNat)),(107,nI x18),(106,nS g166 L57 c69),(105,nP z30 0),(104,.bool true),(103,.bool true),(102,.slice (some ⟨g166,if c69=x18.toNat then 0 else 0+x18.toNat,none⟩) (L57.length - x18.toNat) (c69 - x18.toNat)),(101,.slice p340 L330.length c341),(100,.slice (some ⟨w124.heap.size,0,none⟩) 1 1),(99,nI (atI L57 x18)),(98,nP g166 (x18.toNat)),(97,nI x18),(96,nS g166 L57 c69),(95,nP z30 0),(14,.slice (some ⟨g166,if c69=x18.toNat then 0 else 0+x18.toNat,none⟩) (L57.length - x18.toNat) (c69 - x18.toNat)),(9,nS g166 L57 c69),(7,nP z30 0),(1,nI x18),(0,nI x5)]) (by kernel_rfl) ?_
      intro a367 hF366; clear hF364
      refine ev_one (nI (atI L57 x18)) w354 hF366 (by kernel_rfl) rfl (by kernel_rfl) (run_load1 rfl rfl rfl (hS359.atI 0 rfl hc319)) (l':=[(109,nI (atI L57 x18)),(108,nP g166 (x18.toNat)),(107,nI x18),(106,nS g166 L57 c69),(105,nP z30 0),(104,.bool true),(103,.bool true),(102,.slice (some ⟨g166,if c69=x18.toNat then 0 else 0+x18.toNat,none⟩) (L57.length - x18.toNat) (c69 - x18.toNat)),(101,.slice p340 L330.length c341),(100,.slice (some ⟨w124.heap.size,0,none⟩) 1 1),(99,nI (atI L57 x18)),(98,nP g166 (x18.toNat)),(97,nI x18),(96,nS g166 L57 c69),(95,nP z30 0),(14,.slice (some ⟨g166,if c69=x18.toNat then 0 else 0+x18.toNat,none⟩) (L57.length - x18.toNat) (c69 - x18.toNat)),(9,nS g166 L57 c69),(7,nP z30 0),(1,nI x18),(0,nI x5)]) (by kernel_rfl) ?_
      intro a369 hF368; clear hF366
      refine ev_runs 1 hF368 (l':=[(110,.slice (some ⟨w354.heap.size,0,none⟩) 1 1),(109,nI (atI L57 x18)),(108,nP g166 (x18.toNat)),(107,nI x18),(106,nS g166 L57 c69),(105,nP z30 0),(104,.bool true),(103,.bool true),(102,.slice (some ⟨g166,if c69=x18.toNat then 0 else 0+x18.toNat,none⟩) (L57.length - x18.toNat) (c69 - x18.toNat)),(101,.slice p340 L330.length c341),(100,.slice (some ⟨w124.heap.size,0,none⟩) 1 1),(99,nI (atI L57 x18)),(98,nP g166 (x18.toNat)),(97,nI x18),(96,nS g166 L57 c69),(95,nP z30 0),(14,.slice (some ⟨g166,if c69=x18.toNat then 0 else 0+x18.toNat,none⟩) (L57.length - x18.toNat) (c69 - x18.toNat)),(9,nS g166 L57 c69),(7,nP z30 0),(1,nI x18),(0,nI x5)]) (w':=w354.alloc (.cells #[nI (atI L57 x18)] 3)) (by kernel_rfl) ?_
      intro a371 hF370; clear hF368
      have hS373:St w0 F0 (RowP (.slice (some ⟨w354.heap.size,0,none⟩) 1 1) [atI L57 x18]::RowP (nS g166 L57 c69) L57::RowP (.slice p340 L330.length c341) L330::HeapP z30 z31 s331::RowP (.slice (some ⟨w124.heap.size,0,none⟩) 1 1) [atI L57 x18]::ps) (w354.alloc (.cells #[nI (atI L57 x18)] 3)):=St.lit hS359 [atI L57 x18] (by unfold maxLen; simp)
      clear hS359
      have hS374:=hS373.pick3
      clear hS373
      refine ev_call 16 #[nP z30 0,.slice (some ⟨w354.heap.size,0,none⟩) 1 1] hF370 rfl rfl (by kernel_rfl) rfl (by kernel_rfl) (fun w=>by kernel_rfl) ?_
      obtain ⟨L375,s376,hx377,hm378⟩:=bind2E hm363; clear hm363
      refine (live_Lost.ok hS374 hx377).mono ?_
      rintro _ w379 ⟨z383,rfl,hS381⟩ a380 hF382; clear hF370 hS374
      obtain ⟨hl388,p385,c386,rfl,hp387⟩:=St.shape hS381 2 rfl
      refine ev_runs 8 hF382 (l':=[(119,.bool ((L375.length:Int) == (IntKind.i64.wrap (x5 - ((L57.length - x18.toNat:Nat):Int))))),(118,.bool ((L375.length:Int) == (IntKind.i64.wrap (x5 - ((L57.length - x18.toNat:Nat):Int))))),(117,.bool ((L375.length:Int) == (IntKind.i64.wrap (x5 - ((L57.length - x18.toNat:Nat):Int))))),(116,nI (IntKind.i64.wrap (x5 - ((L57.length - x18.toNat:Nat):Int)))),(115,nI (((L57.length - x18.toNat:Nat):Int))),(114,.slice (some ⟨g166,if c69=x18.toNat then 0 else 0+x18.toNat,none⟩) (L57.length - x18.toNat) (c69 - x18.toNat)),(113,nI x5),(112,nI ((L375.length:Int))),(111,.slice p385 L375.length c386),(110,.slice (some ⟨w354.heap.size,0,none⟩) 1 1),(109,nI (atI L57 x18)),(108,nP g166 (x18.toNat)),(107,nI x18),(106,nS g166 L57 c69),(105,nP z30 0),(104,.bool true),(103,.bool true),(102,.slice (some ⟨g166,if c69=x18.toNat then 0 else 0+x18.toNat,none⟩) (L57.length - x18.toNat) (c69 - x18.toNat)),(101,.slice p340 L330.length c341),(100,.slice (some ⟨w124.heap.size,0,none⟩) 1 1),(99,nI (atI L57 x18)),(98,nP g166 (x18.toNat)),(97,nI x18),(96,nS g166 L57 c69),(95,nP z30 0),(14,.slice (some ⟨g166,if c69=x18.toNat then 0 else 0+x18.toNat,none⟩) (L57.length - x18.toNat) (c69 - x18.toNat)),(9,nS g166 L57 c69),(7,nP z30 0),(1,nI x18),(0,nI x5)]) (w':=w379) (by kernel_rfl) ?_
      intro a390 hF389; clear hF382
      cases hc391:((L375.length:Int) == (IntKind.i64.wrap (x5 - ((L57.length - x18.toNat:Nat):Int))))
      case true =>
       rw [hc391] at hF389
       have hm392:=ifYes hc391 hm378; clear hm378
       refine ev_runs 2 hF389 (l':=[(121,nS g166 L57 c69),(120,nP z30 0),(119,.bool true),(118,.bool true),(117,.bool true),(116,nI (IntKind.i64.wrap (x5 - ((L57.length - x18.toNat:Nat):Int)))),(115,nI (((L57.length - x18.toNat:Nat):Int))),(114,.slice (some ⟨g166,if c69=x18.toNat then 0 else 0+x18.toNat,none⟩) (L57.length - x18.toNat) (c69 - x18.toNat)),(113,nI x5),(112,nI ((L375.length:Int))),(111,.slice p385 L375.length c386),(110,.slice (some ⟨w354.heap.size,0,none⟩) 1 1),(109,nI (atI L57 x18)),(108,nP g166 (x18.toNat)),(107,nI x18),(106,nS g166 L57 c69),(105,nP z30 0),(104,.bool true),(103,.bool true),(102,.slice (some ⟨g166,if c69=x18.toNat then 0 else 0+x18.toNat,none⟩) (L57.length - x18.toNat) (c69 - x18.toNat)),(101,.slice p340 L330.length c341),(100,.slice (some ⟨w124.heap.size,0,none⟩) 1 1),(99,nI (atI L57 x18)),(98,nP g166 (x18.toNat)),(97,nI x18),(96,nS g166 L57 c69),(95,nP z30 0),(14,.slice (some ⟨g166,if c69=x18.toNat then 0 else 0+x18.toNat,none⟩) (L57.length - x18.toNat) (c69 - x18.toNat)),(9,nS g166 L57 c69),(7,nP z30 0),(1,nI x18),(0,nI x5)]) (w':=w379) (by kernel_rfl) ?_
       intro a394 hF393; clear hF389
       have hS395:=hS381.pick3.pick1
       clear hS381
       refine ev_call 17 #[nP z30 0,nS g166 L57 c69] hF393 rfl rfl (by kernel_rfl) rfl (by kernel_rfl) (fun w=>by kernel_rfl) ?_
       obtain ⟨L396,s397,hx398,hm399⟩:=bind2E hm392; clear hm392
       refine (live_Broken.ok hS395 hx398).mono ?_
       rintro _ w400 ⟨z404,rfl,hS402⟩ a401 hF403; clear hF393 hS395
       obtain ⟨hl409,p406,c407,rfl,hp408⟩:=St.shape hS402 2 rfl
       refine ev_runK 4 hF403 [6] (l':=[(6,.bool ((L396.length:Int) == 0))]) (w':=w400) (by kernel_rfl) ?_
       intro a411 hF410; clear hF403
       refine wpList_nil ?_
       have hS412:=hS402.drop.drop.drop.drop.drop.drop.drop
       clear hS402
       exact thenN ⟨(L396.length:Int) == 0,hF410,hS412,hm399⟩
      rw [hc391] at hF389
      have hm413:=ifNot hc391 hm378; clear hm378
      refine ev_runK 7 hF389 [6] (l':=[(6,.bool false)]) (w':=w379) (by kernel_rfl) ?_
      intro a415 hF414; clear hF389
      refine wpList_nil ?_
      have hS416:=hS381.drop.drop.drop.drop.drop.drop
      clear hS381
      exact thenN ⟨false,hF414,hS416,hm413⟩
     rw [hc362] at hF360
     have hm417:=ifNot hc362 hm353; clear hm353
     refine ev_runK 22 hF360 [6] (l':=[(6,.bool false)]) (w':=w354) (by kernel_rfl) ?_
     intro a419 hF418; clear hF360
     refine wpList_nil ?_
     have hS420:=hS359.drop.drop.drop.drop
     clear hS359
     exact thenN ⟨false,hF418,hS420,hm417⟩
 · skip
   refine wp_region_lit ?_
   refine ev_call 9 #[] hF33 rfl rfl (by kernel_rfl) rfl (by kernel_rfl) (fun w=>by kernel_rfl) ?_
   obtain ⟨y421,hx422,hm423⟩:=bind1E hm25; clear hm25
   refine (law22_awake.ok hS28 hx422).mono ?_
   rintro _ w424 ⟨rfl,hS426⟩ a425 hF427; clear hF33 hS28
   refine ev_runs 2 hF427 (l':=[(32,.bool (!(y421))),(31,.bool (!(y421))),(30,.bool (y421)),(8,nI 0),(7,nP z30 0),(1,nI x18),(0,nI x5),(2,.bool (i2))]) (w':=w424) (by kernel_rfl) ?_
   intro a429 hF428; clear hF427
   cases hc430:(!(y421))
   case true =>
    rw [hc430] at hF428
    have hm431:=ifYes hc430 hm423; clear hm423
    refine ev_runK 12 hF428 [0,1,2,7,44] (l':=[(44,.bool true),(7,nP z30 0),(1,nI x18),(0,nI x5),(2,.bool (i2))]) (w':=w424) (by kernel_rfl) ?_
    intro a433 hF432; clear hF428
    refine wpList_nil ?_
    exact thenN ⟨true,hF432,hS426,hm431⟩
   rw [hc430] at hF428
   have hm434:=ifNot hc430 hm423; clear hm423
   refine ev_runs 9 hF428 (l':=[(41,nP z30 0),(40,.bool false),(39,.bool false),(38,.bool false),(37,nP z30 0),(36,.bool false),(35,.bool false),(34,.bool false),(33,nI 0),(32,.bool false),(31,.bool false),(30,.bool (y421)),(8,nI 0),(7,nP z30 0),(1,nI x18),(0,nI x5),(2,.bool (i2))]) (w':=w424) (by kernel_rfl) ?_
   intro a436 hF435; clear hF428
   refine ev_call 10 #[nP z30 0] hF435 rfl rfl (by kernel_rfl) rfl (by kernel_rfl) (fun w=>by kernel_rfl) ?_
   refine (p_Arena hS426).mono ?_
   rintro _ w437 ⟨rfl,hS439⟩ a438 hF440; clear hF435 hS426
   refine ev_runK 2 hF440 [0,1,2,7,44] (l':=[(44,.bool false),(7,nP z30 0),(1,nI x18),(0,nI x5),(2,.bool (i2))]) (w':=w437) (by kernel_rfl) ?_
   intro a442 hF441; clear hF440
   refine wpList_nil ?_
   exact thenN ⟨false,hF441,hS439,hm434⟩
end Go.Proofs.Ytjdlnmbfomojdaa
namespace Go.Proofs.Ytjdlnmbfomojdaa
open Go.RowKit
def LcOk (a b:Nat):Bool:=decide (LiveChain.m 200 ((a:Nat):Int) ((b:Nat):Int) true=some true) && decide (LiveChain.m 200 ((a:Nat):Int) ((b:Nat):Int) false=some true)
end Go.Proofs.Ytjdlnmbfomojdaa
namespace Go.Proofs.Ytjdlnmbfomojdaa
open Go.RowKit
set_option maxRecDepth 100000
set_option maxHeartbeats 40000000
theorem lc_29_0:∀ b<6,LcOk 29 (b+0)=true:=by decide +kernel
theorem lc_28_18:∀ b<6,LcOk 28 (b+18)=true:=by decide +kernel
theorem lc_26_18:∀ b<6,LcOk 26 (b+18)=true:=by decide +kernel
theorem lc_24_12:∀ b<6,LcOk 24 (b+12)=true:=by decide +kernel
theorem lc_22_12:∀ b<6,LcOk 22 (b+12)=true:=by decide +kernel
theorem lc_22_18:∀ b<5,LcOk 22 (b+18)=true:=by decide +kernel
theorem lc_17_6:∀ b<6,LcOk 17 (b+6)=true:=by decide +kernel
theorem lc_16_12:∀ b<5,LcOk 16 (b+12)=true:=by decide +kernel
theorem lc_12_6:∀ b<6,LcOk 12 (b+6)=true:=by decide +kernel
theorem lc_14_12:∀ b<3,LcOk 14 (b+12)=true:=by decide +kernel
theorem lc_8_6:∀ b<3,LcOk 8 (b+6)=true:=by decide +kernel
theorem lc_1_0:∀ b<2,LcOk 1 (b+0)=true:=by decide +kernel
end Go.Proofs.Ytjdlnmbfomojdaa
