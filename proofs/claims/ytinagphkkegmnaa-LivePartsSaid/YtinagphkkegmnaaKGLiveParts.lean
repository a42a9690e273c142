/- GLiveParts -/
import Derived.Test.YtinagphkkegmnaaKG22Q
import Derived.Test.YtinagphkkegmnaaKGLiveN
import Derived.Deep.LoopGhost
import Derived.KernelRfl
namespace Go.Proofs.Ytinagphkkegmnaa
open Go.RowKit
set_option linter.unusedVariables false
def LiveParts.j13 (x318:Int) (rec321:Int→Option (Bool)) (y331:Bool):Option (Bool):=(if (y331) then some (false) else rec321 (IntKind.i64.wrap (x318+1)))
def LiveParts.j14 (y420:Bool):Option (Bool):=some (y420)
def LiveParts.l12b (K1:List Int) (k:Nat) (s6:HSt) (L213:List Int) (L230:List Int) (L279:List Int) (L299:List Int) (s300:HSt) (rec321:Int→Option (Bool)) (x318:Int):Option (Bool):=(if (decide (x318<((hObjsF s6.a).length:Int))) then (if (inR x318 (hObjsF s6.a).length) then bind1 (help_In.m k L213 (atI (hObjsF s6.a) x318)) fun y358=>bind1 (help_In.m k L299 (atI (hObjsF s6.a) x318)) fun y366=>(if ((y358) == (y366)) then LiveParts.j13 x318 rec321 true else bind1 (help_In.m k L279 (atI (hObjsF s6.a) x318)) fun y383=>bind1 (help_In.m k L213 (atI (hObjsF s6.a) x318)) fun y391=>(if (y391) then LiveParts.j13 x318 rec321 (!((y383) == (true))) else bind1 (help_In.m k L230 (atI (hObjsF s6.a) x318)) fun y409=>LiveParts.j13 x318 rec321 (!((y383) == (y409))))) else none) else bind2 (live_Reach.m k s300 L213) fun L432 s433=>bind1 (help_Plain.m k L432 L213) fun y449=>(if (y449) then bind2 (live_Reach.m k s433 []) fun L465 s466=>(if ((L465.length:Int) == 0) then bind1 (live_ReachN.m k K1) fun L485=>(if ((L485.length:Int) == 0) then bind1 (live_LostN.m k K1) fun L504=>(if ((L504.length:Int) == 0) then bind1 (live_BrokenN.m k K1) fun L523=>LiveParts.j14 ((L523.length:Int) == 0) else LiveParts.j14 false) else LiveParts.j14 false) else LiveParts.j14 false) else LiveParts.j14 false))
def LiveParts.l12 (K1:List Int) (k:Nat) (s6:HSt) (L213:List Int) (L230:List Int) (L279:List Int) (L299:List Int) (s300:HSt):Nat→Int→Option (Bool)
  | 0=>fun _=>none
  | kI+1=>LiveParts.l12b K1 k s6 L213 L230 L279 L299 s300 (LiveParts.l12 K1 k s6 L213 L230 L279 L299 s300 kI)
def LiveParts.j9 (K1:List Int) (K2:List Int) (k:Nat) (s5:HSt) (s6:HSt) (L73:List Int) (L144:List Int) (x146:Int) (rec149:List Int→Int→Option (Bool)) (y158:Bool):Option (Bool):=(if (y158) then (if (inR x146 K2.length) then (if ((IntKind.u64.wrap ((hObjsF s6.a).length:Int)) == 0) then none else (if (inR (IntKind.i64.wrap (Int.tmod (IntKind.u64.wrap (atI K2 x146)) (IntKind.u64.wrap ((hObjsF s6.a).length:Int)))) (hObjsF s6.a).length) then bind1 (pushM L144 (atI (hObjsF s6.a) (IntKind.i64.wrap (Int.tmod (IntKind.u64.wrap (atI K2 x146)) (IntKind.u64.wrap ((hObjsF s6.a).length:Int)))))) fun L196=>rec149 L196 (IntKind.i64.wrap (x146+1)) else none)) else none) else bind2 (live_Reach.m k s5 L73) fun L213 s214=>bind2 (live_Reach.m k s214 L144) fun L230 s231=>bind1 (appM [] L73) fun L251=>bind1 (appM L251 L144) fun L266=>bind2 (live_Reach.m k s231 L266) fun L279 s280=>bind2 (live_Lost.m k s280 L73) fun L299 s300=>LiveParts.l12 K1 k s6 L213 L230 L279 L299 s300 k 0)
def LiveParts.l8b (K1:List Int) (K2:List Int) (k:Nat) (s5:HSt) (s6:HSt) (L73:List Int) (rec149:List Int→Int→Option (Bool)) (L144:List Int) (x146:Int):Option (Bool):=(if (decide (x146<(K2.length:Int))) then LiveParts.j9 K1 K2 k s5 s6 L73 L144 x146 rec149 (decide (((hObjsF s6.a).length:Int) > 0)) else LiveParts.j9 K1 K2 k s5 s6 L73 L144 x146 rec149 false)
def LiveParts.l8 (K1:List Int) (K2:List Int) (k:Nat) (s5:HSt) (s6:HSt) (L73:List Int):Nat→List Int→Int→Option (Bool)
  | 0=>fun _ _=>none
  | kI+1=>LiveParts.l8b K1 K2 k s5 s6 L73 (LiveParts.l8 K1 K2 k s5 s6 L73 kI)
def LiveParts.j5 (K1:List Int) (K2:List Int) (k:Nat) (s5:HSt) (s6:HSt) (L73:List Int) (x75:Int) (rec78:List Int→Int→Option (Bool)) (y87:Bool):Option (Bool):=(if (y87) then (if (inR x75 K1.length) then (if ((IntKind.u64.wrap ((hObjsF s6.a).length:Int)) == 0) then none else (if (inR (IntKind.i64.wrap (Int.tmod (IntKind.u64.wrap (atI K1 x75)) (IntKind.u64.wrap ((hObjsF s6.a).length:Int)))) (hObjsF s6.a).length) then bind1 (pushM L73 (atI (hObjsF s6.a) (IntKind.i64.wrap (Int.tmod (IntKind.u64.wrap (atI K1 x75)) (IntKind.u64.wrap ((hObjsF s6.a).length:Int)))))) fun L126=>rec78 L126 (IntKind.i64.wrap (x75+1)) else none)) else none) else LiveParts.l8 K1 K2 k s5 s6 L73 k [] 0)
def LiveParts.l4b (K1:List Int) (K2:List Int) (k:Nat) (s5:HSt) (s6:HSt) (rec78:List Int→Int→Option (Bool)) (L73:List Int) (x75:Int):Option (Bool):=(if (decide (x75<(K1.length:Int))) then LiveParts.j5 K1 K2 k s5 s6 L73 x75 rec78 (decide (((hObjsF s6.a).length:Int) > 0)) else LiveParts.j5 K1 K2 k s5 s6 L73 x75 rec78 false)
def LiveParts.l4 (K1:List Int) (K2:List Int) (k:Nat) (s5:HSt) (s6:HSt):Nat→List Int→Int→Option (Bool)
  | 0=>fun _ _=>none
  | kI+1=>LiveParts.l4b K1 K2 k s5 s6 (LiveParts.l4 K1 K2 k s5 s6 kI)
def LiveParts.j1 (K1:List Int) (K2:List Int) (k:Nat) (s5:HSt) (s6:HSt) (y24:Bool):Option (Bool):=(if (y24) then bind1 (law22_awake.m k ) fun y34=>some (y34) else LiveParts.l4 K1 K2 k s5 s6 k [] 0)
def LiveParts.m (k:Nat) (K0:List Op22) (K1:List Int) (K2:List Int):Option (Bool):=bind2 (law22_builtQ.m k K0) fun s5 s6=>bind1 (law22_awake.m k ) fun y573=>(if (!(y573)) then LiveParts.j1 K1 K2 k s5 s6 true else (if (decide ((K1.length:Int) > 30)) then LiveParts.j1 K1 K2 k s5 s6 true else LiveParts.j1 K1 K2 k s5 s6 (decide ((K2.length:Int) > 30))))
set_option maxRecDepth 100000 in
set_option maxHeartbeats 40000000 in
theorem LiveParts.ok {w0 w:World} {ps:List Piece} {k:Nat} {pa0:Option Addr} {ca0:Nat} {K0:List Op22} (hA0:ArgX kOp w0 (.slice pa0 K0.length ca0) K0) {pa1:Option Addr} {ca1:Nat} {K1:List Int} (hA1:ArgInts w0 (.slice pa1 K1.length ca1) K1) {pa2:Option Addr} {ca2:Nat} {K2:List Int} (hA2:ArgInts w0 (.slice pa2 K2.length ca2) K2) {r0:Bool} (hS:St w0 [] (ps) w) (hm:LiveParts.m k K0 K1 K2=some r0) :
    Calls Try.prog 5 #[.slice pa0 K0.length ca0,.slice pa1 K1.length ca1,.slice pa2 K2.length ca2] w fun e w'=>e=.returned (.bool r0)∧St w0 [] (ps) w':=by
 refine ev_enterL 190 [.slice pa0 K0.length ca0,.slice pa1 K1.length ca1,.slice pa2 K2.length ca2] Try.func5 rfl rfl (by simp) ?_
 intro a hF
 have hF0:Fr 190 a [(0,.slice pa0 K0.length ca0),(1,.slice pa1 K1.length ca1),(2,.slice pa2 K2.length ca2)]:=hF; clear hF
 unfold LiveParts.m at hm
 refine wp_seq (wp_region_lit ?_)
 refine ev_runK 1 hF0 [0,1,2] (l':=[(0,.slice pa0 K0.length ca0),(1,.slice pa1 K1.length ca1),(2,.slice pa2 K2.length ca2)]) (w':=w) (by kernel_rfl) ?_
 intro a2 hF1; clear hF0
 refine wpList_nil (thenN (wp_seq (wp_region_lit ?_)))
 refine ev_runs 1 hF1 (l':=[(20,.slice pa0 K0.length ca0),(0,.slice pa0 K0.length ca0),(1,.slice pa1 K1.length ca1),(2,.slice pa2 K2.length ca2)]) (w':=w) (by kernel_rfl) ?_
 intro a4 hF3; clear hF1
 refine ev_call 27 #[.slice pa0 K0.length ca0] hF3 rfl rfl (by kernel_rfl) rfl (by kernel_rfl) (fun w=>by kernel_rfl) ?_
 obtain ⟨s5,s6,hx7,hm8⟩:=bind2E hm; clear hm
 refine (law22_builtQ.ok hA0 hS hx7).mono ?_
 rintro _ w9 ⟨z13,z14,z15,z16,z17,z18,z19,rfl,hS11⟩ a10 hF12; clear hF3 hS
 refine ev_runK 5 hF12 [1,2,7,8] (l':=[(8,nP z15 0),(7,nP z13 0),(1,.slice pa1 K1.length ca1),(2,.slice pa2 K2.length ca2)]) (w':=w9) (by kernel_rfl) ?_
 intro a23 hF22; clear hF12
 refine wpList_nil (thenN (wp_seq (wp_seq ?_)))
 refine joinQ (fun aI wI=>∃ (y24:Bool),Fr 190 aI [(43,.bool (y24)),(8,nP z15 0),(7,nP z13 0),(1,.slice pa1 K1.length ca1),(2,.slice pa2 K2.length ca2)]∧St w0 [] (HeapP z13 z14 s5::RHeapP z15 z16 z17 z18 z19 s6::ps) wI∧LiveParts.j1 K1 K2 k s5 s6 y24=some r0) ?_ ?_
 rotate_left
 · rintro a26 w27 ⟨y24,hF28,hS29,hm30⟩
   clear hF22 hS11 hm8
   unfold LiveParts.j1 at hm30
   refine thenN ?_
   cases hc32:(y24)
   case true =>
    rw [hc32] at hF28
    have hm33:=ifYes hc32 hm30; clear hm30
    refine ev_condT hF28 rfl rfl ?_
    refine wp_seq (wp_region_lit ?_)
    refine ev_call 28 #[] hF28 rfl rfl (by kernel_rfl) rfl (by kernel_rfl) (fun w=>by kernel_rfl) ?_
    obtain ⟨y34,hx35,hm36⟩:=bind1E hm33; clear hm33
    refine (law22_awake.ok hS29 hx35).mono ?_
    rintro _ w37 ⟨rfl,hS39⟩ a38 hF40; clear hF28 hS29
    refine ev_runK 1 hF40 [6] (l':=[(6,.bool (y34))]) (w':=w37) (by kernel_rfl) ?_
    intro a42 hF41; clear hF40
    refine wpList_nil ?_
    have hS43:=hS39.drop.drop
    clear hS39
    refine thenN ?_
    refine wp_ret ?_
    refine thenR ?_
    obtain rfl:=Option.some.inj hm36
    refine ev_ret hF41 [6] (.bool (y34)) rfl rfl rfl ?_
    exact ⟨rfl,hS43⟩
   rw [hc32] at hF28
   have hm45:=ifNot hc32 hm30; clear hm30
   refine ev_condF hF28 rfl rfl ?_
   refine wp_skip ?_
   have hF46:=hF28.keep [1,2,7,8]
   clear hF28
   refine thenN (wp_seq (wp_region_lit ?_))
   refine ev_runs 3 hF46 (l':=[(47,nP z15 0),(46,nP z15 0),(45,nP z15 0),(8,nP z15 0),(7,nP z13 0),(1,.slice pa1 K1.length ca1),(2,.slice pa2 K2.length ca2)]) (w':=w27) (by kernel_rfl) ?_
   intro a48 hF47; clear hF46
   refine ev_one (nP z16 0) w27 hF47 (by kernel_rfl) rfl (by kernel_rfl) (run_loadV rfl rfl (run_loadS rfl rfl (St.rhsee (k:=1) hS29 rfl).1)) (l':=[(48,nP z16 0),(47,nP z15 0),(46,nP z15 0),(45,nP z15 0),(8,nP z15 0),(7,nP z13 0),(1,.slice pa1 K1.length ca1),(2,.slice pa2 K2.length ca2)]) (by kernel_rfl) ?_
   intro a50 hF49; clear hF47
   have hS51:=hS29.pick1
   clear hS29
   refine ev_call 9 #[nP z16 0] hF49 rfl rfl (by kernel_rfl) rfl (by kernel_rfl) (fun w=>by kernel_rfl) ?_
   refine (q_Objects hS51).mono ?_
   rintro _ w52 ⟨z56,rfl,hS54⟩ a53 hF55; clear hF49 hS51
   obtain ⟨hl61,p58,c59,rfl,hp60⟩:=St.shape hS54 1 rfl
   refine ev_runK 1 hF55 [1,2,7,9] (l':=[(9,.slice p58 (hObjsF s6.a).length c59),(7,nP z13 0),(1,.slice pa1 K1.length ca1),(2,.slice pa2 K2.length ca2)]) (w':=w52) (by kernel_rfl) ?_
   intro a63 hF62; clear hF55
   refine wpList_nil ?_
   have hS64:=hS54.drop
   clear hS54
   refine thenN (wp_seq (wp_region_lit ?_))
   have hS66:St w0 [] (RowP (.slice none 0 0) []::RowP (.slice p58 (hObjsF s6.a).length c59) (hObjsF s6.a)::HeapP z13 z14 s5::ps) w52:=St.nil hS64
   clear hS64
   have hS68:St w0 [] (RowP (.slice none 0 0) []::RowP (.slice none 0 0) []::RowP (.slice p58 (hObjsF s6.a).length c59) (hObjsF s6.a)::HeapP z13 z14 s5::ps) w52:=St.nil hS66
   clear hS66
   refine ev_runs 2 hF62 (l':=[(11,.slice none 0 0),(10,.slice none 0 0),(9,.slice p58 (hObjsF s6.a).length c59),(7,nP z13 0),(1,.slice pa1 K1.length ca1),(2,.slice pa2 K2.length ca2)]) (w':=w52) (by kernel_rfl) ?_
   intro a70 hF69; clear hF62
   refine wpList_nil (thenN (wp_seq (wp_seq (wp_region_lit ?_))))
   refine ev_runs 1 hF69 (l':=[(12,nI 0),(11,.slice none 0 0),(10,.slice none 0 0),(9,.slice p58 (hObjsF s6.a).length c59),(7,nP z13 0),(1,.slice pa1 K1.length ca1),(2,.slice pa2 K2.length ca2)]) (w':=w52) (by kernel_rfl) ?_
   intro a72 hF71; clear hF69
   refine wpList_nil (thenN ?_)
   refine wp_block ?_
   refine wp_loop_ghost (fun kI aI wI=>∃ (v74:Value) (L73:List Int) (x75:Int),Fr 190 aI [(12,nI x75),(11,.slice none 0 0),(10,v74),(9,.slice p58 (hObjsF s6.a).length c59),(7,nP z13 0),(1,.slice pa1 K1.length ca1),(2,.slice pa2 K2.length ca2)]∧St w0 [] (RowP (.slice none 0 0) []::RowP (v74) L73::RowP (.slice p58 (hObjsF s6.a).length c59) (hObjsF s6.a)::HeapP z13 z14 s5::ps) wI∧LiveParts.l4 K1 K2 k s5 s6 kI L73 x75=some r0) k ⟨.slice none 0 0,[],0,hF71,hS68,hm45⟩ ?_
   rintro k76 a77 w78 ⟨v74,L73,x75,hF79,hS80,hm81⟩
   clear hF71 hS68 hm45
   rcases k76 with _ | k76
   · cases hm81
   have hm82:LiveParts.l4b K1 K2 k s5 s6 (LiveParts.l4 K1 K2 k s5 s6 k76) L73 x75=some r0:=hm81
   clear hm81
   unfold LiveParts.l4b at hm82
   obtain ⟨hl86,p83,c84,rfl,hp85⟩:=St.shape hS80 1 rfl
   refine wp_seq (wp_seq ?_)
   refine joinQ (fun aI wI=>∃ (y87:Bool),Fr 190 aI [(58,.bool (y87)),(12,nI x75),(11,.slice none 0 0),(10,.slice p83 L73.length c84),(9,.slice p58 (hObjsF s6.a).length c59),(7,nP z13 0),(1,.slice pa1 K1.length ca1),(2,.slice pa2 K2.length ca2)]∧St w0 [] (RowP (.slice none 0 0) []::RowP (.slice p83 L73.length c84) L73::RowP (.slice p58 (hObjsF s6.a).length c59) (hObjsF s6.a)::HeapP z13 z14 s5::ps) wI∧LiveParts.j5 K1 K2 k s5 s6 L73 x75 (LiveParts.l4 K1 K2 k s5 s6 k76) y87=some r0) ?_ ?_
   rotate_left
   · rintro a89 w90 ⟨y87,hF91,hS92,hm93⟩
     clear hF79 hS80 hm82
     unfold LiveParts.j5 at hm93
     refine thenN ?_
     cases hc95:(y87)
     case true =>
      rw [hc95] at hF91
      have hm96:=ifYes hc95 hm93; clear hm93
      refine ev_condT hF91 rfl rfl ?_
      refine wp_skip ?_
      have hF97:=hF91.keep [1,2,7,9,10,11,12]
      clear hF91
      refine thenN (wp_seq ?_)
      refine wp_block ?_
      refine wp_region_lit ?_
      refine ev_runs 4 hF97 (l':=[(64,nI x75),(63,.slice pa1 K1.length ca1),(62,.slice p58 (hObjsF s6.a).length c59),(61,.slice p83 L73.length c84),(12,nI x75),(11,.slice none 0 0),(10,.slice p83 L73.length c84),(9,.slice p58 (hObjsF s6.a).length c59),(7,nP z13 0),(1,.slice pa1 K1.length ca1),(2,.slice pa2 K2.length ca2)]) (w':=w90) (by kernel_rfl) ?_
      intro a99 hF98; clear hF97
      obtain ⟨hc100,hm101⟩:=ifTE hm96; clear hm96
      obtain ⟨b102,o103,rfl⟩:=argK hA1 hc100
      refine ev_one (nP b102 ((o103+x75.toNat))) w90 hF98 (by kernel_rfl) rfl (by kernel_rfl) (run_idxO rfl rfl rfl rfl rfl (inR_spec hc100).1 (inR_spec hc100).2 _) (l':=[(65,nP b102 ((o103+x75.toNat))),(64,nI x75),(63,.slice (some ⟨b102,o103,none⟩) K1.length ca1),(62,.slice p58 (hObjsF s6.a).length c59),(61,.slice p83 L73.length c84),(12,nI x75),(11,.slice none 0 0),(10,.slice p83 L73.length c84),(9,.slice p58 (hObjsF s6.a).length c59),(7,nP z13 0),(1,.slice (some ⟨b102,o103,none⟩) K1.length ca1),(2,.slice pa2 K2.length ca2)]) (by kernel_rfl) ?_
      intro a105 hF104; clear hF98
      refine ev_one (nI (atI K1 x75)) w90 hF104 (by kernel_rfl) rfl (by kernel_rfl) (run_load1 rfl rfl rfl (argAt hA1 hS92 hc100)) (l':=[(66,nI (atI K1 x75)),(65,nP b102 ((o103+x75.toNat))),(64,nI x75),(63,.slice (some ⟨b102,o103,none⟩) K1.length ca1),(62,.slice p58 (hObjsF s6.a).length c59),(61,.slice p83 L73.length c84),(12,nI x75),(11,.slice none 0 0),(10,.slice p83 L73.length c84),(9,.slice p58 (hObjsF s6.a).length c59),(7,nP z13 0),(1,.slice (some ⟨b102,o103,none⟩) K1.length ca1),(2,.slice pa2 K2.length ca2)]) (by kernel_rfl) ?_
      intro a107 hF106; clear hF104
      refine ev_runs 4 hF106 (l':=[(70,.int .u64 (IntKind.u64.wrap ((hObjsF s6.a).length:Int))),(69,nI (((hObjsF s6.a).length:Int))),(68,.slice p58 (hObjsF s6.a).length c59),(67,.int .u64 (IntKind.u64.wrap (atI K1 x75))),(66,nI (atI K1 x75)),(65,nP b102 ((o103+x75.toNat))),(64,nI x75),(63,.slice (some ⟨b102,o103,none⟩) K1.length ca1),(62,.slice p58 (hObjsF s6.a).length c59),(61,.slice p83 L73.length c84),(12,nI x75),(11,.slice none 0 0),(10,.slice p83 L73.length c84),(9,.slice p58 (hObjsF s6.a).length c59),(7,nP z13 0),(1,.slice (some ⟨b102,o103,none⟩) K1.length ca1),(2,.slice pa2 K2.length ca2)]) (w':=w90) (by kernel_rfl) ?_
      intro a109 hF108; clear hF106
      obtain ⟨hc110,hm111⟩:=ifFE hm101; clear hm101
      refine ev_one (.int .u64 (Int.tmod (IntKind.u64.wrap (atI K1 x75)) (IntKind.u64.wrap ((hObjsF s6.a).length:Int)))) w90 hF108 (by kernel_rfl) rfl (by kernel_rfl) (run_rem rfl rfl rfl hc110 _) (l':=[(71,.int .u64 (Int.tmod (IntKind.u64.wrap (atI K1 x75)) (IntKind.u64.wrap ((hObjsF s6.a).length:Int)))),(70,.int .u64 (IntKind.u64.wrap ((hObjsF s6.a).length:Int))),(69,nI (((hObjsF s6.a).length:Int))),(68,.slice p58 (hObjsF s6.a).length c59),(67,.int .u64 (IntKind.u64.wrap (atI K1 x75))),(66,nI (atI K1 x75)),(65,nP b102 ((o103+x75.toNat))),(64,nI x75),(63,.slice (some ⟨b102,o103,none⟩) K1.length ca1),(62,.slice p58 (hObjsF s6.a).length c59),(61,.slice p83 L73.length c84),(12,nI x75),(11,.slice none 0 0),(10,.slice p83 L73.length c84),(9,.slice p58 (hObjsF s6.a).length c59),(7,nP z13 0),(1,.slice (some ⟨b102,o103,none⟩) K1.length ca1),(2,.slice pa2 K2.length ca2)]) (by kernel_rfl) ?_
      intro a113 hF112; clear hF108
      refine ev_runs 1 hF112 (l':=[(72,nI (IntKind.i64.wrap (Int.tmod (IntKind.u64.wrap (atI K1 x75)) (IntKind.u64.wrap ((hObjsF s6.a).length:Int))))),(71,.int .u64 (Int.tmod (IntKind.u64.wrap (atI K1 x75)) (IntKind.u64.wrap ((hObjsF s6.a).length:Int)))),(70,.int .u64 (IntKind.u64.wrap ((hObjsF s6.a).length:Int))),(69,nI (((hObjsF s6.a).length:Int))),(68,.slice p58 (hObjsF s6.a).length c59),(67,.int .u64 (IntKind.u64.wrap (atI K1 x75))),(66,nI (atI K1 x75)),(65,nP b102 ((o103+x75.toNat))),(64,nI x75),(63,.slice (some ⟨b102,o103,none⟩) K1.length ca1),(62,.slice p58 (hObjsF s6.a).length c59),(61,.slice p83 L73.length c84),(12,nI x75),(11,.slice none 0 0),(10,.slice p83 L73.length c84),(9,.slice p58 (hObjsF s6.a).length c59),(7,nP z13 0),(1,.slice (some ⟨b102,o103,none⟩) K1.length ca1),(2,.slice pa2 K2.length ca2)]) (w':=w90) (by kernel_rfl) ?_
      intro a115 hF114; clear hF112
      obtain ⟨hc116,hm117⟩:=ifTE hm111; clear hm111
      obtain ⟨g118,rfl⟩:=hp60.resolve_left (by have:=inR_spec hc116; omega)
      refine ev_one (nP g118 ((IntKind.i64.wrap (Int.tmod (IntKind.u64.wrap (atI K1 x75)) (IntKind.u64.wrap ((hObjsF s6.a).length:Int)))).toNat)) w90 hF114 (by kernel_rfl) rfl (by kernel_rfl) (run_idx rfl rfl rfl rfl rfl (inR_spec hc116).1 (inR_spec hc116).2 _) (l':=[(73,nP g118 ((IntKind.i64.wrap (Int.tmod (IntKind.u64.wrap (atI K1 x75)) (IntKind.u64.wrap ((hObjsF s6.a).length:Int)))).toNat)),(72,nI (IntKind.i64.wrap (Int.tmod (IntKind.u64.wrap (atI K1 x75)) (IntKind.u64.wrap ((hObjsF s6.a).length:Int))))),(71,.int .u64 (Int.tmod (IntKind.u64.wrap (atI K1 x75)) (IntKind.u64.wrap ((hObjsF s6.a).length:Int)))),(70,.int .u64 (IntKind.u64.wrap ((hObjsF s6.a).length:Int))),(69,nI (((hObjsF s6.a).length:Int))),(68,.slice (some ⟨g118,0,none⟩) (hObjsF s6.a).length c59),(67,.int .u64 (IntKind.u64.wrap (atI K1 x75))),(66,nI (atI K1 x75)),(65,nP b102 ((o103+x75.toNat))),(64,nI x75),(63,.slice (some ⟨b102,o103,none⟩) K1.length ca1),(62,.slice (some ⟨g118,0,none⟩) (hObjsF s6.a).length c59),(61,.slice p83 L73.length c84),(12,nI x75),(11,.slice none 0 0),(10,.slice p83 L73.length c84),(9,.slice (some ⟨g118,0,none⟩) (hObjsF s6.a).length c59),(7,nP z13 0),(1,.slice (some ⟨b102,o103,none⟩) K1.length ca1),(2,.slice pa2 K2.length ca2)]) (by kernel_rfl) ?_
      intro a120 hF119; clear hF114
      refine ev_one (nI (atI (hObjsF s6.a) (IntKind.i64.wrap (Int.tmod (IntKind.u64.wrap (atI K1 x75)) (IntKind.u64.wrap ((hObjsF s6.a).length:Int)))))) w90 hF119 (by kernel_rfl) rfl (by kernel_rfl) (run_load1 rfl rfl rfl (hS92.atI 2 rfl hc116)) (l':=[(74,nI (atI (hObjsF s6.a) (IntKind.i64.wrap (Int.tmod (IntKind.u64.wrap (atI K1 x75)) (IntKind.u64.wrap ((hObjsF s6.a).length:Int)))))),(73,nP g118 ((IntKind.i64.wrap (Int.tmod (IntKind.u64.wrap (atI K1 x75)) (IntKind.u64.wrap ((hObjsF s6.a).length:Int)))).toNat)),(72,nI (IntKind.i64.wrap (Int.tmod (IntKind.u64.wrap (atI K1 x75)) (IntKind.u64.wrap ((hObjsF s6.a).length:Int))))),(71,.int .u64 (Int.tmod (IntKind.u64.wrap (atI K1 x75)) (IntKind.u64.wrap ((hObjsF s6.a).length:Int)))),(70,.int .u64 (IntKind.u64.wrap ((hObjsF s6.a).length:Int))),(69,nI (((hObjsF s6.a).length:Int))),(68,.slice (some ⟨g118,0,none⟩) (hObjsF s6.a).length c59),(67,.int .u64 (IntKind.u64.wrap (atI K1 x75))),(66,nI (atI K1 x75)),(65,nP b102 ((o103+x75.toNat))),(64,nI x75),(63,.slice (some ⟨b102,o103,none⟩) K1.length ca1),(62,.slice (some ⟨g118,0,none⟩) (hObjsF s6.a).length c59),(61,.slice p83 L73.length c84),(12,nI x75),(11,.slice none 0 0),(10,.slice p83 L73.length c84),(9,.slice (some ⟨g118,0,none⟩) (hObjsF s6.a).length c59),(7,nP z13 0),(1,.slice (some ⟨b102,o103,none⟩) K1.length ca1),(2,.slice pa2 K2.length ca2)]) (by kernel_rfl) ?_
      intro a122 hF121; clear hF119
      refine ev_runs 1 hF121 (l':=[(75,.slice (some ⟨w90.heap.size,0,none⟩) 1 1),(74,nI (atI (hObjsF s6.a) (IntKind.i64.wrap (Int.tmod (IntKind.u64.wrap (atI K1 x75)) (IntKind.u64.wrap ((hObjsF s6.a).length:Int)))))),(73,nP g118 ((IntKind.i64.wrap (Int.tmod (IntKind.u64.wrap (atI K1 x75)) (IntKind.u64.wrap ((hObjsF s6.a).length:Int)))).toNat)),(72,nI (IntKind.i64.wrap (Int.tmod (IntKind.u64.wrap (atI K1 x75)) (IntKind.u64.wrap ((hObjsF s6.a).length:Int))))),(71,.int .u64 (Int.tmod (IntKind.u64.wrap (atI K1 x75)) (IntKind.u64.wrap ((hObjsF s6.a).length:Int)))),(70,.int .u64 (IntKind.u64.wrap ((hObjsF s6.a).length:Int))),(69,nI (((hObjsF s6.a).length:Int))),(68,.slice (some ⟨g118,0,none⟩) (hObjsF s6.a).length c59),(67,.int .u64 (IntKind.u64.wrap (atI K1 x75))),(66,nI (atI K1 x75)),(65,nP b102 ((o103+x75.toNat))),(64,nI x75),(63,.slice (some ⟨b102,o103,none⟩) K1.length ca1),(62,.slice (some ⟨g118,0,none⟩) (hObjsF s6.a).length c59),(61,.slice p83 L73.length c84),(12,nI x75),(11,.slice none 0 0),(10,.slice p83 L73.length c84),(9,.slice (some ⟨g118,0,none⟩) (hObjsF s6.a).length c59),(7,nP z13 0),(1,.slice (some ⟨b102,o103,none⟩) K1.length ca1),(2,.slice pa2 K2.length ca2)]) (w':=w90.alloc (.cells #[nI (atI (hObjsF s6.a) (IntKind.i64.wrap (Int.tmod (IntKind.u64.wrap (atI K1 x75)) (IntKind.u64.wrap ((hObjsF s6.a).length:Int)))))] 3)) (by kernel_rfl) ?_
      intro a124 hF123; clear hF121
      have hS125:=hS92.pick1
      clear hS92
      obtain ⟨L126,hx127,hm128⟩:=bind1E hm117; clear hm117
      refine ev_push 76 (.tmp 61) (.tmp 75) hF123 rfl rfl rfl rfl rfl rfl rfl rfl hS125 hx127 ?_
      intro g129 c130 w131 a132 hS133 hF134; clear hF123 hS125
      refine ev_runK 1 hF134 [1,2,7,9,10,11,12] (l':=[(10,nS g129 L126 c130),(12,nI x75),(11,.slice none 0 0),(9,.slice (some ⟨g118,0,none⟩) (hObjsF s6.a).length c59),(7,nP z13 0),(1,.slice (some ⟨b102,o103,none⟩) K1.length ca1),(2,.slice pa2 K2.length ca2)]) (w':=w131) (by kernel_rfl) ?_
      intro a136 hF135; clear hF134
      refine wpList_nil ?_
      refine blockN ?_
      refine thenN (wp_region_lit ?_)
      refine ev_runK 3 hF135 [1,2,7,9,10,11,12] (l':=[(12,nI (IntKind.i64.wrap (x75+1))),(10,nS g129 L126 c130),(11,.slice none 0 0),(9,.slice (some ⟨g118,0,none⟩) (hObjsF s6.a).length c59),(7,nP z13 0),(1,.slice (some ⟨b102,o103,none⟩) K1.length ca1),(2,.slice pa2 K2.length ca2)]) (w':=w131) (by kernel_rfl) ?_
      intro a138 hF137; clear hF135
      refine wpList_nil ?_
      have hF139:Fr 190 a138 [(12,nI (IntKind.i64.wrap (x75+1))),(11,.slice none 0 0),(10,nS g129 L126 c130),(9,.slice (some ⟨g118,0,none⟩) (hObjsF s6.a).length c59),(7,nP z13 0),(1,.slice (some ⟨b102,o103,none⟩) K1.length ca1),(2,.slice pa2 K2.length ca2)]:=Fr.re hF137 (by kernel_rfl)
      clear hF137
      have hS140:=hS133.pick3.pick3.pick2.pick3
      clear hS133
      exact thenN ⟨k76,Nat.lt_succ_self _,nS g129 L126 c130,L126,IntKind.i64.wrap (x75+1),hF139,hS140,hm128⟩
     rw [hc95] at hF91
     have hm141:=ifNot hc95 hm93; clear hm93
     refine ev_condF hF91 rfl rfl ?_
     refine wp_exit ?_
     refine thenE ?_
     refine thenE ?_
     refine blockE ?_
     refine thenN (wp_seq (wp_seq (wp_region_lit ?_)))
     refine ev_runK 1 hF91 [1,2,7,9,10,11,13] (l':=[(13,nI 0),(11,.slice none 0 0),(10,.slice p83 L73.length c84),(9,.slice p58 (hObjsF s6.a).length c59),(7,nP z13 0),(1,.slice pa1 K1.length ca1),(2,.slice pa2 K2.length ca2)]) (w':=w90) (by kernel_rfl) ?_
     intro a143 hF142; clear hF91
     refine wpList_nil (thenN ?_)
     refine wp_block ?_
     refine wp_loop_ghost (fun kI aI wI=>∃ (v145:Value) (L144:List Int) (x146:Int),Fr 190 aI [(13,nI x146),(11,v145),(10,.slice p83 L73.length c84),(9,.slice p58 (hObjsF s6.a).length c59),(7,nP z13 0),(1,.slice pa1 K1.length ca1),(2,.slice pa2 K2.length ca2)]∧St w0 [] (RowP (v145) L144::RowP (.slice p83 L73.length c84) L73::RowP (.slice p58 (hObjsF s6.a).length c59) (hObjsF s6.a)::HeapP z13 z14 s5::ps) wI∧LiveParts.l8 K1 K2 k s5 s6 L73 kI L144 x146=some r0) k ⟨.slice none 0 0,[],0,hF142,hS92,hm141⟩ ?_
     rintro k147 a148 w149 ⟨v145,L144,x146,hF150,hS151,hm152⟩
     clear hF142 hS92 hm141
     rcases k147 with _ | k147
     · cases hm152
     have hm153:LiveParts.l8b K1 K2 k s5 s6 L73 (LiveParts.l8 K1 K2 k s5 s6 L73 k147) L144 x146=some r0:=hm152
     clear hm152
     unfold LiveParts.l8b at hm153
     obtain ⟨hl157,p154,c155,rfl,hp156⟩:=St.shape hS151 0 rfl
     refine wp_seq (wp_seq ?_)
     refine joinQ (fun aI wI=>∃ (y158:Bool),Fr 190 aI [(85,.bool (y158)),(13,nI x146),(11,.slice p154 L144.length c155),(10,.slice p83 L73.length c84),(9,.slice p58 (hObjsF s6.a).length c59),(7,nP z13 0),(1,.slice pa1 K1.length ca1),(2,.slice pa2 K2.length ca2)]∧St w0 [] (RowP (.slice p154 L144.length c155) L144::RowP (.slice p83 L73.length c84) L73::RowP (.slice p58 (hObjsF s6.a).length c59) (hObjsF s6.a)::HeapP z13 z14 s5::ps) wI∧LiveParts.j9 K1 K2 k s5 s6 L73 L144 x146 (LiveParts.l8 K1 K2 k s5 s6 L73 k147) y158=some r0) ?_ ?_
     rotate_left
     · rintro a160 w161 ⟨y158,hF162,hS163,hm164⟩
       clear hF150 hS151 hm153
       unfold LiveParts.j9 at hm164
       refine thenN ?_
       cases hc166:(y158)
       case true =>
        rw [hc166] at hF162
        have hm167:=ifYes hc166 hm164; clear hm164
        refine ev_condT hF162 rfl rfl ?_
        refine wp_skip ?_
        have hF168:=hF162.keep [1,2,7,9,10,11,13]
        clear hF162
        refine thenN (wp_seq ?_)
        refine wp_block ?_
        refine wp_region_lit ?_
        refine ev_runs 4 hF168 (l':=[(91,nI x146),(90,.slice pa2 K2.length ca2),(89,.slice p58 (hObjsF s6.a).length c59),(88,.slice p154 L144.length c155),(13,nI x146),(11,.slice p154 L144.length c155),(10,.slice p83 L73.length c84),(9,.slice p58 (hObjsF s6.a).length c59),(7,nP z13 0),(1,.slice pa1 K1.length ca1),(2,.slice pa2 K2.length ca2)]) (w':=w161) (by kernel_rfl) ?_
        intro a170 hF169; clear hF168
        obtain ⟨hc171,hm172⟩:=ifTE hm167; clear hm167
        obtain ⟨b173,o174,rfl⟩:=argK hA2 hc171
        refine ev_one (nP b173 ((o174+x146.toNat))) w161 hF169 (by kernel_rfl) rfl (by kernel_rfl) (run_idxO rfl rfl rfl rfl rfl (inR_spec hc171).1 (inR_spec hc171).2 _) (l':=[(92,nP b173 ((o174+x146.toNat))),(91,nI x146),(90,.slice (some ⟨b173,o174,none⟩) K2.length ca2),(89,.slice p58 (hObjsF s6.a).length c59),(88,.slice p154 L144.length c155),(13,nI x146),(11,.slice p154 L144.length c155),(10,.slice p83 L73.length c84),(9,.slice p58 (hObjsF s6.a).length c59),(7,nP z13 0),(1,.slice pa1 K1.length ca1),(2,.slice (some ⟨b173,o174,none⟩) K2.length ca2)]) (by kernel_rfl) ?_
        intro a176 hF175; clear hF169
        refine ev_one (nI (atI K2 x146)) w161 hF175 (by kernel_rfl) rfl (by kernel_rfl) (run_load1 rfl rfl rfl (argAt hA2 hS163 hc171)) (l':=[(93,nI (atI K2 x146)),(92,nP b173 ((o174+x146.toNat))),(91,nI x146),(90,.slice (some ⟨b173,o174,none⟩) K2.length ca2),(89,.slice p58 (hObjsF s6.a).length c59),(88,.slice p154 L144.length c155),(13,nI x146),(11,.slice p154 L144.length c155),(10,.slice p83 L73.length c84),(9,.slice p58 (hObjsF s6.a).length c59),(7,nP z13 0),(1,.slice pa1 K1.length ca1),(2,.slice (some ⟨b173,o174,none⟩) K2.length ca2)]) (by kernel_rfl) ?_
        intro a178 hF177; clear hF175
        refine ev_runs 4 hF177 (l':=[(97,.int .u64 (IntKind.u64.wrap ((hObjsF s6.a).length:Int))),(96,nI (((hObjsF s6.a).length:Int))),(95,.slice p58 (hObjsF s6.a).length c59),(94,.int .u64 (IntKind.u64.wrap (atI K2 x146))),(93,nI (atI K2 x146)),(92,nP b173 ((o174+x146.toNat))),(91,nI x146),(90,.slice (some ⟨b173,o174,none⟩) K2.length ca2),(89,.slice p58 (hObjsF s6.a).length c59),(88,.slice p154 L144.length c155),(13,nI x146),(11,.slice p154 L144.length c155),(10,.slice p83 L73.length c84),(9,.slice p58 (hObjsF s6.a).length c59),(7,nP z13 0),(1,.slice pa1 K1.length ca1),(2,.slice (some ⟨b173,o174,none⟩) K2.length ca2)]) (w':=w161) (by kernel_rfl) ?_
        intro a180 hF179; clear hF177
        obtain ⟨hc181,hm182⟩:=ifFE hm172; clear hm172
        refine ev_one (.int .u64 (Int.tmod (IntKind.u64.wrap (atI K2 x146)) (IntKind.u64.wrap ((hObjsF s6.a).length:Int)))) w161 hF179 (by kernel_rfl) rfl (by kernel_rfl) (run_rem rfl rfl rfl hc181 _) (l':=[(98,.int .u64 (Int.tmod (IntKind.u64.wrap (atI K2 x146)) (IntKind.u64.wrap ((hObjsF s6.a).length:Int)))),(97,.int .u64 (IntKind.u64.wrap ((hObjsF s6.a).length:Int))),(96,nI (((hObjsF s6.a).length:Int))),(95,.slice p58 (hObjsF s6.a).length c59),(94,.int .u64 (IntKind.u64.wrap (atI K2 x146))),(93,nI (atI K2 x146)),(92,nP b173 ((o174+x146.toNat))),(91,nI x146),(90,.slice (some ⟨b173,o174,none⟩) K2.length ca2),(89,.slice p58 (hObjsF s6.a).length c59),(88,.slice p154 L144.length c155),(13,nI x146),(11,.slice p154 L144.length c155),(10,.slice p83 L73.length c84),(9,.slice p58 (hObjsF s6.a).length c59),(7,nP z13 0),(1,.slice pa1 K1.length ca1),(2,.slice (some ⟨b173,o174,none⟩) K2.length ca2)]) (by kernel_rfl) ?_
        intro a184 hF183; clear hF179
        refine ev_runs 1 hF183 (l':=[(99,nI (IntKind.i64.wrap (Int.tmod (IntKind.u64.wrap (atI K2 x146)) (IntKind.u64.wrap ((hObjsF s6.a).length:Int))))),(98,.int .u64 (Int.tmod (IntKind.u64.wrap (atI K2 x146)) (IntKind.u64.wrap ((hObjsF s6.a).length:Int)))),(97,.int .u64 (IntKind.u64.wrap ((hObjsF s6.a).length:Int))),(96,nI (((hObjsF s6.a).length:Int))),(95,.slice p58 (hObjsF s6.a).length c59),(94,.int .u64 (IntKind.u64.wrap (atI K2 x146))),(93,nI (atI K2 x146)),(92,nP b173 ((o174+x146.toNat))),(91,nI x146),(90,.slice (some ⟨b173,o174,none⟩) K2.length ca2),(89,.slice p58 (hObjsF s6.a).length c59),(88,.slice p154 L144.length c155),(13,nI x146),(11,.slice p154 L144.length c155),(10,.slice p83 L73.length c84),(9,.slice p58 (hObjsF s6.a).length c59),(7,nP z13 0),(1,.slice pa1 K1.length ca1),(2,.slice (some ⟨b173,o174,none⟩) K2.length ca2)]) (w':=w161) (by kernel_rfl) ?_
        intro a186 hF185; clear hF183
        obtain ⟨hc187,hm188⟩:=ifTE hm182; clear hm182
        obtain ⟨g189,rfl⟩:=hp60.resolve_left (by have:=inR_spec hc187; omega)
        refine ev_one (nP g189 ((IntKind.i64.wrap (Int.tmod (IntKind.u64.wrap (atI K2 x146)) (IntKind.u64.wrap ((hObjsF s6.a).length:Int)))).toNat)) w161 hF185 (by kernel_rfl) rfl (by kernel_rfl) (run_idx rfl rfl rfl rfl rfl (inR_spec hc187).1 (inR_spec hc187).2 _) (l':=[(100,nP g189 ((IntKind.i64.wrap (Int.tmod (IntKind.u64.wrap (atI K2 x146)) (IntKind.u64.wrap ((hObjsF s6.a).length:Int)))).toNat)),(99,nI (IntKind.i64.wrap (Int.tmod (IntKind.u64.wrap (atI K2 x146)) (IntKind.u64.wrap ((hObjsF s6.a).length:Int))))),(98,.int .u64 (Int.tmod (IntKind.u64.wrap (atI K2 x146)) (IntKind.u64.wrap ((hObjsF s6.a).length:Int)))),(97,.int .u64 (IntKind.u64.wrap ((hObjsF s6.a).length:Int))),(96,nI (((hObjsF s6.a).length:Int))),(95,.slice (some ⟨g189,0,none⟩) (hObjsF s6.a).length c59),(94,.int .u64 (IntKind.u64.wrap (atI K2 x146))),(93,nI (atI K2 x146)),(92,nP b173 ((o174+x146.toNat))),(91,nI x146),(90,.slice (some ⟨b173,o174,none⟩) K2.length ca2),(89,.slice (some ⟨g189,0,none⟩) (hObjsF s6.a).length c59),(88,.slice p154 L144.length c155),(13,nI x146),(11,.slice p154 L144.length c155),(10,.slice p83 L73.length c84),(9,.slice (some ⟨g189,0,none⟩) (hObjsF s6.a).length c59),(7,nP z13 0),(1,.slice pa1 K1.length ca1),(2,.slice (some ⟨b173,o174,none⟩) K2.length ca2)]) (by kernel_rfl) ?_
        intro a191 hF190; clear hF185
        refine ev_one (nI (atI (hObjsF s6.a) (IntKind.i64.wrap (Int.tmod (IntKind.u64.wrap (atI K2 x146)) (IntKind.u64.wrap ((hObjsF s6.a).length:Int)))))) w161 hF190 (by kernel_rfl) rfl (by kernel_rfl) (run_load1 rfl rfl rfl (hS163.atI 2 rfl hc187)) (l':=[(101,nI (atI (hObjsF s6.a) (IntKind.i64.wrap (Int.tmod (IntKind.u64.wrap (atI K2 x146)) (IntKind.u64.wrap ((hObjsF s6.a).length:Int)))))),(100,nP g189 ((IntKind.i64.wrap (Int.tmod (IntKind.u64.wrap (atI K2 x146)) (IntKind.u64.wrap ((hObjsF s6.a).length:Int)))).toNat)),(99,nI (IntKind.i64.wrap (Int.tmod (IntKind.u64.wrap (atI K2 x146)) (IntKind.u64.wrap ((hObjsF s6.a).length:Int))))),(98,.int .u64 (Int.tmod (IntKind.u64.wrap (atI K2 x146)) (IntKind.u64.wrap ((hObjsF s6.a).length:Int)))),(97,.int .u64 (IntKind.u64.wrap ((hObjsF s6.a).length:Int))),(96,nI (((hObjsF s6.a).length:Int))),(95,.slice (some ⟨g189,0,none⟩) (hObjsF s6.a).length c59),(94,.int .u64 (IntKind.u64.wrap (atI K2 x146))),(93,nI (atI K2 x146)),(92,nP b173 ((o174+x146.toNat))),(91,nI x146),(90,.slice (some ⟨b173,o174,none⟩) K2.length ca2),(89,.slice (some ⟨g189,0,none⟩) (hObjsF s6.a).length c59),(88,.slice p154 L144.length c155),(13,nI x146),(11,.slice p154 L144.length c155),(10,.slice p83 L73.length c84),(9,.slice (some ⟨g189,0,none⟩) (hObjsF s6.a).length c59),(7,nP z13 0),(1,.slice pa1 K1.length ca1),(2,.slice (some ⟨b173,o174,none⟩) K2.length ca2)]) (by kernel_rfl) ?_
        intro a193 hF192; clear hF190
        refine ev_runs 1 hF192 (l':=[(102,.slice (some ⟨w161.heap.size,0,none⟩) 1 1),(101,nI (atI (hObjsF s6.a) (IntKind.i64.wrap (Int.tmod (IntKind.u64.wrap (atI K2 x146)) (IntKind.u64.wrap ((hObjsF s6.a).length:Int)))))),(100,nP g189 ((IntKind.i64.wrap (Int.tmod (IntKind.u64.wrap (atI K2 x146)) (IntKind.u64.wrap ((hObjsF s6.a).length:Int)))).toNat)),(99,nI (IntKind.i64.wrap (Int.tmod (IntKind.u64.wrap (atI K2 x146)) (IntKind.u64.wrap ((hObjsF s6.a).length:Int))))),(98,.int .u64 (Int.tmod (IntKind.u64.wrap (atI K2 x146)) (IntKind.u64.wrap ((hObjsF s6.a).length:Int)))),(97,.int .u64 (IntKind.u64.wrap ((hObjsF s6.a).length:Int))),(96,nI (((hObjsF s6.a).length:Int))),(95,.slice (some ⟨g189,0,none⟩) (hObjsF s6.a).length c59),(94,.int .u64 (IntKind.u64.wrap (atI K2 x146))),(93,nI (atI K2 x146)),(92,nP b173 ((o174+x146.toNat))),(91,nI x146),(90,.slice (some ⟨b173,o174,none⟩) K2.length ca2),(89,.slice (some ⟨g189,0,none⟩) (hObjsF s6.a).length c59),(88,.slice p154 L144.length c155),(13,nI x146),(11,.slice p154 L144.length c155),(10,.slice p83 L73.length c84),(9,.slice (some ⟨g189,0,none⟩) (hObjsF s6.a).length c59),(7,nP z13 0),(1,.slice pa1 K1.length ca1),(2,.slice (some ⟨b173,o174,none⟩) K2.length ca2)]) (w':=w161.alloc (.cells #[nI (atI (hObjsF s6.a) (IntKind.i64.wrap (Int.tmod (IntKind.u64.wrap (atI K2 x146)) (IntKind.u64.wrap ((hObjsF s6.a).length:Int)))))] 3)) (by kernel_rfl) ?_
        intro a195 hF194; clear hF192
        obtain ⟨L196,hx197,hm198⟩:=bind1E hm188; clear hm188
        refine ev_push 103 (.tmp 88) (.tmp 102) hF194 rfl rfl rfl rfl rfl rfl rfl rfl hS163 hx197 ?_
        intro g199 c200 w201 a202 hS203 hF204; clear hF194 hS163
        refine ev_runK 1 hF204 [1,2,7,9,10,11,13] (l':=[(11,nS g199 L196 c200),(13,nI x146),(10,.slice p83 L73.length c84),(9,.slice (some ⟨g189,0,none⟩) (hObjsF s6.a).length c59),(7,nP z13 0),(1,.slice pa1 K1.length ca1),(2,.slice (some ⟨b173,o174,none⟩) K2.length ca2)]) (w':=w201) (by kernel_rfl) ?_
        intro a206 hF205; clear hF204
        refine wpList_nil ?_
        refine blockN ?_
        refine thenN (wp_region_lit ?_)
        refine ev_runK 3 hF205 [1,2,7,9,10,11,13] (l':=[(13,nI (IntKind.i64.wrap (x146+1))),(11,nS g199 L196 c200),(10,.slice p83 L73.length c84),(9,.slice (some ⟨g189,0,none⟩) (hObjsF s6.a).length c59),(7,nP z13 0),(1,.slice pa1 K1.length ca1),(2,.slice (some ⟨b173,o174,none⟩) K2.length ca2)]) (w':=w201) (by kernel_rfl) ?_
        intro a208 hF207; clear hF205
        refine wpList_nil ?_
        exact thenN ⟨k147,Nat.lt_succ_self _,nS g199 L196 c200,L196,IntKind.i64.wrap (x146+1),hF207,hS203,hm198⟩
       rw [hc166] at hF162
       have hm209:=ifNot hc166 hm164; clear hm164
       refine ev_condF hF162 rfl rfl ?_
       refine wp_exit ?_
       refine thenE ?_
       refine thenE ?_
       refine blockE ?_
       refine thenN (wp_seq (wp_region_lit ?_))
       refine ev_runs 2 hF162 (l':=[(105,.slice p83 L73.length c84),(104,nP z13 0),(85,.bool false),(13,nI x146),(11,.slice p154 L144.length c155),(10,.slice p83 L73.length c84),(9,.slice p58 (hObjsF s6.a).length c59),(7,nP z13 0),(1,.slice pa1 K1.length ca1),(2,.slice pa2 K2.length ca2)]) (w':=w161) (by kernel_rfl) ?_
       intro a211 hF210; clear hF162
       have hS212:=hS163.pick1.pick3
       clear hS163
       refine ev_call 29 #[nP z13 0,.slice p83 L73.length c84] hF210 rfl rfl (by kernel_rfl) rfl (by kernel_rfl) (fun w=>by kernel_rfl) ?_
       obtain ⟨L213,s214,hx215,hm216⟩:=bind2E hm209; clear hm209
       refine (live_Reach.ok hS212 hx215).mono ?_
       rintro _ w217 ⟨z221,rfl,hS219⟩ a218 hF220; clear hF210 hS212
       obtain ⟨hl226,p223,c224,rfl,hp225⟩:=St.shape hS219 2 rfl
       refine ev_runs 2 hF220 (l':=[(108,.slice p154 L144.length c155),(107,nP z13 0),(106,.slice p223 L213.length c224),(105,.slice p83 L73.length c84),(104,nP z13 0),(85,.bool false),(13,nI x146),(11,.slice p154 L144.length c155),(10,.slice p83 L73.length c84),(9,.slice p58 (hObjsF s6.a).length c59),(7,nP z13 0),(1,.slice pa1 K1.length ca1),(2,.slice pa2 K2.length ca2)]) (w':=w217) (by kernel_rfl) ?_
       intro a228 hF227; clear hF220
       have hS229:=hS219.pick3.pick1
       clear hS219
       refine ev_call 29 #[nP z13 0,.slice p154 L144.length c155] hF227 rfl rfl (by kernel_rfl) rfl (by kernel_rfl) (fun w=>by kernel_rfl) ?_
       obtain ⟨L230,s231,hx232,hm233⟩:=bind2E hm216; clear hm216
       refine (live_Reach.ok hS229 hx232).mono ?_
       rintro _ w234 ⟨z238,rfl,hS236⟩ a235 hF237; clear hF227 hS229
       obtain ⟨hl243,p240,c241,rfl,hp242⟩:=St.shape hS236 2 rfl
       refine ev_runK 2 hF237 [1,7,9,10,11,14,15] (l':=[(15,.slice p240 L230.length c241),(14,.slice p223 L213.length c224),(11,.slice p154 L144.length c155),(10,.slice p83 L73.length c84),(9,.slice p58 (hObjsF s6.a).length c59),(7,nP z13 0),(1,.slice pa1 K1.length ca1)]) (w':=w234) (by kernel_rfl) ?_
       intro a245 hF244; clear hF237
       refine wpList_nil (thenN (wp_seq (wp_region_lit ?_)))
       refine ev_runs 2 hF244 (l':=[(111,.slice p83 L73.length c84),(110,nP z13 0),(15,.slice p240 L230.length c241),(14,.slice p223 L213.length c224),(11,.slice p154 L144.length c155),(10,.slice p83 L73.length c84),(9,.slice p58 (hObjsF s6.a).length c59),(7,nP z13 0),(1,.slice pa1 K1.length ca1)]) (w':=w234) (by kernel_rfl) ?_
       intro a247 hF246; clear hF244
       have hS249:St w0 [] (RowP (.slice none 0 0) []::HeapP z13 z14 s231::RowP (.slice p154 L144.length c155) L144::RowP (.slice p240 L230.length c241) L230::RowP (.slice p83 L73.length c84) L73::RowP (.slice p223 L213.length c224) L213::RowP (.slice p58 (hObjsF s6.a).length c59) (hObjsF s6.a)::ps) w234:=St.nil hS236
       clear hS236
       have hS250:=hS249.pick4.pick1
       clear hS249
       obtain ⟨L251,hx252,hm253⟩:=bind1E hm233; clear hm233
       refine ev_appM 34 rfl 112 (.const (.slice none 0 0)) (.tmp 111) hF246 rfl rfl (by kernel_rfl) rfl rfl rfl rfl rfl hS250 hx252 ?_
       intro v254 w255 a256 hS257 hF258; clear hF246 hS250
       obtain ⟨hl262,p259,c260,rfl,hp261⟩:=St.shape hS257 0 rfl
       refine ev_runs 1 hF258 (l':=[(113,.slice p154 L144.length c155),(112,.slice p259 L251.length c260),(111,.slice p83 L73.length c84),(110,nP z13 0),(15,.slice p240 L230.length c241),(14,.slice p223 L213.length c224),(11,.slice p154 L144.length c155),(10,.slice p83 L73.length c84),(9,.slice p58 (hObjsF s6.a).length c59),(7,nP z13 0),(1,.slice pa1 K1.length ca1)]) (w':=w255) (by kernel_rfl) ?_
       intro a264 hF263; clear hF258
       have hS265:=hS257.pick3.pick1
       clear hS257
       obtain ⟨L266,hx267,hm268⟩:=bind1E hm253; clear hm253
       refine ev_appM 34 rfl 114 (.tmp 112) (.tmp 113) hF263 rfl rfl (by kernel_rfl) rfl rfl rfl rfl rfl hS265 hx267 ?_
       intro v269 w270 a271 hS272 hF273; clear hF263 hS265
       obtain ⟨hl277,p274,c275,rfl,hp276⟩:=St.shape hS272 0 rfl
       have hS278:=hS272.pick3
       clear hS272
       refine ev_call 29 #[nP z13 0,.slice p274 L266.length c275] hF273 rfl rfl (by kernel_rfl) rfl (by kernel_rfl) (fun w=>by kernel_rfl) ?_
       obtain ⟨L279,s280,hx281,hm282⟩:=bind2E hm268; clear hm268
       refine (live_Reach.ok hS278 hx281).mono ?_
       rintro _ w283 ⟨z287,rfl,hS285⟩ a284 hF286; clear hF273 hS278
       obtain ⟨hl292,p289,c290,rfl,hp291⟩:=St.shape hS285 2 rfl
       refine ev_runK 1 hF286 [1,7,9,10,14,15,16] (l':=[(16,.slice p289 L279.length c290),(15,.slice p240 L230.length c241),(14,.slice p223 L213.length c224),(10,.slice p83 L73.length c84),(9,.slice p58 (hObjsF s6.a).length c59),(7,nP z13 0),(1,.slice pa1 K1.length ca1)]) (w':=w283) (by kernel_rfl) ?_
       intro a294 hF293; clear hF286
       refine wpList_nil ?_
       have hS295:=hS285.pick1.drop.pick2.drop
       clear hS285
       refine thenN (wp_seq (wp_region_lit ?_))
       refine ev_runs 2 hF293 (l':=[(117,.slice p83 L73.length c84),(116,nP z13 0),(16,.slice p289 L279.length c290),(15,.slice p240 L230.length c241),(14,.slice p223 L213.length c224),(10,.slice p83 L73.length c84),(9,.slice p58 (hObjsF s6.a).length c59),(7,nP z13 0),(1,.slice pa1 K1.length ca1)]) (w':=w283) (by kernel_rfl) ?_
       intro a297 hF296; clear hF293
       have hS298:=hS295.pick2.pick1
       clear hS295
       refine ev_call 31 #[nP z13 0,.slice p83 L73.length c84] hF296 rfl rfl (by kernel_rfl) rfl (by kernel_rfl) (fun w=>by kernel_rfl) ?_
       obtain ⟨L299,s300,hx301,hm302⟩:=bind2E hm282; clear hm282
       refine (live_Lost.ok hS298 hx301).mono ?_
       rintro _ w303 ⟨z307,rfl,hS305⟩ a304 hF306; clear hF296 hS298
       obtain ⟨hl312,p309,c310,rfl,hp311⟩:=St.shape hS305 2 rfl
       refine ev_runK 1 hF306 [1,7,9,14,15,16,17] (l':=[(17,.slice p309 L299.length c310),(16,.slice p289 L279.length c290),(15,.slice p240 L230.length c241),(14,.slice p223 L213.length c224),(9,.slice p58 (hObjsF s6.a).length c59),(7,nP z13 0),(1,.slice pa1 K1.length ca1)]) (w':=w303) (by kernel_rfl) ?_
       intro a314 hF313; clear hF306
       refine wpList_nil ?_
       have hS315:=hS305.pick1.drop
       clear hS305
       refine thenN (wp_seq (wp_seq (wp_region_lit ?_)))
       refine ev_runs 1 hF313 (l':=[(18,nI 0),(17,.slice p309 L299.length c310),(16,.slice p289 L279.length c290),(15,.slice p240 L230.length c241),(14,.slice p223 L213.length c224),(9,.slice p58 (hObjsF s6.a).length c59),(7,nP z13 0),(1,.slice pa1 K1.length ca1)]) (w':=w303) (by kernel_rfl) ?_
       intro a317 hF316; clear hF313
       refine wpList_nil (thenN ?_)
       refine wp_block ?_
       refine wp_loop_ghost (fun kI aI wI=>∃ (x318:Int),Fr 190 aI [(18,nI x318),(17,.slice p309 L299.length c310),(16,.slice p289 L279.length c290),(15,.slice p240 L230.length c241),(14,.slice p223 L213.length c224),(9,.slice p58 (hObjsF s6.a).length c59),(7,nP z13 0),(1,.slice pa1 K1.length ca1)]∧St w0 [] (HeapP z13 z14 s300::RowP (.slice p309 L299.length c310) L299::RowP (.slice p289 L279.length c290) L279::RowP (.slice p240 L230.length c241) L230::RowP (.slice p223 L213.length c224) L213::RowP (.slice p58 (hObjsF s6.a).length c59) (hObjsF s6.a)::ps) wI∧LiveParts.l12 K1 k s6 L213 L230 L279 L299 s300 kI x318=some r0) k ⟨0,hF316,hS315,hm302⟩ ?_
       rintro k319 a320 w321 ⟨x318,hF322,hS323,hm324⟩
       clear hF316 hS315 hm302
       rcases k319 with _ | k319
       · cases hm324
       have hm325:LiveParts.l12b K1 k s6 L213 L230 L279 L299 s300 (LiveParts.l12 K1 k s6 L213 L230 L279 L299 s300 k319) x318=some r0:=hm324
       clear hm324
       unfold LiveParts.l12b at hm325
       refine wp_seq (wp_seq (wp_region_lit ?_))
       refine ev_runK 4 hF322 [1,7,9,14,15,16,17,18,122] (l':=[(122,.bool (decide (x318<((hObjsF s6.a).length:Int)))),(18,nI x318),(17,.slice p309 L299.length c310),(16,.slice p289 L279.length c290),(15,.slice p240 L230.length c241),(14,.slice p223 L213.length c224),(9,.slice p58 (hObjsF s6.a).length c59),(7,nP z13 0),(1,.slice pa1 K1.length ca1)]) (w':=w321) (by kernel_rfl) ?_
       intro a327 hF326; clear hF322
       refine wpList_nil (thenN ?_)
       cases hc328:(decide (x318<((hObjsF s6.a).length:Int)))
       case true =>
        rw [hc328] at hF326
        have hm329:=ifYes hc328 hm325; clear hm325
        refine ev_condT hF326 rfl rfl ?_
        refine wp_skip ?_
        have hF330:=hF326.keep [1,7,9,14,15,16,17,18]
        clear hF326
        refine thenN (wp_seq ?_)
        refine wp_block ?_
        refine wp_seq ?_
        refine joinQ (fun aI wI=>∃ (y331:Bool),Fr 190 aI [(160,.bool (y331)),(18,nI x318),(17,.slice p309 L299.length c310),(16,.slice p289 L279.length c290),(15,.slice p240 L230.length c241),(14,.slice p223 L213.length c224),(9,.slice p58 (hObjsF s6.a).length c59),(7,nP z13 0),(1,.slice pa1 K1.length ca1)]∧St w0 [] (RowP (.slice p309 L299.length c310) L299::RowP (.slice p223 L213.length c224) L213::RowP (.slice p58 (hObjsF s6.a).length c59) (hObjsF s6.a)::HeapP z13 z14 s300::RowP (.slice p289 L279.length c290) L279::RowP (.slice p240 L230.length c241) L230::ps) wI∧LiveParts.j13 x318 (LiveParts.l12 K1 k s6 L213 L230 L279 L299 s300 k319) y331=some r0) ?_ ?_
        rotate_left
        · rintro a333 w334 ⟨y331,hF335,hS336,hm337⟩
          clear hF330 hS323 hm329
          unfold LiveParts.j13 at hm337
          refine thenN ?_
          cases hc339:(y331)
          case true =>
           rw [hc339] at hF335
           have hm340:=ifYes hc339 hm337; clear hm337
           refine ev_condT hF335 rfl rfl ?_
           refine wp_seq (wp_region_lit ?_)
           refine ev_runK 1 hF335 [6] (l':=[(6,.bool false)]) (w':=w334) (by kernel_rfl) ?_
           intro a342 hF341; clear hF335
           refine wpList_nil ?_
           have hS343:=hS336.drop.drop.drop.drop.drop.drop
           clear hS336
           refine thenN ?_
           refine wp_ret ?_
           refine blockR ?_
           refine thenR (thenR ?_)
           refine blockR ?_
           refine thenR ?_
           obtain rfl:=Option.some.inj hm340
           refine ev_ret hF341 [6] (.bool false) rfl rfl rfl ?_
           exact ⟨rfl,hS343⟩
          rw [hc339] at hF335
          have hm345:=ifNot hc339 hm337; clear hm337
          refine ev_condF hF335 rfl rfl ?_
          refine wp_skip ?_
          have hF346:=hF335.keep [1,7,9,14,15,16,17,18]
          clear hF335
          refine blockN ?_
          refine thenN (wp_region_lit ?_)
          refine ev_runK 3 hF346 [1,7,9,14,15,16,17,18] (l':=[(18,nI (IntKind.i64.wrap (x318+1))),(17,.slice p309 L299.length c310),(16,.slice p289 L279.length c290),(15,.slice p240 L230.length c241),(14,.slice p223 L213.length c224),(9,.slice p58 (hObjsF s6.a).length c59),(7,nP z13 0),(1,.slice pa1 K1.length ca1)]) (w':=w334) (by kernel_rfl) ?_
          intro a348 hF347; clear hF346
          refine wpList_nil ?_
          have hS349:=hS336.pick2.pick2.pick5.pick5.pick4.pick5
          clear hS336
          exact thenN ⟨k319,Nat.lt_succ_self _,IntKind.i64.wrap (x318+1),hF347,hS349,hm345⟩
        · skip
          obtain ⟨hc350,hm351⟩:=ifTE hm329; clear hm329
          obtain ⟨g352,rfl⟩:=hp60.resolve_left (by have:=inR_spec hc350; omega)
          have hS353:=hS323.pick5
          clear hS323
          have hS354:=hS353.drew; clear hS353
          refine any_start (fun wS=>∃ qs,St w0 [] (RowP (.slice (some ⟨g352,0,none⟩) (hObjsF s6.a).length c59) (hObjsF s6.a)::qs) wS) 36 #[false,false,false,false,false,false,false,false,false,false,false,false,false,false,false,false,false,false,false,false,false,false,false,false,false,false,false,false,false,false,false,false,false,false,false,false] (by kernel_rfl) (by kernel_rfl) (by kernel_rfl) ?_
          refine any_many 10 [(0,some (.slice p223 L213.length c224)),(1,some (.slice (some ⟨g352,0,none⟩) (hObjsF s6.a).length c59)),(2,some (nI x318)),(3,some (nP g352 (x318.toNat))),(4,some (nI (atI (hObjsF s6.a) x318))),(6,some (.slice p309 L299.length c310)),(7,some (.slice (some ⟨g352,0,none⟩) (hObjsF s6.a).length c59)),(8,some (nI x318)),(9,some (nP g352 (x318.toNat))),(10,some (nI (atI (hObjsF s6.a) x318)))] [1,7,9,14,15,16,17,18,125,129,130,131,135,136,137,138,139,140,141,142,143,144,145,146,147,148,149,150,151,152,153,154,155,156,157,158,159,160] #[true,true,true,true,true,false,true,true,true,true,true,false,false,false,false,false,false,false,false,false,false,false,false,false,false,false,false,false,false,false,false,false,false,false,false,false] (by rfl) hF330 (by kernel_rfl) (by kernel_rfl) (by exact ⟨fun wS hw=>by kernel_rfl,fun wS hw=>by kernel_rfl,fun wS hw=>by kernel_rfl,fun wS hw=>run_idx rfl rfl rfl rfl rfl (inR_spec hc350).1 (inR_spec hc350).2 _,fun wS hw=>run_load1 rfl rfl rfl (hw.elim fun qs hw=>hw.atI 0 rfl hc350),fun wS hw=>by kernel_rfl,fun wS hw=>by kernel_rfl,fun wS hw=>by kernel_rfl,fun wS hw=>run_idx rfl rfl rfl rfl rfl (inR_spec hc350).1 (inR_spec hc350).2 _,fun wS hw=>run_load1 rfl rfl rfl (hw.elim fun qs hw=>hw.atI 0 rfl hc350),trivial⟩) (fun _ _ _ _ _ h=>h) ⟨_,hS354⟩ (l':=[(135,nI (atI (hObjsF s6.a) x318)),(131,.slice p309 L299.length c310),(129,nI (atI (hObjsF s6.a) x318)),(125,.slice p223 L213.length c224),(18,nI x318),(17,.slice p309 L299.length c310),(16,.slice p289 L279.length c290),(15,.slice p240 L230.length c241),(14,.slice p223 L213.length c224),(9,.slice (some ⟨g352,0,none⟩) (hObjsF s6.a).length c59),(7,nP z13 0),(1,.slice pa1 K1.length ca1)]) (by kernel_rfl) ?_
          intro a356 hF355; clear hF330
          have hS357:=hS354.pick5
          clear hS354
          refine any_call 5 #[true,true,true,true,true,true,true,true,true,true,true,false,false,false,false,false,false,false,false,false,false,false,false,false,false,false,false,false,false,false,false,false,false,false,false,false] 35 #[.slice p223 L213.length c224,nI (atI (hObjsF s6.a) x318)] hF355 rfl (by kernel_rfl) rfl rfl (by kernel_rfl) rfl (by kernel_rfl) (fun w=>by kernel_rfl) (by kernel_rfl) ?_
          obtain ⟨y358,hx359,hm360⟩:=bind1E hm351; clear hm351
          refine (help_In.ok hS357 hx359).mono ?_
          rintro _ w361 ⟨rfl,hS363⟩; clear hS357
          refine ⟨⟨_,hS363.pick1⟩,?_⟩
          intro a362 hF364; clear hF355
          have hS365:=hS363.pick3
          clear hS363
          refine any_call 11 #[true,true,true,true,true,true,true,true,true,true,true,true,false,false,false,false,false,false,false,false,false,false,false,false,false,false,false,false,false,false,false,false,false,false,false,false] 35 #[.slice p309 L299.length c310,nI (atI (hObjsF s6.a) x318)] hF364 rfl (by kernel_rfl) rfl rfl (by kernel_rfl) rfl (by kernel_rfl) (fun w=>by kernel_rfl) (by kernel_rfl) ?_
          obtain ⟨y366,hx367,hm368⟩:=bind1E hm360; clear hm360
          refine (help_In.ok hS365 hx367).mono ?_
          rintro _ w369 ⟨rfl,hS371⟩; clear hS365
          refine ⟨⟨_,hS371.pick2⟩,?_⟩
          intro a370 hF372; clear hF364
          refine any_many 2 [(12,some (.bool ((y358) == (y366)))),(13,some (.bool ((y358) == (y366))))] [1,7,9,14,15,16,17,18,138,139,140,141,142,143,144,145,146,147,148,149,150,151,152,153,154,155,156,157,158,159,160] #[true,true,true,true,true,true,true,true,true,true,true,true,true,true,false,false,false,false,false,false,false,false,false,false,false,false,false,false,false,false,false,false,false,false,false,false] (by rfl) hF372 (by kernel_rfl) (by kernel_rfl) (by exact ⟨fun wS hw=>by kernel_rfl,fun wS hw=>by kernel_rfl,trivial⟩) (fun _ _ _ _ _ h=>h) ⟨_,hS371.pick2⟩ (l':=[(138,.bool ((y358) == (y366))),(18,nI x318),(17,.slice p309 L299.length c310),(16,.slice p289 L279.length c290),(15,.slice p240 L230.length c241),(14,.slice p223 L213.length c224),(9,.slice (some ⟨g352,0,none⟩) (hObjsF s6.a).length c59),(7,nP z13 0),(1,.slice pa1 K1.length ca1)]) (by kernel_rfl) ?_
          intro a374 hF373; clear hF372
          cases hc375:((y358) == (y366))
          case true =>
           rw [hc375] at hF373
           have hm376:=ifYes hc375 hm368; clear hm368
           refine any_many 22 [(14,none),(15,none),(16,none),(17,none),(18,none),(19,none),(20,none),(21,none),(22,none),(23,none),(24,none),(25,none),(26,none),(27,none),(28,none),(29,none),(30,none),(31,none),(32,none),(33,none),(34,none),(35,some (.bool true))] [1,7,9,14,15,16,17,18,160] #[true,true,true,true,true,true,true,true,true,true,true,true,true,true,true,true,true,true,true,true,true,true,true,true,true,true,true,true,true,true,true,true,true,true,true,true] (by rfl) hF373 (by kernel_rfl) (by kernel_rfl) (by exact (And.intro trivial (And.intro trivial (And.intro trivial (And.intro trivial (And.intro trivial (And.intro trivial (And.intro trivial (And.intro trivial (And.intro trivial (And.intro trivial (And.intro trivial (And.intro trivial (And.intro trivial (And.intro trivial (And.intro trivial (And.intro trivial (And.intro trivial (And.intro trivial (And.intro trivial (And.intro trivial (And.intro trivial (And.intro (fun wS hw=>by kernel_rfl) trivial))))))))))))))))))))))) (fun _ _ _ _ _ h=>h) ⟨_,hS371.pick2⟩ (l':=[(160,.bool true),(18,nI x318),(17,.slice p309 L299.length c310),(16,.slice p289 L279.length c290),(15,.slice p240 L230.length c241),(14,.slice p223 L213.length c224),(9,.slice (some ⟨g352,0,none⟩) (hObjsF s6.a).length c59),(7,nP z13 0),(1,.slice pa1 K1.length ca1)]) (by kernel_rfl) ?_
           intro a378 hF377; clear hF373
           refine any_done (by kernel_rfl) ?_
           exact thenN ⟨true,hF377,hS371,hm376⟩
          rw [hc375] at hF373
          have hm379:=ifNot hc375 hm368; clear hm368
          refine any_many 10 [(14,some (.slice p289 L279.length c290)),(15,some (.slice (some ⟨g352,0,none⟩) (hObjsF s6.a).length c59)),(16,some (nI x318)),(17,some (nP g352 (x318.toNat))),(18,some (nI (atI (hObjsF s6.a) x318))),(20,some (.slice p223 L213.length c224)),(21,some (.slice (some ⟨g352,0,none⟩) (hObjsF s6.a).length c59)),(22,some (nI x318)),(23,some (nP g352 (x318.toNat))),(24,some (nI (atI (hObjsF s6.a) x318)))] [1,7,9,14,15,16,17,18,138,139,143,144,145,149,150,151,152,153,154,155,156,157,158,159,160] #[true,true,true,true,true,true,true,true,true,true,true,true,true,true,true,true,true,true,true,false,true,true,true,true,true,false,false,false,false,false,false,false,false,false,false,false] (by rfl) hF373 (by kernel_rfl) (by kernel_rfl) (by exact ⟨fun wS hw=>by kernel_rfl,fun wS hw=>by kernel_rfl,fun wS hw=>by kernel_rfl,fun wS hw=>run_idx rfl rfl rfl rfl rfl (inR_spec hc350).1 (inR_spec hc350).2 _,fun wS hw=>run_load1 rfl rfl rfl (hw.elim fun qs hw=>hw.atI 0 rfl hc350),fun wS hw=>by kernel_rfl,fun wS hw=>by kernel_rfl,fun wS hw=>by kernel_rfl,fun wS hw=>run_idx rfl rfl rfl rfl rfl (inR_spec hc350).1 (inR_spec hc350).2 _,fun wS hw=>run_load1 rfl rfl rfl (hw.elim fun qs hw=>hw.atI 0 rfl hc350),trivial⟩) (fun _ _ _ _ _ h=>h) ⟨_,hS371.pick2⟩ (l':=[(149,nI (atI (hObjsF s6.a) x318)),(145,.slice p223 L213.length c224),(143,nI (atI (hObjsF s6.a) x318)),(139,.slice p289 L279.length c290),(138,.bool false),(18,nI x318),(17,.slice p309 L299.length c310),(16,.slice p289 L279.length c290),(15,.slice p240 L230.length c241),(14,.slice p223 L213.length c224),(9,.slice (some ⟨g352,0,none⟩) (hObjsF s6.a).length c59),(7,nP z13 0),(1,.slice pa1 K1.length ca1)]) (by kernel_rfl) ?_
          intro a381 hF380; clear hF373
          have hS382:=hS371.pick4
          clear hS371
          refine any_call 19 #[true,true,true,true,true,true,true,true,true,true,true,true,true,true,true,true,true,true,true,true,true,true,true,true,true,false,false,false,false,false,false,false,false,false,false,false] 35 #[.slice p289 L279.length c290,nI (atI (hObjsF s6.a) x318)] hF380 rfl (by kernel_rfl) rfl rfl (by kernel_rfl) rfl (by kernel_rfl) (fun w=>by kernel_rfl) (by kernel_rfl) ?_
          obtain ⟨y383,hx384,hm385⟩:=bind1E hm379; clear hm379
          refine (help_In.ok hS382 hx384).mono ?_
          rintro _ w386 ⟨rfl,hS388⟩; clear hS382
          refine ⟨⟨_,hS388.pick3⟩,?_⟩
          intro a387 hF389; clear hF380
          have hS390:=hS388.pick2
          clear hS388
          refine any_call 25 #[true,true,true,true,true,true,true,true,true,true,true,true,true,true,true,true,true,true,true,true,true,true,true,true,true,true,false,false,false,false,false,false,false,false,false,false] 35 #[.slice p223 L213.length c224,nI (atI (hObjsF s6.a) x318)] hF389 rfl (by kernel_rfl) rfl rfl (by kernel_rfl) rfl (by kernel_rfl) (fun w=>by kernel_rfl) (by kernel_rfl) ?_
          obtain ⟨y391,hx392,hm393⟩:=bind1E hm385; clear hm385
          refine (help_In.ok hS390 hx392).mono ?_
          rintro _ w394 ⟨rfl,hS396⟩; clear hS390
          refine ⟨⟨_,hS396.pick3⟩,?_⟩
          intro a395 hF397; clear hF389
          refine any_many 1 [(26,some (.bool (y391)))] [1,7,9,14,15,16,17,18,138,144,151,152,153,154,155,156,157,158,159,160] #[true,true,true,true,true,true,true,true,true,true,true,true,true,true,true,true,true,true,true,true,true,true,true,true,true,true,true,false,false,false,false,false,false,false,false,false] (by rfl) hF397 (by kernel_rfl) (by kernel_rfl) (by exact ⟨fun wS hw=>by kernel_rfl,trivial⟩) (fun _ _ _ _ _ h=>h) ⟨_,hS396.pick3⟩ (l':=[(151,.bool (y391)),(144,.bool (y383)),(138,.bool false),(18,nI x318),(17,.slice p309 L299.length c310),(16,.slice p289 L279.length c290),(15,.slice p240 L230.length c241),(14,.slice p223 L213.length c224),(9,.slice (some ⟨g352,0,none⟩) (hObjsF s6.a).length c59),(7,nP z13 0),(1,.slice pa1 K1.length ca1)]) (by kernel_rfl) ?_
          intro a399 hF398; clear hF397
          cases hc400:(y391)
          case true =>
           rw [hc400] at hF398
           have hm401:=ifYes hc400 hm393; clear hm393
           refine any_many 9 [(27,none),(28,none),(29,none),(30,none),(31,none),(32,none),(33,some (.bool true)),(34,some (.bool (!((y383) == (true))))),(35,some (.bool (!((y383) == (true)))))] [1,7,9,14,15,16,17,18,160] #[true,true,true,true,true,true,true,true,true,true,true,true,true,true,true,true,true,true,true,true,true,true,true,true,true,true,true,true,true,true,true,true,true,true,true,true] (by rfl) hF398 (by kernel_rfl) (by kernel_rfl) (by exact (And.intro trivial (And.intro trivial (And.intro trivial (And.intro trivial (And.intro trivial (And.intro trivial (And.intro (fun wS hw=>by kernel_rfl) (And.intro (fun wS hw=>by kernel_rfl) (And.intro (fun wS hw=>by kernel_rfl) trivial)))))))))) (fun _ _ _ _ _ h=>h) ⟨_,hS396.pick3⟩ (l':=[(160,.bool (!((y383) == (true)))),(18,nI x318),(17,.slice p309 L299.length c310),(16,.slice p289 L279.length c290),(15,.slice p240 L230.length c241),(14,.slice p223 L213.length c224),(9,.slice (some ⟨g352,0,none⟩) (hObjsF s6.a).length c59),(7,nP z13 0),(1,.slice pa1 K1.length ca1)]) (by kernel_rfl) ?_
           intro a403 hF402; clear hF398
           refine any_done (by kernel_rfl) ?_
           have hS404:=hS396.pick5.pick2.pick5.pick5.pick4.pick5
           clear hS396
           exact thenN ⟨!((y383) == (true)),hF402,hS404,hm401⟩
          rw [hc400] at hF398
          have hm405:=ifNot hc400 hm393; clear hm393
          refine any_many 5 [(27,some (.slice p240 L230.length c241)),(28,some (.slice (some ⟨g352,0,none⟩) (hObjsF s6.a).length c59)),(29,some (nI x318)),(30,some (nP g352 (x318.toNat))),(31,some (nI (atI (hObjsF s6.a) x318)))] [1,7,9,14,15,16,17,18,138,144,151,152,156,157,158,159,160] #[true,true,true,true,true,true,true,true,true,true,true,true,true,true,true,true,true,true,true,true,true,true,true,true,true,true,true,true,true,true,true,true,false,false,false,false] (by rfl) hF398 (by kernel_rfl) (by kernel_rfl) (by exact ⟨fun wS hw=>by kernel_rfl,fun wS hw=>by kernel_rfl,fun wS hw=>by kernel_rfl,fun wS hw=>run_idx rfl rfl rfl rfl rfl (inR_spec hc350).1 (inR_spec hc350).2 _,fun wS hw=>run_load1 rfl rfl rfl (hw.elim fun qs hw=>hw.atI 0 rfl hc350),trivial⟩) (fun _ _ _ _ _ h=>h) ⟨_,hS396.pick3⟩ (l':=[(156,nI (atI (hObjsF s6.a) x318)),(152,.slice p240 L230.length c241),(151,.bool false),(144,.bool (y383)),(138,.bool false),(18,nI x318),(17,.slice p309 L299.length c310),(16,.slice p289 L279.length c290),(15,.slice p240 L230.length c241),(14,.slice p223 L213.length c224),(9,.slice (some ⟨g352,0,none⟩) (hObjsF s6.a).length c59),(7,nP z13 0),(1,.slice pa1 K1.length ca1)]) (by kernel_rfl) ?_
          intro a407 hF406; clear hF398
          have hS408:=hS396.pick5
          clear hS396
          refine any_call 32 #[true,true,true,true,true,true,true,true,true,true,true,true,true,true,true,true,true,true,true,true,true,true,true,true,true,true,true,true,true,true,true,true,true,false,false,false] 35 #[.slice p240 L230.length c241,nI (atI (hObjsF s6.a) x318)] hF406 rfl (by kernel_rfl) rfl rfl (by kernel_rfl) rfl (by kernel_rfl) (fun w=>by kernel_rfl) (by kernel_rfl) ?_
          obtain ⟨y409,hx410,hm411⟩:=bind1E hm405; clear hm405
          refine (help_In.ok hS408 hx410).mono ?_
          rintro _ w412 ⟨rfl,hS414⟩; clear hS408
          refine ⟨⟨_,hS414.pick4⟩,?_⟩
          intro a413 hF415; clear hF406
          refine any_many 3 [(33,some (.bool (y409))),(34,some (.bool (!((y383) == (y409))))),(35,some (.bool (!((y383) == (y409)))))] [1,7,9,14,15,16,17,18,160] #[true,true,true,true,true,true,true,true,true,true,true,true,true,true,true,true,true,true,true,true,true,true,true,true,true,true,true,true,true,true,true,true,true,true,true,true] (by rfl) hF415 (by kernel_rfl) (by kernel_rfl) (by exact ⟨fun wS hw=>by kernel_rfl,fun wS hw=>by kernel_rfl,fun wS hw=>by kernel_rfl,trivial⟩) (fun _ _ _ _ _ h=>h) ⟨_,hS414.pick4⟩ (l':=[(160,.bool (!((y383) == (y409)))),(18,nI x318),(17,.slice p309 L299.length c310),(16,.slice p289 L279.length c290),(15,.slice p240 L230.length c241),(14,.slice p223 L213.length c224),(9,.slice (some ⟨g352,0,none⟩) (hObjsF s6.a).length c59),(7,nP z13 0),(1,.slice pa1 K1.length ca1)]) (by kernel_rfl) ?_
          intro a417 hF416; clear hF415
          refine any_done (by kernel_rfl) ?_
          have hS418:=hS414.pick2.pick5.pick5.pick4.pick5
          clear hS414
          exact thenN ⟨!((y383) == (y409)),hF416,hS418,hm411⟩
       rw [hc328] at hF326
       have hm419:=ifNot hc328 hm325; clear hm325
       refine ev_condF hF326 rfl rfl ?_
       refine wp_exit ?_
       refine thenE ?_
       refine thenE ?_
       refine blockE ?_
       refine thenN (wp_seq ?_)
       refine joinQ (fun aI wI=>∃ (y420:Bool),Fr 190 aI [(6,.bool (y420))]∧St w0 [] (ps) wI∧LiveParts.j14 y420=some r0) ?_ ?_
       rotate_left
       · rintro a422 w423 ⟨y420,hF424,hS425,hm426⟩
         clear hF326 hS323 hm419
         unfold LiveParts.j14 at hm426
         refine thenN ?_
         refine wp_ret ?_
         obtain rfl:=Option.some.inj hm426
         refine ev_ret hF424 [6] (.bool (y420)) rfl rfl rfl ?_
         exact ⟨rfl,hS425⟩
       · skip
         refine wp_region_lit ?_
         refine ev_runs 2 hF326 (l':=[(162,.slice p223 L213.length c224),(161,nP z13 0),(122,.bool false),(18,nI x318),(17,.slice p309 L299.length c310),(16,.slice p289 L279.length c290),(15,.slice p240 L230.length c241),(14,.slice p223 L213.length c224),(9,.slice p58 (hObjsF s6.a).length c59),(7,nP z13 0),(1,.slice pa1 K1.length ca1)]) (w':=w321) (by kernel_rfl) ?_
         intro a430 hF429; clear hF326
         have hS431:=hS323.pick4.pick1
         clear hS323
         refine ev_call 29 #[nP z13 0,.slice p223 L213.length c224] hF429 rfl rfl (by kernel_rfl) rfl (by kernel_rfl) (fun w=>by kernel_rfl) ?_
         obtain ⟨L432,s433,hx434,hm435⟩:=bind2E hm419; clear hm419
         refine (live_Reach.ok hS431 hx434).mono ?_
         rintro _ w436 ⟨z440,rfl,hS438⟩ a437 hF439; clear hF429 hS431
         obtain ⟨hl445,p442,c443,rfl,hp444⟩:=St.shape hS438 2 rfl
         refine ev_runs 1 hF439 (l':=[(164,.slice p223 L213.length c224),(163,.slice p442 L432.length c443),(162,.slice p223 L213.length c224),(161,nP z13 0),(122,.bool false),(18,nI x318),(17,.slice p309 L299.length c310),(16,.slice p289 L279.length c290),(15,.slice p240 L230.length c241),(14,.slice p223 L213.length c224),(9,.slice p58 (hObjsF s6.a).length c59),(7,nP z13 0),(1,.slice pa1 K1.length ca1)]) (w':=w436) (by kernel_rfl) ?_
         intro a447 hF446; clear hF439
         have hS448:=hS438.pick1.pick2
         clear hS438
         refine ev_call 16 #[.slice p442 L432.length c443,.slice p223 L213.length c224] hF446 rfl rfl (by kernel_rfl) rfl (by kernel_rfl) (fun w=>by kernel_rfl) ?_
         obtain ⟨y449,hx450,hm451⟩:=bind1E hm435; clear hm435
         refine (help_Plain.ok hS448 hx450).mono ?_
         rintro _ w452 ⟨rfl,hS454⟩ a453 hF455; clear hF446 hS448
         refine ev_runs 1 hF455 (l':=[(166,.bool (y449)),(165,.bool (y449)),(164,.slice p223 L213.length c224),(163,.slice p442 L432.length c443),(162,.slice p223 L213.length c224),(161,nP z13 0),(122,.bool false),(18,nI x318),(17,.slice p309 L299.length c310),(16,.slice p289 L279.length c290),(15,.slice p240 L230.length c241),(14,.slice p223 L213.length c224),(9,.slice p58 (hObjsF s6.a).length c59),(7,nP z13 0),(1,.slice pa1 K1.length ca1)]) (w':=w452) (by kernel_rfl) ?_
         intro a457 hF456; clear hF455
         cases hc458:(y449)
         case true =>
          rw [hc458] at hF456
          have hm459:=ifYes hc458 hm451; clear hm451
          refine ev_runs 1 hF456 (l':=[(167,nP z13 0),(166,.bool true),(165,.bool true),(164,.slice p223 L213.length c224),(163,.slice p442 L432.length c443),(162,.slice p223 L213.length c224),(161,nP z13 0),(122,.bool false),(18,nI x318),(17,.slice p309 L299.length c310),(16,.slice p289 L279.length c290),(15,.slice p240 L230.length c241),(14,.slice p223 L213.length c224),(9,.slice p58 (hObjsF s6.a).length c59),(7,nP z13 0),(1,.slice pa1 K1.length ca1)]) (w':=w452) (by kernel_rfl) ?_
          intro a461 hF460; clear hF456
          have hS463:St w0 [] (RowP (.slice none 0 0) []::RowP (.slice p442 L432.length c443) L432::RowP (.slice p223 L213.length c224) L213::HeapP z13 z14 s433::RowP (.slice p309 L299.length c310) L299::RowP (.slice p289 L279.length c290) L279::RowP (.slice p240 L230.length c241) L230::RowP (.slice p58 (hObjsF s6.a).length c59) (hObjsF s6.a)::ps) w452:=St.nil hS454
          clear hS454
          have hS464:=hS463.pick3
          clear hS463
          refine ev_call 29 #[nP z13 0,.slice none 0 0] hF460 rfl rfl (by kernel_rfl) rfl (by kernel_rfl) (fun w=>by kernel_rfl) ?_
          obtain ⟨L465,s466,hx467,hm468⟩:=bind2E hm459; clear hm459
          refine (live_Reach.ok hS464 hx467).mono ?_
          rintro _ w469 ⟨z473,rfl,hS471⟩ a470 hF472; clear hF460 hS464
          obtain ⟨hl478,p475,c476,rfl,hp477⟩:=St.shape hS471 2 rfl
          refine ev_runs 4 hF472 (l':=[(172,.bool ((L465.length:Int) == 0)),(171,.bool ((L465.length:Int) == 0)),(170,.bool ((L465.length:Int) == 0)),(169,nI ((L465.length:Int))),(168,.slice p475 L465.length c476),(167,nP z13 0),(166,.bool true),(165,.bool true),(164,.slice p223 L213.length c224),(163,.slice p442 L432.length c443),(162,.slice p223 L213.length c224),(161,nP z13 0),(122,.bool false),(18,nI x318),(17,.slice p309 L299.length c310),(16,.slice p289 L279.length c290),(15,.slice p240 L230.length c241),(14,.slice p223 L213.length c224),(9,.slice p58 (hObjsF s6.a).length c59),(7,nP z13 0),(1,.slice pa1 K1.length ca1)]) (w':=w469) (by kernel_rfl) ?_
          intro a480 hF479; clear hF472
          cases hc481:((L465.length:Int) == 0)
          case true =>
           rw [hc481] at hF479
           have hm482:=ifYes hc481 hm468; clear hm468
           refine ev_runs 1 hF479 (l':=[(173,.slice pa1 K1.length ca1),(172,.bool true),(171,.bool true),(170,.bool true),(169,nI ((L465.length:Int))),(168,.slice p475 L465.length c476),(167,nP z13 0),(166,.bool true),(165,.bool true),(164,.slice p223 L213.length c224),(163,.slice p442 L432.length c443),(162,.slice p223 L213.length c224),(161,nP z13 0),(122,.bool false),(18,nI x318),(17,.slice p309 L299.length c310),(16,.slice p289 L279.length c290),(15,.slice p240 L230.length c241),(14,.slice p223 L213.length c224),(9,.slice p58 (hObjsF s6.a).length c59),(7,nP z13 0),(1,.slice pa1 K1.length ca1)]) (w':=w469) (by kernel_rfl) ?_
           intro a484 hF483; clear hF479
           refine ev_call 29 #[.pointer none,.slice pa1 K1.length ca1] hF483 rfl rfl (by kernel_rfl) rfl (by kernel_rfl) (fun w=>by kernel_rfl) ?_
           obtain ⟨L485,hx486,hm487⟩:=bind1E hm482; clear hm482
           refine (live_ReachN.ok hA1 hS471 hx486).mono ?_
           rintro _ w488 ⟨z492,rfl,hS490⟩ a489 hF491; clear hF483 hS471
           obtain ⟨hl497,p494,c495,rfl,hp496⟩:=St.shape hS490 0 rfl
           refine ev_runs 4 hF491 (l':=[(178,.bool ((L485.length:Int) == 0)),(177,.bool ((L485.length:Int) == 0)),(176,.bool ((L485.length:Int) == 0)),(175,nI ((L485.length:Int))),(174,.slice p494 L485.length c495),(173,.slice pa1 K1.length ca1),(172,.bool true),(171,.bool true),(170,.bool true),(169,nI ((L465.length:Int))),(168,.slice p475 L465.length c476),(167,nP z13 0),(166,.bool true),(165,.bool true),(164,.slice p223 L213.length c224),(163,.slice p442 L432.length c443),(162,.slice p223 L213.length c224),(161,nP z13 0),(122,.bool false),(18,nI x318),(17,.slice p309 L299.length c310),(16,.slice p289 L279.length c290),(15,.slice p240 L230.length c241),(14,.slice p223 L213.length c224),(9,.slice p58 (hObjsF s6.a).length c59),(7,nP z13 0),(1,.slice pa1 K1.length ca1)]) (w':=w488) (by kernel_rfl) ?_
           intro a499 hF498; clear hF491
           cases hc500:((L485.length:Int) == 0)
           case true =>
            rw [hc500] at hF498
            have hm501:=ifYes hc500 hm487; clear hm487
            refine ev_runs 1 hF498 (l':=[(179,.slice pa1 K1.length ca1),(178,.bool true),(177,.bool true),(176,.bool true),(175,nI ((L485.length:Int))),(174,.slice p494 L485.length c495),(173,.slice pa1 K1.length ca1),(172,.bool true),(171,.bool true),(170,.bool true),(169,nI ((L465.length:Int))),(168,.slice p475 L465.length c476),(167,nP z13 0),(166,.bool true),(165,.bool true),(164,.slice p223 L213.length c224),(163,.slice p442 L432.length c443),(162,.slice p223 L213.length c224),(161,nP z13 0),(122,.bool false),(18,nI x318),(17,.slice p309 L299.length c310),(16,.slice p289 L279.length c290),(15,.slice p240 L230.length c241),(14,.slice p223 L213.length c224),(9,.slice p58 (hObjsF s6.a).length c59),(7,nP z13 0),(1,.slice pa1 K1.length ca1)]) (w':=w488) (by kernel_rfl) ?_
            intro a503 hF502; clear hF498
            refine ev_call 31 #[.pointer none,.slice pa1 K1.length ca1] hF502 rfl rfl (by kernel_rfl) rfl (by kernel_rfl) (fun w=>by kernel_rfl) ?_
            obtain ⟨L504,hx505,hm506⟩:=bind1E hm501; clear hm501
            refine (live_LostN.ok hA1 hS490 hx505).mono ?_
            rintro _ w507 ⟨z511,rfl,hS509⟩ a508 hF510; clear hF502 hS490
            obtain ⟨hl516,p513,c514,rfl,hp515⟩:=St.shape hS509 0 rfl
            refine ev_runs 4 hF510 (l':=[(184,.bool ((L504.length:Int) == 0)),(183,.bool ((L504.length:Int) == 0)),(182,.bool ((L504.length:Int) == 0)),(181,nI ((L504.length:Int))),(180,.slice p513 L504.length c514),(179,.slice pa1 K1.length ca1),(178,.bool true),(177,.bool true),(176,.bool true),(175,nI ((L485.length:Int))),(174,.slice p494 L485.length c495),(173,.slice pa1 K1.length ca1),(172,.bool true),(171,.bool true),(170,.bool true),(169,nI ((L465.length:Int))),(168,.slice p475 L465.length c476),(167,nP z13 0),(166,.bool true),(165,.bool true),(164,.slice p223 L213.length c224),(163,.slice p442 L432.length c443),(162,.slice p223 L213.length c224),(161,nP z13 0),(122,.bool false),(18,nI x318),(17,.slice p309 L299.length c310),(16,.slice p289 L279.length c290),(15,.slice p240 L230.length c241),(14,.slice p223 L213.length c224),(9,.slice p58 (hObjsF s6.a).length c59),(7,nP z13 0),(1,.slice pa1 K1.length ca1)]) (w':=w507) (by kernel_rfl) ?_
            intro a518 hF517; clear hF510
            cases hc519:((L504.length:Int) == 0)
            case true =>
             rw [hc519] at hF517
             have hm520:=ifYes hc519 hm506; clear hm506
             refine ev_runs 1 hF517 (l':=[(185,.slice pa1 K1.length ca1),(184,.bool true),(183,.bool true),(182,.bool true),(181,nI ((L504.length:Int))),(180,.slice p513 L504.length c514),(179,.slice pa1 K1.length ca1),(178,.bool true),(177,.bool true),(176,.bool true),(175,nI ((L485.length:Int))),(174,.slice p494 L485.length c495),(173,.slice pa1 K1.length ca1),(172,.bool true),(171,.bool true),(170,.bool true),(169,nI ((L465.length:Int))),(168,.slice p475 L465.length c476),(167,nP z13 0),(166,.bool true),(165,.bool true),(164,.slice p223 L213.length c224),(163,.slice p442 L432.length c443),(162,.slice p223 L213.length c224),(161,nP z13 0),(122,.bool false),(18,nI x318),(17,.slice p309 L299.length c310),(16,.slice p289 L279.length c290),(15,.slice p240 L230.length c241),(14,.slice p223 L213.length c224),(9,.slice p58 (hObjsF s6.a).length c59),(7,nP z13 0),(1,.slice pa1 K1.length ca1)]) (w':=w507) (by kernel_rfl) ?_
             intro a522 hF521; clear hF517
             refine ev_call 33 #[.pointer none,.slice pa1 K1.length ca1] hF521 rfl rfl (by kernel_rfl) rfl (by kernel_rfl) (fun w=>by kernel_rfl) ?_
             obtain ⟨L523,hx524,hm525⟩:=bind1E hm520; clear hm520
             refine (live_BrokenN.ok hA1 hS509 hx524).mono ?_
             rintro _ w526 ⟨z530,rfl,hS528⟩ a527 hF529; clear hF521 hS509
             obtain ⟨hl535,p532,c533,rfl,hp534⟩:=St.shape hS528 0 rfl
             refine ev_runK 4 hF529 [6] (l':=[(6,.bool ((L523.length:Int) == 0))]) (w':=w526) (by kernel_rfl) ?_
             intro a537 hF536; clear hF529
             refine wpList_nil ?_
             have hS538:=hS528.drop.drop.drop.drop.drop.drop.drop.drop.drop.drop.drop.drop
             clear hS528
             exact thenN ⟨(L523.length:Int) == 0,hF536,hS538,hm525⟩
            rw [hc519] at hF517
            have hm539:=ifNot hc519 hm506; clear hm506
            refine ev_runK 6 hF517 [6] (l':=[(6,.bool false)]) (w':=w507) (by kernel_rfl) ?_
            intro a541 hF540; clear hF517
            refine wpList_nil ?_
            have hS542:=hS509.drop.drop.drop.drop.drop.drop.drop.drop.drop.drop.drop
            clear hS509
            exact thenN ⟨false,hF540,hS542,hm539⟩
           rw [hc500] at hF498
           have hm543:=ifNot hc500 hm487; clear hm487
           refine ev_runK 12 hF498 [6] (l':=[(6,.bool false)]) (w':=w488) (by kernel_rfl) ?_
           intro a545 hF544; clear hF498
           refine wpList_nil ?_
           have hS546:=hS490.drop.drop.drop.drop.drop.drop.drop.drop.drop.drop
           clear hS490
           exact thenN ⟨false,hF544,hS546,hm543⟩
          rw [hc481] at hF479
          have hm547:=ifNot hc481 hm468; clear hm468
          refine ev_runK 18 hF479 [6] (l':=[(6,.bool false)]) (w':=w469) (by kernel_rfl) ?_
          intro a549 hF548; clear hF479
          refine wpList_nil ?_
          have hS550:=hS471.drop.drop.drop.drop.drop.drop.drop.drop.drop
          clear hS471
          exact thenN ⟨false,hF548,hS550,hm547⟩
         rw [hc458] at hF456
         have hm551:=ifNot hc458 hm451; clear hm451
         refine ev_runK 24 hF456 [6] (l':=[(6,.bool false)]) (w':=w452) (by kernel_rfl) ?_
         intro a553 hF552; clear hF456
         refine wpList_nil ?_
         have hS554:=hS454.drop.drop.drop.drop.drop.drop.drop
         clear hS454
         exact thenN ⟨false,hF552,hS554,hm551⟩
     · skip
       refine wp_region_lit ?_
       refine ev_runs 5 hF150 (l':=[(81,.bool (decide (x146<(K2.length:Int)))),(80,.bool (decide (x146<(K2.length:Int)))),(79,nI ((K2.length:Int))),(78,.slice pa2 K2.length ca2),(77,nI x146),(13,nI x146),(11,.slice p154 L144.length c155),(10,.slice p83 L73.length c84),(9,.slice p58 (hObjsF s6.a).length c59),(7,nP z13 0),(1,.slice pa1 K1.length ca1),(2,.slice pa2 K2.length ca2)]) (w':=w149) (by kernel_rfl) ?_
       intro a556 hF555; clear hF150
       cases hc557:(decide (x146<(K2.length:Int)))
       case true =>
        rw [hc557] at hF555
        have hm558:=ifYes hc557 hm153; clear hm153
        refine ev_runK 4 hF555 [1,2,7,9,10,11,13,85] (l':=[(85,.bool (decide (((hObjsF s6.a).length:Int) > 0))),(13,nI x146),(11,.slice p154 L144.length c155),(10,.slice p83 L73.length c84),(9,.slice p58 (hObjsF s6.a).length c59),(7,nP z13 0),(1,.slice pa1 K1.length ca1),(2,.slice pa2 K2.length ca2)]) (w':=w149) (by kernel_rfl) ?_
        intro a560 hF559; clear hF555
        refine wpList_nil ?_
        exact thenN ⟨decide (((hObjsF s6.a).length:Int) > 0),hF559,hS151,hm558⟩
       rw [hc557] at hF555
       have hm561:=ifNot hc557 hm153; clear hm153
       refine ev_runK 4 hF555 [1,2,7,9,10,11,13,85] (l':=[(85,.bool false),(13,nI x146),(11,.slice p154 L144.length c155),(10,.slice p83 L73.length c84),(9,.slice p58 (hObjsF s6.a).length c59),(7,nP z13 0),(1,.slice pa1 K1.length ca1),(2,.slice pa2 K2.length ca2)]) (w':=w149) (by kernel_rfl) ?_
       intro a563 hF562; clear hF555
       refine wpList_nil ?_
       exact thenN ⟨false,hF562,hS151,hm561⟩
   · skip
     refine wp_region_lit ?_
     refine ev_runs 5 hF79 (l':=[(54,.bool (decide (x75<(K1.length:Int)))),(53,.bool (decide (x75<(K1.length:Int)))),(52,nI ((K1.length:Int))),(51,.slice pa1 K1.length ca1),(50,nI x75),(12,nI x75),(11,.slice none 0 0),(10,.slice p83 L73.length c84),(9,.slice p58 (hObjsF s6.a).length c59),(7,nP z13 0),(1,.slice pa1 K1.length ca1),(2,.slice pa2 K2.length ca2)]) (w':=w78) (by kernel_rfl) ?_
     intro a565 hF564; clear hF79
     cases hc566:(decide (x75<(K1.length:Int)))
     case true =>
      rw [hc566] at hF564
      have hm567:=ifYes hc566 hm82; clear hm82
      refine ev_runK 4 hF564 [1,2,7,9,10,11,12,58] (l':=[(58,.bool (decide (((hObjsF s6.a).length:Int) > 0))),(12,nI x75),(11,.slice none 0 0),(10,.slice p83 L73.length c84),(9,.slice p58 (hObjsF s6.a).length c59),(7,nP z13 0),(1,.slice pa1 K1.length ca1),(2,.slice pa2 K2.length ca2)]) (w':=w78) (by kernel_rfl) ?_
      intro a569 hF568; clear hF564
      refine wpList_nil ?_
      exact thenN ⟨decide (((hObjsF s6.a).length:Int) > 0),hF568,hS80,hm567⟩
     rw [hc566] at hF564
     have hm570:=ifNot hc566 hm82; clear hm82
     refine ev_runK 4 hF564 [1,2,7,9,10,11,12,58] (l':=[(58,.bool false),(12,nI x75),(11,.slice none 0 0),(10,.slice p83 L73.length c84),(9,.slice p58 (hObjsF s6.a).length c59),(7,nP z13 0),(1,.slice pa1 K1.length ca1),(2,.slice pa2 K2.length ca2)]) (w':=w78) (by kernel_rfl) ?_
     intro a572 hF571; clear hF564
     refine wpList_nil ?_
     exact thenN ⟨false,hF571,hS80,hm570⟩
 · skip
   refine wp_region_lit ?_
   refine ev_call 28 #[] hF22 rfl rfl (by kernel_rfl) rfl (by kernel_rfl) (fun w=>by kernel_rfl) ?_
   obtain ⟨y573,hx574,hm575⟩:=bind1E hm8; clear hm8
   refine (law22_awake.ok hS11 hx574).mono ?_
   rintro _ w576 ⟨rfl,hS578⟩ a577 hF579; clear hF22 hS11
   refine ev_runs 2 hF579 (l':=[(26,.bool (!(y573))),(25,.bool (!(y573))),(24,.bool (y573)),(8,nP z15 0),(7,nP z13 0),(1,.slice pa1 K1.length ca1),(2,.slice pa2 K2.length ca2)]) (w':=w576) (by kernel_rfl) ?_
   intro a581 hF580; clear hF579
   cases hc582:(!(y573))
   case true =>
    rw [hc582] at hF580
    have hm583:=ifYes hc582 hm575; clear hm575
    refine ev_runK 17 hF580 [1,2,7,8,43] (l':=[(43,.bool true),(8,nP z15 0),(7,nP z13 0),(1,.slice pa1 K1.length ca1),(2,.slice pa2 K2.length ca2)]) (w':=w576) (by kernel_rfl) ?_
    intro a585 hF584; clear hF580
    refine wpList_nil ?_
    exact thenN ⟨true,hF584,hS578,hm583⟩
   rw [hc582] at hF580
   have hm586:=ifNot hc582 hm575; clear hm575
   refine ev_runs 13 hF580 (l':=[(39,.bool (decide ((K1.length:Int) > 30))),(38,.bool (decide ((K1.length:Int) > 30))),(37,.bool (decide ((K1.length:Int) > 30))),(36,nI ((K1.length:Int))),(35,.slice pa1 K1.length ca1),(34,.bool false),(33,.bool false),(32,.bool false),(31,nP z15 0),(30,.bool false),(29,.bool false),(28,.bool false),(27,nP z13 0),(26,.bool false),(25,.bool false),(24,.bool (y573)),(8,nP z15 0),(7,nP z13 0),(1,.slice pa1 K1.length ca1),(2,.slice pa2 K2.length ca2)]) (w':=w576) (by kernel_rfl) ?_
   intro a588 hF587; clear hF580
   cases hc589:(decide ((K1.length:Int) > 30))
   case true =>
    rw [hc589] at hF587
    have hm590:=ifYes hc589 hm586; clear hm586
    refine ev_runK 4 hF587 [1,2,7,8,43] (l':=[(43,.bool true),(8,nP z15 0),(7,nP z13 0),(1,.slice pa1 K1.length ca1),(2,.slice pa2 K2.length ca2)]) (w':=w576) (by kernel_rfl) ?_
    intro a592 hF591; clear hF587
    refine wpList_nil ?_
    exact thenN ⟨true,hF591,hS578,hm590⟩
   rw [hc589] at hF587
   have hm593:=ifNot hc589 hm586; clear hm586
   refine ev_runK 4 hF587 [1,2,7,8,43] (l':=[(43,.bool (decide ((K2.length:Int) > 30))),(8,nP z15 0),(7,nP z13 0),(1,.slice pa1 K1.length ca1),(2,.slice pa2 K2.length ca2)]) (w':=w576) (by kernel_rfl) ?_
   intro a595 hF594; clear hF587
   refine wpList_nil ?_
   exact thenN ⟨decide ((K2.length:Int) > 30),hF594,hS578,hm593⟩
end Go.Proofs.Ytinagphkkegmnaa
