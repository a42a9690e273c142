/- GRingApart -/
import Derived.Test.YtaojmbkmicjecaaGreatKG12
import Derived.Test.YtaojmbkmicjecaaGreatKGHelpO
import Derived.Test.YtaojmbkmicjecaaGreatKRowO2
import Derived.Deep.LoopGhost
import Derived.KernelRfl
namespace Go.Proofs.YtaojmbkmicjecaaGreat
open Go.RowKit
set_option linter.unusedVariables false
def RingApart.j19 (x75:Int) (rec78:List Int→List Int→HSt→Int→Option (Bool)) (L128:List Int) (L130:List Int) (s147:HSt) (y148:Bool):Option (Bool):=(if (y148) then some (false) else rec78 L128 L130 s147 (IntKind.i64.wrap (x75+1)))
def RingApart.j18 (k:Nat) (L9:List Int) (x75:Int) (rec78:List Int→List Int→HSt→Int→Option (Bool)) (s127:HSt) (L128:List Int) (L130:List Int):Option (Bool):=(if (decide ((L130.length:Int) > 3)) then RingApart.j19 x75 rec78 L128 L130 s127 true else (if (decide ((L128.length:Int) > 2)) then RingApart.j19 x75 rec78 L128 L130 s127 true else (if (inR (0:Int) L9.length) then bind2 (ring_All.m k s127 (atI L9 (0:Int))) fun L191 s192=>bind1 (help_PlainO.m k L191 L130) fun y206=>(if (!(y206)) then RingApart.j19 x75 rec78 L128 L130 s192 true else (if (inR (1:Int) L9.length) then bind2 (ring_All.m k s192 (atI L9 (1:Int))) fun L229 s230=>bind1 (help_PlainO.m k L229 L128) fun y244=>RingApart.j19 x75 rec78 L128 L130 s230 (!(y244)) else none)) else none)))
def RingApart.j21 (k:Nat) (L9:List Int) (x75:Int) (rec78:List Int→List Int→HSt→Int→Option (Bool)) (s267:HSt) (L294:List Int) (L296:List Int):Option (Bool):=RingApart.j18 k L9 x75 rec78 s267 L294 L296
def RingApart.j20 (k:Nat) (L9:List Int) (L70:List Int) (L72:List Int) (x75:Int) (rec78:List Int→List Int→HSt→Int→Option (Bool)) (x114:Int) (x266:Int) (s267:HSt) (y276:Bool):Option (Bool):=(if (y276) then some (false) else (if (x266 == 0) then (if (x114 == 0) then (if (inR 0 L72.length) then bind1 (dropM L72 (1:Int)) fun L328=>RingApart.j21 k L9 x75 rec78 s267 L70 L328 else none) else (if (x114 == 1) then (if (inR 0 L70.length) then bind1 (dropM L70 (1:Int)) fun L359=>RingApart.j21 k L9 x75 rec78 s267 L359 L72 else none) else none)) else RingApart.j21 k L9 x75 rec78 s267 L70 L72))
def RingApart.j22 (k:Nat) (L9:List Int) (x75:Int) (rec78:List Int→List Int→HSt→Int→Option (Bool)) (s471:HSt) (L480:List Int) (L482:List Int):Option (Bool):=RingApart.j18 k L9 x75 rec78 s471 L480 L482
def RingApart.j23 (k:Nat) (L9:List Int) (x75:Int) (rec78:List Int→List Int→HSt→Int→Option (Bool)) (s471:HSt) (L501:List Int) (L503:List Int):Option (Bool):=RingApart.j22 k L9 x75 rec78 s471 L503 L501
def RingApart.j17 (K0:List Int) (K1:List Int) (k:Nat) (L9:List Int) (L70:List Int) (L72:List Int) (s74:HSt) (x75:Int) (rec78:List Int→List Int→HSt→Int→Option (Bool)) (y91:Bool):Option (Bool):=(if (y91) then (if (inR x75 K1.length) then bind1 (some (IntKind.i64.wrap (Int.tmod (IntKind.u64.wrap (atI K1 x75)) 2))) fun x114=>(if ((Int.tmod (atI K1 x75) 3) == 0) then (if (inR x114 L9.length) then bind3 (ring_Take.m k s74 (atI L9 x114)) fun x265 x266 s267=>(if (x114 == 0) then (if (!((x266 == 0) == (decide ((L72.length:Int) > 0)))) then RingApart.j20 k L9 L70 L72 x75 rec78 x114 x266 s267 true else (if (x266 == 0) then (if (inR (0:Int) L72.length) then RingApart.j20 k L9 L70 L72 x75 rec78 x114 x266 s267 (x265 != (atI L72 (0:Int))) else none) else RingApart.j20 k L9 L70 L72 x75 rec78 x114 x266 s267 false)) else (if (x114 == 1) then (if (!((x266 == 0) == (decide ((L70.length:Int) > 0)))) then RingApart.j20 k L9 L70 L72 x75 rec78 x114 x266 s267 true else (if (x266 == 0) then (if (inR (0:Int) L70.length) then RingApart.j20 k L9 L70 L72 x75 rec78 x114 x266 s267 (x265 != (atI L70 (0:Int))) else none) else RingApart.j20 k L9 L70 L72 x75 rec78 x114 x266 s267 false)) else none)) else none) else (if (inR x114 L9.length) then (if (inR x75 K0.length) then bind2 (ring_Put.m k s74 (atI L9 x114) (atI K0 x75)) fun x470 s471=>(if (x470 == 0) then (if (x114 == 0) then bind1 (pushM L72 (atI K0 x75)) fun L534=>RingApart.j23 k L9 x75 rec78 s471 L534 L70 else (if (x114 == 1) then bind1 (pushM L70 (atI K0 x75)) fun L589=>RingApart.j23 k L9 x75 rec78 s471 L72 L589 else none)) else RingApart.j22 k L9 x75 rec78 s471 L70 L72) else none) else none)) else none) else some (true))
def RingApart.l16b (K0:List Int) (K1:List Int) (k:Nat) (L9:List Int) (rec78:List Int→List Int→HSt→Int→Option (Bool)) (L70:List Int) (L72:List Int) (s74:HSt) (x75:Int):Option (Bool):=(if (decide (x75<(K1.length:Int))) then (if (decide (x75<(K0.length:Int))) then RingApart.j17 K0 K1 k L9 L70 L72 s74 x75 rec78 (decide (x75<40)) else RingApart.j17 K0 K1 k L9 L70 L72 s74 x75 rec78 false) else RingApart.j17 K0 K1 k L9 L70 L72 s74 x75 rec78 false)
def RingApart.l16 (K0:List Int) (K1:List Int) (k:Nat) (L9:List Int):Nat→List Int→List Int→HSt→Int→Option (Bool)
  | 0=>fun _ _ _ _=>none
  | kI+1=>RingApart.l16b K0 K1 k L9 (RingApart.l16 K0 K1 k L9 kI)
def RingApart.j1 (K0:List Int) (K1:List Int) (k:Nat) (s7:HSt) (L9:List Int) (y44:Bool):Option (Bool):=(if (y44) then some (false) else RingApart.l16 K0 K1 k L9 k [] [] s7 0)
def RingApart.m (k:Nat) (K0:List Int) (K1:List Int):Option (Bool):=bind4 (law12_made.m k [3,2] 1) fun s7 s8 L9 L10=>bind1 (law12_awake.m k ) fun y658=>(if (!(y658)) then RingApart.j1 K0 K1 k s7 L9 true else RingApart.j1 K0 K1 k s7 L9 false)
set_option maxRecDepth 100000 in
set_option maxHeartbeats 40000000 in
theorem RingApart.ok {w0 w:World} {ps:List Piece} {k:Nat} {pa0:Option Addr} {ca0:Nat} {K0:List Int} (hA0:ArgInts w0 (.slice pa0 K0.length ca0) K0) {pa1:Option Addr} {ca1:Nat} {K1:List Int} (hA1:ArgInts w0 (.slice pa1 K1.length ca1) K1) {r0:Bool} (hS:St w0 [] (ps) w) (hm:RingApart.m k K0 K1=some r0) :
    Calls Tryz.prog 6 #[.slice pa0 K0.length ca0,.slice pa1 K1.length ca1] w fun e w'=>e=.returned (.bool r0)∧St w0 [] (ps) w':=by
 refine ev_enterL 164 [.slice pa0 K0.length ca0,.slice pa1 K1.length ca1] Tryz.func6 rfl rfl (by simp) ?_
 intro a hF
 have hF0:Fr 164 a [(0,.slice pa0 K0.length ca0),(1,.slice pa1 K1.length ca1)]:=hF; clear hF
 unfold RingApart.m at hm
 refine wp_seq (wp_region_lit ?_)
 refine ev_runK 1 hF0 [0,1] (l':=[(0,.slice pa0 K0.length ca0),(1,.slice pa1 K1.length ca1)]) (w':=w) (by kernel_rfl) ?_
 intro a2 hF1; clear hF0
 refine wpList_nil (thenN (wp_seq (wp_region_lit ?_)))
 refine ev_runs 1 hF1 (l':=[(11,.slice (some ⟨w.heap.size,0,none⟩) 2 2),(0,.slice pa0 K0.length ca0),(1,.slice pa1 K1.length ca1)]) (w':=w.alloc (.cells #[nI 3,nI 2] 3)) (by kernel_rfl) ?_
 intro a4 hF3; clear hF1
 have hS6:St w0 [] (RowP (.slice (some ⟨w.heap.size,0,none⟩) 2 2) [3,2]::ps) (w.alloc (.cells #[nI 3,nI 2] 3)):=St.lit hS [3,2] (by unfold maxLen; simp)
 refine ev_call 14 #[.slice (some ⟨w.heap.size,0,none⟩) 2 2,nI 1] hF3 rfl rfl (by kernel_rfl) rfl (by kernel_rfl) (fun w=>by kernel_rfl) ?_
 obtain ⟨s7,s8,L9,L10,hx11,hm12⟩:=bind4E hm; clear hm
 refine (law12_made.ok hS6 hx11).mono ?_
 rintro _ w13 ⟨z17,z18,z19,z20,z21,z22,z23,z24,z25,z26,rfl,hS15⟩ a14 hF16; clear hF3 hS6
 have hS32:St w0 [] (RowP (.slice (some ⟨w.heap.size,0,none⟩) 2 2) [3,2]::BlkP z17 32 #[nP z18 0,nP z20 0,z25,z26]::HeapP z18 z19 s7::RHeapP z20 z21 z22 z23 z24 s8::RowP (z25) L9::RowP (z26) L10::ps) w13:=hS15
 clear hS15
 obtain ⟨hl36,p33,c34,rfl,hp35⟩:=St.shape hS32 4 rfl
 obtain ⟨hl40,p37,c38,rfl,hp39⟩:=St.shape hS32 5 rfl
 refine ev_runK 1 hF16 [0,1,5] (l':=[(5,nP z17 0),(0,.slice pa0 K0.length ca0),(1,.slice pa1 K1.length ca1)]) (w':=w13) (by kernel_rfl) ?_
 intro a42 hF41; clear hF16
 refine wpList_nil ?_
 have hS43:=hS32.drop
 clear hS32
 refine thenN (wp_seq (wp_seq ?_))
 refine joinQ (fun aI wI=>∃ (y44:Bool),Fr 164 aI [(18,.bool (y44)),(5,nP z17 0),(0,.slice pa0 K0.length ca0),(1,.slice pa1 K1.length ca1)]∧St w0 [] (BlkP z17 32 #[nP z18 0,nP z20 0,.slice p33 L9.length c34,.slice p37 L10.length c38]::HeapP z18 z19 s7::RHeapP z20 z21 z22 z23 z24 s8::RowP (.slice p33 L9.length c34) L9::RowP (.slice p37 L10.length c38) L10::ps) wI∧RingApart.j1 K0 K1 k s7 L9 y44=some r0) ?_ ?_
 rotate_left
 · rintro a46 w47 ⟨y44,hF48,hS49,hm50⟩
   clear hF41 hS43 hm12
   unfold RingApart.j1 at hm50
   refine thenN ?_
   cases hc52:(y44)
   case true =>
    rw [hc52] at hF48
    have hm53:=ifYes hc52 hm50; clear hm50
    refine ev_condT hF48 rfl rfl ?_
    refine wp_seq (wp_region_lit ?_)
    refine ev_runK 1 hF48 [4] (l':=[(4,.bool false)]) (w':=w47) (by kernel_rfl) ?_
    intro a55 hF54; clear hF48
    refine wpList_nil ?_
    have hS56:=hS49.drop.drop.drop.drop.drop
    clear hS49
    refine thenN ?_
    refine wp_ret ?_
    refine thenR ?_
    obtain rfl:=Option.some.inj hm53
    refine ev_ret hF54 [4] (.bool false) rfl rfl rfl ?_
    exact ⟨rfl,hS56⟩
   rw [hc52] at hF48
   have hm58:=ifNot hc52 hm50; clear hm50
   refine ev_condF hF48 rfl rfl ?_
   refine wp_skip ?_
   have hF59:=hF48.keep [0,1,5]
   clear hF48
   refine thenN (wp_seq (wp_region_lit ?_))
   refine ev_runs 1 hF59 (l':=[(6,nB w47),(5,nP z17 0),(0,.slice pa0 K0.length ca0),(1,.slice pa1 K1.length ca1)]) (w':=w47.alloc (.cells #[.slice none 0 0,.slice none 0 0] 47)) (by kernel_rfl) ?_
   intro a61 hF60; clear hF59
   have hS63:St w0 [] (BlkP (w47.heap.size) 47 #[.slice none 0 0,.slice none 0 0]::BlkP z17 32 #[nP z18 0,nP z20 0,.slice p33 L9.length c34,.slice p37 L10.length c38]::HeapP z18 z19 s7::RHeapP z20 z21 z22 z23 z24 s8::RowP (.slice p33 L9.length c34) L9::RowP (.slice p37 L10.length c38) L10::ps) (w47.alloc (.cells #[.slice none 0 0,.slice none 0 0] 47)):=St.new hS49 #[.slice none 0 0,.slice none 0 0] 47
   clear hS49
   have hS65:St w0 [] (OffP (.slice none 0 0) []::BlkP (w47.heap.size) 47 #[.slice none 0 0,.slice none 0 0]::BlkP z17 32 #[nP z18 0,nP z20 0,.slice p33 L9.length c34,.slice p37 L10.length c38]::HeapP z18 z19 s7::RHeapP z20 z21 z22 z23 z24 s8::RowP (.slice p33 L9.length c34) L9::RowP (.slice p37 L10.length c38) L10::ps) (w47.alloc (.cells #[.slice none 0 0,.slice none 0 0] 47)):=St.nilO hS63
   clear hS63
   have hS67:St w0 [] (OffP (.slice none 0 0) []::OffP (.slice none 0 0) []::BlkP (w47.heap.size) 47 #[.slice none 0 0,.slice none 0 0]::BlkP z17 32 #[nP z18 0,nP z20 0,.slice p33 L9.length c34,.slice p37 L10.length c38]::HeapP z18 z19 s7::RHeapP z20 z21 z22 z23 z24 s8::RowP (.slice p33 L9.length c34) L9::RowP (.slice p37 L10.length c38) L10::ps) (w47.alloc (.cells #[.slice none 0 0,.slice none 0 0] 47)):=St.nilO hS65
   clear hS65
   refine wpList_nil (thenN (wp_seq (wp_seq (wp_region_lit ?_))))
   refine ev_runs 1 hF60 (l':=[(7,nI 0),(6,nB w47),(5,nP z17 0),(0,.slice pa0 K0.length ca0),(1,.slice pa1 K1.length ca1)]) (w':=w47.alloc (.cells #[.slice none 0 0,.slice none 0 0] 47)) (by kernel_rfl) ?_
   intro a69 hF68; clear hF60
   refine wpList_nil (thenN ?_)
   refine wp_block ?_
   refine wp_loop_ghost (fun kI aI wI=>∃ (v71:Value) (L70:List Int) (v73:Value) (L72:List Int) (s74:HSt) (x75:Int),Fr 164 aI [(7,nI x75),(6,nB w47),(5,nP z17 0),(0,.slice pa0 K0.length ca0),(1,.slice pa1 K1.length ca1)]∧St w0 [] (OffP (v71) L70::OffP (v73) L72::BlkP (w47.heap.size) 47 #[v73,v71]::BlkP z17 32 #[nP z18 0,nP z20 0,.slice p33 L9.length c34,.slice p37 L10.length c38]::HeapP z18 z19 s74::RHeapP z20 z21 z22 z23 z24 s8::RowP (.slice p33 L9.length c34) L9::RowP (.slice p37 L10.length c38) L10::ps) wI∧RingApart.l16 K0 K1 k L9 kI L70 L72 s74 x75=some r0) k ⟨.slice none 0 0,[],.slice none 0 0,[],s7,0,hF68,hS67,hm58⟩ ?_
   rintro k76 a77 w78 ⟨v71,L70,v73,L72,s74,x75,hF79,hS80,hm81⟩
   clear hF68 hS67 hm58
   rcases k76 with _ | k76
   · cases hm81
   have hm82:RingApart.l16b K0 K1 k L9 (RingApart.l16 K0 K1 k L9 k76) L70 L72 s74 x75=some r0:=hm81
   clear hm81
   unfold RingApart.l16b at hm82
   obtain ⟨hl86,p83,c84,rfl,hp85⟩:=St.shapeO hS80 0 rfl
   obtain ⟨hl90,p87,c88,rfl,hp89⟩:=St.shapeO hS80 1 rfl
   refine wp_seq (wp_seq ?_)
   refine joinQ (fun aI wI=>∃ (y91:Bool),Fr 164 aI [(32,.bool (y91)),(7,nI x75),(6,nB w47),(5,nP z17 0),(0,.slice pa0 K0.length ca0),(1,.slice pa1 K1.length ca1)]∧St w0 [] (OffP (.slice p83 L70.length c84) L70::OffP (.slice p87 L72.length c88) L72::BlkP (w47.heap.size) 47 #[.slice p87 L72.length c88,.slice p83 L70.length c84]::BlkP z17 32 #[nP z18 0,nP z20 0,.slice p33 L9.length c34,.slice p37 L10.length c38]::HeapP z18 z19 s74::RHeapP z20 z21 z22 z23 z24 s8::RowP (.slice p33 L9.length c34) L9::RowP (.slice p37 L10.length c38) L10::ps) wI∧RingApart.j17 K0 K1 k L9 L70 L72 s74 x75 (RingApart.l16 K0 K1 k L9 k76) y91=some r0) ?_ ?_
   rotate_left
   · rintro a93 w94 ⟨y91,hF95,hS96,hm97⟩
     clear hF79 hS80 hm82
     unfold RingApart.j17 at hm97
     refine thenN ?_
     cases hc99:(y91)
     case true =>
      rw [hc99] at hF95
      have hm100:=ifYes hc99 hm97; clear hm97
      refine ev_condT hF95 rfl rfl ?_
      refine wp_skip ?_
      have hF101:=hF95.keep [0,1,5,6,7]
      clear hF95
      refine thenN (wp_seq ?_)
      refine wp_block ?_
      refine wp_seq (wp_region_lit ?_)
      refine ev_runs 2 hF101 (l':=[(36,nI x75),(35,.slice pa1 K1.length ca1),(7,nI x75),(6,nB w47),(5,nP z17 0),(0,.slice pa0 K0.length ca0),(1,.slice pa1 K1.length ca1)]) (w':=w94) (by kernel_rfl) ?_
      intro a103 hF102; clear hF101
      obtain ⟨hc104,hm105⟩:=ifTE hm100; clear hm100
      obtain ⟨b106,o107,rfl⟩:=argK hA1 hc104
      refine ev_one (nP b106 ((o107+x75.toNat))) w94 hF102 (by kernel_rfl) rfl (by kernel_rfl) (run_idxO rfl rfl rfl rfl rfl (inR_spec hc104).1 (inR_spec hc104).2 _) (l':=[(37,nP b106 ((o107+x75.toNat))),(36,nI x75),(35,.slice (some ⟨b106,o107,none⟩) K1.length ca1),(7,nI x75),(6,nB w47),(5,nP z17 0),(0,.slice pa0 K0.length ca0),(1,.slice (some ⟨b106,o107,none⟩) K1.length ca1)]) (by kernel_rfl) ?_
      intro a109 hF108; clear hF102
      refine ev_one (nI (atI K1 x75)) w94 hF108 (by kernel_rfl) rfl (by kernel_rfl) (run_load1 rfl rfl rfl (argAt hA1 hS96 hc104)) (l':=[(38,nI (atI K1 x75)),(37,nP b106 ((o107+x75.toNat))),(36,nI x75),(35,.slice (some ⟨b106,o107,none⟩) K1.length ca1),(7,nI x75),(6,nB w47),(5,nP z17 0),(0,.slice pa0 K0.length ca0),(1,.slice (some ⟨b106,o107,none⟩) K1.length ca1)]) (by kernel_rfl) ?_
      intro a111 hF110; clear hF108
      refine ev_runs 4 hF110 (l':=[(8,nI (IntKind.i64.wrap (Int.tmod (IntKind.u64.wrap (atI K1 x75)) 2))),(41,nI (IntKind.i64.wrap (Int.tmod (IntKind.u64.wrap (atI K1 x75)) 2))),(40,.int .u64 (Int.tmod (IntKind.u64.wrap (atI K1 x75)) 2)),(39,.int .u64 (IntKind.u64.wrap (atI K1 x75))),(38,nI (atI K1 x75)),(37,nP b106 ((o107+x75.toNat))),(36,nI x75),(35,.slice (some ⟨b106,o107,none⟩) K1.length ca1),(7,nI x75),(6,nB w47),(5,nP z17 0),(0,.slice pa0 K0.length ca0),(1,.slice (some ⟨b106,o107,none⟩) K1.length ca1)]) (w':=w94) (by kernel_rfl) ?_
      intro a113 hF112; clear hF110
      obtain ⟨x114,hx115,hm116⟩:=bind1E hm105; clear hm105
      have hF117:=hF112; rw [Option.some.inj hx115] at hF117; clear hF112
      refine wpList_nil ?_
      have hF118:=hF117.keep [0,1,5,6,7,8]
      clear hF117
      refine thenN (wp_seq (wp_seq (wp_region_lit ?_)))
      refine ev_runs 2 hF118 (l':=[(43,nI x75),(42,.slice (some ⟨b106,o107,none⟩) K1.length ca1),(8,nI x114),(7,nI x75),(6,nB w47),(5,nP z17 0),(0,.slice pa0 K0.length ca0),(1,.slice (some ⟨b106,o107,none⟩) K1.length ca1)]) (w':=w94) (by kernel_rfl) ?_
      intro a120 hF119; clear hF118
      refine ev_one (nP b106 ((o107+x75.toNat))) w94 hF119 (by kernel_rfl) rfl (by kernel_rfl) (run_idxO rfl rfl rfl rfl rfl (inR_spec hc104).1 (inR_spec hc104).2 _) (l':=[(44,nP b106 ((o107+x75.toNat))),(43,nI x75),(42,.slice (some ⟨b106,o107,none⟩) K1.length ca1),(8,nI x114),(7,nI x75),(6,nB w47),(5,nP z17 0),(0,.slice pa0 K0.length ca0),(1,.slice (some ⟨b106,o107,none⟩) K1.length ca1)]) (by kernel_rfl) ?_
      intro a122 hF121; clear hF119
      refine ev_one (nI (atI K1 x75)) w94 hF121 (by kernel_rfl) rfl (by kernel_rfl) (run_load1 rfl rfl rfl (argAt hA1 hS96 hc104)) (l':=[(45,nI (atI K1 x75)),(44,nP b106 ((o107+x75.toNat))),(43,nI x75),(42,.slice (some ⟨b106,o107,none⟩) K1.length ca1),(8,nI x114),(7,nI x75),(6,nB w47),(5,nP z17 0),(0,.slice pa0 K0.length ca0),(1,.slice (some ⟨b106,o107,none⟩) K1.length ca1)]) (by kernel_rfl) ?_
      intro a124 hF123; clear hF121
      refine ev_runK 2 hF123 [0,1,5,6,7,8,47] (l':=[(47,.bool ((Int.tmod (atI K1 x75) 3) == 0)),(8,nI x114),(7,nI x75),(6,nB w47),(5,nP z17 0),(0,.slice pa0 K0.length ca0),(1,.slice (some ⟨b106,o107,none⟩) K1.length ca1)]) (w':=w94) (by kernel_rfl) ?_
      intro a126 hF125; clear hF123
      refine wpList_nil (thenN ?_)
      refine joinQ (fun aI wI=>∃ (s127:HSt) (v129:Value) (L128:List Int) (v131:Value) (L130:List Int),Fr 164 aI [(7,nI x75),(6,nB w47),(5,nP z17 0),(0,.slice pa0 K0.length ca0),(1,.slice (some ⟨b106,o107,none⟩) K1.length ca1)]∧St w0 [] (HeapP z18 z19 s127::BlkP z17 32 #[nP z18 0,nP z20 0,.slice p33 L9.length c34,.slice p37 L10.length c38]::RowP (.slice p33 L9.length c34) L9::OffP (v129) L128::OffP (v131) L130::BlkP (w47.heap.size) 47 #[v131,v129]::RHeapP z20 z21 z22 z23 z24 s8::RowP (.slice p37 L10.length c38) L10::ps) wI∧RingApart.j18 k L9 x75 (RingApart.l16 K0 K1 k L9 k76) s127 L128 L130=some r0) ?_ ?_
      rotate_left
      · rintro a133 w134 ⟨s127,v129,L128,v131,L130,hF135,hS136,hm137⟩
        clear hF125 hS96 hm116
        unfold RingApart.j18 at hm137
        obtain ⟨hl142,p139,c140,rfl,hp141⟩:=St.shapeO hS136 3 rfl
        obtain ⟨hl146,p143,c144,rfl,hp145⟩:=St.shapeO hS136 4 rfl
        refine thenN (wp_seq ?_)
        refine joinQ (fun aI wI=>∃ (s147:HSt) (y148:Bool),Fr 164 aI [(163,.bool (y148)),(7,nI x75),(6,nB w47),(5,nP z17 0),(0,.slice pa0 K0.length ca0),(1,.slice (some ⟨b106,o107,none⟩) K1.length ca1)]∧St w0 [] (BlkP (w47.heap.size) 47 #[.slice p143 L130.length c144,.slice p139 L128.length c140]::BlkP z17 32 #[nP z18 0,nP z20 0,.slice p33 L9.length c34,.slice p37 L10.length c38]::RowP (.slice p33 L9.length c34) L9::HeapP z18 z19 s147::OffP (.slice p139 L128.length c140) L128::OffP (.slice p143 L130.length c144) L130::RHeapP z20 z21 z22 z23 z24 s8::RowP (.slice p37 L10.length c38) L10::ps) wI∧RingApart.j19 x75 (RingApart.l16 K0 K1 k L9 k76) L128 L130 s147 y148=some r0) ?_ ?_
        rotate_left
        · rintro a150 w151 ⟨s147,y148,hF152,hS153,hm154⟩
          clear hF135 hS136 hm137
          unfold RingApart.j19 at hm154
          refine thenN ?_
          cases hc156:(y148)
          case true =>
           rw [hc156] at hF152
           have hm157:=ifYes hc156 hm154; clear hm154
           refine ev_condT hF152 rfl rfl ?_
           refine wp_seq (wp_region_lit ?_)
           refine ev_runK 1 hF152 [4] (l':=[(4,.bool false)]) (w':=w151) (by kernel_rfl) ?_
           intro a159 hF158; clear hF152
           refine wpList_nil ?_
           have hS160:=hS153.drop.drop.drop.drop.drop.drop.drop.drop
           clear hS153
           refine thenN ?_
           refine wp_ret ?_
           refine blockR ?_
           refine thenR (thenR ?_)
           refine blockR ?_
           refine thenR ?_
           obtain rfl:=Option.some.inj hm157
           refine ev_ret hF158 [4] (.bool false) rfl rfl rfl ?_
           exact ⟨rfl,hS160⟩
          rw [hc156] at hF152
          have hm162:=ifNot hc156 hm154; clear hm154
          refine ev_condF hF152 rfl rfl ?_
          refine wp_skip ?_
          have hF163:=hF152.keep [0,1,5,6,7]
          clear hF152
          refine blockN ?_
          refine thenN (wp_region_lit ?_)
          refine ev_runK 3 hF163 [0,1,5,6,7] (l':=[(7,nI (IntKind.i64.wrap (x75+1))),(6,nB w47),(5,nP z17 0),(0,.slice pa0 K0.length ca0),(1,.slice (some ⟨b106,o107,none⟩) K1.length ca1)]) (w':=w151) (by kernel_rfl) ?_
          intro a165 hF164; clear hF163
          refine wpList_nil ?_
          have hS166:=hS153.pick7.pick3.pick7.pick5.pick5.pick5.pick7.pick7
          clear hS153
          exact thenN ⟨k76,Nat.lt_succ_self _,.slice p139 L128.length c140,L128,.slice p143 L130.length c144,L130,s147,IntKind.i64.wrap (x75+1),hF164,hS166,hm162⟩
        · skip
          have hS167:=hS136.pick2.pick2.pick5
          clear hS136
          have hS168:=hS167.drew; clear hS167
          refine any_start (fun wS=>∃ qs,St w0 [] (BlkP (w47.heap.size) 47 #[.slice p143 L130.length c144,.slice p139 L128.length c140]::BlkP z17 32 #[nP z18 0,nP z20 0,.slice p33 L9.length c34,.slice p37 L10.length c38]::RowP (.slice p33 L9.length c34) L9::qs) wS) 44 #[false,false,false,false,false,false,false,false,false,false,false,false,false,false,false,false,false,false,false,false,false,false,false,false,false,false,false,false,false,false,false,false,false,false,false,false,false,false,false,false,false,false,false,false] (by kernel_rfl) (by kernel_rfl) (by kernel_rfl) ?_
          refine any_many 5 [(0,some (nB w47)),(1,some (.slice p143 L130.length c144)),(2,some (nI ((L130.length:Int)))),(3,some (.bool (decide ((L130.length:Int) > 3)))),(4,some (.bool (decide ((L130.length:Int) > 3))))] [0,1,5,6,7,124,125,126,127,128,129,130,131,132,133,134,135,136,137,138,139,140,141,142,143,144,145,146,147,148,149,150,151,152,153,154,155,156,157,158,159,160,161,162,163] #[true,true,true,true,true,false,false,false,false,false,false,false,false,false,false,false,false,false,false,false,false,false,false,false,false,false,false,false,false,false,false,false,false,false,false,false,false,false,false,false,false,false,false,false] (by rfl) hF135 (by kernel_rfl) (by kernel_rfl) (by exact ⟨fun wS hw=>run_idxA (q:=0) rfl rfl rfl rfl rfl (by decide) (by decide) (by kernel_rfl) _,fun wS hw=>hw.elim fun qs hw=>run_loadV rfl rfl (run_loadS rfl rfl (hw.cell 0 rfl 0 rfl)),fun wS hw=>by kernel_rfl,fun wS hw=>by kernel_rfl,fun wS hw=>by kernel_rfl,trivial⟩) (fun _ _ _ _ _ h=>h) ⟨_,hS168⟩ (l':=[(124,.bool (decide ((L130.length:Int) > 3))),(7,nI x75),(6,nB w47),(5,nP z17 0),(0,.slice pa0 K0.length ca0),(1,.slice (some ⟨b106,o107,none⟩) K1.length ca1)]) (by kernel_rfl) ?_
          intro a170 hF169; clear hF135
          cases hc171:(decide ((L130.length:Int) > 3))
          case true =>
           rw [hc171] at hF169
           have hm172:=ifYes hc171 hm137; clear hm137
           refine any_many 39 [(5,none),(6,none),(7,none),(8,none),(9,some (.bool true)),(10,some (.bool true)),(11,none),(12,none),(13,none),(14,none),(15,none),(16,none),(17,none),(18,none),(19,none),(20,none),(21,none),(22,none),(23,none),(24,none),(25,none),(26,some (.bool true)),(27,some (.bool true)),(28,none),(29,none),(30,none),(31,none),(32,none),(33,none),(34,none),(35,none),(36,none),(37,none),(38,none),(39,none),(40,none),(41,none),(42,none),(43,some (.bool true))] [0,1,5,6,7,163] #[true,true,true,true,true,true,true,true,true,true,true,true,true,true,true,true,true,true,true,true,true,true,true,true,true,true,true,true,true,true,true,true,true,true,true,true,true,true,true,true,true,true,true,true] (by rfl) hF169 (by kernel_rfl) (by kernel_rfl) (by exact (And.intro trivial (And.intro trivial (And.intro trivial (And.intro trivial (And.intro (fun wS hw=>by kernel_rfl) (And.intro (fun wS hw=>by kernel_rfl) (And.intro trivial (And.intro trivial (And.intro trivial (And.intro trivial (And.intro trivial (And.intro trivial (And.intro trivial (And.intro trivial (And.intro trivial (And.intro trivial (And.intro trivial (And.intro trivial (And.intro trivial (And.intro trivial (And.intro trivial (And.intro (fun wS hw=>by kernel_rfl) (And.intro (fun wS hw=>by kernel_rfl) (And.intro trivial (And.intro trivial (And.intro trivial (And.intro trivial (And.intro trivial (And.intro trivial (And.intro trivial (And.intro trivial (And.intro trivial (And.intro trivial (And.intro trivial (And.intro trivial (And.intro trivial (And.intro trivial (And.intro trivial (And.intro (fun wS hw=>by kernel_rfl) trivial)))))))))))))))))))))))))))))))))))))))) (fun _ _ _ _ _ h=>h) ⟨_,hS168⟩ (l':=[(163,.bool true),(7,nI x75),(6,nB w47),(5,nP z17 0),(0,.slice pa0 K0.length ca0),(1,.slice (some ⟨b106,o107,none⟩) K1.length ca1)]) (by kernel_rfl) ?_
           intro a174 hF173; clear hF169
           refine any_done (by kernel_rfl) ?_
           exact thenN ⟨s127,true,hF173,hS168,hm172⟩
          rw [hc171] at hF169
          have hm175:=ifNot hc171 hm137; clear hm137
          refine any_many 6 [(5,some (nP (w47.heap.size) 1)),(6,some (.slice p139 L128.length c140)),(7,some (nI ((L128.length:Int)))),(8,some (.bool (decide ((L128.length:Int) > 2)))),(9,some (.bool (decide ((L128.length:Int) > 2)))),(10,some (.bool (decide ((L128.length:Int) > 2))))] [0,1,5,6,7,130,131,132,133,134,135,136,137,138,139,140,141,142,143,144,145,146,147,148,149,150,151,152,153,154,155,156,157,158,159,160,161,162,163] #[true,true,true,true,true,true,true,true,true,true,true,false,false,false,false,false,false,false,false,false,false,false,false,false,false,false,false,false,false,false,false,false,false,false,false,false,false,false,false,false,false,false,false,false] (by rfl) hF169 (by kernel_rfl) (by kernel_rfl) (by exact ⟨fun wS hw=>run_idxA (q:=1) rfl rfl rfl rfl rfl (by decide) (by decide) (by kernel_rfl) _,fun wS hw=>hw.elim fun qs hw=>run_loadV rfl rfl (run_loadS rfl rfl (hw.cell 0 rfl 1 rfl)),fun wS hw=>by kernel_rfl,fun wS hw=>by kernel_rfl,fun wS hw=>by kernel_rfl,fun wS hw=>by kernel_rfl,trivial⟩) (fun _ _ _ _ _ h=>h) ⟨_,hS168⟩ (l':=[(130,.bool (decide ((L128.length:Int) > 2))),(7,nI x75),(6,nB w47),(5,nP z17 0),(0,.slice pa0 K0.length ca0),(1,.slice (some ⟨b106,o107,none⟩) K1.length ca1)]) (by kernel_rfl) ?_
          intro a177 hF176; clear hF169
          cases hc178:(decide ((L128.length:Int) > 2))
          case true =>
           rw [hc178] at hF176
           have hm179:=ifYes hc178 hm175; clear hm175
           refine any_many 33 [(11,none),(12,none),(13,none),(14,none),(15,none),(16,none),(17,none),(18,none),(19,none),(20,none),(21,none),(22,none),(23,none),(24,none),(25,none),(26,some (.bool true)),(27,some (.bool true)),(28,none),(29,none),(30,none),(31,none),(32,none),(33,none),(34,none),(35,none),(36,none),(37,none),(38,none),(39,none),(40,none),(41,none),(42,none),(43,some (.bool true))] [0,1,5,6,7,163] #[true,true,true,true,true,true,true,true,true,true,true,true,true,true,true,true,true,true,true,true,true,true,true,true,true,true,true,true,true,true,true,true,true,true,true,true,true,true,true,true,true,true,true,true] (by rfl) hF176 (by kernel_rfl) (by kernel_rfl) (by exact (And.intro trivial (And.intro trivial (And.intro trivial (And.intro trivial (And.intro trivial (And.intro trivial (And.intro trivial (And.intro trivial (And.intro trivial (And.intro trivial (And.intro trivial (And.intro trivial (And.intro trivial (And.intro trivial (And.intro trivial (And.intro (fun wS hw=>by kernel_rfl) (And.intro (fun wS hw=>by kernel_rfl) (And.intro trivial (And.intro trivial (And.intro trivial (And.intro trivial (And.intro trivial (And.intro trivial (And.intro trivial (And.intro trivial (And.intro trivial (And.intro trivial (And.intro trivial (And.intro trivial (And.intro trivial (And.intro trivial (And.intro trivial (And.intro (fun wS hw=>by kernel_rfl) trivial)))))))))))))))))))))))))))))))))) (fun _ _ _ _ _ h=>h) ⟨_,hS168⟩ (l':=[(163,.bool true),(7,nI x75),(6,nB w47),(5,nP z17 0),(0,.slice pa0 K0.length ca0),(1,.slice (some ⟨b106,o107,none⟩) K1.length ca1)]) (by kernel_rfl) ?_
           intro a181 hF180; clear hF176
           refine any_done (by kernel_rfl) ?_
           exact thenN ⟨s127,true,hF180,hS168,hm179⟩
          rw [hc178] at hF176
          have hm182:=ifNot hc178 hm175; clear hm175
          refine any_many 8 [(11,some (nP z17 0)),(12,some (nP z17 0)),(13,some (nP z17 0)),(14,some (nP z18 0)),(15,some (nP z17 0)),(16,some (nP z17 0)),(17,some (nP z17 2)),(18,some (.slice p33 L9.length c34))] [0,1,5,6,7,130,134,138,139,140,141,142,143,144,145,146,147,148,149,150,151,152,153,154,155,156,157,158,159,160,161,162,163] #[true,true,true,true,true,true,true,true,true,true,true,true,true,true,true,true,true,true,true,false,false,false,false,false,false,false,false,false,false,false,false,false,false,false,false,false,false,false,false,false,false,false,false,false] (by rfl) hF176 (by kernel_rfl) (by kernel_rfl) (by exact ⟨fun wS hw=>by kernel_rfl,fun wS hw=>by kernel_rfl,fun wS hw=>by kernel_rfl,fun wS hw=>hw.elim fun qs hw=>run_loadV rfl rfl (run_loadS rfl rfl (hw.cell 1 rfl 0 rfl)),fun wS hw=>by kernel_rfl,fun wS hw=>by kernel_rfl,fun wS hw=>by kernel_rfl,fun wS hw=>hw.elim fun qs hw=>run_loadV rfl rfl (run_loadS rfl rfl (hw.cell 1 rfl 2 rfl)),trivial⟩) (fun _ _ _ _ _ h=>h) ⟨_,hS168⟩ (l':=[(138,.slice p33 L9.length c34),(134,nP z18 0),(130,.bool false),(7,nI x75),(6,nB w47),(5,nP z17 0),(0,.slice pa0 K0.length ca0),(1,.slice (some ⟨b106,o107,none⟩) K1.length ca1)]) (by kernel_rfl) ?_
          intro a184 hF183; clear hF176
          obtain ⟨hc185,hm186⟩:=ifTE hm182; clear hm182
          obtain ⟨g187,rfl⟩:=hp35.resolve_left (by have:=inR_spec hc185; omega)
          refine any_many 4 [(19,some (nP g187 ((0:Int).toNat))),(20,some (nI (atI L9 (0:Int)))),(22,some (nB w47)),(23,some (.slice p143 L130.length c144))] [0,1,5,6,7,130,134,140,141,143,144,145,146,147,148,149,150,151,152,153,154,155,156,157,158,159,160,161,162,163] #[true,true,true,true,true,true,true,true,true,true,true,true,true,true,true,true,true,true,true,true,true,false,true,true,false,false,false,false,false,false,false,false,false,false,false,false,false,false,false,false,false,false,false,false] (by rfl) hF183 (by kernel_rfl) (by kernel_rfl) (by exact ⟨fun wS hw=>run_idx rfl rfl rfl rfl rfl (inR_spec hc185).1 (inR_spec hc185).2 _,fun wS hw=>run_load1 rfl rfl rfl (hw.elim fun qs hw=>hw.atI 2 rfl hc185),fun wS hw=>run_idxA (q:=0) rfl rfl rfl rfl rfl (by decide) (by decide) (by kernel_rfl) _,fun wS hw=>hw.elim fun qs hw=>run_loadV rfl rfl (run_loadS rfl rfl (hw.cell 0 rfl 0 rfl)),trivial⟩) (fun _ _ _ _ _ h=>h) ⟨_,hS168⟩ (l':=[(143,.slice p143 L130.length c144),(140,nI (atI L9 (0:Int))),(134,nP z18 0),(130,.bool false),(7,nI x75),(6,nB w47),(5,nP z17 0),(0,.slice pa0 K0.length ca0),(1,.slice (some ⟨b106,o107,none⟩) K1.length ca1)]) (by kernel_rfl) ?_
          intro a189 hF188; clear hF183
          have hS190:=hS168.pick3
          clear hS168
          refine any_call 21 #[true,true,true,true,true,true,true,true,true,true,true,true,true,true,true,true,true,true,true,true,true,true,true,true,false,false,false,false,false,false,false,false,false,false,false,false,false,false,false,false,false,false,false,false] 21 #[nP z18 0,nI (atI L9 (0:Int))] hF188 rfl (by kernel_rfl) rfl rfl (by kernel_rfl) rfl (by kernel_rfl) (fun w=>by kernel_rfl) (by kernel_rfl) ?_
          obtain ⟨L191,s192,hx193,hm194⟩:=bind2E hm186; clear hm186
          refine (ring_All.ok hS190 hx193).mono ?_
          rintro _ w195 ⟨z199,rfl,hS197⟩; clear hS190
          obtain ⟨hl204,p201,c202,rfl,hp203⟩:=St.shape hS197 1 rfl
          refine ⟨⟨_,hS197.pick4.pick4.pick4⟩,?_⟩
          intro a196 hF198; clear hF188
          have hS205:=hS197.pick6.pick2
          clear hS197
          refine any_call 24 #[true,true,true,true,true,true,true,true,true,true,true,true,true,true,true,true,true,true,true,true,true,true,true,true,true,false,false,false,false,false,false,false,false,false,false,false,false,false,false,false,false,false,false,false] 20 #[.slice p201 L191.length c202,.slice p143 L130.length c144] hF198 rfl (by kernel_rfl) rfl rfl (by kernel_rfl) rfl (by kernel_rfl) (fun w=>by kernel_rfl) (by kernel_rfl) ?_
          obtain ⟨y206,hx207,hm208⟩:=bind1E hm194; clear hm194
          refine (help_PlainO.ok hS205 hx207).mono ?_
          rintro _ w209 ⟨rfl,hS211⟩; clear hS205
          refine ⟨⟨_,hS211.pick5.pick5.pick5⟩,?_⟩
          intro a210 hF212; clear hF198
          refine any_many 3 [(25,some (.bool (!(y206)))),(26,some (.bool (!(y206)))),(27,some (.bool (!(y206))))] [0,1,5,6,7,147,148,149,150,151,152,153,154,155,156,157,158,159,160,161,162,163] #[true,true,true,true,true,true,true,true,true,true,true,true,true,true,true,true,true,true,true,true,true,true,true,true,true,true,true,true,false,false,false,false,false,false,false,false,false,false,false,false,false,false,false,false] (by rfl) hF212 (by kernel_rfl) (by kernel_rfl) (by exact ⟨fun wS hw=>by kernel_rfl,fun wS hw=>by kernel_rfl,fun wS hw=>by kernel_rfl,trivial⟩) (fun _ _ _ _ _ h=>h) ⟨_,hS211.pick5.pick5.pick5⟩ (l':=[(147,.bool (!(y206))),(7,nI x75),(6,nB w47),(5,nP z17 0),(0,.slice pa0 K0.length ca0),(1,.slice (some ⟨b106,o107,none⟩) K1.length ca1)]) (by kernel_rfl) ?_
          intro a214 hF213; clear hF212
          cases hc215:(!(y206))
          case true =>
           rw [hc215] at hF213
           have hm216:=ifYes hc215 hm208; clear hm208
           refine any_many 16 [(28,none),(29,none),(30,none),(31,none),(32,none),(33,none),(34,none),(35,none),(36,none),(37,none),(38,none),(39,none),(40,none),(41,none),(42,none),(43,some (.bool true))] [0,1,5,6,7,163] #[true,true,true,true,true,true,true,true,true,true,true,true,true,true,true,true,true,true,true,true,true,true,true,true,true,true,true,true,true,true,true,true,true,true,true,true,true,true,true,true,true,true,true,true] (by rfl) hF213 (by kernel_rfl) (by kernel_rfl) (by exact (And.intro trivial (And.intro trivial (And.intro trivial (And.intro trivial (And.intro trivial (And.intro trivial (And.intro trivial (And.intro trivial (And.intro trivial (And.intro trivial (And.intro trivial (And.intro trivial (And.intro trivial (And.intro trivial (And.intro trivial (And.intro (fun wS hw=>by kernel_rfl) trivial))))))))))))))))) (fun _ _ _ _ _ h=>h) ⟨_,hS211.pick5.pick5.pick5⟩ (l':=[(163,.bool true),(7,nI x75),(6,nB w47),(5,nP z17 0),(0,.slice pa0 K0.length ca0),(1,.slice (some ⟨b106,o107,none⟩) K1.length ca1)]) (by kernel_rfl) ?_
           intro a218 hF217; clear hF213
           refine any_done (by kernel_rfl) ?_
           have hS219:=hS211.drop
           clear hS211
           have hS220:=hS219.pick7.pick7.pick2.pick7.pick4.pick7.pick7.pick7
           clear hS219
           exact thenN ⟨s192,true,hF217,hS220,hm216⟩
          rw [hc215] at hF213
          have hm221:=ifNot hc215 hm208; clear hm208
          refine any_many 8 [(28,some (nP z17 0)),(29,some (nP z17 0)),(30,some (nP z17 0)),(31,some (nP z18 0)),(32,some (nP z17 0)),(33,some (nP z17 0)),(34,some (nP z17 2)),(35,some (nS g187 L9 c34))] [0,1,5,6,7,147,151,155,156,157,158,159,160,161,162,163] #[true,true,true,true,true,true,true,true,true,true,true,true,true,true,true,true,true,true,true,true,true,true,true,true,true,true,true,true,true,true,true,true,true,true,true,true,false,false,false,false,false,false,false,false] (by rfl) hF213 (by kernel_rfl) (by kernel_rfl) (by exact ⟨fun wS hw=>by kernel_rfl,fun wS hw=>by kernel_rfl,fun wS hw=>by kernel_rfl,fun wS hw=>hw.elim fun qs hw=>run_loadV rfl rfl (run_loadS rfl rfl (hw.cell 1 rfl 0 rfl)),fun wS hw=>by kernel_rfl,fun wS hw=>by kernel_rfl,fun wS hw=>by kernel_rfl,fun wS hw=>hw.elim fun qs hw=>run_loadV rfl rfl (run_loadS rfl rfl (hw.cell 1 rfl 2 rfl)),trivial⟩) (fun _ _ _ _ _ h=>h) ⟨_,hS211.pick5.pick5.pick5⟩ (l':=[(155,nS g187 L9 c34),(151,nP z18 0),(147,.bool false),(7,nI x75),(6,nB w47),(5,nP z17 0),(0,.slice pa0 K0.length ca0),(1,.slice (some ⟨b106,o107,none⟩) K1.length ca1)]) (by kernel_rfl) ?_
          intro a223 hF222; clear hF213
          obtain ⟨hc224,hm225⟩:=ifTE hm221; clear hm221
          refine any_many 4 [(36,some (nP g187 ((1:Int).toNat))),(37,some (nI (atI L9 (1:Int)))),(39,some (nP (w47.heap.size) 1)),(40,some (.slice p139 L128.length c140))] [0,1,5,6,7,147,151,157,158,160,161,162,163] #[true,true,true,true,true,true,true,true,true,true,true,true,true,true,true,true,true,true,true,true,true,true,true,true,true,true,true,true,true,true,true,true,true,true,true,true,true,true,false,true,true,false,false,false] (by rfl) hF222 (by kernel_rfl) (by kernel_rfl) (by exact ⟨fun wS hw=>run_idx rfl rfl rfl rfl rfl (inR_spec hc224).1 (inR_spec hc224).2 _,fun wS hw=>run_load1 rfl rfl rfl (hw.elim fun qs hw=>hw.atI 2 rfl hc224),fun wS hw=>run_idxA (q:=1) rfl rfl rfl rfl rfl (by decide) (by decide) (by kernel_rfl) _,fun wS hw=>hw.elim fun qs hw=>run_loadV rfl rfl (run_loadS rfl rfl (hw.cell 0 rfl 1 rfl)),trivial⟩) (fun _ _ _ _ _ h=>h) ⟨_,hS211.pick5.pick5.pick5⟩ (l':=[(160,.slice p139 L128.length c140),(157,nI (atI L9 (1:Int))),(151,nP z18 0),(147,.bool false),(7,nI x75),(6,nB w47),(5,nP z17 0),(0,.slice pa0 K0.length ca0),(1,.slice (some ⟨b106,o107,none⟩) K1.length ca1)]) (by kernel_rfl) ?_
          intro a227 hF226; clear hF222
          have hS228:=hS211.pick2
          clear hS211
          refine any_call 38 #[true,true,true,true,true,true,true,true,true,true,true,true,true,true,true,true,true,true,true,true,true,true,true,true,true,true,true,true,true,true,true,true,true,true,true,true,true,true,true,true,true,false,false,false] 21 #[nP z18 0,nI (atI L9 (1:Int))] hF226 rfl (by kernel_rfl) rfl rfl (by kernel_rfl) rfl (by kernel_rfl) (fun w=>by kernel_rfl) (by kernel_rfl) ?_
          obtain ⟨L229,s230,hx231,hm232⟩:=bind2E hm225; clear hm225
          refine (ring_All.ok hS228 hx231).mono ?_
          rintro _ w233 ⟨z237,rfl,hS235⟩; clear hS228
          obtain ⟨hl242,p239,c240,rfl,hp241⟩:=St.shape hS235 1 rfl
          refine ⟨⟨_,hS235.pick6.pick6.pick6⟩,?_⟩
          intro a234 hF236; clear hF226
          have hS243:=hS235.pick7.pick2
          clear hS235
          refine any_call 41 #[true,true,true,true,true,true,true,true,true,true,true,true,true,true,true,true,true,true,true,true,true,true,true,true,true,true,true,true,true,true,true,true,true,true,true,true,true,true,true,true,true,true,false,false] 20 #[.slice p239 L229.length c240,.slice p139 L128.length c140] hF236 rfl (by kernel_rfl) rfl rfl (by kernel_rfl) rfl (by kernel_rfl) (fun w=>by kernel_rfl) (by kernel_rfl) ?_
          obtain ⟨y244,hx245,hm246⟩:=bind1E hm232; clear hm232
          refine (help_PlainO.ok hS243 hx245).mono ?_
          rintro _ w247 ⟨rfl,hS249⟩; clear hS243
          refine ⟨⟨_,hS249.pick7.pick7.pick7⟩,?_⟩
          intro a248 hF250; clear hF236
          refine any_many 2 [(42,some (.bool (!(y244)))),(43,some (.bool (!(y244))))] [0,1,5,6,7,163] #[true,true,true,true,true,true,true,true,true,true,true,true,true,true,true,true,true,true,true,true,true,true,true,true,true,true,true,true,true,true,true,true,true,true,true,true,true,true,true,true,true,true,true,true] (by rfl) hF250 (by kernel_rfl) (by kernel_rfl) (by exact ⟨fun wS hw=>by kernel_rfl,fun wS hw=>by kernel_rfl,trivial⟩) (fun _ _ _ _ _ h=>h) ⟨_,hS249.pick7.pick7.pick7⟩ (l':=[(163,.bool (!(y244))),(7,nI x75),(6,nB w47),(5,nP z17 0),(0,.slice pa0 K0.length ca0),(1,.slice (some ⟨b106,o107,none⟩) K1.length ca1)]) (by kernel_rfl) ?_
          intro a252 hF251; clear hF250
          refine any_done (by kernel_rfl) ?_
          have hS253:=hS249.drop.pick2.drop
          clear hS249
          have hS254:=hS253.pick7.pick7.pick4.pick3.pick4.pick7.pick7.pick7
          clear hS253
          exact thenN ⟨s230,!(y244),hF251,hS254,hm246⟩
      · skip
        cases hc255:((Int.tmod (atI K1 x75) 3) == 0)
        case true =>
         rw [hc255] at hF125
         have hm256:=ifYes hc255 hm116; clear hm116
         refine ev_condT hF125 rfl rfl ?_
         refine wp_seq ?_
         obtain ⟨hc257,hm258⟩:=ifTE hm256; clear hm256
         obtain ⟨g259,rfl⟩:=hp35.resolve_left (by have:=inR_spec hc257; omega)
         have hS260:=hS96.pick6.pick4
         clear hS96
         have hS261:=hS260.drew; clear hS260
         refine any_start (fun wS=>∃ qs,St w0 [] (BlkP z17 32 #[nP z18 0,nP z20 0,nS g259 L9 c34,.slice p37 L10.length c38]::RowP (nS g259 L9 c34) L9::qs) wS) 17 #[false,false,false,false,false,false,false,false,false,false,false,false,false,false,false,false,false] (by kernel_rfl) (by kernel_rfl) (by kernel_rfl) ?_
         refine any_many 11 [(0,some (nP z17 0)),(1,some (nP z17 0)),(2,some (nP z17 0)),(3,some (nP z18 0)),(4,some (nP z17 0)),(5,some (nP z17 0)),(6,some (nP z17 2)),(7,some (nS g259 L9 c34)),(8,some (nI x114)),(9,some (nP g259 (x114.toNat))),(10,some (nI (atI L9 x114)))] [0,1,5,6,7,8,9,10,48,52,59,60,61,62] #[true,true,true,true,true,true,true,true,true,true,true,false,false,false,false,false,false] (by rfl) hF125 (by kernel_rfl) (by kernel_rfl) (by exact ⟨fun wS hw=>by kernel_rfl,fun wS hw=>by kernel_rfl,fun wS hw=>by kernel_rfl,fun wS hw=>hw.elim fun qs hw=>run_loadV rfl rfl (run_loadS rfl rfl (hw.cell 0 rfl 0 rfl)),fun wS hw=>by kernel_rfl,fun wS hw=>by kernel_rfl,fun wS hw=>by kernel_rfl,fun wS hw=>hw.elim fun qs hw=>run_loadV rfl rfl (run_loadS rfl rfl (hw.cell 0 rfl 2 rfl)),fun wS hw=>by kernel_rfl,fun wS hw=>run_idx rfl rfl rfl rfl rfl (inR_spec hc257).1 (inR_spec hc257).2 _,fun wS hw=>run_load1 rfl rfl rfl (hw.elim fun qs hw=>hw.atI 1 rfl hc257),trivial⟩) (fun _ _ _ _ _ h=>h) ⟨_,hS261⟩ (l':=[(59,nI (atI L9 x114)),(52,nP z18 0),(8,nI x114),(7,nI x75),(6,nB w47),(5,nP z17 0),(0,.slice pa0 K0.length ca0),(1,.slice (some ⟨b106,o107,none⟩) K1.length ca1)]) (by kernel_rfl) ?_
         intro a263 hF262; clear hF125
         have hS264:=hS261.pick5
         clear hS261
         refine any_call 11 #[true,true,true,true,true,true,true,true,true,true,true,true,false,false,false,false,false] 18 #[nP z18 0,nI (atI L9 x114)] hF262 rfl (by kernel_rfl) rfl rfl (by kernel_rfl) rfl (by kernel_rfl) (fun w=>by kernel_rfl) (by kernel_rfl) ?_
         obtain ⟨x265,x266,s267,hx268,hm269⟩:=bind3E hm258; clear hm258
         refine (ring_Take.ok hS264 hx268).mono ?_
         rintro _ w270 ⟨rfl,hS272⟩; clear hS264
         refine ⟨⟨_,hS272.pick2.pick2⟩,?_⟩
         intro a271 hF273; clear hF262
         refine any_many 5 [(12,some (.tuple #[nI x265,nI x266])),(13,some (nI x265)),(14,some (nI x266)),(15,some (nI x265)),(16,some (nI x266))] [0,1,5,6,7,8,9,10] #[true,true,true,true,true,true,true,true,true,true,true,true,true,true,true,true,true] (by rfl) hF273 (by kernel_rfl) (by kernel_rfl) (by exact ⟨fun wS hw=>by kernel_rfl,fun wS hw=>by kernel_rfl,fun wS hw=>by kernel_rfl,fun wS hw=>by kernel_rfl,fun wS hw=>by kernel_rfl,trivial⟩) (fun _ _ _ _ _ h=>h) ⟨_,hS272.pick2.pick2⟩ (l':=[(10,nI x266),(9,nI x265),(8,nI x114),(7,nI x75),(6,nB w47),(5,nP z17 0),(0,.slice pa0 K0.length ca0),(1,.slice (some ⟨b106,o107,none⟩) K1.length ca1)]) (by kernel_rfl) ?_
         intro a275 hF274; clear hF273
         refine any_done (by kernel_rfl) ?_
         refine thenN (wp_seq (wp_seq ?_))
         refine joinQ (fun aI wI=>∃ (y276:Bool),Fr 164 aI [(83,.bool (y276)),(10,nI x266),(8,nI x114),(7,nI x75),(6,nB w47),(5,nP z17 0),(0,.slice pa0 K0.length ca0),(1,.slice (some ⟨b106,o107,none⟩) K1.length ca1)]∧St w0 [] (HeapP z18 z19 s267::BlkP z17 32 #[nP z18 0,nP z20 0,nS g259 L9 c34,.slice p37 L10.length c38]::RowP (nS g259 L9 c34) L9::OffP (.slice p83 L70.length c84) L70::OffP (.slice p87 L72.length c88) L72::BlkP (w47.heap.size) 47 #[.slice p87 L72.length c88,.slice p83 L70.length c84]::RHeapP z20 z21 z22 z23 z24 s8::RowP (.slice p37 L10.length c38) L10::ps) wI∧RingApart.j20 k L9 L70 L72 x75 (RingApart.l16 K0 K1 k L9 k76) x114 x266 s267 y276=some r0) ?_ ?_
         rotate_left
         · rintro a278 w279 ⟨y276,hF280,hS281,hm282⟩
           clear hF274 hS272 hm269
           unfold RingApart.j20 at hm282
           refine thenN ?_
           cases hc284:(y276)
           case true =>
            rw [hc284] at hF280
            have hm285:=ifYes hc284 hm282; clear hm282
            refine ev_condT hF280 rfl rfl ?_
            refine wp_seq (wp_region_lit ?_)
            refine ev_runK 1 hF280 [4] (l':=[(4,.bool false)]) (w':=w279) (by kernel_rfl) ?_
            intro a287 hF286; clear hF280
            refine wpList_nil ?_
            have hS288:=hS281.drop.drop.drop.drop.drop.drop.drop.drop
            clear hS281
            refine thenN ?_
            refine wp_ret ?_
            refine thenR (thenR (thenR ?_))
            refine blockR ?_
            refine thenR (thenR ?_)
            refine blockR ?_
            refine thenR ?_
            obtain rfl:=Option.some.inj hm285
            refine ev_ret hF286 [4] (.bool false) rfl rfl rfl ?_
            exact ⟨rfl,hS288⟩
           rw [hc284] at hF280
           have hm290:=ifNot hc284 hm282; clear hm282
           refine ev_condF hF280 rfl rfl ?_
           refine wp_skip ?_
           have hF291:=hF280.keep [0,1,5,6,7,8,10]
           clear hF280
           refine thenN (wp_seq (wp_region_lit ?_))
           refine ev_runK 2 hF291 [0,1,5,6,7,8,85] (l':=[(85,.bool (x266 == 0)),(8,nI x114),(7,nI x75),(6,nB w47),(5,nP z17 0),(0,.slice pa0 K0.length ca0),(1,.slice (some ⟨b106,o107,none⟩) K1.length ca1)]) (w':=w279) (by kernel_rfl) ?_
           intro a293 hF292; clear hF291
           refine wpList_nil (thenN ?_)
           refine joinQ (fun aI wI=>∃ (v295:Value) (L294:List Int) (v297:Value) (L296:List Int),Fr 164 aI [(7,nI x75),(6,nB w47),(5,nP z17 0),(0,.slice pa0 K0.length ca0),(1,.slice (some ⟨b106,o107,none⟩) K1.length ca1)]∧St w0 [] (HeapP z18 z19 s267::BlkP z17 32 #[nP z18 0,nP z20 0,nS g259 L9 c34,.slice p37 L10.length c38]::RowP (nS g259 L9 c34) L9::OffP (v295) L294::OffP (v297) L296::BlkP (w47.heap.size) 47 #[v297,v295]::RHeapP z20 z21 z22 z23 z24 s8::RowP (.slice p37 L10.length c38) L10::ps) wI∧RingApart.j21 k L9 x75 (RingApart.l16 K0 K1 k L9 k76) s267 L294 L296=some r0) ?_ ?_
           rotate_left
           · rintro a299 w300 ⟨v295,L294,v297,L296,hF301,hS302,hm303⟩
             clear hF292 hS281 hm290
             unfold RingApart.j21 at hm303
             obtain ⟨hl308,p305,c306,rfl,hp307⟩:=St.shapeO hS302 3 rfl
             obtain ⟨hl312,p309,c310,rfl,hp311⟩:=St.shapeO hS302 4 rfl
             exact thenN ⟨s267,.slice p305 L294.length c306,L294,.slice p309 L296.length c310,L296,hF301,hS302,hm303⟩
           · skip
             cases hc313:(x266 == 0)
             case true =>
              rw [hc313] at hF292
              have hm314:=ifYes hc313 hm290; clear hm290
              refine ev_condT hF292 rfl rfl ?_
              refine wp_region_lit ?_
              refine ev_runs 2 hF292 (l':=[(87,nI x114),(86,nI x114),(85,.bool true),(8,nI x114),(7,nI x75),(6,nB w47),(5,nP z17 0),(0,.slice pa0 K0.length ca0),(1,.slice (some ⟨b106,o107,none⟩) K1.length ca1)]) (w':=w279) (by kernel_rfl) ?_
              intro a316 hF315; clear hF292
              cases hc317:(x114 == 0)
              case true =>
               have hm318:=ifYes hc317 hm314; clear hm314
               refine ev_one (nB w47) w279 hF315 (by kernel_rfl) rfl (by kernel_rfl) (run_idxA (q:=0) rfl rfl rfl rfl (congrArg (Value.int .i64) (eq_of_beq hc317)) (by decide) (by decide) (by kernel_rfl) _) (l':=[(88,nB w47),(87,nI x114),(86,nI x114),(85,.bool true),(8,nI x114),(7,nI x75),(6,nB w47),(5,nP z17 0),(0,.slice pa0 K0.length ca0),(1,.slice (some ⟨b106,o107,none⟩) K1.length ca1)]) (by kernel_rfl) ?_
               intro a320 hF319; clear hF315
               refine ev_one (.slice p87 L72.length c88) w279 hF319 (by kernel_rfl) rfl (by kernel_rfl) (run_loadV rfl rfl (run_loadS rfl rfl (hS281.cell 5 rfl 0 rfl))) (l':=[(89,.slice p87 L72.length c88),(88,nB w47),(87,nI x114),(86,nI x114),(85,.bool true),(8,nI x114),(7,nI x75),(6,nB w47),(5,nP z17 0),(0,.slice pa0 K0.length ca0),(1,.slice (some ⟨b106,o107,none⟩) K1.length ca1)]) (by kernel_rfl) ?_
               intro a322 hF321; clear hF319
               obtain ⟨hc323,hm324⟩:=ifTE hm318; clear hm318
               obtain ⟨g325,of326,rfl⟩:=hp89.resolve_left (by have:=inR_spec hc323; omega)
               have hS327:=hS281.pick4
               clear hS281
               obtain ⟨L328,hx329,hm330⟩:=bind1E hm324; clear hm324
               obtain ⟨hb331,hb332,hl333,hS334⟩:=St.cutO hS327 hx329; clear hS327
               refine ev_one (.slice (some ⟨g325,if c88=(1:Int).toNat then of326 else of326+(1:Int).toNat,none⟩) L328.length (c88 - (1:Int).toNat)) w279 hF321 (by kernel_rfl) rfl (by kernel_rfl) (by rw [hl333]; exact run_sliceLo rfl rfl rfl rfl rfl hb331.1 hb331.2.1 hb331.2.2 _) (l':=[(90,.slice (some ⟨g325,if c88=(1:Int).toNat then of326 else of326+(1:Int).toNat,none⟩) L328.length (c88 - (1:Int).toNat)),(89,.slice (some ⟨g325,of326,none⟩) L72.length c88),(88,nB w47),(87,nI x114),(86,nI x114),(85,.bool true),(8,nI x114),(7,nI x75),(6,nB w47),(5,nP z17 0),(0,.slice pa0 K0.length ca0),(1,.slice (some ⟨b106,o107,none⟩) K1.length ca1)]) (by kernel_rfl) ?_
               intro a336 hF335; clear hF321
               have hF337:=hF335.keep [0,1,5,6,7,8,85,86,87,88,90]; clear hF335
               refine ev_one (nB w47) w279 hF337 (by kernel_rfl) rfl (by kernel_rfl) (run_idxA (q:=0) rfl rfl rfl rfl (congrArg (Value.int .i64) (eq_of_beq hc317)) (by decide) (by decide) (by kernel_rfl) _) (l':=[(91,nB w47),(90,.slice (some ⟨g325,if c88=(1:Int).toNat then of326 else of326+(1:Int).toNat,none⟩) L328.length (c88 - (1:Int).toNat)),(88,nB w47),(87,nI x114),(86,nI x114),(85,.bool true),(8,nI x114),(7,nI x75),(6,nB w47),(5,nP z17 0),(0,.slice pa0 K0.length ca0),(1,.slice (some ⟨b106,o107,none⟩) K1.length ca1)]) (by kernel_rfl) ?_
               intro a339 hF338; clear hF337
               have hS340:=hS334.pick5
               clear hS334
               refine ev_store (.slice (some ⟨g325,if c88=(1:Int).toNat then of326 else of326+(1:Int).toNat,none⟩) L328.length (c88 - (1:Int).toNat)) #[.slice (some ⟨g325,if c88=(1:Int).toNat then of326 else of326+(1:Int).toNat,none⟩) L328.length (c88 - (1:Int).toNat),.slice p83 L70.length c84] hF338 (by kernel_rfl) rfl rfl rfl rfl (by kernel_rfl) hS340 (by kernel_rfl) (by kernel_rfl) (by kernel_rfl) (l':=[(91,nB w47),(90,.slice (some ⟨g325,if c88=(1:Int).toNat then of326 else of326+(1:Int).toNat,none⟩) L328.length (c88 - (1:Int).toNat)),(88,nB w47),(87,nI x114),(86,nI x114),(85,.bool true),(8,nI x114),(7,nI x75),(6,nB w47),(5,nP z17 0),(0,.slice pa0 K0.length ca0),(1,.slice (some ⟨b106,o107,none⟩) K1.length ca1)]) (by kernel_rfl) ?_
               intro w341 a342 hS343 hF344; clear hF338 hS340
               refine wpList_nil ?_
               have hF345:=hF344.keep [0,1,5,6,7]
               clear hF344
               have hS346:=hS343.pick7.pick7.pick2.pick3.pick7.pick7.pick7.pick7
               clear hS343
               exact thenN ⟨.slice p83 L70.length c84,L70,.slice (some ⟨g325,if c88=(1:Int).toNat then of326 else of326+(1:Int).toNat,none⟩) L328.length (c88 - (1:Int).toNat),L328,hF345,hS346,hm330⟩
              have hm347:=ifNot hc317 hm314; clear hm314
              cases hc348:(x114 == 1)
              case true =>
               have hm349:=ifYes hc348 hm347; clear hm347
               refine ev_one (nP (w47.heap.size) 1) w279 hF315 (by kernel_rfl) rfl (by kernel_rfl) (run_idxA (q:=1) rfl rfl rfl rfl (congrArg (Value.int .i64) (eq_of_beq hc348)) (by decide) (by decide) (by kernel_rfl) _) (l':=[(88,nP (w47.heap.size) 1),(87,nI x114),(86,nI x114),(85,.bool true),(8,nI x114),(7,nI x75),(6,nB w47),(5,nP z17 0),(0,.slice pa0 K0.length ca0),(1,.slice (some ⟨b106,o107,none⟩) K1.length ca1)]) (by kernel_rfl) ?_
               intro a351 hF350; clear hF315
               refine ev_one (.slice p83 L70.length c84) w279 hF350 (by kernel_rfl) rfl (by kernel_rfl) (run_loadV rfl rfl (run_loadS rfl rfl (hS281.cell 5 rfl 1 rfl))) (l':=[(89,.slice p83 L70.length c84),(88,nP (w47.heap.size) 1),(87,nI x114),(86,nI x114),(85,.bool true),(8,nI x114),(7,nI x75),(6,nB w47),(5,nP z17 0),(0,.slice pa0 K0.length ca0),(1,.slice (some ⟨b106,o107,none⟩) K1.length ca1)]) (by kernel_rfl) ?_
               intro a353 hF352; clear hF350
               obtain ⟨hc354,hm355⟩:=ifTE hm349; clear hm349
               obtain ⟨g356,of357,rfl⟩:=hp85.resolve_left (by have:=inR_spec hc354; omega)
               have hS358:=hS281.pick3
               clear hS281
               obtain ⟨L359,hx360,hm361⟩:=bind1E hm355; clear hm355
               obtain ⟨hb362,hb363,hl364,hS365⟩:=St.cutO hS358 hx360; clear hS358
               refine ev_one (.slice (some ⟨g356,if c84=(1:Int).toNat then of357 else of357+(1:Int).toNat,none⟩) L359.length (c84 - (1:Int).toNat)) w279 hF352 (by kernel_rfl) rfl (by kernel_rfl) (by rw [hl364]; exact run_sliceLo rfl rfl rfl rfl rfl hb362.1 hb362.2.1 hb362.2.2 _) (l':=[(90,.slice (some ⟨g356,if c84=(1:Int).toNat then of357 else of357+(1:Int).toNat,none⟩) L359.length (c84 - (1:Int).toNat)),(89,.slice (some ⟨g356,of357,none⟩) L70.length c84),(88,nP (w47.heap.size) 1),(87,nI x114),(86,nI x114),(85,.bool true),(8,nI x114),(7,nI x75),(6,nB w47),(5,nP z17 0),(0,.slice pa0 K0.length ca0),(1,.slice (some ⟨b106,o107,none⟩) K1.length ca1)]) (by kernel_rfl) ?_
               intro a367 hF366; clear hF352
               have hF368:=hF366.keep [0,1,5,6,7,8,85,86,87,88,90]; clear hF366
               refine ev_one (nP (w47.heap.size) 1) w279 hF368 (by kernel_rfl) rfl (by kernel_rfl) (run_idxA (q:=1) rfl rfl rfl rfl (congrArg (Value.int .i64) (eq_of_beq hc348)) (by decide) (by decide) (by kernel_rfl) _) (l':=[(91,nP (w47.heap.size) 1),(90,.slice (some ⟨g356,if c84=(1:Int).toNat then of357 else of357+(1:Int).toNat,none⟩) L359.length (c84 - (1:Int).toNat)),(88,nP (w47.heap.size) 1),(87,nI x114),(86,nI x114),(85,.bool true),(8,nI x114),(7,nI x75),(6,nB w47),(5,nP z17 0),(0,.slice pa0 K0.length ca0),(1,.slice (some ⟨b106,o107,none⟩) K1.length ca1)]) (by kernel_rfl) ?_
               intro a370 hF369; clear hF368
               have hS371:=hS365.pick5
               clear hS365
               refine ev_store (.slice (some ⟨g356,if c84=(1:Int).toNat then of357 else of357+(1:Int).toNat,none⟩) L359.length (c84 - (1:Int).toNat)) #[.slice p87 L72.length c88,.slice (some ⟨g356,if c84=(1:Int).toNat then of357 else of357+(1:Int).toNat,none⟩) L359.length (c84 - (1:Int).toNat)] hF369 (by kernel_rfl) rfl rfl rfl rfl (by kernel_rfl) hS371 (by kernel_rfl) (by kernel_rfl) (by kernel_rfl) (l':=[(91,nP (w47.heap.size) 1),(90,.slice (some ⟨g356,if c84=(1:Int).toNat then of357 else of357+(1:Int).toNat,none⟩) L359.length (c84 - (1:Int).toNat)),(88,nP (w47.heap.size) 1),(87,nI x114),(86,nI x114),(85,.bool true),(8,nI x114),(7,nI x75),(6,nB w47),(5,nP z17 0),(0,.slice pa0 K0.length ca0),(1,.slice (some ⟨b106,o107,none⟩) K1.length ca1)]) (by kernel_rfl) ?_
               intro w372 a373 hS374 hF375; clear hF369 hS371
               refine wpList_nil ?_
               have hF376:=hF375.keep [0,1,5,6,7]
               clear hF375
               have hS377:=hS374.pick7.pick7.pick2.pick7.pick4.pick7.pick7.pick7
               clear hS374
               exact thenN ⟨.slice (some ⟨g356,if c84=(1:Int).toNat then of357 else of357+(1:Int).toNat,none⟩) L359.length (c84 - (1:Int).toNat),L359,.slice p87 L72.length c88,L72,hF376,hS377,hm361⟩
              have hm378:=ifNot hc348 hm347; clear hm347
              exact absurd hm378 (by simp)
             rw [hc313] at hF292
             have hm379:=ifNot hc313 hm290; clear hm290
             refine ev_condF hF292 rfl rfl ?_
             refine wp_skip ?_
             have hF380:=hF292.keep [0,1,5,6,7]
             clear hF292
             exact thenN ⟨.slice p83 L70.length c84,L70,.slice p87 L72.length c88,L72,hF380,hS281,hm379⟩
         · skip
           refine wp_region_lit ?_
           refine ev_runs 3 hF274 (l':=[(65,nI x114),(64,.bool (x266 == 0)),(63,nI x266),(10,nI x266),(9,nI x265),(8,nI x114),(7,nI x75),(6,nB w47),(5,nP z17 0),(0,.slice pa0 K0.length ca0),(1,.slice (some ⟨b106,o107,none⟩) K1.length ca1)]) (w':=w270) (by kernel_rfl) ?_
           intro a382 hF381; clear hF274
           cases hc383:(x114 == 0)
           case true =>
            have hm384:=ifYes hc383 hm269; clear hm269
            refine ev_one (nB w47) w270 hF381 (by kernel_rfl) rfl (by kernel_rfl) (run_idxA (q:=0) rfl rfl rfl rfl (congrArg (Value.int .i64) (eq_of_beq hc383)) (by decide) (by decide) (by kernel_rfl) _) (l':=[(66,nB w47),(65,nI x114),(64,.bool (x266 == 0)),(63,nI x266),(10,nI x266),(9,nI x265),(8,nI x114),(7,nI x75),(6,nB w47),(5,nP z17 0),(0,.slice pa0 K0.length ca0),(1,.slice (some ⟨b106,o107,none⟩) K1.length ca1)]) (by kernel_rfl) ?_
            intro a386 hF385; clear hF381
            refine ev_one (.slice p87 L72.length c88) w270 hF385 (by kernel_rfl) rfl (by kernel_rfl) (run_loadV rfl rfl (run_loadS rfl rfl (hS272.cell 5 rfl 0 rfl))) (l':=[(67,.slice p87 L72.length c88),(66,nB w47),(65,nI x114),(64,.bool (x266 == 0)),(63,nI x266),(10,nI x266),(9,nI x265),(8,nI x114),(7,nI x75),(6,nB w47),(5,nP z17 0),(0,.slice pa0 K0.length ca0),(1,.slice (some ⟨b106,o107,none⟩) K1.length ca1)]) (by kernel_rfl) ?_
            intro a388 hF387; clear hF385
            refine ev_runs 4 hF387 (l':=[(71,.bool (!((x266 == 0) == (decide ((L72.length:Int) > 0))))),(70,.bool (!((x266 == 0) == (decide ((L72.length:Int) > 0))))),(69,.bool (decide ((L72.length:Int) > 0))),(68,nI ((L72.length:Int))),(67,.slice p87 L72.length c88),(66,nB w47),(65,nI x114),(64,.bool (x266 == 0)),(63,nI x266),(10,nI x266),(9,nI x265),(8,nI x114),(7,nI x75),(6,nB w47),(5,nP z17 0),(0,.slice pa0 K0.length ca0),(1,.slice (some ⟨b106,o107,none⟩) K1.length ca1)]) (w':=w270) (by kernel_rfl) ?_
            intro a390 hF389; clear hF387
            cases hc391:(!((x266 == 0) == (decide ((L72.length:Int) > 0))))
            case true =>
             rw [hc391] at hF389
             have hm392:=ifYes hc391 hm384; clear hm384
             refine ev_runK 12 hF389 [0,1,5,6,7,8,10,83] (l':=[(83,.bool true),(10,nI x266),(8,nI x114),(7,nI x75),(6,nB w47),(5,nP z17 0),(0,.slice pa0 K0.length ca0),(1,.slice (some ⟨b106,o107,none⟩) K1.length ca1)]) (w':=w270) (by kernel_rfl) ?_
             intro a394 hF393; clear hF389
             refine wpList_nil ?_
             exact thenN ⟨true,hF393,hS272,hm392⟩
            rw [hc391] at hF389
            have hm395:=ifNot hc391 hm384; clear hm384
            refine ev_runs 3 hF389 (l':=[(74,.bool (x266 == 0)),(73,.bool (x266 == 0)),(72,nI x266),(71,.bool false),(70,.bool false),(69,.bool (decide ((L72.length:Int) > 0))),(68,nI ((L72.length:Int))),(67,.slice p87 L72.length c88),(66,nB w47),(65,nI x114),(64,.bool (x266 == 0)),(63,nI x266),(10,nI x266),(9,nI x265),(8,nI x114),(7,nI x75),(6,nB w47),(5,nP z17 0),(0,.slice pa0 K0.length ca0),(1,.slice (some ⟨b106,o107,none⟩) K1.length ca1)]) (w':=w270) (by kernel_rfl) ?_
            intro a397 hF396; clear hF389
            cases hc398:(x266 == 0)
            case true =>
             rw [hc398] at hF396
             have hm399:=ifYes hc398 hm395; clear hm395
             refine ev_runs 2 hF396 (l':=[(76,nI x114),(75,nI x265),(74,.bool true),(73,.bool true),(72,nI x266),(71,.bool false),(70,.bool false),(69,.bool (decide ((L72.length:Int) > 0))),(68,nI ((L72.length:Int))),(67,.slice p87 L72.length c88),(66,nB w47),(65,nI x114),(64,.bool true),(63,nI x266),(10,nI x266),(9,nI x265),(8,nI x114),(7,nI x75),(6,nB w47),(5,nP z17 0),(0,.slice pa0 K0.length ca0),(1,.slice (some ⟨b106,o107,none⟩) K1.length ca1)]) (w':=w270) (by kernel_rfl) ?_
             intro a401 hF400; clear hF396
             refine ev_one (nB w47) w270 hF400 (by kernel_rfl) rfl (by kernel_rfl) (run_idxA (q:=0) rfl rfl rfl rfl (congrArg (Value.int .i64) (eq_of_beq hc383)) (by decide) (by decide) (by kernel_rfl) _) (l':=[(77,nB w47),(76,nI x114),(75,nI x265),(74,.bool true),(73,.bool true),(72,nI x266),(71,.bool false),(70,.bool false),(69,.bool (decide ((L72.length:Int) > 0))),(68,nI ((L72.length:Int))),(67,.slice p87 L72.length c88),(66,nB w47),(65,nI x114),(64,.bool true),(63,nI x266),(10,nI x266),(9,nI x265),(8,nI x114),(7,nI x75),(6,nB w47),(5,nP z17 0),(0,.slice pa0 K0.length ca0),(1,.slice (some ⟨b106,o107,none⟩) K1.length ca1)]) (by kernel_rfl) ?_
             intro a403 hF402; clear hF400
             refine ev_one (.slice p87 L72.length c88) w270 hF402 (by kernel_rfl) rfl (by kernel_rfl) (run_loadV rfl rfl (run_loadS rfl rfl (hS272.cell 5 rfl 0 rfl))) (l':=[(78,.slice p87 L72.length c88),(77,nB w47),(76,nI x114),(75,nI x265),(74,.bool true),(73,.bool true),(72,nI x266),(71,.bool false),(70,.bool false),(69,.bool (decide ((L72.length:Int) > 0))),(68,nI ((L72.length:Int))),(67,.slice p87 L72.length c88),(66,nB w47),(65,nI x114),(64,.bool true),(63,nI x266),(10,nI x266),(9,nI x265),(8,nI x114),(7,nI x75),(6,nB w47),(5,nP z17 0),(0,.slice pa0 K0.length ca0),(1,.slice (some ⟨b106,o107,none⟩) K1.length ca1)]) (by kernel_rfl) ?_
             intro a405 hF404; clear hF402
             obtain ⟨hc406,hm407⟩:=ifTE hm399; clear hm399
             obtain ⟨g408,of409,rfl⟩:=hp89.resolve_left (by have:=inR_spec hc406; omega)
             refine ev_one (nP g408 ((of409+(0:Int).toNat))) w270 hF404 (by kernel_rfl) rfl (by kernel_rfl) (run_idxO rfl rfl rfl rfl rfl (inR_spec hc406).1 (inR_spec hc406).2 _) (l':=[(79,nP g408 ((of409+(0:Int).toNat))),(78,.slice (some ⟨g408,of409,none⟩) L72.length c88),(77,nB w47),(76,nI x114),(75,nI x265),(74,.bool true),(73,.bool true),(72,nI x266),(71,.bool false),(70,.bool false),(69,.bool (decide ((L72.length:Int) > 0))),(68,nI ((L72.length:Int))),(67,.slice (some ⟨g408,of409,none⟩) L72.length c88),(66,nB w47),(65,nI x114),(64,.bool true),(63,nI x266),(10,nI x266),(9,nI x265),(8,nI x114),(7,nI x75),(6,nB w47),(5,nP z17 0),(0,.slice pa0 K0.length ca0),(1,.slice (some ⟨b106,o107,none⟩) K1.length ca1)]) (by kernel_rfl) ?_
             intro a411 hF410; clear hF404
             refine ev_one (nI (atI L72 (0:Int))) w270 hF410 (by kernel_rfl) rfl (by kernel_rfl) (run_load1 rfl rfl rfl (St.atO hS272 4 rfl hc406)) (l':=[(80,nI (atI L72 (0:Int))),(79,nP g408 ((of409+(0:Int).toNat))),(78,.slice (some ⟨g408,of409,none⟩) L72.length c88),(77,nB w47),(76,nI x114),(75,nI x265),(74,.bool true),(73,.bool true),(72,nI x266),(71,.bool false),(70,.bool false),(69,.bool (decide ((L72.length:Int) > 0))),(68,nI ((L72.length:Int))),(67,.slice (some ⟨g408,of409,none⟩) L72.length c88),(66,nB w47),(65,nI x114),(64,.bool true),(63,nI x266),(10,nI x266),(9,nI x265),(8,nI x114),(7,nI x75),(6,nB w47),(5,nP z17 0),(0,.slice pa0 K0.length ca0),(1,.slice (some ⟨b106,o107,none⟩) K1.length ca1)]) (by kernel_rfl) ?_
             intro a413 hF412; clear hF410
             refine ev_runK 3 hF412 [0,1,5,6,7,8,10,83] (l':=[(83,.bool (x265 != (atI L72 (0:Int)))),(10,nI x266),(8,nI x114),(7,nI x75),(6,nB w47),(5,nP z17 0),(0,.slice pa0 K0.length ca0),(1,.slice (some ⟨b106,o107,none⟩) K1.length ca1)]) (w':=w270) (by kernel_rfl) ?_
             intro a415 hF414; clear hF412
             refine wpList_nil ?_
             exact thenN ⟨x265 != (atI L72 (0:Int)),hF414,hS272,hm407⟩
            rw [hc398] at hF396
            have hm416:=ifNot hc398 hm395; clear hm395
            refine ev_runK 9 hF396 [0,1,5,6,7,8,10,83] (l':=[(83,.bool false),(10,nI x266),(8,nI x114),(7,nI x75),(6,nB w47),(5,nP z17 0),(0,.slice pa0 K0.length ca0),(1,.slice (some ⟨b106,o107,none⟩) K1.length ca1)]) (w':=w270) (by kernel_rfl) ?_
            intro a418 hF417; clear hF396
            refine wpList_nil ?_
            exact thenN ⟨false,hF417,hS272,hm416⟩
           have hm419:=ifNot hc383 hm269; clear hm269
           cases hc420:(x114 == 1)
           case true =>
            have hm421:=ifYes hc420 hm419; clear hm419
            refine ev_one (nP (w47.heap.size) 1) w270 hF381 (by kernel_rfl) rfl (by kernel_rfl) (run_idxA (q:=1) rfl rfl rfl rfl (congrArg (Value.int .i64) (eq_of_beq hc420)) (by decide) (by decide) (by kernel_rfl) _) (l':=[(66,nP (w47.heap.size) 1),(65,nI x114),(64,.bool (x266 == 0)),(63,nI x266),(10,nI x266),(9,nI x265),(8,nI x114),(7,nI x75),(6,nB w47),(5,nP z17 0),(0,.slice pa0 K0.length ca0),(1,.slice (some ⟨b106,o107,none⟩) K1.length ca1)]) (by kernel_rfl) ?_
            intro a423 hF422; clear hF381
            refine ev_one (.slice p83 L70.length c84) w270 hF422 (by kernel_rfl) rfl (by kernel_rfl) (run_loadV rfl rfl (run_loadS rfl rfl (hS272.cell 5 rfl 1 rfl))) (l':=[(67,.slice p83 L70.length c84),(66,nP (w47.heap.size) 1),(65,nI x114),(64,.bool (x266 == 0)),(63,nI x266),(10,nI x266),(9,nI x265),(8,nI x114),(7,nI x75),(6,nB w47),(5,nP z17 0),(0,.slice pa0 K0.length ca0),(1,.slice (some ⟨b106,o107,none⟩) K1.length ca1)]) (by kernel_rfl) ?_
            intro a425 hF424; clear hF422
            refine ev_runs 4 hF424 (l':=[(71,.bool (!((x266 == 0) == (decide ((L70.length:Int) > 0))))),(70,.bool (!((x266 == 0) == (decide ((L70.length:Int) > 0))))),(69,.bool (decide ((L70.length:Int) > 0))),(68,nI ((L70.length:Int))),(67,.slice p83 L70.length c84),(66,nP (w47.heap.size) 1),(65,nI x114),(64,.bool (x266 == 0)),(63,nI x266),(10,nI x266),(9,nI x265),(8,nI x114),(7,nI x75),(6,nB w47),(5,nP z17 0),(0,.slice pa0 K0.length ca0),(1,.slice (some ⟨b106,o107,none⟩) K1.length ca1)]) (w':=w270) (by kernel_rfl) ?_
            intro a427 hF426; clear hF424
            cases hc428:(!((x266 == 0) == (decide ((L70.length:Int) > 0))))
            case true =>
             rw [hc428] at hF426
             have hm429:=ifYes hc428 hm421; clear hm421
             refine ev_runK 12 hF426 [0,1,5,6,7,8,10,83] (l':=[(83,.bool true),(10,nI x266),(8,nI x114),(7,nI x75),(6,nB w47),(5,nP z17 0),(0,.slice pa0 K0.length ca0),(1,.slice (some ⟨b106,o107,none⟩) K1.length ca1)]) (w':=w270) (by kernel_rfl) ?_
             intro a431 hF430; clear hF426
             refine wpList_nil ?_
             exact thenN ⟨true,hF430,hS272,hm429⟩
            rw [hc428] at hF426
            have hm432:=ifNot hc428 hm421; clear hm421
            refine ev_runs 3 hF426 (l':=[(74,.bool (x266 == 0)),(73,.bool (x266 == 0)),(72,nI x266),(71,.bool false),(70,.bool false),(69,.bool (decide ((L70.length:Int) > 0))),(68,nI ((L70.length:Int))),(67,.slice p83 L70.length c84),(66,nP (w47.heap.size) 1),(65,nI x114),(64,.bool (x266 == 0)),(63,nI x266),(10,nI x266),(9,nI x265),(8,nI x114),(7,nI x75),(6,nB w47),(5,nP z17 0),(0,.slice pa0 K0.length ca0),(1,.slice (some ⟨b106,o107,none⟩) K1.length ca1)]) (w':=w270) (by kernel_rfl) ?_
            intro a434 hF433; clear hF426
            cases hc435:(x266 == 0)
            case true =>
             rw [hc435] at hF433
             have hm436:=ifYes hc435 hm432; clear hm432
             refine ev_runs 2 hF433 (l':=[(76,nI x114),(75,nI x265),(74,.bool true),(73,.bool true),(72,nI x266),(71,.bool false),(70,.bool false),(69,.bool (decide ((L70.length:Int) > 0))),(68,nI ((L70.length:Int))),(67,.slice p83 L70.length c84),(66,nP (w47.heap.size) 1),(65,nI x114),(64,.bool true),(63,nI x266),(10,nI x266),(9,nI x265),(8,nI x114),(7,nI x75),(6,nB w47),(5,nP z17 0),(0,.slice pa0 K0.length ca0),(1,.slice (some ⟨b106,o107,none⟩) K1.length ca1)]) (w':=w270) (by kernel_rfl) ?_
             intro a438 hF437; clear hF433
             refine ev_one (nP (w47.heap.size) 1) w270 hF437 (by kernel_rfl) rfl (by kernel_rfl) (run_idxA (q:=1) rfl rfl rfl rfl (congrArg (Value.int .i64) (eq_of_beq hc420)) (by decide) (by decide) (by kernel_rfl) _) (l':=[(77,nP (w47.heap.size) 1),(76,nI x114),(75,nI x265),(74,.bool true),(73,.bool true),(72,nI x266),(71,.bool false),(70,.bool false),(69,.bool (decide ((L70.length:Int) > 0))),(68,nI ((L70.length:Int))),(67,.slice p83 L70.length c84),(66,nP (w47.heap.size) 1),(65,nI x114),(64,.bool true),(63,nI x266),(10,nI x266),(9,nI x265),(8,nI x114),(7,nI x75),(6,nB w47),(5,nP z17 0),(0,.slice pa0 K0.length ca0),(1,.slice (some ⟨b106,o107,none⟩) K1.length ca1)]) (by kernel_rfl) ?_
             intro a440 hF439; clear hF437
             refine ev_one (.slice p83 L70.length c84) w270 hF439 (by kernel_rfl) rfl (by kernel_rfl) (run_loadV rfl rfl (run_loadS rfl rfl (hS272.cell 5 rfl 1 rfl))) (l':=[(78,.slice p83 L70.length c84),(77,nP (w47.heap.size) 1),(76,nI x114),(75,nI x265),(74,.bool true),(73,.bool true),(72,nI x266),(71,.bool false),(70,.bool false),(69,.bool (decide ((L70.length:Int) > 0))),(68,nI ((L70.length:Int))),(67,.slice p83 L70.length c84),(66,nP (w47.heap.size) 1),(65,nI x114),(64,.bool true),(63,nI x266),(10,nI x266),(9,nI x265),(8,nI x114),(7,nI x75),(6,nB w47),(5,nP z17 0),(0,.slice pa0 K0.length ca0),(1,.slice (some ⟨b106,o107,none⟩) K1.length ca1)]) (by kernel_rfl) ?_
             intro a442 hF441; clear hF439
             obtain ⟨hc443,hm444⟩:=ifTE hm436; clear hm436
             obtain ⟨g445,of446,rfl⟩:=hp85.resolve_left (by have:=inR_spec hc443; omega)
             refine ev_one (nP g445 ((of446+(0:Int).toNat))) w270 hF441 (by kernel_rfl) rfl (by kernel_rfl) (run_idxO rfl rfl rfl rfl rfl (inR_spec hc443).1 (inR_spec hc443).2 _) (l':=[(79,nP g445 ((of446+(0:Int).toNat))),(78,.slice (some ⟨g445,of446,none⟩) L70.length c84),(77,nP (w47.heap.size) 1),(76,nI x114),(75,nI x265),(74,.bool true),(73,.bool true),(72,nI x266),(71,.bool false),(70,.bool false),(69,.bool (decide ((L70.length:Int) > 0))),(68,nI ((L70.length:Int))),(67,.slice (some ⟨g445,of446,none⟩) L70.length c84),(66,nP (w47.heap.size) 1),(65,nI x114),(64,.bool true),(63,nI x266),(10,nI x266),(9,nI x265),(8,nI x114),(7,nI x75),(6,nB w47),(5,nP z17 0),(0,.slice pa0 K0.length ca0),(1,.slice (some ⟨b106,o107,none⟩) K1.length ca1)]) (by kernel_rfl) ?_
             intro a448 hF447; clear hF441
             refine ev_one (nI (atI L70 (0:Int))) w270 hF447 (by kernel_rfl) rfl (by kernel_rfl) (run_load1 rfl rfl rfl (St.atO hS272 3 rfl hc443)) (l':=[(80,nI (atI L70 (0:Int))),(79,nP g445 ((of446+(0:Int).toNat))),(78,.slice (some ⟨g445,of446,none⟩) L70.length c84),(77,nP (w47.heap.size) 1),(76,nI x114),(75,nI x265),(74,.bool true),(73,.bool true),(72,nI x266),(71,.bool false),(70,.bool false),(69,.bool (decide ((L70.length:Int) > 0))),(68,nI ((L70.length:Int))),(67,.slice (some ⟨g445,of446,none⟩) L70.length c84),(66,nP (w47.heap.size) 1),(65,nI x114),(64,.bool true),(63,nI x266),(10,nI x266),(9,nI x265),(8,nI x114),(7,nI x75),(6,nB w47),(5,nP z17 0),(0,.slice pa0 K0.length ca0),(1,.slice (some ⟨b106,o107,none⟩) K1.length ca1)]) (by kernel_rfl) ?_
             intro a450 hF449; clear hF447
             refine ev_runK 3 hF449 [0,1,5,6,7,8,10,83] (l':=[(83,.bool (x265 != (atI L70 (0:Int)))),(10,nI x266),(8,nI x114),(7,nI x75),(6,nB w47),(5,nP z17 0),(0,.slice pa0 K0.length ca0),(1,.slice (some ⟨b106,o107,none⟩) K1.length ca1)]) (w':=w270) (by kernel_rfl) ?_
             intro a452 hF451; clear hF449
             refine wpList_nil ?_
             exact thenN ⟨x265 != (atI L70 (0:Int)),hF451,hS272,hm444⟩
            rw [hc435] at hF433
            have hm453:=ifNot hc435 hm432; clear hm432
            refine ev_runK 9 hF433 [0,1,5,6,7,8,10,83] (l':=[(83,.bool false),(10,nI x266),(8,nI x114),(7,nI x75),(6,nB w47),(5,nP z17 0),(0,.slice pa0 K0.length ca0),(1,.slice (some ⟨b106,o107,none⟩) K1.length ca1)]) (w':=w270) (by kernel_rfl) ?_
            intro a455 hF454; clear hF433
            refine wpList_nil ?_
            exact thenN ⟨false,hF454,hS272,hm453⟩
           have hm456:=ifNot hc420 hm419; clear hm419
           exact absurd hm456 (by simp)
        rw [hc255] at hF125
        have hm457:=ifNot hc255 hm116; clear hm116
        refine ev_condF hF125 rfl rfl ?_
        refine wp_seq ?_
        obtain ⟨hc458,hm459⟩:=ifTE hm457; clear hm457
        obtain ⟨g460,rfl⟩:=hp35.resolve_left (by have:=inR_spec hc458; omega)
        obtain ⟨hc461,hm462⟩:=ifTE hm459; clear hm459
        obtain ⟨b463,o464,rfl⟩:=argK hA0 hc461
        have hS465:=hS96.pick6.pick4
        clear hS96
        have hS466:=hS465.drew; clear hS465
        refine any_start (fun wS=>∃ qs,St w0 [] (BlkP z17 32 #[nP z18 0,nP z20 0,nS g460 L9 c34,.slice p37 L10.length c38]::RowP (nS g460 L9 c34) L9::qs) wS) 17 #[false,false,false,false,false,false,false,false,false,false,false,false,false,false,false,false,false] (by kernel_rfl) (by kernel_rfl) (by kernel_rfl) ?_
        refine any_many 15 [(0,some (nP z17 0)),(1,some (nP z17 0)),(2,some (nP z17 0)),(3,some (nP z18 0)),(4,some (nP z17 0)),(5,some (nP z17 0)),(6,some (nP z17 2)),(7,some (nS g460 L9 c34)),(8,some (nI x114)),(9,some (nP g460 (x114.toNat))),(10,some (nI (atI L9 x114))),(11,some (.slice (some ⟨b463,o464,none⟩) K0.length ca0)),(12,some (nI x75)),(13,some (nP b463 ((o464+x75.toNat)))),(14,some (nI (atI K0 x75)))] [0,1,5,6,7,8,95,102,106,107,108] #[true,true,true,true,true,true,true,true,true,true,true,true,true,true,true,false,false] (by rfl) hF125 (by kernel_rfl) (by kernel_rfl) (by exact ⟨fun wS hw=>by kernel_rfl,fun wS hw=>by kernel_rfl,fun wS hw=>by kernel_rfl,fun wS hw=>hw.elim fun qs hw=>run_loadV rfl rfl (run_loadS rfl rfl (hw.cell 0 rfl 0 rfl)),fun wS hw=>by kernel_rfl,fun wS hw=>by kernel_rfl,fun wS hw=>by kernel_rfl,fun wS hw=>hw.elim fun qs hw=>run_loadV rfl rfl (run_loadS rfl rfl (hw.cell 0 rfl 2 rfl)),fun wS hw=>by kernel_rfl,fun wS hw=>run_idx rfl rfl rfl rfl rfl (inR_spec hc458).1 (inR_spec hc458).2 _,fun wS hw=>run_load1 rfl rfl rfl (hw.elim fun qs hw=>hw.atI 1 rfl hc458),fun wS hw=>by kernel_rfl,fun wS hw=>by kernel_rfl,fun wS hw=>run_idxO rfl rfl rfl rfl rfl (inR_spec hc461).1 (inR_spec hc461).2 _,fun wS hw=>run_load1 rfl rfl rfl (hw.elim fun qs hw=>argAt hA0 hw hc461),trivial⟩) (fun _ _ _ _ _ h=>h) ⟨_,hS466⟩ (l':=[(106,nI (atI K0 x75)),(102,nI (atI L9 x114)),(95,nP z18 0),(8,nI x114),(7,nI x75),(6,nB w47),(5,nP z17 0),(0,.slice (some ⟨b463,o464,none⟩) K0.length ca0),(1,.slice (some ⟨b106,o107,none⟩) K1.length ca1)]) (by kernel_rfl) ?_
        intro a468 hF467; clear hF125
        have hS469:=hS466.pick5
        clear hS466
        refine any_call 15 #[true,true,true,true,true,true,true,true,true,true,true,true,true,true,true,true,false] 16 #[nP z18 0,nI (atI L9 x114),nI (atI K0 x75)] hF467 rfl (by kernel_rfl) rfl rfl (by kernel_rfl) rfl (by kernel_rfl) (fun w=>by kernel_rfl) (by kernel_rfl) ?_
        obtain ⟨x470,s471,hx472,hm473⟩:=bind2E hm462; clear hm462
        refine (ring_Put.ok hS469 hx472).mono ?_
        rintro _ w474 ⟨rfl,hS476⟩; clear hS469
        refine ⟨⟨_,hS476.pick2.pick2⟩,?_⟩
        intro a475 hF477; clear hF467
        refine any_many 1 [(16,some (.bool (x470 == 0)))] [0,1,5,6,7,8,108] #[true,true,true,true,true,true,true,true,true,true,true,true,true,true,true,true,true] (by rfl) hF477 (by kernel_rfl) (by kernel_rfl) (by exact ⟨fun wS hw=>by kernel_rfl,trivial⟩) (fun _ _ _ _ _ h=>h) ⟨_,hS476.pick2.pick2⟩ (l':=[(108,.bool (x470 == 0)),(8,nI x114),(7,nI x75),(6,nB w47),(5,nP z17 0),(0,.slice (some ⟨b463,o464,none⟩) K0.length ca0),(1,.slice (some ⟨b106,o107,none⟩) K1.length ca1)]) (by kernel_rfl) ?_
        intro a479 hF478; clear hF477
        refine any_done (by kernel_rfl) ?_
        refine thenN ?_
        refine joinQ (fun aI wI=>∃ (v481:Value) (L480:List Int) (v483:Value) (L482:List Int),Fr 164 aI [(7,nI x75),(6,nB w47),(5,nP z17 0),(0,.slice (some ⟨b463,o464,none⟩) K0.length ca0),(1,.slice (some ⟨b106,o107,none⟩) K1.length ca1)]∧St w0 [] (HeapP z18 z19 s471::BlkP z17 32 #[nP z18 0,nP z20 0,nS g460 L9 c34,.slice p37 L10.length c38]::RowP (nS g460 L9 c34) L9::OffP (v481) L480::OffP (v483) L482::BlkP (w47.heap.size) 47 #[v483,v481]::RHeapP z20 z21 z22 z23 z24 s8::RowP (.slice p37 L10.length c38) L10::ps) wI∧RingApart.j22 k L9 x75 (RingApart.l16 K0 K1 k L9 k76) s471 L480 L482=some r0) ?_ ?_
        rotate_left
        · rintro a485 w486 ⟨v481,L480,v483,L482,hF487,hS488,hm489⟩
          clear hF478 hS476 hm473
          unfold RingApart.j22 at hm489
          obtain ⟨hl494,p491,c492,rfl,hp493⟩:=St.shapeO hS488 3 rfl
          obtain ⟨hl498,p495,c496,rfl,hp497⟩:=St.shapeO hS488 4 rfl
          exact thenN ⟨s471,.slice p491 L480.length c492,L480,.slice p495 L482.length c496,L482,hF487,hS488,hm489⟩
        · skip
          cases hc499:(x470 == 0)
          case true =>
           rw [hc499] at hF478
           have hm500:=ifYes hc499 hm473; clear hm473
           refine ev_condT hF478 rfl rfl ?_
           refine joinQ (fun aI wI=>∃ (v502:Value) (L501:List Int) (v504:Value) (L503:List Int),Fr 164 aI [(7,nI x75),(6,nB w47),(5,nP z17 0),(0,.slice (some ⟨b463,o464,none⟩) K0.length ca0),(1,.slice (some ⟨b106,o107,none⟩) K1.length ca1)]∧St w0 [] (BlkP (w47.heap.size) 47 #[v502,v504]::OffP (v502) L501::HeapP z18 z19 s471::BlkP z17 32 #[nP z18 0,nP z20 0,nS g460 L9 c34,.slice p37 L10.length c38]::RowP (nS g460 L9 c34) L9::OffP (v504) L503::RHeapP z20 z21 z22 z23 z24 s8::RowP (.slice p37 L10.length c38) L10::ps) wI∧RingApart.j23 k L9 x75 (RingApart.l16 K0 K1 k L9 k76) s471 L501 L503=some r0) ?_ ?_
           rotate_left
           · rintro a506 w507 ⟨v502,L501,v504,L503,hF508,hS509,hm510⟩
             clear hF478 hS476 hm500
             unfold RingApart.j23 at hm510
             obtain ⟨hl515,p512,c513,rfl,hp514⟩:=St.shapeO hS509 1 rfl
             obtain ⟨hl519,p516,c517,rfl,hp518⟩:=St.shapeO hS509 5 rfl
             have hS520:=hS509.pick7.pick7.pick2.pick3.pick7.pick7.pick7.pick7
             clear hS509
             exact thenN ⟨.slice p516 L503.length c517,L503,.slice p512 L501.length c513,L501,hF508,hS520,hm510⟩
           · skip
             have hS521:=hS476.drew; clear hS476
             refine any_start (fun wS=>∃ qs,St w0 [] qs wS) 12 #[false,false,false,false,false,false,false,false,false,false,false,false] (by kernel_rfl) (by kernel_rfl) (by kernel_rfl) ?_
             refine any_many 2 [(0,some (nI x114)),(1,some (nI x114))] [0,1,5,6,7,109,110,111,112,113,114,115,116,117,118,119] #[true,true,false,false,false,false,false,false,false,false,false,false] (by rfl) hF478 (by kernel_rfl) (by kernel_rfl) (by exact ⟨fun wS hw=>by kernel_rfl,fun wS hw=>by kernel_rfl,trivial⟩) (fun _ _ _ _ _ h=>h) ⟨_,hS521⟩ (l':=[(110,nI x114),(109,nI x114),(7,nI x75),(6,nB w47),(5,nP z17 0),(0,.slice (some ⟨b463,o464,none⟩) K0.length ca0),(1,.slice (some ⟨b106,o107,none⟩) K1.length ca1)]) (by kernel_rfl) ?_
             intro a523 hF522; clear hF478
             cases hc524:(x114 == 0)
             case true =>
              have hm525:=ifYes hc524 hm500; clear hm500
              refine any_many 5 [(2,some (nB w47)),(4,some (.slice (some ⟨b463,o464,none⟩) K0.length ca0)),(5,some (nI x75)),(6,some (nP b463 ((o464+x75.toNat)))),(7,some (nI (atI K0 x75)))] [0,1,5,6,7,109,111,112,116,117,118,119] #[true,true,true,false,true,true,true,true,false,false,false,false] (by rfl) hF522 (by kernel_rfl) (by kernel_rfl) (by exact ⟨fun wS hw=>run_idxA (q:=0) rfl rfl rfl rfl (congrArg (Value.int .i64) (eq_of_beq hc524)) (by decide) (by decide) (by kernel_rfl) _,fun wS hw=>by kernel_rfl,fun wS hw=>by kernel_rfl,fun wS hw=>run_idxO rfl rfl rfl rfl rfl (inR_spec hc461).1 (inR_spec hc461).2 _,fun wS hw=>run_load1 rfl rfl rfl (hw.elim fun qs hw=>argAt hA0 hw hc461),trivial⟩) (fun _ _ _ _ _ h=>h) ⟨_,hS521⟩ (l':=[(116,nI (atI K0 x75)),(111,nB w47),(109,nI x114),(7,nI x75),(6,nB w47),(5,nP z17 0),(0,.slice (some ⟨b463,o464,none⟩) K0.length ca0),(1,.slice (some ⟨b106,o107,none⟩) K1.length ca1)]) (by kernel_rfl) ?_
              intro a527 hF526; clear hF522
              refine any_two 3 8 (by kernel_rfl) ?_ ?_
              · skip
                refine op_step 3 #[true,true,true,true,true,true,true,true,false,false,false,false] (.slice p87 L72.length c88) (w474.drew) hF526 rfl (by kernel_rfl) rfl (by kernel_rfl) (run_loadV rfl rfl (run_loadS rfl rfl (hS521.cell 5 rfl 0 rfl))) (l':=[(112,.slice p87 L72.length c88),(116,nI (atI K0 x75)),(111,nB w47),(109,nI x114),(7,nI x75),(6,nB w47),(5,nP z17 0),(0,.slice (some ⟨b463,o464,none⟩) K0.length ca0),(1,.slice (some ⟨b106,o107,none⟩) K1.length ca1)]) (by kernel_rfl) ⟨_,hS521⟩ (by kernel_rfl) ?_
                intro a529 hF528; clear hF526
                refine any_one 8 (by kernel_rfl) ?_
                have hS530:St w0 [] (RowP (.slice (some ⟨(w474.drew).heap.size,0,none⟩) 1 1) [atI K0 x75]::HeapP z18 z19 s471::BlkP z17 32 #[nP z18 0,nP z20 0,nS g460 L9 c34,.slice p37 L10.length c38]::RowP (nS g460 L9 c34) L9::OffP (.slice p83 L70.length c84) L70::OffP (.slice p87 L72.length c88) L72::BlkP (w47.heap.size) 47 #[.slice p87 L72.length c88,.slice p83 L70.length c84]::RHeapP z20 z21 z22 z23 z24 s8::RowP (.slice p37 L10.length c38) L10::ps) ((w474.drew).alloc (.cells #[nI (atI K0 x75)] 3)):=St.lit hS521 [atI K0 x75] (by unfold maxLen; simp)
                clear hS521
                refine op_step 8 #[true,true,true,true,true,true,true,true,true,false,false,false] (.slice (some ⟨(w474.drew).heap.size,0,none⟩) 1 1) ((w474.drew).alloc (.cells #[nI (atI K0 x75)] 3)) hF528 rfl (by kernel_rfl) rfl (by kernel_rfl) (by kernel_rfl) (l':=[(117,.slice (some ⟨(w474.drew).heap.size,0,none⟩) 1 1),(112,.slice p87 L72.length c88),(116,nI (atI K0 x75)),(111,nB w47),(109,nI x114),(7,nI x75),(6,nB w47),(5,nP z17 0),(0,.slice (some ⟨b463,o464,none⟩) K0.length ca0),(1,.slice (some ⟨b106,o107,none⟩) K1.length ca1)]) (by kernel_rfl) ⟨_,hS530⟩ (by kernel_rfl) ?_
                intro a532 hF531; clear hF528
                refine any_one 9 (by kernel_rfl) ?_
                have hS533:=hS530.pick5
                clear hS530
                obtain ⟨L534,hx535,hm536⟩:=bind1E hm525; clear hm525
                refine op_pushO 22 rfl 9 #[true,true,true,true,true,true,true,true,true,true,false,false] 118 (.tmp 112) (.tmp 117) hF531 rfl rfl rfl rfl rfl rfl rfl rfl rfl hS533 hx535 (by kernel_rfl) ?_
                intro p537 c538 w539 a540 hS541 hp543 hF542; clear hF531 hS533
                refine ⟨⟨_,hS541⟩,?_⟩
                refine any_many 1 [(10,some (nB w47))] [0,1,5,6,7,118,119] #[true,true,true,true,true,true,true,true,true,true,true,false] (by rfl) hF542 (by kernel_rfl) (by kernel_rfl) (by exact ⟨fun wS hw=>run_idxA (q:=0) rfl rfl rfl rfl (congrArg (Value.int .i64) (eq_of_beq hc524)) (by decide) (by decide) (by kernel_rfl) _,trivial⟩) (fun _ _ _ _ _ h=>h) ⟨_,hS541⟩ (l':=[(119,nB w47),(118,.slice p537 L534.length c538),(7,nI x75),(6,nB w47),(5,nP z17 0),(0,.slice (some ⟨b463,o464,none⟩) K0.length ca0),(1,.slice (some ⟨b106,o107,none⟩) K1.length ca1)]) (by kernel_rfl) ?_
                intro a545 hF544; clear hF542
                refine any_one 11 (by kernel_rfl) ?_
                have hS546:=hS541.pick6
                clear hS541
                refine op_store 11 #[true,true,true,true,true,true,true,true,true,true,true,true] (.slice p537 L534.length c538) #[.slice p537 L534.length c538,.slice p83 L70.length c84] hF544 rfl (by kernel_rfl) rfl rfl rfl rfl (by kernel_rfl) hS546 (by kernel_rfl) (by kernel_rfl) (by kernel_rfl) (l':=[(119,nB w47),(118,.slice p537 L534.length c538),(7,nI x75),(6,nB w47),(5,nP z17 0),(0,.slice (some ⟨b463,o464,none⟩) K0.length ca0),(1,.slice (some ⟨b106,o107,none⟩) K1.length ca1)]) (by kernel_rfl) (by kernel_rfl) ?_
                intro w547 a548 hS549 hF550; clear hF544 hS546
                refine ⟨⟨_,hS549⟩,?_⟩
                refine any_done (by kernel_rfl) ?_
                have hF551:=hF550.keep [0,1,5,6,7]
                clear hF550
                have hS552:=hS549.pick2.drop
                clear hS549
                exact thenN ⟨.slice p537 L534.length c538,L534,.slice p83 L70.length c84,L70,hF551,hS552,hm536⟩
              · skip
                have hS553:St w0 [] (RowP (.slice (some ⟨(w474.drew).heap.size,0,none⟩) 1 1) [atI K0 x75]::HeapP z18 z19 s471::BlkP z17 32 #[nP z18 0,nP z20 0,nS g460 L9 c34,.slice p37 L10.length c38]::RowP (nS g460 L9 c34) L9::OffP (.slice p83 L70.length c84) L70::OffP (.slice p87 L72.length c88) L72::BlkP (w47.heap.size) 47 #[.slice p87 L72.length c88,.slice p83 L70.length c84]::RHeapP z20 z21 z22 z23 z24 s8::RowP (.slice p37 L10.length c38) L10::ps) ((w474.drew).alloc (.cells #[nI (atI K0 x75)] 3)):=St.lit hS521 [atI K0 x75] (by unfold maxLen; simp)
                clear hS521
                refine op_step 8 #[true,true,true,false,true,true,true,true,true,false,false,false] (.slice (some ⟨(w474.drew).heap.size,0,none⟩) 1 1) ((w474.drew).alloc (.cells #[nI (atI K0 x75)] 3)) hF526 rfl (by kernel_rfl) rfl (by kernel_rfl) (by kernel_rfl) (l':=[(117,.slice (some ⟨(w474.drew).heap.size,0,none⟩) 1 1),(116,nI (atI K0 x75)),(111,nB w47),(109,nI x114),(7,nI x75),(6,nB w47),(5,nP z17 0),(0,.slice (some ⟨b463,o464,none⟩) K0.length ca0),(1,.slice (some ⟨b106,o107,none⟩) K1.length ca1)]) (by kernel_rfl) ⟨_,hS553⟩ (by kernel_rfl) ?_
                intro a555 hF554; clear hF526
                refine any_one 3 (by kernel_rfl) ?_
                refine op_step 3 #[true,true,true,true,true,true,true,true,true,false,false,false] (.slice p87 L72.length c88) ((w474.drew).alloc (.cells #[nI (atI K0 x75)] 3)) hF554 rfl (by kernel_rfl) rfl (by kernel_rfl) (run_loadV rfl rfl (run_loadS rfl rfl (hS553.cell 6 rfl 0 rfl))) (l':=[(112,.slice p87 L72.length c88),(117,.slice (some ⟨(w474.drew).heap.size,0,none⟩) 1 1),(116,nI (atI K0 x75)),(111,nB w47),(109,nI x114),(7,nI x75),(6,nB w47),(5,nP z17 0),(0,.slice (some ⟨b463,o464,none⟩) K0.length ca0),(1,.slice (some ⟨b106,o107,none⟩) K1.length ca1)]) (by kernel_rfl) ⟨_,hS553⟩ (by kernel_rfl) ?_
                intro a557 hF556; clear hF554
                refine any_one 9 (by kernel_rfl) ?_
                have hS558:=hS553.pick5
                clear hS553
                obtain ⟨L559,hx560,hm561⟩:=bind1E hm525; clear hm525
                refine op_pushO 22 rfl 9 #[true,true,true,true,true,true,true,true,true,true,false,false] 118 (.tmp 112) (.tmp 117) hF556 rfl rfl rfl rfl rfl rfl rfl rfl rfl hS558 hx560 (by kernel_rfl) ?_
                intro p562 c563 w564 a565 hS566 hp568 hF567; clear hF556 hS558
                refine ⟨⟨_,hS566⟩,?_⟩
                refine any_many 1 [(10,some (nB w47))] [0,1,5,6,7,118,119] #[true,true,true,true,true,true,true,true,true,true,true,false] (by rfl) hF567 (by kernel_rfl) (by kernel_rfl) (by exact ⟨fun wS hw=>run_idxA (q:=0) rfl rfl rfl rfl (congrArg (Value.int .i64) (eq_of_beq hc524)) (by decide) (by decide) (by kernel_rfl) _,trivial⟩) (fun _ _ _ _ _ h=>h) ⟨_,hS566⟩ (l':=[(119,nB w47),(118,.slice p562 L559.length c563),(7,nI x75),(6,nB w47),(5,nP z17 0),(0,.slice (some ⟨b463,o464,none⟩) K0.length ca0),(1,.slice (some ⟨b106,o107,none⟩) K1.length ca1)]) (by kernel_rfl) ?_
                intro a570 hF569; clear hF567
                refine any_one 11 (by kernel_rfl) ?_
                have hS571:=hS566.pick6
                clear hS566
                refine op_store 11 #[true,true,true,true,true,true,true,true,true,true,true,true] (.slice p562 L559.length c563) #[.slice p562 L559.length c563,.slice p83 L70.length c84] hF569 rfl (by kernel_rfl) rfl rfl rfl rfl (by kernel_rfl) hS571 (by kernel_rfl) (by kernel_rfl) (by kernel_rfl) (l':=[(119,nB w47),(118,.slice p562 L559.length c563),(7,nI x75),(6,nB w47),(5,nP z17 0),(0,.slice (some ⟨b463,o464,none⟩) K0.length ca0),(1,.slice (some ⟨b106,o107,none⟩) K1.length ca1)]) (by kernel_rfl) (by kernel_rfl) ?_
                intro w572 a573 hS574 hF575; clear hF569 hS571
                refine ⟨⟨_,hS574⟩,?_⟩
                refine any_done (by kernel_rfl) ?_
                have hF576:=hF575.keep [0,1,5,6,7]
                clear hF575
                have hS577:=hS574.pick2.drop
                clear hS574
                exact thenN ⟨.slice p562 L559.length c563,L559,.slice p83 L70.length c84,L70,hF576,hS577,hm561⟩
             have hm578:=ifNot hc524 hm500; clear hm500
             obtain ⟨hc579,hm580⟩:=ifTE hm578; clear hm578
             refine any_many 5 [(2,some (nP (w47.heap.size) 1)),(4,some (.slice (some ⟨b463,o464,none⟩) K0.length ca0)),(5,some (nI x75)),(6,some (nP b463 ((o464+x75.toNat)))),(7,some (nI (atI K0 x75)))] [0,1,5,6,7,109,111,112,116,117,118,119] #[true,true,true,false,true,true,true,true,false,false,false,false] (by rfl) hF522 (by kernel_rfl) (by kernel_rfl) (by exact ⟨fun wS hw=>run_idxA (q:=1) rfl rfl rfl rfl (congrArg (Value.int .i64) (eq_of_beq hc579)) (by decide) (by decide) (by kernel_rfl) _,fun wS hw=>by kernel_rfl,fun wS hw=>by kernel_rfl,fun wS hw=>run_idxO rfl rfl rfl rfl rfl (inR_spec hc461).1 (inR_spec hc461).2 _,fun wS hw=>run_load1 rfl rfl rfl (hw.elim fun qs hw=>argAt hA0 hw hc461),trivial⟩) (fun _ _ _ _ _ h=>h) ⟨_,hS521⟩ (l':=[(116,nI (atI K0 x75)),(111,nP (w47.heap.size) 1),(109,nI x114),(7,nI x75),(6,nB w47),(5,nP z17 0),(0,.slice (some ⟨b463,o464,none⟩) K0.length ca0),(1,.slice (some ⟨b106,o107,none⟩) K1.length ca1)]) (by kernel_rfl) ?_
             intro a582 hF581; clear hF522
             refine any_two 3 8 (by kernel_rfl) ?_ ?_
             · skip
               refine op_step 3 #[true,true,true,true,true,true,true,true,false,false,false,false] (.slice p83 L70.length c84) (w474.drew) hF581 rfl (by kernel_rfl) rfl (by kernel_rfl) (run_loadV rfl rfl (run_loadS rfl rfl (hS521.cell 5 rfl 1 rfl))) (l':=[(112,.slice p83 L70.length c84),(116,nI (atI K0 x75)),(111,nP (w47.heap.size) 1),(109,nI x114),(7,nI x75),(6,nB w47),(5,nP z17 0),(0,.slice (some ⟨b463,o464,none⟩) K0.length ca0),(1,.slice (some ⟨b106,o107,none⟩) K1.length ca1)]) (by kernel_rfl) ⟨_,hS521⟩ (by kernel_rfl) ?_
               intro a584 hF583; clear hF581
               refine any_one 8 (by kernel_rfl) ?_
               have hS585:St w0 [] (RowP (.slice (some ⟨(w474.drew).heap.size,0,none⟩) 1 1) [atI K0 x75]::HeapP z18 z19 s471::BlkP z17 32 #[nP z18 0,nP z20 0,nS g460 L9 c34,.slice p37 L10.length c38]::RowP (nS g460 L9 c34) L9::OffP (.slice p83 L70.length c84) L70::OffP (.slice p87 L72.length c88) L72::BlkP (w47.heap.size) 47 #[.slice p87 L72.length c88,.slice p83 L70.length c84]::RHeapP z20 z21 z22 z23 z24 s8::RowP (.slice p37 L10.length c38) L10::ps) ((w474.drew).alloc (.cells #[nI (atI K0 x75)] 3)):=St.lit hS521 [atI K0 x75] (by unfold maxLen; simp)
               clear hS521
               refine op_step 8 #[true,true,true,true,true,true,true,true,true,false,false,false] (.slice (some ⟨(w474.drew).heap.size,0,none⟩) 1 1) ((w474.drew).alloc (.cells #[nI (atI K0 x75)] 3)) hF583 rfl (by kernel_rfl) rfl (by kernel_rfl) (by kernel_rfl) (l':=[(117,.slice (some ⟨(w474.drew).heap.size,0,none⟩) 1 1),(112,.slice p83 L70.length c84),(116,nI (atI K0 x75)),(111,nP (w47.heap.size) 1),(109,nI x114),(7,nI x75),(6,nB w47),(5,nP z17 0),(0,.slice (some ⟨b463,o464,none⟩) K0.length ca0),(1,.slice (some ⟨b106,o107,none⟩) K1.length ca1)]) (by kernel_rfl) ⟨_,hS585⟩ (by kernel_rfl) ?_
               intro a587 hF586; clear hF583
               refine any_one 9 (by kernel_rfl) ?_
               have hS588:=hS585.pick4
               clear hS585
               obtain ⟨L589,hx590,hm591⟩:=bind1E hm580; clear hm580
               refine op_pushO 22 rfl 9 #[true,true,true,true,true,true,true,true,true,true,false,false] 118 (.tmp 112) (.tmp 117) hF586 rfl rfl rfl rfl rfl rfl rfl rfl rfl hS588 hx590 (by kernel_rfl) ?_
               intro p592 c593 w594 a595 hS596 hp598 hF597; clear hF586 hS588
               refine ⟨⟨_,hS596⟩,?_⟩
               refine any_many 1 [(10,some (nP (w47.heap.size) 1))] [0,1,5,6,7,118,119] #[true,true,true,true,true,true,true,true,true,true,true,false] (by rfl) hF597 (by kernel_rfl) (by kernel_rfl) (by exact ⟨fun wS hw=>run_idxA (q:=1) rfl rfl rfl rfl (congrArg (Value.int .i64) (eq_of_beq hc579)) (by decide) (by decide) (by kernel_rfl) _,trivial⟩) (fun _ _ _ _ _ h=>h) ⟨_,hS596⟩ (l':=[(119,nP (w47.heap.size) 1),(118,.slice p592 L589.length c593),(7,nI x75),(6,nB w47),(5,nP z17 0),(0,.slice (some ⟨b463,o464,none⟩) K0.length ca0),(1,.slice (some ⟨b106,o107,none⟩) K1.length ca1)]) (by kernel_rfl) ?_
               intro a600 hF599; clear hF597
               refine any_one 11 (by kernel_rfl) ?_
               have hS601:=hS596.pick6
               clear hS596
               refine op_store 11 #[true,true,true,true,true,true,true,true,true,true,true,true] (.slice p592 L589.length c593) #[.slice p87 L72.length c88,.slice p592 L589.length c593] hF599 rfl (by kernel_rfl) rfl rfl rfl rfl (by kernel_rfl) hS601 (by kernel_rfl) (by kernel_rfl) (by kernel_rfl) (l':=[(119,nP (w47.heap.size) 1),(118,.slice p592 L589.length c593),(7,nI x75),(6,nB w47),(5,nP z17 0),(0,.slice (some ⟨b463,o464,none⟩) K0.length ca0),(1,.slice (some ⟨b106,o107,none⟩) K1.length ca1)]) (by kernel_rfl) (by kernel_rfl) ?_
               intro w602 a603 hS604 hF605; clear hF599 hS601
               refine ⟨⟨_,hS604⟩,?_⟩
               refine any_done (by kernel_rfl) ?_
               have hF606:=hF605.keep [0,1,5,6,7]
               clear hF605
               have hS607:=hS604.pick2.drop
               clear hS604
               have hS608:=hS607.pick7.pick7.pick3.pick6.pick6.pick6.pick7.pick7
               clear hS607
               exact thenN ⟨.slice p87 L72.length c88,L72,.slice p592 L589.length c593,L589,hF606,hS608,hm591⟩
             · skip
               have hS609:St w0 [] (RowP (.slice (some ⟨(w474.drew).heap.size,0,none⟩) 1 1) [atI K0 x75]::HeapP z18 z19 s471::BlkP z17 32 #[nP z18 0,nP z20 0,nS g460 L9 c34,.slice p37 L10.length c38]::RowP (nS g460 L9 c34) L9::OffP (.slice p83 L70.length c84) L70::OffP (.slice p87 L72.length c88) L72::BlkP (w47.heap.size) 47 #[.slice p87 L72.length c88,.slice p83 L70.length c84]::RHeapP z20 z21 z22 z23 z24 s8::RowP (.slice p37 L10.length c38) L10::ps) ((w474.drew).alloc (.cells #[nI (atI K0 x75)] 3)):=St.lit hS521 [atI K0 x75] (by unfold maxLen; simp)
               clear hS521
               refine op_step 8 #[true,true,true,false,true,true,true,true,true,false,false,false] (.slice (some ⟨(w474.drew).heap.size,0,none⟩) 1 1) ((w474.drew).alloc (.cells #[nI (atI K0 x75)] 3)) hF581 rfl (by kernel_rfl) rfl (by kernel_rfl) (by kernel_rfl) (l':=[(117,.slice (some ⟨(w474.drew).heap.size,0,none⟩) 1 1),(116,nI (atI K0 x75)),(111,nP (w47.heap.size) 1),(109,nI x114),(7,nI x75),(6,nB w47),(5,nP z17 0),(0,.slice (some ⟨b463,o464,none⟩) K0.length ca0),(1,.slice (some ⟨b106,o107,none⟩) K1.length ca1)]) (by kernel_rfl) ⟨_,hS609⟩ (by kernel_rfl) ?_
               intro a611 hF610; clear hF581
               refine any_one 3 (by kernel_rfl) ?_
               refine op_step 3 #[true,true,true,true,true,true,true,true,true,false,false,false] (.slice p83 L70.length c84) ((w474.drew).alloc (.cells #[nI (atI K0 x75)] 3)) hF610 rfl (by kernel_rfl) rfl (by kernel_rfl) (run_loadV rfl rfl (run_loadS rfl rfl (hS609.cell 6 rfl 1 rfl))) (l':=[(112,.slice p83 L70.length c84),(117,.slice (some ⟨(w474.drew).heap.size,0,none⟩) 1 1),(116,nI (atI K0 x75)),(111,nP (w47.heap.size) 1),(109,nI x114),(7,nI x75),(6,nB w47),(5,nP z17 0),(0,.slice (some ⟨b463,o464,none⟩) K0.length ca0),(1,.slice (some ⟨b106,o107,none⟩) K1.length ca1)]) (by kernel_rfl) ⟨_,hS609⟩ (by kernel_rfl) ?_
               intro a613 hF612; clear hF610
               refine any_one 9 (by kernel_rfl) ?_
               have hS614:=hS609.pick4
               clear hS609
               obtain ⟨L615,hx616,hm617⟩:=bind1E hm580; clear hm580
               refine op_pushO 22 rfl 9 #[true,true,true,true,true,true,true,true,true,true,false,false] 118 (.tmp 112) (.tmp 117) hF612 rfl rfl rfl rfl rfl rfl rfl rfl rfl hS614 hx616 (by kernel_rfl) ?_
               intro p618 c619 w620 a621 hS622 hp624 hF623; clear hF612 hS614
               refine ⟨⟨_,hS622⟩,?_⟩
               refine any_many 1 [(10,some (nP (w47.heap.size) 1))] [0,1,5,6,7,118,119] #[true,true,true,true,true,true,true,true,true,true,true,false] (by rfl) hF623 (by kernel_rfl) (by kernel_rfl) (by exact ⟨fun wS hw=>run_idxA (q:=1) rfl rfl rfl rfl (congrArg (Value.int .i64) (eq_of_beq hc579)) (by decide) (by decide) (by kernel_rfl) _,trivial⟩) (fun _ _ _ _ _ h=>h) ⟨_,hS622⟩ (l':=[(119,nP (w47.heap.size) 1),(118,.slice p618 L615.length c619),(7,nI x75),(6,nB w47),(5,nP z17 0),(0,.slice (some ⟨b463,o464,none⟩) K0.length ca0),(1,.slice (some ⟨b106,o107,none⟩) K1.length ca1)]) (by kernel_rfl) ?_
               intro a626 hF625; clear hF623
               refine any_one 11 (by kernel_rfl) ?_
               have hS627:=hS622.pick6
               clear hS622
               refine op_store 11 #[true,true,true,true,true,true,true,true,true,true,true,true] (.slice p618 L615.length c619) #[.slice p87 L72.length c88,.slice p618 L615.length c619] hF625 rfl (by kernel_rfl) rfl rfl rfl rfl (by kernel_rfl) hS627 (by kernel_rfl) (by kernel_rfl) (by kernel_rfl) (l':=[(119,nP (w47.heap.size) 1),(118,.slice p618 L615.length c619),(7,nI x75),(6,nB w47),(5,nP z17 0),(0,.slice (some ⟨b463,o464,none⟩) K0.length ca0),(1,.slice (some ⟨b106,o107,none⟩) K1.length ca1)]) (by kernel_rfl) (by kernel_rfl) ?_
               intro w628 a629 hS630 hF631; clear hF625 hS627
               refine ⟨⟨_,hS630⟩,?_⟩
               refine any_done (by kernel_rfl) ?_
               have hF632:=hF631.keep [0,1,5,6,7]
               clear hF631
               have hS633:=hS630.pick2.drop
               clear hS630
               have hS634:=hS633.pick7.pick7.pick3.pick6.pick6.pick6.pick7.pick7
               clear hS633
               exact thenN ⟨.slice p87 L72.length c88,L72,.slice p618 L615.length c619,L615,hF632,hS634,hm617⟩
          rw [hc499] at hF478
          have hm635:=ifNot hc499 hm473; clear hm473
          refine ev_condF hF478 rfl rfl ?_
          refine wp_skip ?_
          have hF636:=hF478.keep [0,1,5,6,7]
          clear hF478
          exact thenN ⟨.slice p83 L70.length c84,L70,.slice p87 L72.length c88,L72,hF636,hS476,hm635⟩
     rw [hc99] at hF95
     have hm637:=ifNot hc99 hm97; clear hm97
     refine ev_condF hF95 rfl rfl ?_
     refine wp_exit ?_
     refine thenE ?_
     refine thenE ?_
     refine blockE ?_
     refine thenN (wp_seq (wp_region_lit ?_))
     refine ev_runK 1 hF95 [4] (l':=[(4,.bool true)]) (w':=w94) (by kernel_rfl) ?_
     intro a639 hF638; clear hF95
     refine wpList_nil ?_
     have hS640:=hS96.drop.drop.drop.drop.drop.drop.drop.drop
     clear hS96
     refine thenN ?_
     refine wp_ret ?_
     obtain rfl:=Option.some.inj hm637
     refine ev_ret hF638 [4] (.bool true) rfl rfl rfl ?_
     exact ⟨rfl,hS640⟩
   · skip
     refine wp_region_lit ?_
     refine ev_runs 5 hF79 (l':=[(23,.bool (decide (x75<(K1.length:Int)))),(22,.bool (decide (x75<(K1.length:Int)))),(21,nI ((K1.length:Int))),(20,.slice pa1 K1.length ca1),(19,nI x75),(7,nI x75),(6,nB w47),(5,nP z17 0),(0,.slice pa0 K0.length ca0),(1,.slice pa1 K1.length ca1)]) (w':=w78) (by kernel_rfl) ?_
     intro a643 hF642; clear hF79
     cases hc644:(decide (x75<(K1.length:Int)))
     case true =>
      rw [hc644] at hF642
      have hm645:=ifYes hc644 hm82; clear hm82
      refine ev_runs 6 hF642 (l':=[(29,.bool (decide (x75<(K0.length:Int)))),(28,.bool (decide (x75<(K0.length:Int)))),(27,.bool (decide (x75<(K0.length:Int)))),(26,nI ((K0.length:Int))),(25,.slice pa0 K0.length ca0),(24,nI x75),(23,.bool true),(22,.bool true),(21,nI ((K1.length:Int))),(20,.slice pa1 K1.length ca1),(19,nI x75),(7,nI x75),(6,nB w47),(5,nP z17 0),(0,.slice pa0 K0.length ca0),(1,.slice pa1 K1.length ca1)]) (w':=w78) (by kernel_rfl) ?_
      intro a647 hF646; clear hF642
      cases hc648:(decide (x75<(K0.length:Int)))
      case true =>
       rw [hc648] at hF646
       have hm649:=ifYes hc648 hm645; clear hm645
       refine ev_runK 3 hF646 [0,1,5,6,7,32] (l':=[(32,.bool (decide (x75<40))),(7,nI x75),(6,nB w47),(5,nP z17 0),(0,.slice pa0 K0.length ca0),(1,.slice pa1 K1.length ca1)]) (w':=w78) (by kernel_rfl) ?_
       intro a651 hF650; clear hF646
       refine wpList_nil ?_
       exact thenN ⟨decide (x75<40),hF650,hS80,hm649⟩
      rw [hc648] at hF646
      have hm652:=ifNot hc648 hm645; clear hm645
      refine ev_runK 3 hF646 [0,1,5,6,7,32] (l':=[(32,.bool false),(7,nI x75),(6,nB w47),(5,nP z17 0),(0,.slice pa0 K0.length ca0),(1,.slice pa1 K1.length ca1)]) (w':=w78) (by kernel_rfl) ?_
      intro a654 hF653; clear hF646
      refine wpList_nil ?_
      exact thenN ⟨false,hF653,hS80,hm652⟩
     rw [hc644] at hF642
     have hm655:=ifNot hc644 hm82; clear hm82
     refine ev_runK 9 hF642 [0,1,5,6,7,32] (l':=[(32,.bool false),(7,nI x75),(6,nB w47),(5,nP z17 0),(0,.slice pa0 K0.length ca0),(1,.slice pa1 K1.length ca1)]) (w':=w78) (by kernel_rfl) ?_
     intro a657 hF656; clear hF642
     refine wpList_nil ?_
     exact thenN ⟨false,hF656,hS80,hm655⟩
 · skip
   refine wp_region_lit ?_
   refine ev_call 15 #[] hF41 rfl rfl (by kernel_rfl) rfl (by kernel_rfl) (fun w=>by kernel_rfl) ?_
   obtain ⟨y658,hx659,hm660⟩:=bind1E hm12; clear hm12
   refine (law12_awake.ok hS43 hx659).mono ?_
   rintro _ w661 ⟨rfl,hS663⟩ a662 hF664; clear hF41 hS43
   refine ev_runs 2 hF664 (l':=[(15,.bool (!(y658))),(14,.bool (!(y658))),(13,.bool (y658)),(5,nP z17 0),(0,.slice pa0 K0.length ca0),(1,.slice pa1 K1.length ca1)]) (w':=w661) (by kernel_rfl) ?_
   intro a666 hF665; clear hF664
   cases hc667:(!(y658))
   case true =>
    rw [hc667] at hF665
    have hm668:=ifYes hc667 hm660; clear hm660
    refine ev_runK 3 hF665 [0,1,5,18] (l':=[(18,.bool true),(5,nP z17 0),(0,.slice pa0 K0.length ca0),(1,.slice pa1 K1.length ca1)]) (w':=w661) (by kernel_rfl) ?_
    intro a670 hF669; clear hF665
    refine wpList_nil ?_
    exact thenN ⟨true,hF669,hS663,hm668⟩
   rw [hc667] at hF665
   have hm671:=ifNot hc667 hm660; clear hm660
   refine ev_runK 3 hF665 [0,1,5,18] (l':=[(18,.bool false),(5,nP z17 0),(0,.slice pa0 K0.length ca0),(1,.slice pa1 K1.length ca1)]) (w':=w661) (by kernel_rfl) ?_
   intro a673 hF672; clear hF665
   refine wpList_nil ?_
   exact thenN ⟨false,hF672,hS663,hm671⟩
end Go.Proofs.YtaojmbkmicjecaaGreat
